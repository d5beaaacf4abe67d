/- The walk of the law JournalEntities. Written by gen_j10.py. -/
import Derived.Test.YtebdajkknkapcaaGreatG12xB0B2
import Derived.Test.YtebdajkknkapcaaGreatG12xB3B8
import Derived.Test.YtebdajkknkapcaaGreatG12xB14
import Derived.Test.YtebdajkknkapcaaGreatG12xB16
import Derived.Test.YtebdajkknkapcaaGreatG12xB17B24
import Derived.Test.YtebdajkknkapcaaGreatG12xB29B32
import Derived.Test.YtebdajkknkapcaaGreatG12xB33S2
import Derived.Test.YtebdajkknkapcaaGreatG12xC4E3
import Derived.Test.YtebdajkknkapcaaGreatG12xE4E5
import Derived.Test.YtebdajkknkapcaaGreatG12xE6F6
import Derived.Test.YtebdajkknkapcaaGreatG12xF4I7
import Derived.Test.YtebdajkknkapcaaGreatG12xI8I11
import Derived.Test.YtebdajkknkapcaaGreatG12xI12
import Derived.Test.YtebdajkknkapcaaGreatG12xI13I15
import Derived.Test.YtebdajkknkapcaaGreatG12xI16I17
import Derived.Test.YtebdajkknkapcaaGreatG12xI19Q2
import Derived.Test.YtebdajkknkapcaaGreatG12xK1J9
import Derived.Test.YtebdajkknkapcaaGreatProg
set_option linter.unusedVariables false
set_option linter.unusedSimpArgs false
set_option maxRecDepth 4000
attribute [local go_sem ↓] Go.wp_at_zero Go.wp_at_succ
namespace Go.Proofs.YtebdajkknkapcaaGreat
open Go Go.RowKit
def cntE (es : List XEntry) (k : Int) : Nat := (es.filter (fun x => decide (0 ≤ x.entity ∧ x.entity < k))).length
theorem cntE_succ {k : Int} (hk : 0 ≤ k) : ∀ es : List XEntry, cntE es (k + 1) = cntE es k + (ofE k es).length
 | [] => rfl
 | x :: es => by
  have ih := cntE_succ hk es
  unfold cntE ofE at ih ⊢
  by_cases h1 : x.entity = k
  · rw [List.filter_cons_of_pos (by simp; omega), List.filter_cons_of_neg (by simp; omega), List.filter_cons_of_pos (by simpa using h1), List.length_cons, List.length_cons, ih]; omega
  · by_cases h2 : 0 ≤ x.entity ∧ x.entity < k
    · rw [List.filter_cons_of_pos (by simp; omega), List.filter_cons_of_pos (by simpa using h2), List.filter_cons_of_neg (by simpa using h1), List.length_cons, List.length_cons, ih]; omega
    · rw [List.filter_cons_of_neg (by simp; omega), List.filter_cons_of_neg (by simp; omega), List.filter_cons_of_neg (by simpa using h1), ih]
theorem cntE_zero (es : List XEntry) : cntE es 0 = 0 := by
 unfold cntE
 rw [List.length_eq_zero_iff, List.filter_eq_nil_iff]
 intro x _
 simp
theorem cntE_all {es : List XEntry} {k : Int} (h : ∀ x ∈ es, 0 ≤ x.entity ∧ x.entity < k) : cntE es k = es.length := by
 unfold cntE
 rw [List.filter_eq_self.2 (fun x hx => by simpa using h x hx)]
theorem cntE_le (es : List XEntry) (k : Int) : cntE es k ≤ es.length := List.length_filter_le _ _
theorem check_entity {g : XGroup} {x : XEntry} (h : checkE g x = 0) : 0 ≤ x.entity ∧ x.entity < (g.entities.length : Int) := by
 have h1 := (formB_iff _ _ _).1 (checkE_form h)
 unfold Formed at h1
 obtain ⟨_, h2⟩ := h1
 omega
set_option maxHeartbeats 8000000 in
theorem law_journalEntities (g : XGroup) (l : List XEntry) (gl : List Value) (A : Option Addr) (c : Nat) (en : Int) (w : World) (hg : GroupC w (· < w.heap.size) gl g) (hsz : szG g) (hl : ListC EntryC 7 w (· < w.heap.size) [.slice A l.length c] l) (hts : ∀ x ∈ l, x.text.size ≤ 140737488355327) :
 Calls Tryz.prog 3 #[.agg gl.toArray, .slice A l.length c, .int .i64 en] w (Quiet w (.bool true)) := by
 have HFEW := Lib.hid (fun (w2 : World) (hb : Below w.heap.size w w2) => few12_c g l gl A c w2 (hg.keep hb) hsz (entries_keep hl hb) hts)
 have HPST := Lib.hid (fun (w2 : World) (hb : Below w.heap.size w w2) (hf : fewJ g l) => posted_c g l gl A c w2 (hg.keep hb) (entries_keep hl hb) hf)
 have HGS := Lib.hid (show gl.toArray.size = 21 by have := hg.len; simpa using this)
 obtain ⟨Ac0, cc0, Ae0, ce0, _, hv20, _, _, _, _, _, _⟩ := hg.view
 obtain ⟨n, hnl⟩ : ∃ n, l.length = n := ⟨_, rfl⟩
 rw [hnl] at HFEW HPST ⊢
 have HFW := Lib.hid (show fewJ g l → (accJ g l).length ≤ 61 ∧ g.entities.length ≤ 14 ∧ ∀ x ∈ accJ g l, x.lines.length ≤ 100000 ∧ (0 ≤ x.entity ∧ x.entity < (g.entities.length : Int)) ∧ sumL x.lines = 0 ∧ preL x.lines from fun hf => by
  obtain ⟨h1, h2, h3⟩ := accJ_ok g _ l rfl
  refine ⟨by have := hf.2.1; omega, hf.2.2.2.1, fun x hx => ?_⟩
  have hc := okJ_check h1 hx
  exact ⟨by have := (hf.1 x (h3 x hx)).1; omega, check_entity hc, (checkE_ok hc).2.2.2, formed_pre (checkE_form hc)⟩)
 obtain ⟨fw, hfw⟩ : ∃ p : Prop, fewJ g l = p := ⟨_, rfl⟩
 rw [hfw] at HFEW HPST HFW
 unfold PostedPost at HPST
 obtain ⟨es, hes⟩ : ∃ es, accJ g l = es := ⟨_, rfl⟩
 rw [hes] at HPST HFW
 obtain ⟨ne, hne⟩ : ∃ ne, g.entities.length = ne := ⟨_, rfl⟩
 rw [hne] at HFW hv20
 have V20 := Lib.hid hv20
 clear hg hsz hl hts hnl hfw hes hne hv20
 go_enter Tryz.func3, Tryz.ntmps3
 go_upto_region 1 with fail
 have H1 := heap_alloc_new w (.cells gl.toArray 29)
 have HB1 := below1 w (.cells gl.toArray 29)
 have HS1 := blk_lt H1
 generalize hW1 : w.alloc (Obj.cells gl.toArray 29) = W2 at *
 clear hW1
 have HH2 := Lib.hid H1
 have hb02 := HB1
 have LT02 := HS1
 clear H1 HB1 HS1
 go_wp2_with fail
 refine (awake12_c W2).mono ?_
 rintro e w3 ⟨rfl, hb3⟩
 have hb03 := hb02.trans (hb3.mono hb02.size)
 have hs3 := hb3.size
 have LT03 := Nat.lt_of_lt_of_le LT02 hs3
 have HH3 := Lib.hid ((hb3.block _ LT02).trans HH2.out)
 go_wp2_with (show wpList _ _ _ (Oper.mk (some 17) _ _ _ _ _ :: _) _ _; refine wpList_load_row_g rfl 29 (.tmp 3) rfl (w.heap.size) rfl _ _ _ _ HH3.out Tryz.underlying29 rfl (by rw [info_group]; exact congrArg some HGS.out.symm) ?_)
 refine (HFEW.out w3 hb03).mono ?_
 rintro e w4 ⟨bf, rfl, hf, hb4⟩
 have hb04 := hb03.trans (hb4.mono hb03.size)
 have hs4 := hb4.size
 have LT04 := Nat.lt_of_lt_of_le LT03 hs4
 have HH4 := Lib.hid ((hb4.block _ LT03).trans HH3.out)
 cases bf with
 | false =>
  clear hf
  go_wp2_with fail
  go_ret
  exact ⟨rfl, hb04⟩
 | true =>
 have HFP := Lib.hid (hf rfl)
 clear hf
 go_wp2_with (show wpList _ _ _ (Oper.mk (some 22) _ _ _ _ _ :: _) _ _; refine wpList_load_row_g rfl 29 (.tmp 3) rfl (w.heap.size) rfl _ _ _ _ HH4.out Tryz.underlying29 rfl (by rw [info_group]; exact congrArg some HGS.out.symm) ?_)
 refine (HPST.out w4 hb04 HFP.out).mono ?_
 rintro e w5 ⟨hb5, hcase⟩
 have hb05 := hb04.trans (hb5.mono hb04.size)
 have hs5 := hb5.size
 have LT05 := Nat.lt_of_lt_of_le LT04 hs5
 have HH5 := Lib.hid ((hb5.block _ LT04).trans HH4.out)
 rcases hcase with ⟨hF, rfl⟩ | ⟨hT, J, D, O, A9, c9, rfl, hJC, hDO, hout⟩
 case inl =>
  clear hF
  go_wp2_with fail
  go_ret
  exact ⟨rfl, hb05⟩
 case inr =>
 obtain ⟨h61, hne14, hfx⟩ := HFW.out HFP.out
 have hol := hout.mono (Q' := (· < w5.heap.size)) (fun h => EntryC.mono h (fun q hq => hq.1)) (fun q hq => hq.1)
 have HOF := Lib.hid (fun (k : Int) (w2 : World) (hb : Below w5.heap.size w5 w2) => jof_c D O J g es k w2 (hJC.below hb) (fun x hx => (hfx x hx).1) (by omega))
 have HRO := Lib.hid (fun (k : Int) (w2 : World) (hb : Below w5.heap.size w5 w2) => rof_c es A9 c9 k w2 (entries_keep hol hb) (by omega))
 have HFX := Lib.hid hfx
 have HCA := Lib.hid (cntE_all (es := es) (k := (ne : Int)) (fun x hx => (hfx x hx).2.1))
 unfold OfPost at HOF HRO
 obtain ⟨n9, hn9⟩ : ∃ n, es.length = n := ⟨_, rfl⟩
 have HN9 := Lib.hid hn9
 rw [hn9] at HRO h61 HCA ⊢
 clear hT hJC hDO hout hol hn9 hfx HFEW HPST HFW
 go_wp2_with fail
 go_loopw [10, 11] (fun v i wr => ∃ k : Nat, k ≤ ne ∧ i = .int .i64 (k : Int) ∧ v = .int .i64 (cntE es (k : Int) : Int) ∧ Below w5.heap.size w5 wr) (fun _ i _ => ne - (intOf i).toNat)
 case atStart => exact ⟨0, by omega, rfl, by rw [show ((0 : Nat) : Int) = 0 from rfl, cntE_zero]; rfl, Below.refl _ _⟩
 case round =>
  obtain ⟨k, hk, rfl, rfl, hb8⟩ := hrel
  generalize wr = w8 at *
  have hb08 := hb05.trans (hb8.mono hb05.size)
  have hs8 := hb8.size
  have LT08 := Nat.lt_of_lt_of_le LT05 hs8
  have HH8 := Lib.hid ((hb8.block _ LT05).trans HH5.out)
  have hcl : cntE es (k : Int) ≤ 61 := by have := cntE_le es (k : Int); have := HN9.out; omega
  have HCS := Lib.hid (show cntE es ((k : Int) + 1) = cntE es (k : Int) + (ofE (k : Int) es).length from cntE_succ (by omega) es)
  have hcl2 : cntE es (k : Int) + (ofE (k : Int) es).length ≤ 61 := by have h := cntE_le es ((k : Int) + 1); have := HN9.out; have := HCS.out; omega
  have g20 : w8.cell? ⟨w.heap.size, 20, none⟩ = some (.slice Ae0 ne ce0) := (blk_cell HH8.out 20).trans (by simpa using V20.out)
  by_cases hlt : k < ne
  case pos =>
   have hltI : (k : Int) < (ne : Int) := by omega
   obtain ⟨cn, hcn⟩ : ∃ x, cntE es (k : Int) = x := ⟨_, rfl⟩
   rw [hcn] at HCS hcl hcl2 ⊢
   have HB8 := Lib.hid hb8
   clear hcn
   go_wp2_with fail
   clear g20
   refine (HOF.out (k : Int) w8 HB8.out).mono ?_
   rintro e wa1 ⟨Ap, cp, rfl, hlp, hba1⟩
   have h5a1 := (HB8.out).trans (hba1.mono (HB8.out).size)
   have HLPa := Lib.hid hlp
   obtain ⟨ln, hln⟩ : ∃ x, (ofE (k : Int) es).length = x := ⟨_, rfl⟩
   have HLNa := Lib.hid hln
   rw [hln]
   clear hlp hln
   go_wp2_with fail
   refine (HRO.out (k : Int) wa1 h5a1).mono ?_
   rintro e wa2 ⟨Aq, cq, rfl, hlq, hba2⟩
   have h5a2 := h5a1.trans (hba2.mono h5a1.size)
   have HSMa := Lib.hid (same12_c (ofE (k : Int) es) Ap Aq cp cq wa2 (entries_keep HLPa.out hba2) hlq)
   rw [HLNa.out] at HSMa ⊢
   clear hlq
   go_wp2_with fail
   refine HSMa.out.mono ?_
   rintro e wa3 ⟨rfl, hba3⟩
   have h5a3 := h5a2.trans (hba3.mono h5a2.size)
   rw [HLNa.out] at HCS hcl2
   go_wp2_with fail
   go_loopw [13, 14] (fun v i wr => ∃ q : Nat, q ≤ ln ∧ i = .int .i64 (q : Int) ∧ v = .int .i64 0 ∧ Below wa3.heap.size wa3 wr) (fun _ i _ => ln - (intOf i).toNat)
   case atStart => exact ⟨0, by omega, rfl, rfl, Below.refl _ _⟩
   case round =>
    obtain ⟨q, hq, rfl, rfl, hb9⟩ := hrel
    generalize wr = w9 at *
    have h51 := h5a3.trans (hb9.mono h5a3.size)
    by_cases hlq : q < ln
    case pos =>
     have hlqI : (q : Int) < (ln : Int) := by omega
     have hql : q < (ofE (k : Int) es).length := by rw [HLNa.out]; exact hlq
     have hln0 : 0 < ln := by omega
     have hla := entries_keep HLPa.out (hba2.trans ((hba3.trans (hb9.mono hba3.size)).mono hba2.size))
     have hcapa := hla.cap
     obtain ⟨b, o, cs, hAe, hbw, hxc, hat⟩ := ListC.get hla q hql
     subst hAe
     obtain ⟨Al, cl, hcs, hxb, hls⟩ := EntryC.lit hxc
     subst hcs
     have hxm : (ofE (k : Int) es)[q] ∈ es := (List.mem_filter.1 (List.getElem_mem hql)).1
     obtain ⟨x, hx⟩ : ∃ x, (ofE (k : Int) es)[q] = x := ⟨_, rfl⟩
     rw [hx] at hat hls hxm
     obtain ⟨hx1, _, hx2, hx3⟩ := HFX.out x hxm
     have hsum := rsumL_c x.lines Al cl w9 hls hx3
     rw [hx2] at hsum
     obtain ⟨xi, xe, xd, xk, xo, xt, ls⟩ := x
     obtain ⟨nl, hnl⟩ : ∃ n, ls.length = n := ⟨_, rfl⟩
     simp only [hnl] at hat hsum
     have HSU := Lib.hid hsum
     have hc6 : w9.cell? ⟨b, o + q * 7 + 6, none⟩ = some (.slice Al nl cl) := hat.c (j := 6) rfl
     clear hxc hat hls hxb hx hbw hnl hxm hx1 hx2 hx3 hsum hla hcapa
     go_wp2_with fail
     refine HSU.out.mono ?_
     rintro e wb ⟨rfl, hbb⟩
     have hb9b := hb9.trans (hbb.mono hb9.size)
     go_wp2_with fail
     go_roundw
     case rel => exact ⟨q + 1, by omega, by go_num, rfl, hb9b⟩
     case measure => first | exact meas_v hlq | (simp only [intOf]; omega)
    case neg =>
     have hlqI : ¬ (q : Int) < (ln : Int) := by omega
     have HB9 := Lib.hid h51
     go_wp2_with fail
     go_roundw
     case rel => exact ⟨k + 1, by omega, by go_num, by rw [show ((k + 1 : Nat) : Int) = (k : Int) + 1 by omega, HCS.out]; exact congrArg (Value.int .i64) (by omega), HB9.out⟩
     case measure => first | exact meas_v hlt | (simp only [intOf]; omega)
  case neg =>
   have hltI : ¬ (k : Int) < (ne : Int) := by omega
   have hkn : k = ne := by omega
   rw [hkn, HCA.out]
   have hnn : ((n9 : Int) == (n9 : Int)) = true := by simp
   clear hkn hcl hcl2 HCS
   have HB8 := Lib.hid hb8
   go_wp2_with fail
   refine (HOF.out en w8 HB8.out).mono ?_
   rintro e wc1 ⟨Ap, cp, rfl, hlp, hbc1⟩
   have h5c1 := (HB8.out).trans (hbc1.mono (HB8.out).size)
   have HLPc := Lib.hid hlp
   obtain ⟨ln, hln⟩ : ∃ x, (ofE en es).length = x := ⟨_, rfl⟩
   have HLNc := Lib.hid hln
   rw [hln]
   clear hlp hln
   go_wp2_with fail
   refine (HRO.out en wc1 h5c1).mono ?_
   rintro e wc2 ⟨Aq, cq, rfl, hlq, hbc2⟩
   have h5c2 := h5c1.trans (hbc2.mono h5c1.size)
   have HSMc := Lib.hid (same12_c (ofE en es) Ap Aq cp cq wc2 (entries_keep HLPc.out hbc2) hlq)
   rw [HLNc.out] at HSMc ⊢
   clear hlq
   go_wp2_with fail
   refine HSMc.out.mono ?_
   rintro e wc3 ⟨rfl, hbc3⟩
   have h5c3 := h5c2.trans (hbc3.mono h5c2.size)
   go_wp2_with fail
   go_ret
   exact ⟨rfl, hb05.trans (h5c3.mono hb05.size)⟩
end Go.Proofs.YtebdajkknkapcaaGreat
