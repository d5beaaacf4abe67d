/- The law LedgerTrial. Written by gen_a19.py. -/
import Derived.Test.YtekelchdbkjjjaaGreatG17xB0B2
import Derived.Test.YtekelchdbkjjjaaGreatG17xB3B8
import Derived.Test.YtekelchdbkjjjaaGreatG17xB14
import Derived.Test.YtekelchdbkjjjaaGreatG17xB16
import Derived.Test.YtekelchdbkjjjaaGreatG17xB17B24
import Derived.Test.YtekelchdbkjjjaaGreatG17xB29B32
import Derived.Test.YtekelchdbkjjjaaGreatG17xB33S2
import Derived.Test.YtekelchdbkjjjaaGreatG17xC4E3
import Derived.Test.YtekelchdbkjjjaaGreatG17xE6F1
import Derived.Test.YtekelchdbkjjjaaGreatG17xF2I7
import Derived.Test.YtekelchdbkjjjaaGreatG17xI8I11
import Derived.Test.YtekelchdbkjjjaaGreatG17xI12
import Derived.Test.YtekelchdbkjjjaaGreatG17xI13I15
import Derived.Test.YtekelchdbkjjjaaGreatG17xI16
import Derived.Test.YtekelchdbkjjjaaGreatG17xI19Q2
import Derived.Test.YtekelchdbkjjjaaGreatG17xK1A5
import Derived.Test.YtekelchdbkjjjaaGreatG17xA6A12
import Derived.Test.YtekelchdbkjjjaaGreatG17xA13A18
import Derived.Test.YtekelchdbkjjjaaGreatProg
set_option linter.unusedVariables false
set_option linter.unusedSimpArgs false
set_option maxRecDepth 4000
attribute [local go_sem ↓] Go.wp_at_zero Go.wp_at_succ
namespace Go.Proofs.YtekelchdbkjjjaaGreat
open Go Go.RowKit
theorem tri_range {g : XGroup} {l : List XEntry} {ent d : Int} (h : validJ g l) (hin : ¬ (ent < 0 ∨ (g.entities.length : Int) ≤ ent)) {cd : Int} (hc : sumE (qB d) l ent cd ≠ 0) : 1 ≤ cd ∧ cd ≤ 99999 := by
 have h1 : (findA (chartE g ent) cd).isSome = true := by
  cases h2 : (findA (chartE g ent) cd).isSome with
  | true => rfl
  | false => exact absurd (sum_out h h2 _) hc
 obtain ⟨q, rfl⟩ : ∃ q : Nat, ent = (q : Int) := ⟨ent.toNat, by omega⟩
 have hqe : q < g.entities.length := by omega
 rw [chartE_at hqe] at h1
 exact find_code (group_chart h.1 hqe) h1
theorem tri_zero {g : XGroup} {l : List XEntry} {ent d : Int} (h : validJ g l) (hin : ¬ (ent < 0 ∨ (g.entities.length : Int) ≤ ent)) {ts : List XBalance} (ht : IsTri (fun c => sumE (qB d) l ent c) ts) : sumBl ts = 0 := by
 have h1 : IsTri (fun c => sumE (qB d) l ent c) (triL (fun c => sumE (qB d) l ent c) 1 99999) := triL_is (fun c hc => by have := tri_range h hin hc; omega)
 rw [ht.uniq h1, sumBl_tri]
 exact sumCd_entries d ent 1 99999 l (fun x hx he => ⟨(valid_charted h hx).2.2, fun y hy => by have := (valid_line h hx hy).1.2; omega⟩)
theorem tri_same {l : List XEntry} {ent d r : Int} {ts us : List XBalance} (h1 : r = 0 → IsTri (fun c => sumE (qB d) l ent c) ts) (h2 : r ≠ 0 → ts = []) (k1 : r = 0 → IsTri (fun c => sumE (qB d) l ent c) us) (k2 : r ≠ 0 → us = []) : ts = us := by
 by_cases hr : r = 0
 · exact (h1 hr).uniq (k1 hr)
 · rw [h2 hr, k2 hr]
theorem wrap_next (a b : Int) : wrap64 (wrap64 a + b) = wrap64 (a + b) := by unfold wrap64; omega
theorem wrap_zero : wrap64 0 = 0 := by unfold wrap64; omega
theorem sumBl_one {ts : List XBalance} {k : Nat} (hk : k < ts.length) : sumBl (ts.take (k + 1)) = sumBl (ts.take k) + ts[k].amount := by
 rw [take_one hk, sumBl_app]; simp [sumBl]
set_option maxHeartbeats 4000000 in
theorem law_ledgerTrial (g : XGroup) (l : List XEntry) (gl : List Value) (A : Option Addr) (c : Nat) (pe pa pw : Int) (w : World) (hg : GroupC w (· < w.heap.size) gl g) (hsz : szG g) (hl : ListC EntryC 7 w (· < w.heap.size) [.slice A l.length c] l) (hts : ∀ x ∈ l, x.text.size ≤ 140737488355327) (hpa : intBd pa) : Calls Tryz.prog 3 #[.agg gl.toArray, .slice A l.length c, .agg #[.int .i64 pe, .int .i64 pa, .int .i64 pw]] w (Quiet w (.bool true)) := by
 have HFEW := Lib.hid (fun (w2 : World) (hb : Below w.heap.size w w2) => few12_c g l gl A c w2 (hg.keep hb) hsz (entries_keep hl hb) hts)
 have HGS := Lib.hid (show gl.toArray.size = 21 by have := hg.len; simpa using this)
 have HTR := Lib.hid (fun (w2 : World) (hb : Below w.heap.size w w2) (hf : fewJ g l) => trial_c g l gl A c pe pw w2 (hg.keep hb) (entries_keep hl hb) hf.2.2.small (few_modest hf) (by have := hf.2.1; omega))
 have HRT := Lib.hid (fun (w2 : World) (hb : Below w.heap.size w w2) (hf : fewJ g l) => rtrial_c g l gl A c pe pw w2 (hg.keep hb) (entries_keep hl hb) hf.2.2.small (few_modest hf) (by have := hf.2.1; omega))
 obtain ⟨n, hnl⟩ : ∃ n, l.length = n := ⟨_, rfl⟩
 rw [hnl] at HFEW HTR HRT ⊢
 obtain ⟨fw, hfw⟩ : ∃ p : Prop, fewJ g l = p := ⟨_, rfl⟩
 rw [hfw] at HFEW
 have HFWE := Lib.hid hfw
 clear hg hsz hl hts hnl hfw hpa
 go_enter Tryz.func3, Tryz.ntmps3
 go_upto_region 1 with fail
 have H := heap_alloc_new w (.cells gl.toArray 29)
 have HB := below1 w (.cells gl.toArray 29)
 have HS := blk_lt H
 generalize hW : w.alloc (Obj.cells gl.toArray 29) = W at *
 have H2 := heap_alloc_new W (.cells #[.int .i64 pe, .int .i64 pa, .int .i64 pw] 32)
 have HB2 := below1 W (.cells #[.int .i64 pe, .int .i64 pa, .int .i64 pw] 32)
 have HS2 := blk_lt H2
 replace H := alloc_keep H (Obj.cells #[.int .i64 pe, .int .i64 pa, .int .i64 pw] 32)
 generalize hW2 : W.alloc (Obj.cells #[.int .i64 pe, .int .i64 pa, .int .i64 pw] 32) = W2 at *
 clear hW2
 have eW : W.heap.size = w.heap.size + 1 := by rw [← hW]; simp
 rw [eW] at H2
 clear hW
 have hb2 := HB.trans (HB2.mono HB.size)
 have hs2 := HB2.size
 have LT1 := blk_lt H2
 have LT0 : w.heap.size < W2.heap.size := by omega
 have HH := Lib.hid H
 have HZ := Lib.hid H2
 have EW := Lib.hid eW
 clear H H2 eW
 have hb02 := hb2
 have LT02 := LT0
 have LT12 := LT1
 have HH2 := HH
 have HZ2 := HZ
 go_wp2_with fail
 refine (awake14_c W2).mono ?_
 rintro e w3 ⟨rfl, hb3⟩
 have hb03 := hb02.trans (hb3.mono hb02.size)
 have hs3 := hb3.size
 have LT03 := Nat.lt_of_lt_of_le LT02 hs3
 have LT13 := Nat.lt_of_lt_of_le LT12 hs3
 have HH3 := Lib.hid ((hb3.block _ LT02).trans HH2.out)
 have HZ3 := Lib.hid ((hb3.block _ LT12).trans HZ2.out)
 go_wp2_with (show wpList _ _ _ (Oper.mk (some 15) _ _ _ _ _ :: _) _ _; refine wpList_load_row_g rfl 29 (.tmp 3) rfl (w.heap.size) rfl _ _ _ _ HH3.out Tryz.underlying29 rfl (by rw [info_group]; exact congrArg some HGS.out.symm) ?_)
 refine (HFEW.out w3 hb03).mono ?_
 rintro e w4 ⟨bf, rfl, hf, hb4⟩
 have hb04 := hb03.trans (hb4.mono hb03.size)
 have hs4 := hb4.size
 have LT04 := Nat.lt_of_lt_of_le LT03 hs4
 have LT14 := Nat.lt_of_lt_of_le LT13 hs4
 have HH4 := Lib.hid ((hb4.block _ LT03).trans HH3.out)
 have HZ4 := Lib.hid ((hb4.block _ LT13).trans HZ3.out)
 cases bf with
 | false =>
  clear hf
  go_wp2_with fail
  go_ret
  exact ⟨rfl, hb04⟩
 | true =>
 have HFP := Lib.hid (show fewJ g l from HFWE.out ▸ hf rfl)
 clear hf
 have p0 := blk_cell HZ4.out 0
 have p1 := blk_cell HZ4.out 1
 have p2 := blk_cell HZ4.out 2
 go_wp2_with (show wpList _ _ _ (Oper.mk (some 20) _ _ _ _ _ :: _) _ _; refine wpList_load_row_g rfl 29 (.tmp 3) rfl (w.heap.size) rfl _ _ _ _ HH4.out Tryz.underlying29 rfl (by rw [info_group]; exact congrArg some HGS.out.symm) ?_)
 refine (HTR.out w4 hb04 HFP.out).mono ?_
 rintro e w5 ⟨r, A1, c1, ts, rfl, hr, ht1, ht2, htl, hlc, hb5⟩
 have HR := Lib.hid hr
 have HT1 := Lib.hid ht1
 have HT2 := Lib.hid ht2
 have HLC := Lib.hid hlc
 clear p0 p1 p2 hr ht1 ht2 hlc
 have hb05 := hb04.trans (hb5.mono hb04.size)
 have hs5 := hb5.size
 have LT05 := Nat.lt_of_lt_of_le LT04 hs5
 have LT15 := Nat.lt_of_lt_of_le LT14 hs5
 have HH5 := Lib.hid ((hb5.block _ LT04).trans HH4.out)
 have HZ5 := Lib.hid ((hb5.block _ LT14).trans HZ4.out)
 have HN9 := Lib.hid (show ts.length = ts.length from rfl)
 obtain ⟨n9, hn9⟩ : ∃ x, ts.length = x := ⟨_, rfl⟩
 have HNT := Lib.hid hn9
 rw [hn9] at htl ⊢
 clear hn9
 have p0 := blk_cell HZ5.out 0
 have p1 := blk_cell HZ5.out 1
 have p2 := blk_cell HZ5.out 2
 go_wp2_with (show wpList _ _ _ (Oper.mk (some 30) _ _ _ _ _ :: _) _ _; refine wpList_load_row_g rfl 29 (.tmp 3) rfl (w.heap.size) rfl _ _ _ _ HH5.out Tryz.underlying29 rfl (by rw [info_group]; exact congrArg some HGS.out.symm) ?_)
 refine (HRT.out w5 hb05 HFP.out).mono ?_
 rintro e w6 ⟨r2, A2, c2, us, rfl, hr2, hu1, hu2, hul, hlc2, hb6⟩
 obtain rfl : r = r2 := HR.out.uniq hr2
 obtain rfl : ts = us := tri_same HT1.out HT2.out hu1 hu2
 rw [HNT.out]
 have hb06 := hb05.trans (hb6.mono hb05.size)
 have HB06 := Lib.hid hb06
 have HLA := Lib.hid (show ListC BalanceC 2 w6 (· < w6.heap.size) [.slice A1 ts.length c1] ts from (ListC.fr HLC.out (fun h => BalanceC.fr h (Fr.ofBelow hb6)) (Fr.ofBelow hb6)).mono (fun h => BalanceC.mono h (fun q hq => Nat.lt_of_lt_of_le hq hb6.size)) (fun q hq => Nat.lt_of_lt_of_le hq hb6.size))
 have HLB := Lib.hid hlc2
 have HZ := Lib.hid (show sumBl ts = 0 by
  by_cases h0 : r = 0
  · subst h0
    obtain ⟨h1, h2⟩ := chkR_zero HR.out
    exact tri_zero h1 h2 (HT1.out rfl)
  · rw [HT2.out h0]; rfl)
 clear hr2 hu1 hu2 hul hlc2 hb6 hb06 p0 p1 p2
 go_wp2_with fail
 go_loop [11, 12] (fun sv i => ∃ k : Nat, k ≤ n9 ∧ sv = .int .i64 (wrap64 (sumBl (ts.take k))) ∧ i = .int .i64 (k : Int)) (fun _ i => n9 - (intOf i).toNat)
 case atStart => exact ⟨0, by omega, congrArg (Value.int .i64) wrap_zero.symm, rfl⟩
 case round =>
  obtain ⟨k, hk, rfl, rfl⟩ := hrel
  by_cases hlt : k < n9
  case pos =>
   have hltI : (k : Int) < (n9 : Int) := by omega
   have hltI2 : 0 < n9 := by omega
   have hkl : k < ts.length := by rw [HNT.out]; exact hlt
   obtain ⟨b1, o1, cs1, hAe1, hbw1, hes1, hat1⟩ := ListC.get HLA.out k hkl
   subst hAe1
   have hcs1 : cs1 = balL ts[k] := hes1.lit.1
   subst hcs1
   have HSN := Lib.hid (sumBl_one hkl)
   obtain ⟨x, hx⟩ : ∃ x, ts[k] = x := ⟨_, rfl⟩
   rw [hx] at hat1 HSN
   obtain ⟨xa, xb⟩ := x
   have hcc : w6.cell? ⟨b1, o1 + k * 2 + 1, none⟩ = some (.int .i64 xb) := hat1.c (j := 1) rfl
   obtain ⟨s, hs⟩ : ∃ s, wrap64 (sumBl (ts.take k)) = s := ⟨_, rfl⟩
   have HW := Lib.hid (show wrap64 (sumBl (ts.take (k + 1))) = wrap64 (s + xb) by rw [HSN.out, ← hs, wrap_next])
   rw [hs]
   clear hs hx hat1 hbw1 hes1
   go_wp2_with fail
   go_round
   case rel => exact ⟨k + 1, by omega, by rw [HW.out], by go_num⟩
   case measure => first | exact meas_v hlt | (simp only [intOf]; omega)
  case neg =>
   have hltI : ¬ (k : Int) < (n9 : Int) := by omega
   have hta : ts.take k = ts := List.take_of_length_le (by rw [HNT.out]; omega)
   have HS := Lib.hid (show wrap64 (sumBl (ts.take k)) = 0 by rw [hta, HZ.out]; exact wrap_zero)
   rw [HS.out]
   have HSM := Lib.hid (show Calls Tryz.prog 9 #[.slice A1 n9 c1, .slice A2 n9 c2] w6 (Quiet w6 (.bool true)) by
    have h := same08_c ts A1 A2 c1 c2 w6 HLA.out HLB.out
    rwa [HNT.out] at h)
   clear hta
   go_wp2_with (go_at_call 9; refine HSM.out.mono ?_; rintro e w7 ⟨rfl, hb7⟩)
   go_ret
   exact ⟨rfl, HB06.out.trans (hb7.mono HB06.out.size)⟩
end Go.Proofs.YtekelchdbkjjjaaGreat
