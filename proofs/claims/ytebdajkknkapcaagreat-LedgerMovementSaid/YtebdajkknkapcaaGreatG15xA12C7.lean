/- Errors, Balance and Turnover in the reference of the ledger. Written by gen_a12.py. -/
import Derived.Test.YtebdajkknkapcaaGreatG15xB0B2
import Derived.Test.YtebdajkknkapcaaGreatG15xB3B8
import Derived.Test.YtebdajkknkapcaaGreatG15xB9B13
import Derived.Test.YtebdajkknkapcaaGreatG15xB14
import Derived.Test.YtebdajkknkapcaaGreatG15xB16
import Derived.Test.YtebdajkknkapcaaGreatG15xB17B24
import Derived.Test.YtebdajkknkapcaaGreatG15xB25B28
import Derived.Test.YtebdajkknkapcaaGreatG15xB29B32
import Derived.Test.YtebdajkknkapcaaGreatG15xB33S2
import Derived.Test.YtebdajkknkapcaaGreatG15xS3C3
import Derived.Test.YtebdajkknkapcaaGreatG15xC4E3
import Derived.Test.YtebdajkknkapcaaGreatG15xE4E5
import Derived.Test.YtebdajkknkapcaaGreatG15xE6F1
import Derived.Test.YtebdajkknkapcaaGreatG15xF2I7
import Derived.Test.YtebdajkknkapcaaGreatG15xI8I11
import Derived.Test.YtebdajkknkapcaaGreatG15xI12
import Derived.Test.YtebdajkknkapcaaGreatG15xI13I15
import Derived.Test.YtebdajkknkapcaaGreatG15xI16
import Derived.Test.YtebdajkknkapcaaGreatG15xI19Q2
import Derived.Test.YtebdajkknkapcaaGreatG15xK1A6
import Derived.Test.YtebdajkknkapcaaGreatG15xA7A11
import Derived.Test.YtebdajkknkapcaaGreatProg
import Derived.Great.BuildSlice
import Derived.Sort.CutIn
set_option linter.unusedVariables false
set_option linter.unusedSimpArgs false
set_option maxRecDepth 4000
attribute [local go_sem ↓] Go.wp_at_zero Go.wp_at_succ
namespace Go.Proofs.YtebdajkknkapcaaGreat
open Go Go.RowKit
theorem BChk.uniq {g : XGroup} {l : List XEntry} {ent period acc : Int} {ch : Bool} {r s : Int} (h : BChk g l ent period acc ch r) (k : BChk g l ent period acc ch s) : r = s := by
 rcases h with ⟨h1, rfl⟩ | ⟨h1, rfl⟩ <;> rcases k with ⟨k1, rfl⟩ | ⟨k1, rfl⟩
 · rfl
 · exact absurd k1 h1
 · exact absurd h1 k1
 · rfl
set_option maxHeartbeats 4000000 in
theorem rchk14_c (g : XGroup) (l : List XEntry) (gl : List Value) (A : Option Addr) (c : Nat) (ent acc : Int) (w : World) (hg : GroupC w (· < w.heap.size) gl g) (hl : ListC EntryC 7 w (· < w.heap.size) [.slice A l.length c] l) (hsm : smallG g) (hmo : modest l) : Calls Tryz.prog 77 #[.agg gl.toArray, .slice A l.length c, .int .i64 ent] w (BChkPost g l ent (-4611686018427387904) acc false w) := by
 have HJV := Lib.hid (fun (w2 : World) (hb : Below w.heap.size w w2) => rjvalid_c g l gl A c w2 (hg.keep hb) (entries_keep hl hb) hsm hmo)
 have HGS := Lib.hid (show gl.toArray.size = 21 by have := hg.len; simpa using this)
 obtain ⟨Ac, cc, Ae, ce, hl21, h20, _⟩ := hg.view
 obtain ⟨n, hn⟩ : ∃ n, l.length = n := ⟨_, rfl⟩
 rw [hn] at HJV ⊢
 obtain ⟨ne, hne⟩ : ∃ n, g.entities.length = n := ⟨_, rfl⟩
 have HNE := Lib.hid hne
 rw [hne] at h20
 have K20 := Lib.hid h20
 have hne1 : ne ≤ 1000 := by rw [← hne]; exact hsm.2.1
 clear hg hl hsm hmo h20 hn hne hl21
 go_enter Tryz.func77, Tryz.ntmps77
 go_upto_region 1 with fail
 have H1 := heap_alloc_new w (.cells gl.toArray 29)
 have HB1 := below1 w (.cells gl.toArray 29)
 have HS1 := blk_lt H1
 generalize hW1 : w.alloc (Obj.cells gl.toArray 29) = W at *
 clear hW1
 have HK := Lib.hid H1
 have HB1h := Lib.hid HB1
 clear H1
 go_wp2_with (show wpList _ _ _ (Oper.mk (some 8) _ _ _ _ _ :: _) _ _; refine wpList_load_row_g rfl 29 (.tmp 3) rfl (w.heap.size) rfl _ _ _ _ HK.out Tryz.underlying29 rfl (by rw [info_group]; exact congrArg some HGS.out.symm) ?_)
 refine (HJV.out W HB1).mono ?_
 rintro e w2 ⟨b, rfl, hv, hb2⟩
 have HB02 := Lib.hid (HB1h.out.trans (hb2.mono HB1h.out.size))
 have HK2 := Lib.hid ((hb2.block _ HS1).trans HK.out)
 have HV := Lib.hid hv
 clear hb2 hv
 cases b with
 | false =>
  have HNV := Lib.hid (show ¬ validJ g l from fun h => by have := HV.out.2 h; cases this)
  go_wp2_with fail
  go_ret
  exact ⟨1, rfl, .inl ⟨HNV.out, rfl⟩, HB02.out⟩
 | true =>
 have HVA := Lib.hid (HV.out.1 rfl)
 have c20 := (blk_cell HK2.out 20).trans (show gl.toArray[20]? = some (.slice Ae ne ce) by rw [List.getElem?_toArray]; exact K20.out)
 by_cases h1 : ent < 0
 case pos =>
  have h1d : decide (ent < 0) = true := decide_eq_true h1
  have HR := Lib.hid (chk_ent (period := (-4611686018427387904)) (acc := acc) (ch := false) HVA.out (.inl h1))
  clear h1
  go_wp2_with fail
  go_ret
  exact ⟨2, rfl, HR.out, HB02.out⟩
 case neg =>
 have h1d : decide (ent < 0) = false := decide_eq_false h1
 by_cases h2 : (ne : Int) ≤ ent
 case pos =>
  have h2d : decide (ent ≥ (ne : Int)) = true := decide_eq_true h2
  have h2e : decide ((ne : Int) ≤ ent) = true := decide_eq_true h2
  have HR := Lib.hid (chk_ent (period := (-4611686018427387904)) (acc := acc) (ch := false) HVA.out (.inr (by rw [HNE.out]; exact h2)))
  clear h1 h2
  go_wp2_with fail
  go_ret
  exact ⟨2, rfl, HR.out, HB02.out⟩
 case neg =>
  have h2d : decide (ent ≥ (ne : Int)) = false := decide_eq_false h2
  have h2e : decide ((ne : Int) ≤ ent) = false := decide_eq_false h2
  have HR := Lib.hid (chk_ok (period := (-4611686018427387904)) (acc := acc) (ch := false) HVA.out (show ¬ (ent < 0 ∨ (g.entities.length : Int) ≤ ent) by rw [HNE.out]; omega) (fun h => h.1 rfl) (fun h => by cases h.1))
  clear h1 h2
  go_wp2_with fail
  go_ret
  exact ⟨0, rfl, HR.out, HB02.out⟩
theorem chkR_zero {g : XGroup} {l : List XEntry} {ent acc : Int} (h : BChk g l ent (-4611686018427387904) acc false 0) : validJ g l ∧ ¬ (ent < 0 ∨ (g.entities.length : Int) ≤ ent) := by
 refine ⟨bchk_valid h, fun h2 => ?_⟩
 exact absurd (h.uniq (chk_ent (bchk_valid h) h2)) (by decide)
theorem chkR_err {g : XGroup} {l : List XEntry} {ent acc p acc2 : Int} {ch : Bool} {r : Int} (h : BChk g l ent (-4611686018427387904) acc false r) (hr : r ≠ 0) : BChk g l ent p acc2 ch r := by
 rcases h with h | ⟨h1, h2⟩
 · exact .inl h
 · by_cases he : ent < 0 ∨ (g.entities.length : Int) ≤ ent
   · have : r = 2 := by rw [h2]; unfold chkR; rw [if_pos he]
     rw [this]
     exact chk_ent h1 he
   · exact absurd ((show BChk g l ent (-4611686018427387904) acc false r from .inr ⟨h1, h2⟩).uniq (chk_ok h1 he (fun h => h.1 rfl) (fun h => by cases h.1))) hr
set_option maxHeartbeats 4000000 in
theorem known_c (g : XGroup) (l : List XEntry) (gl : List Value) (A : Option Addr) (c : Nat) (ent acc : Int) (w : World) (hg : GroupC w (· < w.heap.size) gl g) (hl : ListC EntryC 7 w (· < w.heap.size) [.slice A l.length c] l) (hsm : smallG g) (hmo : modest l) (hacc : intBd acc) : Calls Tryz.prog 74 #[.agg gl.toArray, .slice A l.length c, .int .i64 ent, .int .i64 acc] w (BChkPost g l ent (-4611686018427387904) acc true w) := by
 have HCK := Lib.hid (fun (w2 : World) (hb : Below w.heap.size w w2) => rchk14_c g l gl A c ent acc w2 (hg.keep hb) (entries_keep hl hb) hsm hmo)
 have HGS := Lib.hid (show gl.toArray.size = 21 by have := hg.len; simpa using this)
 obtain ⟨Ac, cc, Ae, ce, hl21, h20, _, _, _, _, _, hen⟩ := hg.view
 have HEN := Lib.hid hen
 have HSM := Lib.hid hsm
 have HACC := Lib.hid hacc
 obtain ⟨n, hn⟩ : ∃ n, l.length = n := ⟨_, rfl⟩
 rw [hn] at HCK ⊢
 obtain ⟨ne, hne⟩ : ∃ n, g.entities.length = n := ⟨_, rfl⟩
 have HNE := Lib.hid hne
 rw [hne] at h20
 have K20 := Lib.hid h20
 have hne1 : ne ≤ 1000 := by rw [← hne]; exact hsm.2.1
 clear hg hl hsm hmo h20 hn hne hl21 hacc hen
 go_enter Tryz.func74, Tryz.ntmps74
 go_upto_region 1 with fail
 have H1 := heap_alloc_new w (.cells gl.toArray 29)
 have HB1 := below1 w (.cells gl.toArray 29)
 have HS1 := blk_lt H1
 generalize hW1 : w.alloc (Obj.cells gl.toArray 29) = W at *
 clear hW1
 have HK := Lib.hid H1
 have HB1h := Lib.hid HB1
 clear H1
 go_wp2_with (show wpList _ _ _ (Oper.mk (some 12) _ _ _ _ _ :: _) _ _; refine wpList_load_row_g rfl 29 (.tmp 4) rfl (w.heap.size) rfl _ _ _ _ HK.out Tryz.underlying29 rfl (by rw [info_group]; exact congrArg some HGS.out.symm) ?_)
 refine (HCK.out W HB1).mono ?_
 rintro e w2 ⟨r, rfl, hr, hb2⟩
 have HB02 := Lib.hid (HB1h.out.trans (hb2.mono HB1h.out.size))
 have HK2 := Lib.hid ((hb2.block _ HS1).trans HK.out)
 have HR := Lib.hid hr
 clear hb2 hr
 by_cases hr0 : r = 0
 case neg =>
  have hrb : (r != 0) = true := by simpa using hr0
  have HR2 := Lib.hid (chkR_err (p := (-4611686018427387904)) (acc2 := acc) (ch := true) HR.out hr0)
  clear hr0
  go_wp2_with fail
  go_ret
  exact ⟨r, rfl, HR2.out, HB02.out⟩
 case pos =>
 subst hr0
 have HVA := Lib.hid (chkR_zero HR.out).1
 have hin := (chkR_zero HR.out).2
 have HIN := Lib.hid hin
 rw [HNE.out] at hin
 obtain ⟨q, rfl⟩ : ∃ q : Nat, ent = (q : Int) := ⟨ent.toNat, by omega⟩
 have hq : q < ne := by omega
 clear hin
 have hqe : q < g.entities.length := by rw [HNE.out]; exact hq
 obtain ⟨be, oe, es, hAe, hbe, hes, hat⟩ := ListC.get HEN.out q hqe
 subst hAe
 obtain ⟨Ec, c2, Al2, cl2, hes1, hch, hlk⟩ := EntityC.lit hes
 have hn2 := (HSM.out.2.2.2 _ (List.getElem_mem hqe)).1
 have hce := chartE_at hqe
 obtain ⟨ec, hec⟩ : ∃ ec, g.entities[q].chart = ec := ⟨_, rfl⟩
 rw [hec] at hes1 hch hn2 hce
 obtain ⟨n2, hn2'⟩ : ∃ n, ec.length = n := ⟨_, rfl⟩
 rw [hn2'] at hes1
 subst hes1
 obtain ⟨ao, hao⟩ : ∃ a, accO (findA ec acc) = a := ⟨_, rfl⟩
 obtain ⟨a1, a2, a3, a4⟩ := ao
 obtain ⟨fs, hfs⟩ : ∃ s, (findA ec acc).isSome = s := ⟨_, rfl⟩
 have HFN := Lib.hid (rfind_n (w := w2) hn2' (chart_keep hch HB02.out) hn2 acc HACC.out hao hfs)
 have HFE := Lib.hid (show (findA (chartE g (q : Int)) acc).isSome = fs by rw [hce]; exact hfs)
 have hde := (HB02.out.cell (p := ⟨be, oe + q * 5 + 2, none⟩) hbe).trans (hat.c (j := 2) rfl)
 have hqI : (q : Int) < (ne : Int) := by omega
 have c20 := (blk_cell HK2.out 20).trans (show gl.toArray[20]? = some (.slice (some ⟨be, oe, none⟩) ne ce) by rw [List.getElem?_toArray]; exact K20.out)
 clear hfs hao hn2' hn2 hch hat hbe hes hlk hec hce hqe
 go_wp2_with (first | (go_at_call 78; refine HFN.out.mono ?_; rintro e w5 ⟨rfl, h5⟩; have H5 := Lib.hid h5; clear h5) | (show wpList _ _ _ (Oper.mk none (Op.store _ (Operand.tmp 10) _) _ _ _ _ :: _) _ _; refine wpList_store_fresh3 rfl 130 (.tmp 10) (.tmp 28) rfl rfl w5 #[.int .i64 0, .int .i64 0, .int .i64 0, .int .i64 0] 130 #[.int .i64 a1, .int .i64 a2, .int .i64 a3, .int .i64 a4] rfl rfl rfl (info_accS ⟨a1, a2, a3, a4⟩) rfl (by simp [Value.oneCell']) ?_; intro w6 H6 HB6 HS6; have HB06 := Lib.hid (HB02.out.trans ((H5.out.trans (HB6.mono H5.out.size)).mono HB02.out.size)); clear H6 HB6 HS6; cases fs))
 · have HR2 := Lib.hid (chk_acc (period := (-4611686018427387904)) (acc := acc) (ch := true) HVA.out HIN.out (fun h => h.1 rfl) rfl HFE.out)
   go_ret
   exact ⟨17, rfl, HR2.out, HB06.out⟩
 · have HR2 := Lib.hid (chk_ok (period := (-4611686018427387904)) (acc := acc) (ch := true) HVA.out HIN.out (fun h => h.1 rfl) (fun h => by rw [HFE.out] at h; cases h.2))
   go_ret
   exact ⟨0, rfl, HR2.out, HB06.out⟩
theorem absE_valid {g : XGroup} {l : List XEntry} (h : validJ g l) (hl : l.length ≤ 100) : absE l ≤ 4503599627370496 := by
 have h3 : ∀ k : List XEntry, (∀ x ∈ k, x ∈ l) → absE k ≤ 40000000000000 * k.length := fun k => by
  induction k with
  | nil => intro _; simp [absE]
  | cons x k ih =>
   intro hk
   have h4 := ih (fun z hz => hk z (List.mem_cons_of_mem _ hz))
   have hx := hk x (List.mem_cons_self ..)
   have h5 := valid_lines h hx
   have h6 : ∀ m : List XLine, (∀ y ∈ m, y ∈ x.lines) → absL m ≤ 1000000000000 * m.length := fun m => by
    induction m with
    | nil => intro _; simp [absL]
    | cons y m ih2 =>
     intro hm
     have h7 := ih2 (fun z hz => hm z (List.mem_cons_of_mem _ hz))
     have h8 := (valid_formed h hx).2.2.2.2.2.2.2.2.2.2.2 y (hm y (List.mem_cons_self ..))
     have h9 := ((lineB_iff _ _ _).1 h8).2.1
     unfold monB at h9
     rw [decide_eq_true_eq] at h9
     have h10 : absL (y :: m) = (y.amount.natAbs : Int) + absL m := by simp [absL]
     rw [h10, List.length_cons]
     omega
   have h11 := h6 x.lines (fun y hy => hy)
   rw [absE_cons, List.length_cons]
   omega
 have := h3 l (fun x hx => hx)
 omega
theorem calFirst_none (y m n : Int) {p : Int} (hp : p < 0) : (calFirst y m n p).2 ≠ 0 := by
 unfold calFirst
 split
 · have := (calCheck_0 ‹_›).2.1
   omega
 · assumption
theorem perN_no (p : Int) : perN p ≠ -4611686018427387904 := by unfold perN; split <;> omega
theorem chk_known {g : XGroup} {l : List XEntry} {ent acc p : Int} {r : Int} (h : BChk g l ent (-4611686018427387904) acc true r) (hp : (calFirst g.calendar.year g.calendar.month g.calendar.periods p).2 = 0) : BChk g l ent p acc true r := by
 rcases h with h | ⟨h1, h2⟩
 · exact .inl h
 · refine .inr ⟨h1, ?_⟩
   rw [h2]
   unfold chkR
   have e1 : ¬ ((-4611686018427387904 : Int) ≠ -4611686018427387904 ∧ (calFirst g.calendar.year g.calendar.month g.calendar.periods (-4611686018427387904)).2 ≠ 0) := fun h => h.1 rfl
   have e2 : ¬ (p ≠ -4611686018427387904 ∧ (calFirst g.calendar.year g.calendar.month g.calendar.periods p).2 ≠ 0) := fun h => h.2 hp
   rw [if_neg e1, if_neg e2]
set_option maxHeartbeats 4000000 in
theorem rturn_c (g : XGroup) (l : List XEntry) (gl : List Value) (A : Option Addr) (c : Nat) (ent acc p : Int) (w : World) (hg : GroupC w (· < w.heap.size) gl g) (hl : ListC EntryC 7 w (· < w.heap.size) [.slice A l.length c] l) (hsm : smallG g) (hmo : modest l) (hle : l.length ≤ 100) (hacc : intBd acc) : Calls Tryz.prog 31 #[.agg gl.toArray, .slice A l.length c, .int .i64 ent, .int .i64 acc, .int .i64 p] w (TurnPost g l ent acc p w) := by
 obtain ⟨Ac0, cc0, Ae0, ce0, hl21, _, _, K1, K2, K3, _, _⟩ := hg.view
 have K1 := Lib.hid K1
 have K2 := Lib.hid K2
 have K3 := Lib.hid K3
 have HCK := Lib.hid (fun (w2 : World) (hb : Below w.heap.size w w2) => rchk14_c g l gl A c ent acc w2 (hg.keep hb) (entries_keep hl hb) hsm hmo)
 have HKN := Lib.hid (fun (w2 : World) (hb : Below w.heap.size w w2) => known_c g l gl A c ent acc w2 (hg.keep hb) (entries_keep hl hb) hsm hmo hacc)
 have HSU := Lib.hid (fun (fr to_ : Int) (w2 : World) (hb : Below w.heap.size w w2) (hv : validJ g l) => sums_c l A c ent acc fr to_ w2 (entries_keep hl hb) (by omega) (fun x hx => (hmo.1 x hx).2) (absE_valid hv hle))
 have HGS := Lib.hid (show gl.toArray.size = 21 by have := hg.len; simpa using this)
 obtain ⟨n, hn⟩ : ∃ n, l.length = n := ⟨_, rfl⟩
 rw [hn] at HCK HKN HSU ⊢
 obtain ⟨fp, hfp⟩ : ∃ q, calFirst g.calendar.year g.calendar.month g.calendar.periods p = q := ⟨_, rfl⟩
 have HCF := Lib.hid (fun w2 : World => rcalFirst_c g.calendar.year g.calendar.month g.calendar.periods p w2)
 obtain ⟨lp, hlp⟩ : ∃ q, calLast g.calendar.year g.calendar.month g.calendar.periods p = q := ⟨_, rfl⟩
 have HCL := Lib.hid (fun w2 : World => rcalLast_c g.calendar.year g.calendar.month g.calendar.periods p w2)
 have HFP := Lib.hid hfp
 rw [hfp] at HCF
 rw [hlp] at HCL
 obtain ⟨fd, fe⟩ := fp
 obtain ⟨ld, le⟩ := lp
 have HT1 := Lib.hid (show turnE qD g l ent acc p = sumE (qD fd ld) l ent acc by unfold turnE; rw [hfp, hlp])
 have HT2 := Lib.hid (show turnE qC g l ent acc p = sumE (qC fd ld) l ent acc by unfold turnE; rw [hfp, hlp])
 clear hg hl hsm hmo hle hacc hn hfp hlp hl21
 go_enter Tryz.func31, Tryz.ntmps31
 go_upto_region 1 with fail
 have H1 := heap_alloc_new w (.cells gl.toArray 29)
 have HB1 := below1 w (.cells gl.toArray 29)
 have HS1 := blk_lt H1
 generalize hW1 : w.alloc (Obj.cells gl.toArray 29) = W at *
 clear hW1
 have HK := Lib.hid H1
 have HB1h := Lib.hid HB1
 clear H1
 go_wp2_with (show wpList _ _ _ (Oper.mk (some 21) _ _ _ _ _ :: _) _ _; refine wpList_load_row_g rfl 29 (.tmp 5) rfl (w.heap.size) rfl _ _ _ _ HK.out Tryz.underlying29 rfl (by rw [info_group]; exact congrArg some HGS.out.symm) ?_)
 refine (HCK.out W HB1).mono ?_
 rintro e w2 ⟨r, rfl, hr, hb2⟩
 have HB02 := Lib.hid (HB1h.out.trans (hb2.mono HB1h.out.size))
 have HK2 := Lib.hid ((hb2.block _ HS1).trans HK.out)
 have HR := Lib.hid hr
 clear hb2 hr
 by_cases hr0 : r = 0
 case neg =>
  have hrb : (r != 0) = true := by simpa using hr0
  have hfin : ∀ w9, Below w.heap.size w w9 → TurnPost g l ent acc p w (.returned (.tuple #[.int .i64 0, .int .i64 0, .int .i64 r])) w9 := fun w9 h9 => ⟨r, by rw [if_neg hr0, if_neg hr0], chkR_err HR.out hr0, h9⟩
  have HFIN := Lib.hid hfin
  clear hr0 hfin
  go_wp2_with fail
  go_ret3
  exact HFIN.out _ HB02.out
 case pos =>
 subst hr0
 have HVA := Lib.hid (chkR_zero HR.out)
 have HCR := Lib.hid (cal_range HK2.out K1.out K2.out K3.out)
 go_wp2_with (show wpList _ _ _ (Oper.mk (some 30) _ _ _ _ _ :: _) _ _; refine wpList_load_mid rfl 23 (.tmp 29) rfl w.heap.size 1 rfl [.int .i64 g.calendar.year, .int .i64 g.calendar.month, .int .i64 g.calendar.periods] _ HCR.out Tryz.underlying23 rfl info_cal ?_)
 refine (HCF.out w2).mono ?_
 rintro e w3 ⟨rfl, hb3⟩
 have HB03 := Lib.hid (HB02.out.trans (hb3.mono HB02.out.size))
 have HK3 := Lib.hid ((hb3.block _ (blk_lt HK2.out)).trans HK2.out)
 clear hb3
 by_cases hf0 : fe = 0
 case neg =>
  have hfb : (fe != 0) = true := by simpa using hf0
  have hfin : ∀ w9, Below w.heap.size w w9 → TurnPost g l ent acc p w (.returned (.tuple #[.int .i64 0, .int .i64 0, .int .i64 2])) w9 := fun w9 h9 => ⟨2, by rw [if_neg (by decide), if_neg (by decide)], chk_per HVA.out.1 HVA.out.2 (perN_no p) (by
   by_cases hp : p = -4611686018427387904
   · exact calFirst_none _ _ _ (by unfold perN; rw [if_pos hp]; omega)
   · have : perN p = p := if_neg hp
     rw [this, HFP.out]
     exact hf0), h9⟩
  have HFIN := Lib.hid hfin
  clear hf0 hfin
  go_wp2_with fail
  go_ret3
  exact HFIN.out _ HB03.out
 case pos =>
 subst hf0
 have HPN := Lib.hid (show perN p = p from if_neg (fun hp => calFirst_none g.calendar.year g.calendar.month g.calendar.periods (p := p) (by omega) (by rw [HFP.out])))
 go_wp2_with (show wpList _ _ _ (Oper.mk (some 37) _ _ _ _ _ :: _) _ _; refine wpList_load_row_g rfl 29 (.tmp 5) rfl (w.heap.size) rfl _ _ _ _ HK3.out Tryz.underlying29 rfl (by rw [info_group]; exact congrArg some HGS.out.symm) ?_)
 refine (HKN.out w3 HB03.out).mono ?_
 rintro e w4 ⟨r3, rfl, hr3, hb4⟩
 have HB04 := Lib.hid (HB03.out.trans (hb4.mono HB03.out.size))
 have HK4 := Lib.hid ((hb4.block _ (blk_lt HK3.out)).trans HK3.out)
 have HR3 := Lib.hid (show BChk g l ent (perN p) acc true r3 by rw [HPN.out]; exact chk_known hr3 (by rw [HFP.out]))
 clear hb4 hr3
 by_cases hr0 : r3 = 0
 case neg =>
  have hrb : (r3 != 0) = true := by simpa using hr0
  have hfin : ∀ w9, Below w.heap.size w w9 → TurnPost g l ent acc p w (.returned (.tuple #[.int .i64 0, .int .i64 0, .int .i64 r3])) w9 := fun w9 h9 => ⟨r3, by rw [if_neg hr0, if_neg hr0], HR3.out, h9⟩
  have HFIN := Lib.hid hfin
  clear hr0 hfin
  go_wp2_with fail
  go_ret3
  exact HFIN.out _ HB04.out
 case pos =>
  subst hr0
  have HCR4 := Lib.hid (cal_range HK4.out K1.out K2.out K3.out)
  go_wp2_with (show wpList _ _ _ (Oper.mk (some 47) _ _ _ _ _ :: _) _ _; refine wpList_load_mid rfl 23 (.tmp 46) rfl w.heap.size 1 rfl [.int .i64 g.calendar.year, .int .i64 g.calendar.month, .int .i64 g.calendar.periods] _ HCR4.out Tryz.underlying23 rfl info_cal ?_)
  refine (HCL.out w4).mono ?_
  rintro e w5 ⟨rfl, hb5⟩
  have HB05 := Lib.hid (HB04.out.trans (hb5.mono HB04.out.size))
  have HSC := Lib.hid (HSU.out fd ld w5 HB05.out HVA.out.1)
  obtain ⟨v1, hv1⟩ : ∃ v, sumE (qD fd ld) l ent acc = v := ⟨_, rfl⟩
  obtain ⟨v2, hv2⟩ : ∃ v, sumE (qC fd ld) l ent acc = v := ⟨_, rfl⟩
  rw [hv1, hv2] at HSC
  rw [hv1] at HT1
  rw [hv2] at HT2
  clear hb5 hv1 hv2
  go_wp2_with fail
  refine HSC.out.mono ?_
  rintro e w6 ⟨rfl, hb6⟩
  have HB06 := Lib.hid (HB05.out.trans (hb6.mono HB05.out.size))
  have HFIN := Lib.hid (show TurnPost g l ent acc p w (.returned (.tuple #[.int .i64 v1, .int .i64 v2, .int .i64 0])) w6 from ⟨0, by rw [if_pos rfl, if_pos rfl, HPN.out, HT1.out, HT2.out], HR3.out, HB06.out⟩)
  clear hb6
  go_wp2_with fail
  go_ret3
  exact HFIN.out
def aw14L : List XLine := [⟨10, 100, -1⟩, ⟨100, -100, -1⟩]
def aw14 : XEntry := ⟨1, 0, 20454, 1, 0, ⟨#[]⟩, aw14L⟩
theorem aw14_bd : ∀ x ∈ aw14L, lineBd x := by
 show ∀ x ∈ aw14L, intBd x.account ∧ intBd x.amount ∧ intBd x.partner
 decide
theorem aw14_first : calFirst 2026 1 36 0 = (20454, 0) := by decide +kernel
theorem aw14_post : postE sampleG [] aw14 = 0 := by decide +kernel
theorem aw14_valid : validJ sampleG [aw14] := ⟨sample_valid, fun k hk => by
 have : k = 0 := by simp at hk; omega
 subst this
 exact aw14_post⟩
theorem aw14_chk : BChk sampleG [aw14] 0 (-4611686018427387904) 100 true 0 := .inr ⟨aw14_valid, by decide +kernel⟩
theorem aw14_sum : sumE (qB 20454) [aw14] 0 100 = -100 := by decide +kernel
theorem entry_lay {w W : World} {T : TypeId} {x : XEntry} {cs : List Value} (hW : W.heap[w.heap.size]? = some (.cells cs.toArray T (0, 0))) (hx : EntryC W (· < W.heap.size) cs x) (hs : cs.length = 7) : ListC EntryC 7 W (· < W.heap.size) [.slice (some ⟨w.heap.size, 0, none⟩) 1 1] [x] :=
 ⟨_, _, rfl, Nat.le_refl _, by unfold maxLen; decide, fun _ => ⟨w.heap.size, 0, rfl, blk_lt hW, fun i y hi => by
  have hi0 : i = 0 := by
   have := (List.getElem?_eq_some_iff.1 hi).1
   simp at this
   exact this
  subst hi0
  simp at hi
  subst hi
  exact ⟨cs, hx, by simpa using box_at hW⟩⟩⟩
set_option maxHeartbeats 4000000 in
theorem awake14_c (w : World) : Calls Tryz.prog 23 #[] w (Quiet w (.bool true)) := by
 go_enter Tryz.func23, Tryz.ntmps23
 go_wp2_with fail
 refine (sample_c w).mono ?_
 rintro e w2 ⟨vs, rfl, hg, hb2⟩
 have hone : vs.toArray.all (·.oneCell') = true := by rw [List.all_toArray, List.all_eq_true]; exact grp_one hg
 have HGS := Lib.hid (show vs.toArray.size = 21 by simpa using hg.len)
 have HONE := Lib.hid hone
 have HG := Lib.hid hg
 obtain ⟨_, _, _, _, _, _, _, k1, k2, k3, _, _⟩ := hg.view
 have K1 := Lib.hid (show vs[1]? = some (.int .i64 2026) from k1)
 have K2 := Lib.hid (show vs[2]? = some (.int .i64 1) from k2)
 have K3 := Lib.hid (show vs[3]? = some (.int .i64 36) from k3)
 clear hg hone k1 k2 k3
 go_upto_region 2 with (show wpList _ _ _ (Oper.mk none (Op.store _ (Operand.tmp 1) _) _ _ _ _ :: _) _ _; refine wpList_store_fresh3 rfl 29 (.tmp 1) (.tmp 7) rfl rfl w2 #[.string ⟨#[]⟩, .int .i64 0, .int .i64 0, .int .i64 0, .slice none 0 0, .int .i64 0, .int .i64 0, .int .i64 0, .int .i64 0, .int .i64 0, .int .i64 0, .int .i64 0, .int .i64 0, .int .i64 0, .int .i64 0, .int .i64 0, .int .i64 0, .int .i64 0, .int .i64 0, .int .i64 0, .slice none 0 0] 29 vs.toArray rfl rfl rfl (by rw [info_group]; exact congrArg some HGS.out.symm) HGS.out.symm HONE.out ?_; intro w3 H3 HB3 HS3)
 have HK3 := Lib.hid H3
 have HB03 := Lib.hid (hb2.trans (HB3.mono hb2.size))
 have HCR := Lib.hid (cal_range H3 K1.out K2.out K3.out)
 have HG3 := Lib.hid (HG.out.keep HB3)
 clear H3 HB3 hb2
 go_wp2_with (show wpList _ _ _ (Oper.mk (some 10) _ _ _ _ _ :: _) _ _; refine wpList_load_mid rfl 23 (.tmp 9) rfl w2.heap.size 1 rfl [.int .i64 2026, .int .i64 1, .int .i64 36] _ HCR.out Tryz.underlying23 rfl info_cal ?_)
 refine (rcalFirst_c 2026 1 36 0 w3).mono ?_
 rintro e w5 ⟨rfl, hb5⟩
 rw [aw14_first]
 have HB05 := Lib.hid (HB03.out.trans (hb5.mono HB03.out.size))
 have HK5 := Lib.hid ((hb5.block _ (blk_lt HK3.out)).trans HK3.out)
 have HG5 := Lib.hid (HG3.out.keep hb5)
 clear hb5
 go_upto_region 4 with fail
 have H6 := heap_alloc_new w5 (.cells #[.int .i64 10, .int .i64 100, .int .i64 (-1), .int .i64 100, .int .i64 (-100), .int .i64 (-1)] 52)
 have HB6 := below1 w5 (.cells #[.int .i64 10, .int .i64 100, .int .i64 (-1), .int .i64 100, .int .i64 (-100), .int .i64 (-1)] 52)
 have es6 : (w5.alloc (.cells #[.int .i64 10, .int .i64 100, .int .i64 (-1), .int .i64 100, .int .i64 (-100), .int .i64 (-1)] 52)).heap.size = w5.heap.size + 1 := by simp
 generalize w5.alloc (.cells #[.int .i64 10, .int .i64 100, .int .i64 (-1), .int .i64 100, .int .i64 (-100), .int .i64 (-1)] 52) = w6 at *
 have HL6 := Lib.hid (lines_lay aw14L aw14_bd (by decide) w5 w6 _ _ rfl H6)
 have H7 := heap_alloc_new w6 (.cells #[.int .i64 1, .int .i64 0, .int .i64 20454, .int .i64 1, .int .i64 0, .string ⟨#[]⟩, .slice (some ⟨w5.heap.size, 0, none⟩) 2 2] 42)
 have HB7 := below1 w6 (.cells #[.int .i64 1, .int .i64 0, .int .i64 20454, .int .i64 1, .int .i64 0, .string ⟨#[]⟩, .slice (some ⟨w5.heap.size, 0, none⟩) 2 2] 42)
 rw [es6] at H7
 generalize w6.alloc (.cells #[.int .i64 1, .int .i64 0, .int .i64 20454, .int .i64 1, .int .i64 0, .string ⟨#[]⟩, .slice (some ⟨w5.heap.size, 0, none⟩) 2 2] 42) = w7 at *
 have hb57 := HB6.trans (HB7.mono HB6.size)
 have HB07 := Lib.hid (HB05.out.trans (hb57.mono HB05.out.size))
 have HG7 := Lib.hid (HG5.out.keep hb57)
 have HK7 := Lib.hid ((hb57.block _ (blk_lt HK5.out)).trans HK5.out)
 have HX7 := Lib.hid H7
 have HL7 := Lib.hid (lines_keep HL6.out HB7)
 clear H6 HB6 es6 H7 HB7 hb57 HL6
 go_upto_region 5 with (first | (show wpList _ _ _ (Oper.mk (some 20) _ _ _ _ _ :: _) _ _; refine wpList_load_row_g rfl 29 (.tmp 1) rfl (w2.heap.size) rfl _ _ _ _ HK7.out Tryz.underlying29 rfl (by rw [info_group]; exact congrArg some HGS.out.symm) ?_) | (show wpList _ _ _ (Oper.mk (some 21) _ _ _ _ _ :: _) _ _; refine wpList_load_row_g rfl 42 (.tmp 4) rfl (w5.heap.size + 1) rfl _ _ _ _ HX7.out Tryz.underlying42 rfl info_entry ?_))
 have H8 := heap_alloc_new w7 (.cells #[.int .i64 1, .int .i64 0, .int .i64 20454, .int .i64 1, .int .i64 0, .string ⟨#[]⟩, .slice (some ⟨w5.heap.size, 0, none⟩) 2 2] 42)
 have HB8 := below1 w7 (.cells #[.int .i64 1, .int .i64 0, .int .i64 20454, .int .i64 1, .int .i64 0, .string ⟨#[]⟩, .slice (some ⟨w5.heap.size, 0, none⟩) 2 2] 42)
 generalize w7.alloc (.cells #[.int .i64 1, .int .i64 0, .int .i64 20454, .int .i64 1, .int .i64 0, .string ⟨#[]⟩, .slice (some ⟨w5.heap.size, 0, none⟩) 2 2] 42) = w8 at *
 have hx := EntryC.mk (w := w8) (Q := (· < w8.heap.size)) (x := aw14) (A := some ⟨w5.heap.size, 0, none⟩) (c := 2) (by show intBd 1 ∧ intBd 0 ∧ intBd 20454 ∧ intBd 1 ∧ intBd 0; unfold intBd; omega) (lines_keep HL7.out HB8)
 have hb := balance_c sampleG [aw14] vs (some ⟨w7.heap.size, 0, none⟩) 1 0 100 20454 w8 (HG7.out.keep HB8) (entry_lay H8 hx rfl) sample_small ⟨by intro x hx; simp at hx; subst hx; decide, by simp⟩ (by simp) (by unfold intBd; omega)
 have HBAL := Lib.hid hb
 have HB08 := Lib.hid (HB07.out.trans (HB8.mono HB07.out.size))
 clear hb hx H8 HB8
 refine HBAL.out.mono ?_
 rintro e w9 ⟨r, rfl, hr, hb9⟩
 obtain rfl : r = 0 := hr.uniq aw14_chk
 rw [if_pos rfl, aw14_sum]
 have HB09 := Lib.hid (HB08.out.trans (hb9.mono HB08.out.size))
 clear hr hb9
 go_wp2_with fail
 go_ret
 exact ⟨rfl, HB09.out⟩
theorem few_modest {g : XGroup} {l : List XEntry} (h : fewJ g l) : modest l := ⟨fun x hx => by have h1 := h.1 x hx; have h2 := h1.1; have h3 := h1.2.1; omega, by have := h.2.1; omega⟩
set_option maxHeartbeats 4000000 in
theorem law_ledgerMovement (g : XGroup) (l : List XEntry) (gl : List Value) (A : Option Addr) (c : Nat) (pe pa pw : Int) (w : World) (hg : GroupC w (· < w.heap.size) gl g) (hsz : szG g) (hl : ListC EntryC 7 w (· < w.heap.size) [.slice A l.length c] l) (hts : ∀ x ∈ l, x.text.size ≤ 140737488355327) (hpa : intBd pa) : Calls Tryz.prog 8 #[.agg gl.toArray, .slice A l.length c, .agg #[.int .i64 pe, .int .i64 pa, .int .i64 pw]] w (Quiet w (.bool true)) := by
 have HFEW := Lib.hid (fun (w2 : World) (hb : Below w.heap.size w w2) => few12_c g l gl A c w2 (hg.keep hb) hsz (entries_keep hl hb) hts)
 have HGS := Lib.hid (show gl.toArray.size = 21 by have := hg.len; simpa using this)
 have HMO := Lib.hid (fun (w2 : World) (hb : Below w.heap.size w w2) (hf : fewJ g l) => mov_c g l gl A c pe pa pw w2 (hg.keep hb) (entries_keep hl hb) hf.2.2.small (few_modest hf) (by have := hf.2.1; omega) hpa)
 have HTU := Lib.hid (fun (w2 : World) (hb : Below w.heap.size w w2) (hf : fewJ g l) => turn_c g l gl A c pe pa pw w2 (hg.keep hb) (entries_keep hl hb) hf.2.2.small (few_modest hf) (by have := hf.2.1; omega) hpa)
 have HRT := Lib.hid (fun (w2 : World) (hb : Below w.heap.size w w2) (hf : fewJ g l) => rturn_c g l gl A c pe pa pw w2 (hg.keep hb) (entries_keep hl hb) hf.2.2.small (few_modest hf) (by have := hf.2.1; omega) hpa)
 obtain ⟨n, hnl⟩ : ∃ n, l.length = n := ⟨_, rfl⟩
 rw [hnl] at HFEW HMO HTU HRT ⊢
 obtain ⟨fw, hfw⟩ : ∃ p : Prop, fewJ g l = p := ⟨_, rfl⟩
 rw [hfw] at HFEW
 have HFWE := Lib.hid hfw
 clear hg hsz hl hts hnl hfw hpa
 go_enter Tryz.func8, Tryz.ntmps8
 go_upto_region 1 with fail
 have H := heap_alloc_new w (.cells gl.toArray 29)
 have HB := below1 w (.cells gl.toArray 29)
 have HS := blk_lt H
 generalize hW : w.alloc (Obj.cells gl.toArray 29) = W at *
 have H2 := heap_alloc_new W (.cells #[.int .i64 pe, .int .i64 pa, .int .i64 pw] 56)
 have HB2 := below1 W (.cells #[.int .i64 pe, .int .i64 pa, .int .i64 pw] 56)
 have HS2 := blk_lt H2
 replace H := alloc_keep H (Obj.cells #[.int .i64 pe, .int .i64 pa, .int .i64 pw] 56)
 generalize hW2 : W.alloc (Obj.cells #[.int .i64 pe, .int .i64 pa, .int .i64 pw] 56) = W2 at *
 clear hW2
 have eW : W.heap.size = w.heap.size + 1 := by rw [← hW]; simp
 rw [eW] at H2
 clear hW
 have hb2 := HB.trans (HB2.mono HB.size)
 have hs2 := HB2.size
 have LT1 := blk_lt H2
 have LT0 : w.heap.size < W2.heap.size := by omega
 have HH := Lib.hid H
 have HZ := Lib.hid H2
 have EW := Lib.hid eW
 clear H H2 eW
 have hb02 := hb2
 have LT02 := LT0
 have LT12 := LT1
 have HH2 := HH
 have HZ2 := HZ
 go_wp2_with fail
 refine (awake14_c W2).mono ?_
 rintro e w3 ⟨rfl, hb3⟩
 have hb03 := hb02.trans (hb3.mono hb02.size)
 have hs3 := hb3.size
 have LT03 := Nat.lt_of_lt_of_le LT02 hs3
 have LT13 := Nat.lt_of_lt_of_le LT12 hs3
 have HH3 := Lib.hid ((hb3.block _ LT02).trans HH2.out)
 have HZ3 := Lib.hid ((hb3.block _ LT12).trans HZ2.out)
 go_wp2_with (show wpList _ _ _ (Oper.mk (some 17) _ _ _ _ _ :: _) _ _; refine wpList_load_row_g rfl 29 (.tmp 3) rfl (w.heap.size) rfl _ _ _ _ HH3.out Tryz.underlying29 rfl (by rw [info_group]; exact congrArg some HGS.out.symm) ?_)
 refine (HFEW.out w3 hb03).mono ?_
 rintro e w4 ⟨bf, rfl, hf, hb4⟩
 have hb04 := hb03.trans (hb4.mono hb03.size)
 have hs4 := hb4.size
 have LT04 := Nat.lt_of_lt_of_le LT03 hs4
 have LT14 := Nat.lt_of_lt_of_le LT13 hs4
 have HH4 := Lib.hid ((hb4.block _ LT03).trans HH3.out)
 have HZ4 := Lib.hid ((hb4.block _ LT13).trans HZ3.out)
 cases bf with
 | false =>
  clear hf
  go_wp2_with fail
  go_ret
  exact ⟨rfl, hb04⟩
 | true =>
 have HFP := Lib.hid (show fewJ g l from HFWE.out ▸ hf rfl)
 clear hf
 have p0 := blk_cell HZ4.out 0
 have p1 := blk_cell HZ4.out 1
 have p2 := blk_cell HZ4.out 2
 go_wp2_with (show wpList _ _ _ (Oper.mk (some 22) _ _ _ _ _ :: _) _ _; refine wpList_load_row_g rfl 29 (.tmp 3) rfl (w.heap.size) rfl _ _ _ _ HH4.out Tryz.underlying29 rfl (by rw [info_group]; exact congrArg some HGS.out.symm) ?_)
 refine (HMO.out w4 hb04 HFP.out).mono ?_
 rintro e w5 ⟨r, rfl, hr, hb5⟩
 have HR := Lib.hid hr
 clear hr p0 p1 p2
 have hb05 := hb04.trans (hb5.mono hb04.size)
 have hs5 := hb5.size
 have LT05 := Nat.lt_of_lt_of_le LT04 hs5
 have LT15 := Nat.lt_of_lt_of_le LT14 hs5
 have HH5 := Lib.hid ((hb5.block _ LT04).trans HH4.out)
 have HZ5 := Lib.hid ((hb5.block _ LT14).trans HZ4.out)
 obtain ⟨v0, hv0⟩ : ∃ v, (if r = 0 then turnE qD g l pe pa (perN pw) + turnE qC g l pe pa (perN pw) else 0) = v := ⟨_, rfl⟩
 have HV0 := Lib.hid hv0
 rw [hv0]
 clear hv0
 have p0 := blk_cell HZ5.out 0
 have p1 := blk_cell HZ5.out 1
 have p2 := blk_cell HZ5.out 2
 go_wp2_with (show wpList _ _ _ (Oper.mk (some 34) _ _ _ _ _ :: _) _ _; refine wpList_load_row_g rfl 29 (.tmp 3) rfl (w.heap.size) rfl _ _ _ _ HH5.out Tryz.underlying29 rfl (by rw [info_group]; exact congrArg some HGS.out.symm) ?_)
 refine (HTU.out w5 hb05 HFP.out).mono ?_
 rintro e w6 ⟨r2, rfl, hr2, hb6⟩
 obtain rfl : r = r2 := HR.out.uniq hr2
 clear hr2 p0 p1 p2
 have hb06 := hb05.trans (hb6.mono hb05.size)
 have hs6 := hb6.size
 have LT06 := Nat.lt_of_lt_of_le LT05 hs6
 have LT16 := Nat.lt_of_lt_of_le LT15 hs6
 have HH6 := Lib.hid ((hb6.block _ LT05).trans HH5.out)
 have HZ6 := Lib.hid ((hb6.block _ LT15).trans HZ5.out)
 obtain ⟨v1, hv1⟩ : ∃ v, (if r = 0 then turnE qD g l pe pa (perN pw) else 0) = v := ⟨_, rfl⟩
 have HV1 := Lib.hid hv1
 obtain ⟨v2, hv2⟩ : ∃ v, (if r = 0 then turnE qC g l pe pa (perN pw) else 0) = v := ⟨_, rfl⟩
 have HV2 := Lib.hid hv2
 rw [hv1, hv2]
 clear hv1 hv2
 have p0 := blk_cell HZ6.out 0
 have p1 := blk_cell HZ6.out 1
 have p2 := blk_cell HZ6.out 2
 go_wp2_with (show wpList _ _ _ (Oper.mk (some 47) _ _ _ _ _ :: _) _ _; refine wpList_load_row_g rfl 29 (.tmp 3) rfl (w.heap.size) rfl _ _ _ _ HH6.out Tryz.underlying29 rfl (by rw [info_group]; exact congrArg some HGS.out.symm) ?_)
 refine (HRT.out w6 hb06 HFP.out).mono ?_
 rintro e w7 ⟨r3, rfl, hr3, hb7⟩
 obtain rfl : r = r3 := HR.out.uniq hr3
 rw [HV1.out, HV2.out]
 have hb07 := hb06.trans (hb7.mono hb06.size)
 have HS := Lib.hid (show v0 = v1 + v2 ∧ (-4503599627370496 ≤ v1 ∧ v1 ≤ 4503599627370496) ∧ (-4503599627370496 ≤ v2 ∧ v2 ≤ 4503599627370496) ∧ 0 ≤ v1 ∧ v2 ≤ 0 by
  rw [← HV0.out, ← HV1.out, ← HV2.out]
  by_cases h0 : r = 0
  · subst h0
    have h1 := turn_bd qD qD_bd (bchk_valid HR.out) (by have := HFP.out.2.1; omega) pe pa (perN pw)
    have h2 := turn_bd qC qC_bd (bchk_valid HR.out) (by have := HFP.out.2.1; omega) pe pa (perN pw)
    rw [if_pos rfl, if_pos rfl, if_pos rfl]
    exact ⟨rfl, h1, h2, deb_pos _ _ _ _ _, cre_neg _ _ _ _ _⟩
  · rw [if_neg h0, if_neg h0, if_neg h0]
    omega)
 obtain ⟨e0, ⟨l1, l2⟩, ⟨l3, l4⟩, l5, l6⟩ := HS.out
 have e1 : (v0 == v1 + v2) = true := by simpa using e0
 have e2 : decide (v1 ≥ 0) = true := decide_eq_true l5
 have e3 : decide (0 ≤ v1) = true := decide_eq_true l5
 have e4 : decide (v2 ≤ 0) = true := decide_eq_true l6
 have e5 : -9223372036854775808 ≤ v1 + v2 := by omega
 have e6 : v1 + v2 ≤ 9223372036854775807 := by omega
 clear hr3 p0 p1 p2 e0
 go_wp2_with fail
 go_ret
 exact ⟨rfl, hb07⟩
end Go.Proofs.YtebdajkknkapcaaGreat
namespace Go.Proofs.YtebdajkknkapcaaGreat
open Go Go.RowKit Go.Shelf
attribute [local go_sem] Oper.semAt_some
section
variable {F : Fence} {n : Nat} {ops : Array Oper} {rest : List Oper} {o : Oper} {a : Act} {Q : Exit → Act → World → Prop} {w : World}
end
def Span (pre : List (DL lineOk)) (lo hi : Int) : Prop := (pre = [] ∧ lo = 0 ∧ hi = -1) ∨ (1 ≤ lo ∧ lo ≤ hi ∧ hi ≤ 99999 ∧ ∀ z ∈ pre, lo ≤ z.1.2.account ∧ z.1.2.account ≤ hi)
theorem Span.first (z : DL lineOk) : Span ([] ++ [z]) (min z.1.2.account z.1.2.account) (max z.1.2.account z.1.2.account) := by
 have h1 := z.2.2
 refine .inr ⟨by omega, by omega, by omega, fun y hy => ?_⟩
 simp at hy; subst hy; omega
end Go.Proofs.YtebdajkknkapcaaGreat
namespace Go.Proofs.YtebdajkknkapcaaGreat
open Go Go.RowKit
section
variable {H : Type} {enc : TypeId × Value → H} {W : World}
theorem opPlace : Opens enc W 56 (CalC W (· < W.heap.size)) szCal := fun fuel cs x h hfz hz => by
 obtain ⟨xs, n, _, rfl, hcl, hxl, hf⟩ := DataW.trod_struct Tryz.underlying56 h
 have hcl2 : cs.length = 3 := hcl.trans (by kernel_rfl)
 have hw : ∀ (j : Nat) (t : TypeId) (y : DataW H × List MemPlace), ([3, 3, 3] : List TypeId)[j]? = some t → xs[j]? = some y → ∀ n ∈ y.1.weights Tryz.prog t, n ≤ reachBytes := fun j t y ht hy n hn => hz n (by
  simp only [DataW.weights, Tryz.underlying56]
  exact DataW.weights_mem_each (j := j) (t := t) (d := y.1) ht (by rw [List.getElem?_map, hy]; rfl) n hn)
 have h0 := hf 0 _ rfl
 obtain ⟨y0, hy0⟩ : ∃ y, xs[0]? = some y := ⟨_, List.getElem?_eq_getElem (by rw [hxl]; decide)⟩
 obtain ⟨a0, q0, z0⟩ := opInt _ _ _ (h0.trans hy0) (fun b off hb => hfz b off (List.mem_flatMap.2 ⟨y0, List.mem_of_getElem? hy0, hb⟩)) (hw 0 _ y0 rfl hy0)
 have h1 := hf 1 _ rfl
 obtain ⟨y1, hy1⟩ : ∃ y, xs[1]? = some y := ⟨_, List.getElem?_eq_getElem (by rw [hxl]; decide)⟩
 obtain ⟨a1, q1, z1⟩ := opInt _ _ _ (h1.trans hy1) (fun b off hb => hfz b off (List.mem_flatMap.2 ⟨y1, List.mem_of_getElem? hy1, hb⟩)) (hw 1 _ y1 rfl hy1)
 have h2 := hf 2 _ rfl
 obtain ⟨y2, hy2⟩ : ∃ y, xs[2]? = some y := ⟨_, List.getElem?_eq_getElem (by rw [hxl]; decide)⟩
 obtain ⟨a2, q2, z2⟩ := opInt _ _ _ (h2.trans hy2) (fun b off hb => hfz b off (List.mem_flatMap.2 ⟨y2, List.mem_of_getElem? hy2, hb⟩)) (hw 2 _ y2 rfl hy2)
 refine ⟨⟨a0, a1, a2⟩, ⟨_, _, _, ?_, q0, q1, q2⟩, trivial⟩
 have e0 : (cs.drop 0).take (Tryz.prog.cellsOf 3) = (cs.drop 0).take 1 := by rw [show Tryz.prog.cellsOf 3 = 1 from by kernel_rfl]
 have e1 : (cs.drop 1).take (Tryz.prog.cellsOf 3) = (cs.drop 1).take 1 := by rw [show Tryz.prog.cellsOf 3 = 1 from by kernel_rfl]
 have e2 : (cs.drop 2).take (Tryz.prog.cellsOf 3) = (cs.drop 2).take 1 := by rw [show Tryz.prog.cellsOf 3 = 1 from by kernel_rfl]
 show cs = (cs.drop 0).take (Tryz.prog.cellsOf 3) ++ (cs.drop 1).take (Tryz.prog.cellsOf 3) ++ (cs.drop 2).take (Tryz.prog.cellsOf 3)
 rw [e0, e1, e2]
 have z : cs = cs.drop 0 := rfl
 have t0 := take_drop_one cs 0 1
 have t1 := take_drop_one cs 1 1
 have t2 := take_drop_one cs 2 1
 have tn : cs.drop 3 = [] := List.drop_eq_nil_of_le (by omega)
 simp only [Nat.reduceAdd] at t0 t1 t2
 have r2 := t2.trans (by rw [tn, List.append_nil])
 have r1 := t1.trans (congrArg (_ ++ ·) r2)
 have r0 := t0.trans (congrArg (_ ++ ·) r1)
 refine z.trans (r0.trans ?_)
 simp only [List.append_assoc]
end
end Go.Proofs.YtebdajkknkapcaaGreat
