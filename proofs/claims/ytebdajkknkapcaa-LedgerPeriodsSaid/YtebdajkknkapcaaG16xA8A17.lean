/- The error of entries, an entity, a period and an account (ledger.books.check). Written by gen_a8.py. -/
import Derived.Test.YtebdajkknkapcaaG16xB0B3
import Derived.Test.YtebdajkknkapcaaG16xB4B10
import Derived.Test.YtebdajkknkapcaaG16xB12B14
import Derived.Test.YtebdajkknkapcaaG16xB15S0
import Derived.Test.YtebdajkknkapcaaG16xB21B27
import Derived.Test.YtebdajkknkapcaaG16xB28S2
import Derived.Test.YtebdajkknkapcaaG16xS3C3
import Derived.Test.YtebdajkknkapcaaG16xC4E3
import Derived.Test.YtebdajkknkapcaaG16xE5F8
import Derived.Test.YtebdajkknkapcaaG16xF9I7
import Derived.Test.YtebdajkknkapcaaG16xI8I14
import Derived.Test.YtebdajkknkapcaaG16xI15
import Derived.Test.YtebdajkknkapcaaG16xI16
import Derived.Test.YtebdajkknkapcaaG16xI19Q2
import Derived.Test.YtebdajkknkapcaaG16xK1A7
import Derived.Test.YtebdajkknkapcaaProg
import Derived.Great.BuildSlice
set_option linter.unusedVariables false
set_option linter.unusedSimpArgs false
set_option maxRecDepth 4000
attribute [local go_sem ↓] Go.wp_at_zero Go.wp_at_succ
namespace Go.Proofs.Ytebdajkknkapcaa
open Go Go.RowKit
def chartE (g : XGroup) (ent : Int) : List XAccount := (g.entities.getD ent.toNat {}).chart
def chkR (g : XGroup) (ent period acc : Int) (ch : Bool) : Int :=
 if ent < 0 ∨ (g.entities.length : Int) ≤ ent then 2 else if period ≠ -4611686018427387904 ∧ (calFirst g.calendar.year g.calendar.month g.calendar.periods period).2 ≠ 0 then 2 else if ch = true ∧ (findA (chartE g ent) acc).isSome = false then 17 else 0
def BChk (g : XGroup) (l : List XEntry) (ent period acc : Int) (ch : Bool) (r : Int) : Prop := (¬ validJ g l ∧ r = 1) ∨ (validJ g l ∧ r = chkR g ent period acc ch)
def BChkPost (g : XGroup) (l : List XEntry) (ent period acc : Int) (ch : Bool) (w : World) (e : Ending) (w' : World) : Prop := ∃ r, e = .returned (.int .i64 r) ∧ BChk g l ent period acc ch r ∧ Below w.heap.size w w'
theorem chk_ent {g : XGroup} {l : List XEntry} {ent period acc : Int} {ch : Bool} (hv : validJ g l) (h : ent < 0 ∨ (g.entities.length : Int) ≤ ent) : BChk g l ent period acc ch 2 := .inr ⟨hv, by unfold chkR; rw [if_pos h]⟩
theorem chk_per {g : XGroup} {l : List XEntry} {ent period acc : Int} {ch : Bool} (hv : validJ g l) (h : ¬ (ent < 0 ∨ (g.entities.length : Int) ≤ ent)) (h2 : period ≠ -4611686018427387904) (h3 : (calFirst g.calendar.year g.calendar.month g.calendar.periods period).2 ≠ 0) : BChk g l ent period acc ch 2 := .inr ⟨hv, by unfold chkR; rw [if_neg h, if_pos ⟨h2, h3⟩]⟩
theorem chk_acc {g : XGroup} {l : List XEntry} {ent period acc : Int} {ch : Bool} (hv : validJ g l) (h : ¬ (ent < 0 ∨ (g.entities.length : Int) ≤ ent)) (h2 : ¬ (period ≠ -4611686018427387904 ∧ (calFirst g.calendar.year g.calendar.month g.calendar.periods period).2 ≠ 0)) (h3 : ch = true) (h4 : (findA (chartE g ent) acc).isSome = false) : BChk g l ent period acc ch 17 := .inr ⟨hv, by unfold chkR; rw [if_neg h, if_neg h2, if_pos ⟨h3, h4⟩]⟩
theorem chk_ok {g : XGroup} {l : List XEntry} {ent period acc : Int} {ch : Bool} (hv : validJ g l) (h : ¬ (ent < 0 ∨ (g.entities.length : Int) ≤ ent)) (h2 : ¬ (period ≠ -4611686018427387904 ∧ (calFirst g.calendar.year g.calendar.month g.calendar.periods period).2 ≠ 0)) (h3 : ¬ (ch = true ∧ (findA (chartE g ent) acc).isSome = false)) : BChk g l ent period acc ch 0 := .inr ⟨hv, by unfold chkR; rw [if_neg h, if_neg h2, if_neg h3]⟩
theorem app_at {gl r : List Value} {i : Nat} {v : Value} (h : gl[i]? = some v) : (gl ++ r)[i]? = some v := by
 rw [List.getElem?_append_left (List.getElem?_eq_some_iff.1 h).1]; exact h
theorem bk_range {w : World} {b : Nat} {gl r : List Value} {T : TypeId} (h : w.heap[b]? = some (.cells (gl ++ r).toArray T (0, 0))) : w.rangeAt b 0 gl := fun j v hj => by
 have := blk_cell h (0 + j)
 rw [this, Nat.zero_add, List.getElem?_toArray]
 exact app_at hj
set_option maxHeartbeats 4000000 in
theorem bcheck_c (g : XGroup) (l : List XEntry) (gl : List Value) (A : Option Addr) (c : Nat) (ent period acc : Int) (ch : Bool) (w : World) (hg : GroupC w (· < w.heap.size) gl g) (hl : ListC EntryC 7 w (· < w.heap.size) [.slice A l.length c] l) (hsm : smallG g) (hmo : modest l) (hacc : intBd acc) :
 Calls Try.prog 77 #[.agg (gl ++ ([.slice A l.length c, .int .i64 ent] : List Value)).toArray, .int .i64 period, .int .i64 acc, .bool ch] w (BChkPost g l ent period acc ch w) := by
 have HJC := Lib.hid (fun (w2 : World) (hb : Below w.heap.size w w2) => jcheck_c g l gl A c w2 (hg.keep hb) (entries_keep hl hb) hsm hmo)
 have HGI := Lib.hid (show (Try.prog.info? 29).map (·.size) = some gl.length by rw [info_group, hg.len])
 obtain ⟨Ac, cc, Ae, ce, hl21, h20, _, h1, h2, h3, _, hen⟩ := hg.view
 have K1 := app_at (r := [.slice A l.length c, .int .i64 ent]) h1
 have K2 := app_at (r := [.slice A l.length c, .int .i64 ent]) h2
 have K3 := app_at (r := [.slice A l.length c, .int .i64 ent]) h3
 have K20 := app_at (r := [.slice A l.length c, .int .i64 ent]) h20
 have K21 : (gl ++ ([.slice A l.length c, .int .i64 ent] : List Value))[21]? = some (.slice A l.length c) := by rw [List.getElem?_append_right (by omega)]; simp [hl21]
 have K22 : (gl ++ ([.slice A l.length c, .int .i64 ent] : List Value))[22]? = some (.int .i64 ent) := by rw [List.getElem?_append_right (by omega)]; simp [hl21]
 have HEN := Lib.hid hen
 have HSM := Lib.hid hsm
 have HACC := Lib.hid hacc
 obtain ⟨n, hn⟩ : ∃ n, l.length = n := ⟨_, rfl⟩
 rw [hn] at HJC K1 K2 K3 K20 K21 K22 ⊢
 obtain ⟨ne, hne⟩ : ∃ n, g.entities.length = n := ⟨_, rfl⟩
 have HNE := Lib.hid hne
 rw [hne] at K20
 have hne1 : ne ≤ 1000 := by rw [← hne]; exact hsm.2.1
 obtain ⟨fp, hfp⟩ : ∃ p, calFirst g.calendar.year g.calendar.month g.calendar.periods period = p := ⟨_, rfl⟩
 have HFP := Lib.hid hfp
 have HCF := Lib.hid (fun w2 : World => calFirst_c g.calendar.year g.calendar.month g.calendar.periods period w2)
 rw [hfp] at HCF
 obtain ⟨p1, pe⟩ := fp
 obtain ⟨BL, hBL⟩ : ∃ BL, gl ++ ([.slice A n c, .int .i64 ent] : List Value) = BL := ⟨_, rfl⟩
 have HBL := Lib.hid hBL
 rw [hBL] at K1 K2 K3 K20 K21 K22 ⊢
 have K1 := Lib.hid K1
 have K2 := Lib.hid K2
 have K3 := Lib.hid K3
 have K20 := Lib.hid K20
 have K21 := Lib.hid K21
 have K22 := Lib.hid K22
 clear hg hl hsm hmo hacc h20 h1 h2 h3 hen hn hne hfp hBL hl21
 go_enter Try.func77, Try.ntmps77
 go_upto_region 1 with fail
 have H1 := heap_alloc_new w (.cells BL.toArray 125)
 have HB1 := below1 w (.cells BL.toArray 125)
 have HS1 := blk_lt H1
 generalize hW1 : w.alloc (Obj.cells BL.toArray 125) = W at *
 clear hW1
 have HK := Lib.hid H1
 have HB1h := Lib.hid HB1
 have HGR := Lib.hid (show W.rangeAt w.heap.size 0 gl from bk_range (r := [.slice A n c, .int .i64 ent]) (by rw [HBL.out]; exact H1))
 have c21 := (blk_cell H1 21).trans (show BL.toArray[21]? = some (.slice A n c) by rw [List.getElem?_toArray]; exact K21.out)
 clear H1
 go_wp2_with (show wpList _ _ _ (Oper.mk (some 17) _ _ _ _ _ :: _) _ _; refine wpList_load_mid rfl 29 (.tmp 16) rfl w.heap.size 0 rfl gl _ HGR.out Try.underlying29 rfl HGI.out ?_)
 refine (HJC.out W HB1).mono ?_
 rintro e w2 ⟨ji, jc, rfl, hv, hb2⟩
 have hb02 := HB1h.out.trans (hb2.mono HB1h.out.size)
 have HB02 := Lib.hid hb02
 have HK2 := Lib.hid ((hb2.block _ HS1).trans HK.out)
 have HV := Lib.hid hv
 clear hb2 hb02 hv c21
 by_cases hj0 : jc = 0
 case neg =>
  have hjb : (jc != 0) = true := by simpa using hj0
  have HNV := Lib.hid (show ¬ validJ g l from fun h => hj0 (HV.out.2 h))
  clear hj0
  go_wp2_with fail
  go_ret
  exact ⟨1, rfl, .inl ⟨HNV.out, rfl⟩, HB02.out⟩
 case pos =>
 have hjb : (jc != 0) = false := by simpa using hj0
 have HVA := Lib.hid (HV.out.1 hj0)
 clear hj0
 have c22 := (blk_cell HK2.out 22).trans (show BL.toArray[22]? = some (.int .i64 ent) by rw [List.getElem?_toArray]; exact K22.out)
 have c20 := (blk_cell HK2.out 20).trans (show BL.toArray[20]? = some (.slice Ae ne ce) by rw [List.getElem?_toArray]; exact K20.out)
 have HCR := Lib.hid (cal_range HK2.out K1.out K2.out K3.out)
 by_cases h1 : ent < 0
 case pos =>
  have h1d : decide (ent < 0) = true := decide_eq_true h1
  have HR := Lib.hid (chk_ent (period := period) (acc := acc) (ch := ch) HVA.out (.inl h1))
  clear h1
  go_wp2_with fail
  go_ret
  exact ⟨2, rfl, HR.out, HB02.out⟩
 case neg =>
 have h1d : decide (ent < 0) = false := decide_eq_false h1
 by_cases h2 : (ne : Int) ≤ ent
 case pos =>
  have h2d : decide (ent ≥ (ne : Int)) = true := decide_eq_true h2
  have h2e : decide ((ne : Int) ≤ ent) = true := decide_eq_true h2
  have HR := Lib.hid (chk_ent (period := period) (acc := acc) (ch := ch) HVA.out (.inr (by rw [HNE.out]; exact h2)))
  clear h1 h2
  go_wp2_with fail
  go_ret
  exact ⟨2, rfl, HR.out, HB02.out⟩
 case neg =>
 have h2d : decide (ent ≥ (ne : Int)) = false := decide_eq_false h2
 have h2e : decide ((ne : Int) ≤ ent) = false := decide_eq_false h2
 have HIN := Lib.hid (show ¬ (ent < 0 ∨ (g.entities.length : Int) ≤ ent) by rw [HNE.out]; omega)
 obtain ⟨q, rfl⟩ : ∃ q : Nat, ent = (q : Int) := ⟨ent.toNat, by omega⟩
 have hq : q < ne := by omega
 clear h1 h2
 have hqd : decide (ne ≤ q) = false := decide_eq_false (by omega)
 have hqe : q < g.entities.length := by rw [HNE.out]; exact hq
 obtain ⟨be, oe, es, hAe, hbe, hes, hat⟩ := ListC.get HEN.out q hqe
 subst hAe
 obtain ⟨Ec, c2, Al2, cl2, hes1, hch, hlk⟩ := EntityC.lit hes
 have hn2 := (HSM.out.2.2.2 _ (List.getElem_mem hqe)).1
 have hce : chartE g (q : Int) = g.entities[q].chart := by
  unfold chartE
  rw [Int.toNat_natCast, List.getD_eq_getElem?_getD, List.getElem?_eq_getElem hqe]; rfl
 obtain ⟨ec, hec⟩ : ∃ ec, g.entities[q].chart = ec := ⟨_, rfl⟩
 rw [hec] at hes1 hch hn2 hce
 obtain ⟨n2, hn2'⟩ : ∃ n, ec.length = n := ⟨_, rfl⟩
 rw [hn2'] at hes1
 subst hes1
 have HN2 := Lib.hid hn2'
 have HN3 := Lib.hid hn2
 have HCH := Lib.hid hch
 have HDE := Lib.hid (hat.c (j := 2) rfl)
 have HBE := Lib.hid hbe
 have HCE := Lib.hid hce
 obtain ⟨ao, hao⟩ : ∃ a, accO (findA ec acc) = a := ⟨_, rfl⟩
 obtain ⟨a1, a2, a3, a4⟩ := ao
 have HFO := Lib.hid hao
 obtain ⟨fs, hfs⟩ : ∃ s, (findA ec acc).isSome = s := ⟨_, rfl⟩
 have HFS := Lib.hid hfs
 have HFE := Lib.hid (show (findA (chartE g (q : Int)) acc).isSome = fs by rw [hce]; exact hfs)
 have hqI : (q : Int) < (ne : Int) := by omega
 clear hfs hao hn2' hn2 hch hat hbe hes hlk hec hce hqe
 by_cases hpn : period = -4611686018427387904
 case pos =>
  have HPN := Lib.hid (show ¬ (period ≠ -4611686018427387904 ∧ (calFirst g.calendar.year g.calendar.month g.calendar.periods period).2 ≠ 0) from fun h => h.1 hpn)
  have hpb : (period != -4611686018427387904) = false := by simpa using hpn
  have hbw := HB02.out
  have hd22 := c22
  clear hpn
  have hde := (hbw.cell (p := ⟨be, oe + q * 5 + 2, none⟩) HBE.out).trans HDE.out
  have HBW := Lib.hid hbw
  clear hbw
  cases ch with
  | false =>
   have HR := Lib.hid (chk_ok (acc := acc) (ch := false) HVA.out HIN.out HPN.out (fun h => by cases h.1))
   go_wp2_with fail
   go_ret
   exact ⟨0, rfl, HR.out, HBW.out⟩
  | true =>
   have HFN := Lib.hid (find_n (w := w2) HN2.out (chart_keep HCH.out HBW.out) HN3.out acc HACC.out HFO.out HFS.out)
   cases fs with
   | false =>
    have HR := Lib.hid (chk_acc (acc := acc) (ch := true) HVA.out HIN.out HPN.out rfl HFE.out)
    go_wp2_with (first | (go_at_call 120; refine HFN.out.mono ?_; rintro e w5 ⟨rfl, h5⟩; have H5 := Lib.hid h5; clear h5) | (show wpList _ _ _ (Oper.mk none (Op.store _ (Operand.tmp 13) _) _ _ _ _ :: _) _ _; refine wpList_store_fresh3 rfl 152 (.tmp 13) (.tmp 61) rfl rfl w5 #[.int .i64 0, .int .i64 0, .int .i64 0, .int .i64 0] 152 #[.int .i64 a1, .int .i64 a2, .int .i64 a3, .int .i64 a4] rfl rfl rfl (info_accS ⟨a1, a2, a3, a4⟩) rfl (by simp [Value.oneCell']) ?_; intro w6 H6 HB6 HS6))
    go_ret
    exact ⟨17, rfl, HR.out, HBW.out.trans ((H5.out.trans (HB6.mono H5.out.size)).mono HBW.out.size)⟩
   | true =>
    have HR := Lib.hid (chk_ok (acc := acc) (ch := true) HVA.out HIN.out HPN.out (fun h => by rw [HFE.out] at h; cases h.2))
    go_wp2_with (first | (go_at_call 120; refine HFN.out.mono ?_; rintro e w5 ⟨rfl, h5⟩; have H5 := Lib.hid h5; clear h5) | (show wpList _ _ _ (Oper.mk none (Op.store _ (Operand.tmp 13) _) _ _ _ _ :: _) _ _; refine wpList_store_fresh3 rfl 152 (.tmp 13) (.tmp 61) rfl rfl w5 #[.int .i64 0, .int .i64 0, .int .i64 0, .int .i64 0] 152 #[.int .i64 a1, .int .i64 a2, .int .i64 a3, .int .i64 a4] rfl rfl rfl (info_accS ⟨a1, a2, a3, a4⟩) rfl (by simp [Value.oneCell']) ?_; intro w6 H6 HB6 HS6))
    go_ret
    exact ⟨0, rfl, HR.out, HBW.out.trans ((H5.out.trans (HB6.mono H5.out.size)).mono HBW.out.size)⟩
 case neg =>
  have hpb : (period != -4611686018427387904) = true := by simpa using hpn
  go_wp2_with (show wpList _ _ _ (Oper.mk (some 42) _ _ _ _ _ :: _) _ _; refine wpList_load_mid rfl 23 (.tmp 41) rfl w.heap.size 1 rfl [.int .i64 g.calendar.year, .int .i64 g.calendar.month, .int .i64 g.calendar.periods] _ HCR.out Try.underlying23 rfl info_cal ?_)
  refine (HCF.out w2).mono ?_
  rintro e w3 ⟨rfl, hb3⟩
  have hb03 := HB02.out.trans (hb3.mono HB02.out.size)
  have HB03 := Lib.hid hb03
  have HK3 := Lib.hid ((hb3.block _ (blk_lt HK2.out)).trans HK2.out)
  clear hb3 hb03 c22 c20
  by_cases hp0 : pe = 0
  case neg =>
   have hpeb : (pe != 0) = true := by simpa using hp0
   have HR := Lib.hid (chk_per (acc := acc) (ch := ch) HVA.out HIN.out hpn (by rw [HFP.out]; exact hp0))
   clear hpn hp0
   go_wp2_with fail
   go_ret
   exact ⟨2, rfl, HR.out, HB03.out⟩
  case pos =>
  have hpeb : (pe != 0) = false := by simpa using hp0
  have HPN := Lib.hid (show ¬ (period ≠ -4611686018427387904 ∧ (calFirst g.calendar.year g.calendar.month g.calendar.periods period).2 ≠ 0) from fun h => h.2 (by rw [HFP.out]; exact hp0))
  clear hpn hp0
  have c20 := (blk_cell HK3.out 20).trans (show BL.toArray[20]? = some (.slice (some ⟨be, oe, none⟩) ne ce) by rw [List.getElem?_toArray]; exact K20.out)
  have hd22 := (blk_cell HK3.out 22).trans (show BL.toArray[22]? = some (.int .i64 (q : Int)) by rw [List.getElem?_toArray]; exact K22.out)
  have hbw := HB03.out
  have hde := (hbw.cell (p := ⟨be, oe + q * 5 + 2, none⟩) HBE.out).trans HDE.out
  have HBW := Lib.hid hbw
  clear hbw
  cases ch with
  | false =>
   have HR := Lib.hid (chk_ok (acc := acc) (ch := false) HVA.out HIN.out HPN.out (fun h => by cases h.1))
   go_wp2_with fail
   go_ret
   exact ⟨0, rfl, HR.out, HBW.out⟩
  | true =>
   have HFN := Lib.hid (find_n (w := w3) HN2.out (chart_keep HCH.out HBW.out) HN3.out acc HACC.out HFO.out HFS.out)
   cases fs with
   | false =>
    have HR := Lib.hid (chk_acc (acc := acc) (ch := true) HVA.out HIN.out HPN.out rfl HFE.out)
    go_wp2_with (first | (go_at_call 120; refine HFN.out.mono ?_; rintro e w5 ⟨rfl, h5⟩; have H5 := Lib.hid h5; clear h5) | (show wpList _ _ _ (Oper.mk none (Op.store _ (Operand.tmp 13) _) _ _ _ _ :: _) _ _; refine wpList_store_fresh3 rfl 152 (.tmp 13) (.tmp 61) rfl rfl w5 #[.int .i64 0, .int .i64 0, .int .i64 0, .int .i64 0] 152 #[.int .i64 a1, .int .i64 a2, .int .i64 a3, .int .i64 a4] rfl rfl rfl (info_accS ⟨a1, a2, a3, a4⟩) rfl (by simp [Value.oneCell']) ?_; intro w6 H6 HB6 HS6))
    go_ret
    exact ⟨17, rfl, HR.out, HBW.out.trans ((H5.out.trans (HB6.mono H5.out.size)).mono HBW.out.size)⟩
   | true =>
    have HR := Lib.hid (chk_ok (acc := acc) (ch := true) HVA.out HIN.out HPN.out (fun h => by rw [HFE.out] at h; cases h.2))
    go_wp2_with (first | (go_at_call 120; refine HFN.out.mono ?_; rintro e w5 ⟨rfl, h5⟩; have H5 := Lib.hid h5; clear h5) | (show wpList _ _ _ (Oper.mk none (Op.store _ (Operand.tmp 13) _) _ _ _ _ :: _) _ _; refine wpList_store_fresh3 rfl 152 (.tmp 13) (.tmp 61) rfl rfl w5 #[.int .i64 0, .int .i64 0, .int .i64 0, .int .i64 0] 152 #[.int .i64 a1, .int .i64 a2, .int .i64 a3, .int .i64 a4] rfl rfl rfl (info_accS ⟨a1, a2, a3, a4⟩) rfl (by simp [Value.oneCell']) ?_; intro w6 H6 HB6 HS6))
    go_ret
    exact ⟨0, rfl, HR.out, HBW.out.trans ((H5.out.trans (HB6.mono H5.out.size)).mono HBW.out.size)⟩
theorem all_range {p : Nat → Bool} {n k : Nat} (h : (List.range n).all p = true) (hk : k < n) : p k = true := List.all_eq_true.1 h k (List.mem_range.2 hk)
theorem group_chart {g : XGroup} (h : groupB g = true) {q : Nat} (hq : q < g.entities.length) : chartB g.entities[q].chart false = true := by
 unfold groupB at h
 simp only [Bool.and_eq_true] at h
 have h1 := h.2
 unfold entsB at h1
 have h2 := all_range h1 hq
 unfold entRow at h2
 rw [List.getElem?_eq_getElem hq] at h2
 simp only [Bool.and_eq_true] at h2
 have h3 := h2.2
 unfold entityB at h3
 simp only [Bool.and_eq_true] at h3
 have h4 := h3.1.2
 unfold mappingB at h4
 simp only [Bool.and_eq_true] at h4
 exact h4.1.1.2
theorem chart_field {ch : List XAccount} {b : Bool} (h : chartB ch b = true) {a : XAccount} (ha : a ∈ ch) : 1 ≤ a.code ∧ a.code ≤ 99999 := by
 unfold chartB at h
 simp only [Bool.and_eq_true] at h
 obtain ⟨k, hk, rfl⟩ := List.getElem_of_mem ha
 have h2 := all_range h.1 hk
 unfold rowP at h2
 rw [List.getElem?_eq_getElem hk] at h2
 simp only [Bool.and_eq_true] at h2
 have h3 := h2.2
 unfold properP at h3
 simp only [Bool.and_eq_true] at h3
 have h4 := h3.1
 unfold fieldB at h4
 simp only [Bool.and_eq_true, decide_eq_true_eq] at h4
 exact ⟨h4.1.1, h4.1.2.1⟩
theorem find_code {ch : List XAccount} {b : Bool} (h : chartB ch b = true) {c : Int} (hf : (findA ch c).isSome = true) : 1 ≤ c ∧ c ≤ 99999 := by
 obtain ⟨a, ha⟩ := Option.isSome_iff_exists.1 hf
 obtain ⟨h1, h2⟩ := findA_mem ha
 have := chart_field h h1
 omega
theorem chartE_at {g : XGroup} {q : Nat} (hq : q < g.entities.length) : chartE g (q : Int) = g.entities[q].chart := by
 unfold chartE
 rw [Int.toNat_natCast, List.getD_eq_getElem?_getD, List.getElem?_eq_getElem hq]; rfl
theorem valid_formed {g : XGroup} {l : List XEntry} (h : validJ g l) {x : XEntry} (hx : x ∈ l) : Formed (groupB g) g.entities.length x := (formB_iff _ _ _).1 (checkE_form (okJ_check h.2 hx))
theorem valid_charted {g : XGroup} {l : List XEntry} (h : validJ g l) {x : XEntry} (hx : x ∈ l) : chartedB (chartE g x.entity) x.lines = true ∧ inCalB g.calendar.year g.calendar.month g.calendar.periods x.date = true ∧ sumL x.lines = 0 := by
 have h1 := okJ_check h.2 hx
 unfold checkE at h1
 unfold chartE
 split at h1
 · split at h1
   · split at h1
     · split at h1
       · exact ⟨‹_›, ‹_›, ‹_›⟩
       · cases h1
     · cases h1
   · cases h1
 · cases h1
theorem valid_line {g : XGroup} {l : List XEntry} (h : validJ g l) {x : XEntry} (hx : x ∈ l) {y : XLine} (hy : y ∈ x.lines) : lineOk x.date y ∧ (findA (chartE g x.entity) y.account).isSome = true := by
 have h1 := valid_formed h hx
 have h2 := (valid_charted h hx).1
 obtain ⟨_, _, h3, h4, _, _, _, _, _, _, _, h5⟩ := h1
 obtain ⟨q, hq⟩ : ∃ q : Nat, x.entity = (q : Int) := ⟨x.entity.toNat, by omega⟩
 have hqe : q < g.entities.length := by omega
 unfold chartedB at h2
 rw [List.all_eq_true] at h2
 have h6 := h2 y hy
 have h7 := h6
 rw [hq, chartE_at hqe] at h7
 have h8 := find_code (group_chart h.1 hqe) h7
 have h9 := ((lineB_iff _ _ _).1 (h5 y hy)).2.1
 unfold monB at h9
 rw [decide_eq_true_eq] at h9
 exact ⟨⟨by omega, h8.1, h8.2⟩, h6⟩
theorem valid_lines {g : XGroup} {l : List XEntry} (h : validJ g l) {x : XEntry} (hx : x ∈ l) : x.lines.length ≤ 40 := (valid_formed h hx).2.2.2.2.2.2.2.2.2.2.1
theorem linesD_len {l : List XEntry} (ent d : Int) (h : ∀ x ∈ l, x.lines.length ≤ 40) : (linesD l ent d).length ≤ 40 * l.length := by
 induction l with
 | nil => simp [linesD]
 | cons x l ih =>
  have h1 := ih (fun z hz => h z (List.mem_cons_of_mem _ hz))
  have h2 := h x (List.mem_cons_self ..)
  have h3 : (linesD (x :: l) ent d).length = (if x.entity = ent ∧ x.date ≤ d then x.lines.map (fun y => (x.date, y)) else []).length + (linesD l ent d).length := by simp [linesD]
  rw [h3, List.length_cons]
  split
  · rw [List.length_map]; omega
  · simp only [List.length_nil]; omega
theorem sum_bal (l : List XEntry) (ent acc d : Int) : sumPd (fun _ _ => true) acc (linesD l ent d) = sumE (qB d) l ent acc := by
 rw [sumPd_D]
 exact sumE_congr ent acc (fun x _ _ y _ => by simp only [qB, and_true])
theorem sum_deb (l : List XEntry) (ent acc a b : Int) : sumPd (fun t n => decide (a ≤ t) && decide (0 < n)) acc (linesD l ent b) = sumE (qD a b) l ent acc := by
 rw [sumPd_D]
 refine sumE_congr ent acc (fun x _ _ y _ => ?_)
 simp only [qD, Bool.and_eq_true, decide_eq_true_eq]
 by_cases h1 : a ≤ x.date ∧ x.date ≤ b
 · rw [if_pos h1]
   by_cases h2 : 0 < y.amount
   · rw [if_pos ⟨h1.2, h1.1, h2⟩]; omega
   · rw [if_neg (fun h => h2 h.2.2)]; omega
 · rw [if_neg h1, if_neg (fun h => h1 ⟨h.2.1, h.1⟩)]
theorem sum_cre (l : List XEntry) (ent acc a b : Int) : sumPd (fun t n => decide (a ≤ t) && decide (n < 0)) acc (linesD l ent b) = sumE (qC a b) l ent acc := by
 rw [sumPd_D]
 refine sumE_congr ent acc (fun x _ _ y _ => ?_)
 simp only [qC, Bool.and_eq_true, decide_eq_true_eq]
 by_cases h1 : a ≤ x.date ∧ x.date ≤ b
 · rw [if_pos h1]
   by_cases h2 : y.amount < 0
   · rw [if_pos ⟨h1.2, h1.1, h2⟩]; omega
   · rw [if_neg (fun h => h2 h.2.2)]; omega
 · rw [if_neg h1, if_neg (fun h => h1 ⟨h.2.1, h.1⟩)]
theorem GroupC.ones {w : World} {Q : Nat → Prop} {cs : List Value} {g : XGroup} (h : GroupC w Q cs g) : cs.all (·.oneCell') = true := by
 obtain ⟨Ac, cc, Ae, ce, e, _⟩ := h.lit
 subst e
 simp [grpL, Value.oneCell']
theorem GroupC.books {w : World} {Q : Nat → Prop} {cs : List Value} {g : XGroup} (h : GroupC w Q cs g) (A : Option Addr) (n c : Nat) (ent : Int) : Try.prog.built 125 [(0, .agg cs.toArray), (1, .slice A n c), (2, .int .i64 ent)] = some (cs ++ ([.slice A n c, .int .i64 ent] : List Value)).toArray := by
 obtain ⟨Ac, cc, Ae, ce, e, _⟩ := h.lit
 subst e
 kernel_rfl
theorem info_books : (Try.prog.info? 125).map (·.size) = some 23 := by kernel_rfl
end Go.Proofs.Ytebdajkknkapcaa
namespace Go.Proofs.Ytebdajkknkapcaa
open Go Go.RowKit Go.Shelf
section
attribute [local go_sem] Oper.semAt_some
theorem bal1_in (F : Fence) (n : Nat) (hF : F.fn 85) (hro : F.round = none) (w : World) : HoldsC F n w 85 #[] (fun _ _ => true) := fun t m W hW => by
 clear hW
 refine callsIn_of_wp Try.func85 rfl hF ?_ hro
 simp only [Try.ntmps85, List.size_toArray, List.length_cons, List.length_nil, Nat.reduceAdd, Nat.reduceSub, Array.replicate_succ, Array.replicate_zero, List.push_toArray, List.append_toArray, List.nil_append, List.cons_append]
 gi_wp2_with fail
 go_ret
 exact ⟨rfl, rfl⟩
set_option maxHeartbeats 1000000 in
theorem turn1_in (F : Fence) (n : Nat) (hF : F.fn 122) (hro : F.round = none) (b : Nat) (first : Int) (w : World) (hb : w.heap[b]? = some (.cells #[.int .i64 first] 3 (0, 0))) : HoldsC F n w 122 #[.pointer (some ⟨b, 0, none⟩)] (fun t m => decide (first ≤ t) && decide (0 < m)) := fun t m W hW => by
 have c0 := blk_cell ((hW.block _ (blk_lt hb)).trans hb) 0
 clear hW hb
 refine callsIn_of_wp Try.func122 rfl hF ?_ hro
 simp only [Try.ntmps122, List.size_toArray, List.length_cons, List.length_nil, Nat.reduceAdd, Nat.reduceSub, Array.replicate_succ, Array.replicate_zero, List.push_toArray, List.append_toArray, List.nil_append, List.cons_append]
 by_cases h1 : first ≤ t
 case neg =>
  have h1d : decide (first ≤ t) = false := decide_eq_false h1
  have h1e : decide (t ≥ first) = false := decide_eq_false h1
  have HQ := Lib.hid (show (decide (first ≤ t) && decide (0 < m)) = false by rw [h1d]; rfl)
  clear h1
  gi_wp2_with (with_reducible refine And.intro (fun f hf => by cases hf) ?_)
  go_ret
  exact ⟨by rw [HQ.out]; first | done | rfl, rfl⟩
 case pos =>
 have h1d : decide (first ≤ t) = true := decide_eq_true h1
 have h1e : decide (t ≥ first) = true := decide_eq_true h1
 by_cases h2 : 0 < m
 case neg =>
  have h2d : decide (0 < m) = false := decide_eq_false h2
  have h2e : decide (m > 0) = false := decide_eq_false h2
  have HQ := Lib.hid (show (decide (first ≤ t) && decide (0 < m)) = false by rw [h1d]; simp only [h2d, Bool.and_false])
  clear h1 h2
  gi_wp2_with fail
  go_ret
  exact ⟨by rw [HQ.out]; first | done | rfl, rfl⟩
 case pos =>
  have h2d : decide (0 < m) = true := decide_eq_true h2
  have h2e : decide (m > 0) = true := decide_eq_true h2
  have HQ := Lib.hid (show (decide (first ≤ t) && decide (0 < m)) = true by rw [h1d]; simp only [h2d, Bool.and_true])
  clear h1 h2
  gi_wp2_with fail
  go_ret
  exact ⟨by rw [HQ.out]; first | done | rfl, rfl⟩
set_option maxHeartbeats 1000000 in
theorem turn2_in (F : Fence) (n : Nat) (hF : F.fn 123) (hro : F.round = none) (b : Nat) (first : Int) (w : World) (hb : w.heap[b]? = some (.cells #[.int .i64 first] 3 (0, 0))) : HoldsC F n w 123 #[.pointer (some ⟨b, 0, none⟩)] (fun t m => decide (first ≤ t) && decide (m < 0)) := fun t m W hW => by
 have c0 := blk_cell ((hW.block _ (blk_lt hb)).trans hb) 0
 clear hW hb
 refine callsIn_of_wp Try.func123 rfl hF ?_ hro
 simp only [Try.ntmps123, List.size_toArray, List.length_cons, List.length_nil, Nat.reduceAdd, Nat.reduceSub, Array.replicate_succ, Array.replicate_zero, List.push_toArray, List.append_toArray, List.nil_append, List.cons_append]
 by_cases h1 : first ≤ t
 case neg =>
  have h1d : decide (first ≤ t) = false := decide_eq_false h1
  have h1e : decide (t ≥ first) = false := decide_eq_false h1
  have HQ := Lib.hid (show (decide (first ≤ t) && decide (m < 0)) = false by rw [h1d]; rfl)
  clear h1
  gi_wp2_with (with_reducible refine And.intro (fun f hf => by cases hf) ?_)
  go_ret
  exact ⟨by rw [HQ.out]; first | done | rfl, rfl⟩
 case pos =>
 have h1d : decide (first ≤ t) = true := decide_eq_true h1
 have h1e : decide (t ≥ first) = true := decide_eq_true h1
 by_cases h2 : m < 0
 case neg =>
  have h2d : decide (m < 0) = false := decide_eq_false h2
  have h2e : decide (m < 0) = false := decide_eq_false h2
  have HQ := Lib.hid (show (decide (first ≤ t) && decide (m < 0)) = false by rw [h1d]; simp only [h2d, Bool.and_false])
  clear h1 h2
  gi_wp2_with fail
  go_ret
  exact ⟨by rw [HQ.out]; first | done | rfl, rfl⟩
 case pos =>
  have h2d : decide (m < 0) = true := decide_eq_true h2
  have h2e : decide (m < 0) = true := decide_eq_true h2
  have HQ := Lib.hid (show (decide (first ≤ t) && decide (m < 0)) = true by rw [h1d]; simp only [h2d, Bool.and_true])
  clear h1 h2
  gi_wp2_with fail
  go_ret
  exact ⟨by rw [HQ.out]; first | done | rfl, rfl⟩
end
section
def BalPost (g : XGroup) (l : List XEntry) (ent acc d : Int) (w : World) (e : Ending) (w' : World) : Prop := ∃ r, e = .returned (.tuple #[.int .i64 (if r = 0 then sumE (qB d) l ent acc else 0), .int .i64 r]) ∧ BChk g l ent (-4611686018427387904) acc true r ∧ Below w.heap.size w w'
theorem bchk_valid {g : XGroup} {l : List XEntry} {ent period acc : Int} {ch : Bool} (h : BChk g l ent period acc ch 0) : validJ g l := by
 rcases h with h | h
 · exact absurd h.2 (by decide)
 · exact h.1
set_option maxHeartbeats 4000000 in
theorem balance_c (g : XGroup) (l : List XEntry) (gl : List Value) (A : Option Addr) (c : Nat) (ent acc d : Int) (w : World) (hg : GroupC w (· < w.heap.size) gl g) (hl : ListC EntryC 7 w (· < w.heap.size) [.slice A l.length c] l) (hsm : smallG g) (hmo : modest l) (hle : l.length ≤ 100) (hacc : intBd acc) : Calls Try.prog 46 #[.agg gl.toArray, .slice A l.length c, .int .i64 ent, .int .i64 acc, .int .i64 d] w (BalPost g l ent acc d w) := by
 have HCK := Lib.hid (fun (period : Int) (w2 : World) (hb : Below w.heap.size w w2) => bcheck_c g l gl A c ent period acc true w2 (hg.keep hb) (entries_keep hl hb) hsm hmo hacc)
 have HGS := Lib.hid (show gl.toArray.size = 21 by have := hg.len; simpa using this)
 have HGL := Lib.hid hg.len
 have HBU := Lib.hid (hg.books A l.length c ent)
 have HON := Lib.hid (show (gl ++ ([.slice A l.length c, .int .i64 ent] : List Value)).toArray.all (·.oneCell') = true by
  have h1 := hg.ones
  rw [List.all_toArray, List.all_append, h1]
  rfl)
 have HSZ := Lib.hid (show (gl ++ ([.slice A l.length c, .int .i64 ent] : List Value)).toArray.size = 23 by have := hg.len; simp; omega)
 have HSUM := Lib.hid (fun (h : Nat) (hb : Array Value) (eh : ∀ args w, (callFunc h args).run Try.prog w = .ok (.enter h args) w) (p : Int → Int → Bool) (d : Int) (w2 : World) (hbl : Below w.heap.size w w2) (hv : validJ g l) (hH : HoldsC Fence.wide 2 w2 h hb p) =>
  callsIn_wide.1 (bsum_in Fence.wide 5 trivial trivial trivial h hb trivial eh rfl (by omega) l A c ent acc d (gl ++ ([.slice A l.length c, .int .i64 ent] : List Value)).toArray p w2 (by have := hg.len; rw [List.getElem?_toArray, List.getElem?_append_right (by omega)]; simp [this]) (by have := hg.len; rw [List.getElem?_toArray, List.getElem?_append_right (by omega)]; simp [this])
   (entries_keep hl hbl) (fun x hx => by have := valid_lines hv hx; omega) (by omega) (fun x hx _ _ y hy => (valid_line hv hx hy).1) (by have := linesD_len (l := l) ent d (fun x hx => valid_lines hv hx); omega) hH))
 obtain ⟨BL, hBL⟩ : ∃ BL, (gl ++ ([.slice A l.length c, .int .i64 ent] : List Value)).toArray = BL := ⟨_, rfl⟩
 rw [hBL] at HCK HBU HON HSZ HSUM
 obtain ⟨n, hn⟩ : ∃ n, l.length = n := ⟨_, rfl⟩
 rw [hn] at HBU ⊢
 have HIB := Lib.hid (show (Try.prog.info? 125).map (·.size) = some BL.size by rw [info_books, HSZ.out])
 clear hg hl hsm hmo hle hacc hBL hn
 have HCK := Lib.hid (HCK.out (-4611686018427387904))
 have HSM1 := Lib.hid (fun (w2 : World) (hbl : Below w.heap.size w w2) (hv : validJ g l) => HSUM.out 85 #[] (enters_of Try.func85 (by kernel_rfl) rfl) (fun _ _ => true) d w2 hbl hv (bal1_in Fence.wide 2 trivial rfl w2))
 clear HSUM
 go_enter Try.func46, Try.ntmps46
 go_upto_region 1 with fail
 have H1 := heap_alloc_new w (.cells gl.toArray 29)
 have HB1 := below1 w (.cells gl.toArray 29)
 have HS1 := blk_lt H1
 generalize hW1 : w.alloc (Obj.cells gl.toArray 29) = W at *
 clear hW1
 have HK := Lib.hid H1
 have HB1h := Lib.hid HB1
 clear H1
 go_wp2_with (first | (show wpList _ _ _ (Oper.mk (some 14) _ _ _ _ _ :: _) _ _; refine wpList_load_row_g rfl 29 (.tmp 5) rfl (w.heap.size) rfl _ _ _ _ HK.out Try.underlying29 rfl (by rw [info_group]; exact congrArg some HGS.out.symm) ?_) | (show wpList _ _ _ (Oper.mk (some 17) _ _ _ _ _ :: _) _ _; go_loud (refine wpList_built rfl 125 _ rfl [(0, .agg gl.toArray), (1, .slice A n c), (2, .int .i64 ent)] (by simp [Act.eval]) BL HBU.out ?_)) | (show wpList _ _ _ (Oper.mk none (Op.store _ (Operand.tmp 12) _) _ _ _ _ :: _) _ _; refine wpList_store_fresh3 rfl 125 (.tmp 12) (.tmp 17) rfl rfl W #[.string ⟨#[]⟩, .int .i64 0, .int .i64 0, .int .i64 0, .slice none 0 0, .int .i64 0, .int .i64 0, .int .i64 0, .int .i64 0, .int .i64 0, .int .i64 0, .int .i64 0, .int .i64 0, .int .i64 0, .int .i64 0, .int .i64 0, .int .i64 0, .int .i64 0, .int .i64 0, .int .i64 0, .slice none 0 0, .slice none 0 0, .int .i64 0] 125 BL rfl rfl rfl HIB.out HSZ.out.symm HON.out ?_; intro w4 H4 HB4 HS4) | (show wpList _ _ _ (Oper.mk (some 18) _ _ _ _ _ :: _) _ _; refine wpList_load_row_g rfl 125 (.tmp 12) rfl W.heap.size rfl _ _ _ _ H4 Try.underlying125 rfl HIB.out ?_))
 have hb04 := HB1h.out.trans (HB4.mono HB1h.out.size)
 have HK4 := Lib.hid H4
 have HB04 := Lib.hid hb04
 clear HB4 H4 hb04
 refine (HCK.out w4 HB04.out).mono ?_
 rintro e w5 ⟨r, rfl, hr, hb5⟩
 have HR := Lib.hid hr
 have hb05 := HB04.out.trans (hb5.mono HB04.out.size)
 have HB05 := Lib.hid hb05
 have HK5 := Lib.hid ((hb5.block _ HS4).trans HK4.out)
 clear hb5 hb05 hr
 by_cases hr0 : r = 0
 case neg =>
  have hrb : (r != 0) = true := by simpa using hr0
  have HP := Lib.hid (show (if r = 0 then sumE (qB d) l ent acc else (0 : Int)) = 0 from if_neg hr0)
  clear hr0
  go_wp2_with fail
  go_ret2
  exact ⟨r, by rw [HP.out]; first | done | rfl, HR.out, HB05.out⟩
 case pos =>
  subst hr0
  have HSC := Lib.hid (HSM1.out w5 HB05.out (bchk_valid HR.out))
  have HV := Lib.hid (sum_bal l ent acc d)
  go_wp2_with (first | (show wpList _ _ _ (Oper.mk (some 24) _ _ _ _ _ :: _) _ _; refine wpList_load_row_g rfl 125 (.tmp 12) rfl W.heap.size rfl _ _ _ _ HK5.out Try.underlying125 rfl HIB.out ?_))
  refine HSC.out.mono ?_
  rintro e w6 ⟨rfl, hb6⟩
  rw [HV.out]
  obtain ⟨sv, hsv⟩ : ∃ sv, sumE (qB d) l ent acc = sv := ⟨_, rfl⟩
  have HSV := Lib.hid hsv
  have HB06 := Lib.hid (HB05.out.trans (hb6.mono HB05.out.size))
  rw [hsv]
  clear hsv hb6 HV HSC
  go_wp2_with fail
  go_ret2
  exact ⟨0, by rw [if_pos rfl, HSV.out]; first | done | rfl, HR.out, HB06.out⟩
def turnE (q : Int → Int → Int → Int → Int) (g : XGroup) (l : List XEntry) (ent acc p : Int) : Int := sumE (q (calFirst g.calendar.year g.calendar.month g.calendar.periods p).1 (calLast g.calendar.year g.calendar.month g.calendar.periods p).1) l ent acc
def perN (p : Int) : Int := if p = -4611686018427387904 then p - 1 else p
def TurnPost (g : XGroup) (l : List XEntry) (ent acc p : Int) (w : World) (e : Ending) (w' : World) : Prop := ∃ r, e = .returned (.tuple #[.int .i64 (if r = 0 then turnE qD g l ent acc (perN p) else 0), .int .i64 (if r = 0 then turnE qC g l ent acc (perN p) else 0), .int .i64 r]) ∧ BChk g l ent (perN p) acc true r ∧ Below w.heap.size w w'
set_option maxHeartbeats 4000000 in
theorem turn_c (g : XGroup) (l : List XEntry) (gl : List Value) (A : Option Addr) (c : Nat) (ent acc p : Int) (w : World) (hg : GroupC w (· < w.heap.size) gl g) (hl : ListC EntryC 7 w (· < w.heap.size) [.slice A l.length c] l) (hsm : smallG g) (hmo : modest l) (hle : l.length ≤ 100) (hacc : intBd acc) : Calls Try.prog 79 #[.agg gl.toArray, .slice A l.length c, .int .i64 ent, .int .i64 acc, .int .i64 p] w (TurnPost g l ent acc p w) := by
 obtain ⟨Ac0, cc0, Ae0, ce0, hl21, _, _, K1, K2, K3, _, _⟩ := hg.view
 have K1 := Lib.hid K1
 have K2 := Lib.hid K2
 have K3 := Lib.hid K3
 have HCK := Lib.hid (fun (period : Int) (w2 : World) (hb : Below w.heap.size w w2) => bcheck_c g l gl A c ent period acc true w2 (hg.keep hb) (entries_keep hl hb) hsm hmo hacc)
 have HGS := Lib.hid (show gl.toArray.size = 21 by have := hg.len; simpa using this)
 have HGL := Lib.hid hg.len
 have HBU := Lib.hid (hg.books A l.length c ent)
 have HON := Lib.hid (show (gl ++ ([.slice A l.length c, .int .i64 ent] : List Value)).toArray.all (·.oneCell') = true by
  have h1 := hg.ones
  rw [List.all_toArray, List.all_append, h1]
  rfl)
 have HSZ := Lib.hid (show (gl ++ ([.slice A l.length c, .int .i64 ent] : List Value)).toArray.size = 23 by have := hg.len; simp; omega)
 have HSUM := Lib.hid (fun (h : Nat) (hb : Array Value) (eh : ∀ args w, (callFunc h args).run Try.prog w = .ok (.enter h args) w) (p : Int → Int → Bool) (d : Int) (w2 : World) (hbl : Below w.heap.size w w2) (hv : validJ g l) (hH : HoldsC Fence.wide 2 w2 h hb p) =>
  callsIn_wide.1 (bsum_in Fence.wide 5 trivial trivial trivial h hb trivial eh rfl (by omega) l A c ent acc d (gl ++ ([.slice A l.length c, .int .i64 ent] : List Value)).toArray p w2 (by have := hg.len; rw [List.getElem?_toArray, List.getElem?_append_right (by omega)]; simp [this]) (by have := hg.len; rw [List.getElem?_toArray, List.getElem?_append_right (by omega)]; simp [this])
   (entries_keep hl hbl) (fun x hx => by have := valid_lines hv hx; omega) (by omega) (fun x hx _ _ y hy => (valid_line hv hx hy).1) (by have := linesD_len (l := l) ent d (fun x hx => valid_lines hv hx); omega) hH))
 obtain ⟨BL, hBL⟩ : ∃ BL, (gl ++ ([.slice A l.length c, .int .i64 ent] : List Value)).toArray = BL := ⟨_, rfl⟩
 rw [hBL] at HCK HBU HON HSZ HSUM
 obtain ⟨n, hn⟩ : ∃ n, l.length = n := ⟨_, rfl⟩
 rw [hn] at HBU ⊢
 have HIB := Lib.hid (show (Try.prog.info? 125).map (·.size) = some BL.size by rw [info_books, HSZ.out])
 clear hg hl hsm hmo hle hacc hBL hn
 obtain ⟨pp, hpp⟩ : ∃ pp, perN p = pp := ⟨_, rfl⟩
 have HPP := Lib.hid hpp
 have HCK := Lib.hid (HCK.out pp)
 obtain ⟨fp, hfp⟩ : ∃ q, calFirst g.calendar.year g.calendar.month g.calendar.periods pp = q := ⟨_, rfl⟩
 have HCF := Lib.hid (fun w2 : World => calFirst_c g.calendar.year g.calendar.month g.calendar.periods pp w2)
 obtain ⟨lp, hlp⟩ : ∃ q, calLast g.calendar.year g.calendar.month g.calendar.periods pp = q := ⟨_, rfl⟩
 have HCL := Lib.hid (fun w2 : World => calLast_c g.calendar.year g.calendar.month g.calendar.periods pp w2)
 rw [hfp] at HCF
 rw [hlp] at HCL
 obtain ⟨fd, fe⟩ := fp
 obtain ⟨ld, le⟩ := lp
 have HT1 := Lib.hid (show turnE qD g l ent acc pp = sumE (qD fd ld) l ent acc by unfold turnE; rw [hfp, hlp])
 have HT2 := Lib.hid (show turnE qC g l ent acc pp = sumE (qC fd ld) l ent acc by unfold turnE; rw [hfp, hlp])
 have HSA := Lib.hid (fun (b : Nat) (w2 : World) (hbl : Below w.heap.size w w2) (hv : validJ g l) (hbx : w2.heap[b]? = some (.cells #[.int .i64 fd] 3 (0, 0))) => HSUM.out 122 #[.pointer (some ⟨b, 0, none⟩)] (enters_of Try.func122 (by kernel_rfl) rfl) _ ld w2 hbl hv (turn1_in Fence.wide 2 trivial rfl b fd w2 hbx))
 have HSB := Lib.hid (fun (b : Nat) (w2 : World) (hbl : Below w.heap.size w w2) (hv : validJ g l) (hbx : w2.heap[b]? = some (.cells #[.int .i64 fd] 3 (0, 0))) => HSUM.out 123 #[.pointer (some ⟨b, 0, none⟩)] (enters_of Try.func123 (by kernel_rfl) rfl) _ ld w2 hbl hv (turn2_in Fence.wide 2 trivial rfl b fd w2 hbx))
 clear HSUM hpp hfp hlp hl21
 go_enter Try.func79, Try.ntmps79
 go_upto_region 1 with fail
 have H1 := heap_alloc_new w (.cells gl.toArray 29)
 have HB1 := below1 w (.cells gl.toArray 29)
 have HS1 := blk_lt H1
 generalize hW1 : w.alloc (Obj.cells gl.toArray 29) = W at *
 clear hW1
 have HK := Lib.hid H1
 have HB1h := Lib.hid HB1
 clear H1
 go_upto_if 24 with (first | (show wpList _ _ _ (Oper.mk (some 19) _ _ _ _ _ :: _) _ _; refine wpList_load_row_g rfl 29 (.tmp 5) rfl (w.heap.size) rfl _ _ _ _ HK.out Try.underlying29 rfl (by rw [info_group]; exact congrArg some HGS.out.symm) ?_) | (show wpList _ _ _ (Oper.mk (some 22) _ _ _ _ _ :: _) _ _; go_loud (refine wpList_built rfl 125 _ rfl [(0, .agg gl.toArray), (1, .slice A n c), (2, .int .i64 ent)] (by simp [Act.eval]) BL HBU.out ?_)) | (show wpList _ _ _ (Oper.mk none (Op.store _ (Operand.tmp 13) _) _ _ _ _ :: _) _ _; refine wpList_store_fresh3 rfl 125 (.tmp 13) (.tmp 22) rfl rfl W #[.string ⟨#[]⟩, .int .i64 0, .int .i64 0, .int .i64 0, .slice none 0 0, .int .i64 0, .int .i64 0, .int .i64 0, .int .i64 0, .int .i64 0, .int .i64 0, .int .i64 0, .int .i64 0, .int .i64 0, .int .i64 0, .int .i64 0, .int .i64 0, .int .i64 0, .int .i64 0, .int .i64 0, .slice none 0 0, .slice none 0 0, .int .i64 0] 125 BL rfl rfl rfl HIB.out HSZ.out.symm HON.out ?_; intro w4 H4 HB4 HS4))
 have hb04 := HB1h.out.trans (HB4.mono HB1h.out.size)
 have HK4 := Lib.hid H4
 have HB04 := Lib.hid hb04
 have HG4 := Lib.hid ((HB4.block _ HS1).trans HK.out)
 clear HB4 H4 hb04
 go_cut [4] from 24 to 26 (fun v wx => v = .int .i64 pp ∧ w4 = wx)
 case first =>
  by_cases hpn : p = -4611686018427387904
  · have HP := Lib.hid (show perN p = p - 1 from if_pos hpn)
    subst hpn
    have HP2 := Lib.hid (show pp = -4611686018427387905 by rw [← HPP.out, HP.out]; rfl)
    go_wp2_with fail
    go_meet
    exact ⟨by rw [HP2.out], rfl⟩
  · have HP := Lib.hid (show pp = p by rw [← HPP.out]; exact if_neg hpn)
    have hpb : (p == -4611686018427387904) = false := by simpa using hpn
    clear hpn
    go_wp2_with fail
    go_meet
    exact ⟨by rw [HP.out], rfl⟩
 case rest =>
 obtain ⟨rfl, rfl⟩ := hcut
 go_wp2_with (first | (show wpList _ _ _ (Oper.mk (some 27) _ _ _ _ _ :: _) _ _; refine wpList_load_row_g rfl 125 (.tmp 13) rfl W.heap.size rfl _ _ _ _ HK4.out Try.underlying125 rfl HIB.out ?_))
 refine (HCK.out w4 HB04.out).mono ?_
 rintro e w5 ⟨r, rfl, hr, hb5⟩
 have HR := Lib.hid hr
 have hb05 := HB04.out.trans (hb5.mono HB04.out.size)
 have HB05 := Lib.hid hb05
 have HK5 := Lib.hid ((hb5.block _ HS4).trans HK4.out)
 have HG5 := Lib.hid ((hb5.block _ (Nat.lt_trans HS1 HS4)).trans HG4.out)
 clear hb5 hb05 hr
 by_cases hr0 : r = 0
 case neg =>
  have hrb : (r != 0) = true := by simpa using hr0
  have HP := Lib.hid (show ∀ v : Int, (if r = 0 then v else (0 : Int)) = 0 from fun v => if_neg hr0)
  clear hr0
  go_wp2_with fail
  have hfin : TurnPost g l ent acc p w (.returned (.tuple #[.int .i64 0, .int .i64 0, .int .i64 r])) w5 := ⟨r, by rw [HP.out, HP.out], by rw [HPP.out]; exact HR.out, HB05.out⟩
  go_ret3
  exact hfin
 case pos =>
  subst hr0
  have HCR := Lib.hid (cal_range HG5.out K1.out K2.out K3.out)
  go_wp2_with (show wpList _ _ _ (Oper.mk (some 36) _ _ _ _ _ :: _) _ _; refine wpList_load_mid rfl 23 (.tmp 35) rfl w.heap.size 1 rfl [.int .i64 g.calendar.year, .int .i64 g.calendar.month, .int .i64 g.calendar.periods] _ HCR.out Try.underlying23 rfl info_cal ?_)
  refine (HCF.out w5).mono ?_
  rintro e w6 ⟨rfl, hb6⟩
  have hb06 := HB05.out.trans (hb6.mono HB05.out.size)
  have HB06 := Lib.hid hb06
  have HK6 := Lib.hid ((hb6.block _ (blk_lt HK5.out)).trans HK5.out)
  have HG6 := Lib.hid ((hb6.block _ (blk_lt HG5.out)).trans HG5.out)
  clear hb6 hb06
  go_upto_region 8 with fail
  have H7 := heap_alloc_new w6 (Obj.cells #[.int .i64 fd] 3)
  have hb7 := HB06.out.trans ((below1 w6 (Obj.cells #[.int .i64 fd] 3)).mono HB06.out.size)
  have HG7 := Lib.hid (alloc_keep HG6.out (Obj.cells #[.int .i64 fd] 3))
  have HK7 := Lib.hid (alloc_keep HK6.out (Obj.cells #[.int .i64 fd] 3))
  generalize w6.alloc (Obj.cells #[.int .i64 fd] 3) = w7 at *
  have HB07 := Lib.hid hb7
  have HF7 := Lib.hid H7
  have HCR7 := Lib.hid (cal_range HG7.out K1.out K2.out K3.out)
  clear H7 hb7
  go_wp2_with (show wpList _ _ _ (Oper.mk (some 43) _ _ _ _ _ :: _) _ _; refine wpList_load_mid rfl 23 (.tmp 42) rfl w.heap.size 1 rfl [.int .i64 g.calendar.year, .int .i64 g.calendar.month, .int .i64 g.calendar.periods] _ HCR7.out Try.underlying23 rfl info_cal ?_)
  refine (HCL.out w7).mono ?_
  rintro e w8 ⟨rfl, hb8⟩
  have HB08 := Lib.hid (HB07.out.trans (hb8.mono HB07.out.size))
  have HK8 := Lib.hid ((hb8.block _ (blk_lt HK7.out)).trans HK7.out)
  have HF8 := Lib.hid ((hb8.block _ (blk_lt HF7.out)).trans HF7.out)
  have HSC1 := Lib.hid (HSA.out w6.heap.size w8 HB08.out (bchk_valid HR.out) HF8.out)
  clear hb8
  go_wp2_with (show wpList _ _ _ (Oper.mk (some 48) _ _ _ _ _ :: _) _ _; refine wpList_load_row_g rfl 125 (.tmp 13) rfl W.heap.size rfl _ _ _ _ HK8.out Try.underlying125 rfl HIB.out ?_)
  refine HSC1.out.mono ?_
  rintro e w9 ⟨rfl, hb9⟩
  rw [sum_deb]
  obtain ⟨v1, hv1⟩ : ∃ v, sumE (qD fd ld) l ent acc = v := ⟨_, rfl⟩
  have HV1 := Lib.hid (HT1.out.trans hv1)
  rw [hv1]
  have HB09 := Lib.hid (HB08.out.trans (hb9.mono HB08.out.size))
  have HK9 := Lib.hid ((hb9.block _ (blk_lt HK8.out)).trans HK8.out)
  have HF9 := Lib.hid ((hb9.block _ (blk_lt HF8.out)).trans HF8.out)
  have HSC2 := Lib.hid (HSB.out w6.heap.size w9 HB09.out (bchk_valid HR.out) HF9.out)
  clear hb9 hv1
  go_wp2_with (show wpList _ _ _ (Oper.mk (some 53) _ _ _ _ _ :: _) _ _; refine wpList_load_row_g rfl 125 (.tmp 13) rfl W.heap.size rfl _ _ _ _ HK9.out Try.underlying125 rfl HIB.out ?_)
  refine HSC2.out.mono ?_
  rintro e w10 ⟨rfl, hb10⟩
  rw [sum_cre]
  obtain ⟨v2, hv2⟩ : ∃ v, sumE (qC fd ld) l ent acc = v := ⟨_, rfl⟩
  have HV2 := Lib.hid (HT2.out.trans hv2)
  rw [hv2]
  have HB10 := Lib.hid (HB09.out.trans (hb10.mono HB09.out.size))
  clear hb10 hv2
  go_wp2_with fail
  have hfin : TurnPost g l ent acc p w (.returned (.tuple #[.int .i64 v1, .int .i64 v2, .int .i64 0])) w10 := ⟨0, by rw [if_pos rfl, if_pos rfl, HPP.out, HV1.out, HV2.out], by rw [HPP.out]; exact HR.out, HB10.out⟩
  go_ret3
  exact hfin
def MovPost (g : XGroup) (l : List XEntry) (ent acc p : Int) (w : World) (e : Ending) (w' : World) : Prop := ∃ r, e = .returned (.tuple #[.int .i64 (if r = 0 then turnE qD g l ent acc (perN p) + turnE qC g l ent acc (perN p) else 0), .int .i64 r]) ∧ BChk g l ent (perN p) acc true r ∧ Below w.heap.size w w'
theorem turn_bd (q : Int → Int → Int → Int → Int) (hq : ∀ c d a b, -(b.natAbs : Int) ≤ q c d a b ∧ q c d a b ≤ (b.natAbs : Int)) {g : XGroup} {l : List XEntry} (h : validJ g l) (hl : l.length ≤ 100) (ent acc p : Int) : -4503599627370496 ≤ turnE q g l ent acc p ∧ turnE q g l ent acc p ≤ 4503599627370496 := by
 have h1 := sumE_le (q := q (calFirst g.calendar.year g.calendar.month g.calendar.periods p).1 (calLast g.calendar.year g.calendar.month g.calendar.periods p).1) ent acc (es := l) (hq _ _)
 have h2 : absE l ≤ 40000000000000 * l.length := by
  have h3 : ∀ k : List XEntry, (∀ x ∈ k, x ∈ l) → absE k ≤ 40000000000000 * k.length := fun k => by
   induction k with
   | nil => intro _; simp [absE]
   | cons x k ih =>
    intro hk
    have h4 := ih (fun z hz => hk z (List.mem_cons_of_mem _ hz))
    have hx := hk x (List.mem_cons_self ..)
    have h5 := valid_lines h hx
    have h6 : ∀ m : List XLine, (∀ y ∈ m, y ∈ x.lines) → absL m ≤ 1000000000000 * m.length := fun m => by
     induction m with
     | nil => intro _; simp [absL]
     | cons y m ih2 =>
      intro hm
      have h7 := ih2 (fun z hz => hm z (List.mem_cons_of_mem _ hz))
      have h8 := (valid_formed h hx).2.2.2.2.2.2.2.2.2.2.2 y (hm y (List.mem_cons_self ..))
      have h9 := ((lineB_iff _ _ _).1 h8).2.1
      unfold monB at h9
      rw [decide_eq_true_eq] at h9
      have h10 : absL (y :: m) = (y.amount.natAbs : Int) + absL m := by simp [absL]
      rw [h10, List.length_cons]
      omega
    have h11 := h6 x.lines (fun y hy => hy)
    rw [absE_cons, List.length_cons]
    omega
  exact h3 l (fun x hx => hx)
 unfold turnE
 omega
set_option maxHeartbeats 2000000 in
theorem mov_c (g : XGroup) (l : List XEntry) (gl : List Value) (A : Option Addr) (c : Nat) (ent acc p : Int) (w : World) (hg : GroupC w (· < w.heap.size) gl g) (hl : ListC EntryC 7 w (· < w.heap.size) [.slice A l.length c] l) (hsm : smallG g) (hmo : modest l) (hle : l.length ≤ 100) (hacc : intBd acc) : Calls Try.prog 43 #[.agg gl.toArray, .slice A l.length c, .int .i64 ent, .int .i64 acc, .int .i64 p] w (MovPost g l ent acc p w) := by
 have HTC := Lib.hid (fun (w2 : World) (hb : Below w.heap.size w w2) => turn_c g l gl A c ent acc p w2 (hg.keep hb) (entries_keep hl hb) hsm hmo hle hacc)
 have HGS := Lib.hid (show gl.toArray.size = 21 by have := hg.len; simpa using this)
 have HLE := Lib.hid hle
 obtain ⟨n, hn⟩ : ∃ n, l.length = n := ⟨_, rfl⟩
 rw [hn] at HTC ⊢
 clear hg hl hsm hmo hle hacc hn
 go_enter Try.func43, Try.ntmps43
 go_upto_region 1 with fail
 have H1 := heap_alloc_new w (.cells gl.toArray 29)
 have HB1 := below1 w (.cells gl.toArray 29)
 have HS1 := blk_lt H1
 generalize hW1 : w.alloc (Obj.cells gl.toArray 29) = W at *
 clear hW1
 have HK := Lib.hid H1
 have HB1h := Lib.hid HB1
 clear H1
 go_wp2_with (show wpList _ _ _ (Oper.mk (some 16) _ _ _ _ _ :: _) _ _; refine wpList_load_row_g rfl 29 (.tmp 5) rfl (w.heap.size) rfl _ _ _ _ HK.out Try.underlying29 rfl (by rw [info_group]; exact congrArg some HGS.out.symm) ?_)
 refine (HTC.out W HB1).mono ?_
 rintro e w2 ⟨r, rfl, hr, hb2⟩
 have HR := Lib.hid hr
 have HB02 := Lib.hid (HB1h.out.trans (hb2.mono HB1h.out.size))
 have hbd : ∀ q : Int → Int → Int → Int → Int, (∀ c d a b, -(b.natAbs : Int) ≤ q c d a b ∧ q c d a b ≤ (b.natAbs : Int)) → -4503599627370496 ≤ (if r = 0 then turnE q g l ent acc (perN p) else 0) ∧ (if r = 0 then turnE q g l ent acc (perN p) else 0) ≤ 4503599627370496 := fun q hq => by
  split
  · rename_i h0
    subst h0
    exact turn_bd q hq (bchk_valid HR.out) HLE.out ent acc _
  · omega
 have hb1 := hbd qD qD_bd
 have hb2' := hbd qC qC_bd
 have HF := Lib.hid (show (if r = 0 then turnE qD g l ent acc (perN p) else 0) + (if r = 0 then turnE qC g l ent acc (perN p) else 0) = if r = 0 then turnE qD g l ent acc (perN p) + turnE qC g l ent acc (perN p) else 0 by split <;> omega)
 obtain ⟨v1, hv1⟩ : ∃ v, (if r = 0 then turnE qD g l ent acc (perN p) else 0) = v := ⟨_, rfl⟩
 obtain ⟨v2, hv2⟩ : ∃ v, (if r = 0 then turnE qC g l ent acc (perN p) else 0) = v := ⟨_, rfl⟩
 rw [hv1] at hb1
 rw [hv2] at hb2'
 rw [hv1, hv2] at HF ⊢
 clear hv1 hv2 hbd hb2 hr
 have HF := Lib.hid HF.out.symm
 obtain ⟨l1, l2⟩ := hb1
 obtain ⟨l3, l4⟩ := hb2'
 have l5 : -9223372036854775808 ≤ v1 + v2 := by omega
 have l6 : v1 + v2 ≤ 9223372036854775807 := by omega
 go_wp2_with fail
 go_ret2
 exact ⟨r, by rw [HF.out]; first | done | rfl, HR.out, HB02.out⟩
end
end Go.Proofs.Ytebdajkknkapcaa
namespace Go.Proofs.Ytebdajkknkapcaa
open Go Go.RowKit
theorem BChk.uniq {g : XGroup} {l : List XEntry} {ent period acc : Int} {ch : Bool} {r s : Int} (h : BChk g l ent period acc ch r) (k : BChk g l ent period acc ch s) : r = s := by
 rcases h with ⟨h1, rfl⟩ | ⟨h1, rfl⟩ <;> rcases k with ⟨k1, rfl⟩ | ⟨k1, rfl⟩
 · rfl
 · exact absurd k1 h1
 · exact absurd h1 k1
 · rfl
theorem absE_valid {g : XGroup} {l : List XEntry} (h : validJ g l) (hl : l.length ≤ 100) : absE l ≤ 4503599627370496 := by
 have h3 : ∀ k : List XEntry, (∀ x ∈ k, x ∈ l) → absE k ≤ 40000000000000 * k.length := fun k => by
  induction k with
  | nil => intro _; simp [absE]
  | cons x k ih =>
   intro hk
   have h4 := ih (fun z hz => hk z (List.mem_cons_of_mem _ hz))
   have hx := hk x (List.mem_cons_self ..)
   have h5 := valid_lines h hx
   have h6 : ∀ m : List XLine, (∀ y ∈ m, y ∈ x.lines) → absL m ≤ 1000000000000 * m.length := fun m => by
    induction m with
    | nil => intro _; simp [absL]
    | cons y m ih2 =>
     intro hm
     have h7 := ih2 (fun z hz => hm z (List.mem_cons_of_mem _ hz))
     have h8 := (valid_formed h hx).2.2.2.2.2.2.2.2.2.2.2 y (hm y (List.mem_cons_self ..))
     have h9 := ((lineB_iff _ _ _).1 h8).2.1
     unfold monB at h9
     rw [decide_eq_true_eq] at h9
     have h10 : absL (y :: m) = (y.amount.natAbs : Int) + absL m := by simp [absL]
     rw [h10, List.length_cons]
     omega
   have h11 := h6 x.lines (fun y hy => hy)
   rw [absE_cons, List.length_cons]
   omega
 have := h3 l (fun x hx => hx)
 omega
theorem sumE_lt (q : Int → Int → Int) (hq : ∀ a b, -(b.natAbs : Int) ≤ q a b ∧ q a b ≤ (b.natAbs : Int)) {g : XGroup} {l : List XEntry} (h : validJ g l) (hl : l.length ≤ 100) (ent acc : Int) : -4503599627370496 ≤ sumE q l ent acc ∧ sumE q l ent acc ≤ 4503599627370496 := by
 have h1 := sumE_le (q := q) ent acc (es := l) hq
 have h2 := absE_valid h hl
 omega
theorem calFirst_none (y m n : Int) {p : Int} (hp : p < 0) : (calFirst y m n p).2 ≠ 0 := by
 unfold calFirst
 split
 · have := (calCheck_0 ‹_›).2.1
   omega
 · assumption
theorem perN_no (p : Int) : perN p ≠ -4611686018427387904 := by unfold perN; split <;> omega
def aw14L : List XLine := [⟨10, 100, -1⟩, ⟨100, -100, -1⟩]
def aw14 : XEntry := ⟨1, 0, 20454, 1, 0, ⟨#[]⟩, aw14L⟩
theorem aw14_bd : ∀ x ∈ aw14L, lineBd x := by
 show ∀ x ∈ aw14L, intBd x.account ∧ intBd x.amount ∧ intBd x.partner
 decide
theorem aw14_first : calFirst 2026 1 36 0 = (20454, 0) := by decide +kernel
theorem aw14_post : postE sampleG [] aw14 = 0 := by decide +kernel
theorem aw14_valid : validJ sampleG [aw14] := ⟨sample_valid, fun k hk => by
 have : k = 0 := by simp at hk; omega
 subst this
 exact aw14_post⟩
theorem aw14_chk : BChk sampleG [aw14] 0 (-4611686018427387904) 100 true 0 := .inr ⟨aw14_valid, by decide +kernel⟩
theorem aw14_sum : sumE (qB 20454) [aw14] 0 100 = -100 := by decide +kernel
theorem entry_lay {w W : World} {T : TypeId} {x : XEntry} {cs : List Value} (hW : W.heap[w.heap.size]? = some (.cells cs.toArray T (0, 0))) (hx : EntryC W (· < W.heap.size) cs x) (hs : cs.length = 7) : ListC EntryC 7 W (· < W.heap.size) [.slice (some ⟨w.heap.size, 0, none⟩) 1 1] [x] :=
 ⟨_, _, rfl, Nat.le_refl _, by unfold maxLen; decide, fun _ => ⟨w.heap.size, 0, rfl, blk_lt hW, fun i y hi => by
  have hi0 : i = 0 := by
   have := (List.getElem?_eq_some_iff.1 hi).1
   simp at this
   exact this
  subst hi0
  simp at hi
  subst hi
  exact ⟨cs, hx, by simpa using box_at hW⟩⟩⟩
set_option maxHeartbeats 4000000 in
theorem awake14_c (w : World) : Calls Try.prog 40 #[] w (Quiet w (.bool true)) := by
 go_enter Try.func40, Try.ntmps40
 go_wp2_with fail
 refine (sample_c w).mono ?_
 rintro e w2 ⟨vs, rfl, hg, hb2⟩
 have hone : vs.toArray.all (·.oneCell') = true := by rw [List.all_toArray, List.all_eq_true]; exact grp_one hg
 have HGS := Lib.hid (show vs.toArray.size = 21 by simpa using hg.len)
 have HONE := Lib.hid hone
 have HG := Lib.hid hg
 obtain ⟨_, _, _, _, _, _, _, k1, k2, k3, _, _⟩ := hg.view
 have K1 := Lib.hid (show vs[1]? = some (.int .i64 2026) from k1)
 have K2 := Lib.hid (show vs[2]? = some (.int .i64 1) from k2)
 have K3 := Lib.hid (show vs[3]? = some (.int .i64 36) from k3)
 clear hg hone k1 k2 k3
 go_upto_region 2 with (show wpList _ _ _ (Oper.mk none (Op.store _ (Operand.tmp 1) _) _ _ _ _ :: _) _ _; refine wpList_store_fresh3 rfl 29 (.tmp 1) (.tmp 7) rfl rfl w2 #[.string ⟨#[]⟩, .int .i64 0, .int .i64 0, .int .i64 0, .slice none 0 0, .int .i64 0, .int .i64 0, .int .i64 0, .int .i64 0, .int .i64 0, .int .i64 0, .int .i64 0, .int .i64 0, .int .i64 0, .int .i64 0, .int .i64 0, .int .i64 0, .int .i64 0, .int .i64 0, .int .i64 0, .slice none 0 0] 29 vs.toArray rfl rfl rfl (by rw [info_group]; exact congrArg some HGS.out.symm) HGS.out.symm HONE.out ?_; intro w3 H3 HB3 HS3)
 have HK3 := Lib.hid H3
 have HB03 := Lib.hid (hb2.trans (HB3.mono hb2.size))
 have HCR := Lib.hid (cal_range H3 K1.out K2.out K3.out)
 have HG3 := Lib.hid (HG.out.keep HB3)
 clear H3 HB3 hb2
 go_wp2_with (show wpList _ _ _ (Oper.mk (some 10) _ _ _ _ _ :: _) _ _; refine wpList_load_mid rfl 23 (.tmp 9) rfl w2.heap.size 1 rfl [.int .i64 2026, .int .i64 1, .int .i64 36] _ HCR.out Try.underlying23 rfl info_cal ?_)
 refine (rcalFirst_c 2026 1 36 0 w3).mono ?_
 rintro e w5 ⟨rfl, hb5⟩
 rw [aw14_first]
 have HB05 := Lib.hid (HB03.out.trans (hb5.mono HB03.out.size))
 have HK5 := Lib.hid ((hb5.block _ (blk_lt HK3.out)).trans HK3.out)
 have HG5 := Lib.hid (HG3.out.keep hb5)
 clear hb5
 go_upto_region 4 with fail
 have H6 := heap_alloc_new w5 (.cells #[.int .i64 10, .int .i64 100, .int .i64 (-1), .int .i64 100, .int .i64 (-100), .int .i64 (-1)] 64)
 have HB6 := below1 w5 (.cells #[.int .i64 10, .int .i64 100, .int .i64 (-1), .int .i64 100, .int .i64 (-100), .int .i64 (-1)] 64)
 have es6 : (w5.alloc (.cells #[.int .i64 10, .int .i64 100, .int .i64 (-1), .int .i64 100, .int .i64 (-100), .int .i64 (-1)] 64)).heap.size = w5.heap.size + 1 := by simp
 generalize w5.alloc (.cells #[.int .i64 10, .int .i64 100, .int .i64 (-1), .int .i64 100, .int .i64 (-100), .int .i64 (-1)] 64) = w6 at *
 have HL6 := Lib.hid (lines_lay aw14L aw14_bd (by decide) w5 w6 _ _ rfl H6)
 have H7 := heap_alloc_new w6 (.cells #[.int .i64 1, .int .i64 0, .int .i64 20454, .int .i64 1, .int .i64 0, .string ⟨#[]⟩, .slice (some ⟨w5.heap.size, 0, none⟩) 2 2] 42)
 have HB7 := below1 w6 (.cells #[.int .i64 1, .int .i64 0, .int .i64 20454, .int .i64 1, .int .i64 0, .string ⟨#[]⟩, .slice (some ⟨w5.heap.size, 0, none⟩) 2 2] 42)
 rw [es6] at H7
 generalize w6.alloc (.cells #[.int .i64 1, .int .i64 0, .int .i64 20454, .int .i64 1, .int .i64 0, .string ⟨#[]⟩, .slice (some ⟨w5.heap.size, 0, none⟩) 2 2] 42) = w7 at *
 have hb57 := HB6.trans (HB7.mono HB6.size)
 have HB07 := Lib.hid (HB05.out.trans (hb57.mono HB05.out.size))
 have HG7 := Lib.hid (HG5.out.keep hb57)
 have HK7 := Lib.hid ((hb57.block _ (blk_lt HK5.out)).trans HK5.out)
 have HX7 := Lib.hid H7
 have HL7 := Lib.hid (lines_keep HL6.out HB7)
 clear H6 HB6 es6 H7 HB7 hb57 HL6
 go_upto_region 5 with (first | (show wpList _ _ _ (Oper.mk (some 20) _ _ _ _ _ :: _) _ _; refine wpList_load_row_g rfl 29 (.tmp 1) rfl (w2.heap.size) rfl _ _ _ _ HK7.out Try.underlying29 rfl (by rw [info_group]; exact congrArg some HGS.out.symm) ?_) | (show wpList _ _ _ (Oper.mk (some 21) _ _ _ _ _ :: _) _ _; refine wpList_load_row_g rfl 42 (.tmp 4) rfl (w5.heap.size + 1) rfl _ _ _ _ HX7.out Try.underlying42 rfl info_entry ?_))
 have H8 := heap_alloc_new w7 (.cells #[.int .i64 1, .int .i64 0, .int .i64 20454, .int .i64 1, .int .i64 0, .string ⟨#[]⟩, .slice (some ⟨w5.heap.size, 0, none⟩) 2 2] 42)
 have HB8 := below1 w7 (.cells #[.int .i64 1, .int .i64 0, .int .i64 20454, .int .i64 1, .int .i64 0, .string ⟨#[]⟩, .slice (some ⟨w5.heap.size, 0, none⟩) 2 2] 42)
 generalize w7.alloc (.cells #[.int .i64 1, .int .i64 0, .int .i64 20454, .int .i64 1, .int .i64 0, .string ⟨#[]⟩, .slice (some ⟨w5.heap.size, 0, none⟩) 2 2] 42) = w8 at *
 have hx := EntryC.mk (w := w8) (Q := (· < w8.heap.size)) (x := aw14) (A := some ⟨w5.heap.size, 0, none⟩) (c := 2) (by show intBd 1 ∧ intBd 0 ∧ intBd 20454 ∧ intBd 1 ∧ intBd 0; unfold intBd; omega) (lines_keep HL7.out HB8)
 have hb := balance_c sampleG [aw14] vs (some ⟨w7.heap.size, 0, none⟩) 1 0 100 20454 w8 (HG7.out.keep HB8) (entry_lay H8 hx rfl) sample_small ⟨by intro x hx; simp at hx; subst hx; decide, by simp⟩ (by simp) (by unfold intBd; omega)
 have HBAL := Lib.hid hb
 have HB08 := Lib.hid (HB07.out.trans (HB8.mono HB07.out.size))
 clear hb hx H8 HB8
 refine HBAL.out.mono ?_
 rintro e w9 ⟨r, rfl, hr, hb9⟩
 obtain rfl : r = 0 := hr.uniq aw14_chk
 rw [if_pos rfl, aw14_sum]
 have HB09 := Lib.hid (HB08.out.trans (hb9.mono HB08.out.size))
 clear hr hb9
 go_wp2_with fail
 go_ret
 exact ⟨rfl, HB09.out⟩
theorem few_modest {g : XGroup} {l : List XEntry} (h : fewJ g l) : modest l := ⟨fun x hx => by have h1 := h.1 x hx; have h2 := h1.1; have h3 := h1.2.1; omega, by have := h.2.1; omega⟩
section
variable {H : Type} {enc : TypeId × Value → H} {W : World}
theorem opPlace : Opens enc W 77 (CalC W (· < W.heap.size)) szCal := fun fuel cs x h hfz hz => by
 obtain ⟨xs, n, _, rfl, hcl, hxl, hf⟩ := DataW.trod_struct Try.underlying77 h
 have hcl2 : cs.length = 3 := hcl.trans (by kernel_rfl)
 have hw : ∀ (j : Nat) (t : TypeId) (y : DataW H × List MemPlace), ([3, 3, 3] : List TypeId)[j]? = some t → xs[j]? = some y → ∀ n ∈ y.1.weights Try.prog t, n ≤ reachBytes := fun j t y ht hy n hn => hz n (by
  simp only [DataW.weights, Try.underlying77]
  exact DataW.weights_mem_each (j := j) (t := t) (d := y.1) ht (by rw [List.getElem?_map, hy]; rfl) n hn)
 have h0 := hf 0 _ rfl
 obtain ⟨y0, hy0⟩ : ∃ y, xs[0]? = some y := ⟨_, List.getElem?_eq_getElem (by rw [hxl]; decide)⟩
 obtain ⟨a0, q0, z0⟩ := opInt _ _ _ (h0.trans hy0) (fun b off hb => hfz b off (List.mem_flatMap.2 ⟨y0, List.mem_of_getElem? hy0, hb⟩)) (hw 0 _ y0 rfl hy0)
 have h1 := hf 1 _ rfl
 obtain ⟨y1, hy1⟩ : ∃ y, xs[1]? = some y := ⟨_, List.getElem?_eq_getElem (by rw [hxl]; decide)⟩
 obtain ⟨a1, q1, z1⟩ := opInt _ _ _ (h1.trans hy1) (fun b off hb => hfz b off (List.mem_flatMap.2 ⟨y1, List.mem_of_getElem? hy1, hb⟩)) (hw 1 _ y1 rfl hy1)
 have h2 := hf 2 _ rfl
 obtain ⟨y2, hy2⟩ : ∃ y, xs[2]? = some y := ⟨_, List.getElem?_eq_getElem (by rw [hxl]; decide)⟩
 obtain ⟨a2, q2, z2⟩ := opInt _ _ _ (h2.trans hy2) (fun b off hb => hfz b off (List.mem_flatMap.2 ⟨y2, List.mem_of_getElem? hy2, hb⟩)) (hw 2 _ y2 rfl hy2)
 refine ⟨⟨a0, a1, a2⟩, ⟨_, _, _, ?_, q0, q1, q2⟩, trivial⟩
 have e0 : (cs.drop 0).take (Try.prog.cellsOf 3) = (cs.drop 0).take 1 := by rw [show Try.prog.cellsOf 3 = 1 from by kernel_rfl]
 have e1 : (cs.drop 1).take (Try.prog.cellsOf 3) = (cs.drop 1).take 1 := by rw [show Try.prog.cellsOf 3 = 1 from by kernel_rfl]
 have e2 : (cs.drop 2).take (Try.prog.cellsOf 3) = (cs.drop 2).take 1 := by rw [show Try.prog.cellsOf 3 = 1 from by kernel_rfl]
 show cs = (cs.drop 0).take (Try.prog.cellsOf 3) ++ (cs.drop 1).take (Try.prog.cellsOf 3) ++ (cs.drop 2).take (Try.prog.cellsOf 3)
 rw [e0, e1, e2]
 have z : cs = cs.drop 0 := rfl
 have t0 := take_drop_one cs 0 1
 have t1 := take_drop_one cs 1 1
 have t2 := take_drop_one cs 2 1
 have tn : cs.drop 3 = [] := List.drop_eq_nil_of_le (by omega)
 simp only [Nat.reduceAdd] at t0 t1 t2
 have r2 := t2.trans (by rw [tn, List.append_nil])
 have r1 := t1.trans (congrArg (_ ++ ·) r2)
 have r0 := t0.trans (congrArg (_ ++ ·) r1)
 refine z.trans (r0.trans ?_)
 simp only [List.append_assoc]
end
theorem chk_back {g : XGroup} {l : List XEntry} {ent acc p : Int} (h : BChk g l ent p acc true 0) : BChk g l ent (-4611686018427387904) acc true 0 := by
 rcases h with h | ⟨h1, h2⟩
 · exact .inl h
 · refine .inr ⟨h1, ?_⟩
   unfold chkR at h2 ⊢
   split at h2
   · cases h2
   · rename_i h3
     split at h2
     · cases h2
     · split at h2
       · cases h2
       · rename_i h4
         have e1 : ¬ ((-4611686018427387904 : Int) ≠ -4611686018427387904 ∧ (calFirst g.calendar.year g.calendar.month g.calendar.periods (-4611686018427387904)).2 ≠ 0) := fun h => h.1 rfl
         rw [if_neg h3, if_neg e1, if_neg h4]
theorem chk_period {g : XGroup} {l : List XEntry} {ent acc p : Int} (h : BChk g l ent (perN p) acc true 0) : perN p = p ∧ ∃ fd ld : Int, calFirst g.calendar.year g.calendar.month g.calendar.periods p = (fd, 0) ∧ calLast g.calendar.year g.calendar.month g.calendar.periods p = (ld, 0) ∧ fd ≤ ld + 1 ∧ -1000000 ≤ fd ∧ fd ≤ 1000000 := by
 have hf : (calFirst g.calendar.year g.calendar.month g.calendar.periods (perN p)).2 = 0 := Decidable.byContradiction fun hn => by
  rcases h with h | ⟨h1, h2⟩
  · exact absurd h.2 (by decide)
  · unfold chkR at h2
    split at h2
    · cases h2
    · rw [if_pos ⟨perN_no p, hn⟩] at h2
      cases h2
 have hp : perN p = p := by
  unfold perN
  split
  · rename_i hp
    exact absurd hf (calFirst_none _ _ _ (by unfold perN; rw [if_pos hp]; omega))
  · rfl
 rw [hp] at hf
 refine ⟨hp, ?_⟩
 have hc : calCheck g.calendar.year g.calendar.month g.calendar.periods p = 0 := by
  unfold calFirst at hf
  split at hf
  · assumption
  · exact hf
 obtain ⟨h1, h2, h3⟩ := calCheck_0 hc
 have hy := calB_at h1 (p := p.toNat) (by omega)
 rw [Int.toNat_of_nonneg h2] at hy
 have h4 := mon_las hy
 have h5 := monI_in hy
 unfold inD at h5
 refine ⟨monI (perI g.calendar.year g.calendar.month p), lasI (perI g.calendar.year g.calendar.month p), ?_, ?_, ?_, ?_, ?_⟩
 · unfold calFirst; rw [if_pos hc]
 · unfold calLast; rw [if_pos hc]
 · omega
 · omega
 · omega
set_option maxHeartbeats 4000000 in
theorem law_ledgerPeriods (g : XGroup) (l : List XEntry) (gl : List Value) (A : Option Addr) (c : Nat) (pe pa pw : Int) (w : World) (hg : GroupC w (· < w.heap.size) gl g) (hsz : szG g) (hl : ListC EntryC 7 w (· < w.heap.size) [.slice A l.length c] l) (hts : ∀ x ∈ l, x.text.size ≤ 140737488355327) (hpa : intBd pa) : Calls Try.prog 9 #[.agg gl.toArray, .slice A l.length c, .agg #[.int .i64 pe, .int .i64 pa, .int .i64 pw]] w (Quiet w (.bool true)) := by
 obtain ⟨Ac0, cc0, Ae0, ce0, hl21, _, _, K1, K2, K3, _, _⟩ := hg.view
 have K1 := Lib.hid K1
 have K2 := Lib.hid K2
 have K3 := Lib.hid K3
 have HFEW := Lib.hid (fun (w2 : World) (hb : Below w.heap.size w w2) => few12_c g l gl A c w2 (hg.keep hb) hsz (entries_keep hl hb) hts)
 have HGS := Lib.hid (show gl.toArray.size = 21 by have := hg.len; simpa using this)
 have HMO := Lib.hid (fun (w2 : World) (hb : Below w.heap.size w w2) (hf : fewJ g l) => mov_c g l gl A c pe pa pw w2 (hg.keep hb) (entries_keep hl hb) hf.2.2.small (few_modest hf) (by have := hf.2.1; omega) hpa)
 have HBA := Lib.hid (fun (dd : Int) (w2 : World) (hb : Below w.heap.size w w2) (hf : fewJ g l) => balance_c g l gl A c pe pa dd w2 (hg.keep hb) (entries_keep hl hb) hf.2.2.small (few_modest hf) (by have := hf.2.1; omega) hpa)
 obtain ⟨n, hnl⟩ : ∃ n, l.length = n := ⟨_, rfl⟩
 rw [hnl] at HFEW HMO HBA ⊢
 obtain ⟨fw, hfw⟩ : ∃ p : Prop, fewJ g l = p := ⟨_, rfl⟩
 rw [hfw] at HFEW
 have HFWE := Lib.hid hfw
 clear hg hsz hl hts hnl hfw hpa
 go_enter Try.func9, Try.ntmps9
 go_upto_region 1 with fail
 have H := heap_alloc_new w (.cells gl.toArray 29)
 have HB := below1 w (.cells gl.toArray 29)
 have HS := blk_lt H
 generalize hW : w.alloc (Obj.cells gl.toArray 29) = W at *
 have H2 := heap_alloc_new W (.cells #[.int .i64 pe, .int .i64 pa, .int .i64 pw] 77)
 have HB2 := below1 W (.cells #[.int .i64 pe, .int .i64 pa, .int .i64 pw] 77)
 have HS2 := blk_lt H2
 replace H := alloc_keep H (Obj.cells #[.int .i64 pe, .int .i64 pa, .int .i64 pw] 77)
 generalize hW2 : W.alloc (Obj.cells #[.int .i64 pe, .int .i64 pa, .int .i64 pw] 77) = W2 at *
 clear hW2
 have eW : W.heap.size = w.heap.size + 1 := by rw [← hW]; simp
 rw [eW] at H2
 clear hW
 have hb2 := HB.trans (HB2.mono HB.size)
 have hs2 := HB2.size
 have LT1 := blk_lt H2
 have LT0 : w.heap.size < W2.heap.size := by omega
 have HH := Lib.hid H
 have HZ := Lib.hid H2
 have EW := Lib.hid eW
 clear H H2 eW
 have hb02 := hb2
 have LT02 := LT0
 have LT12 := LT1
 have HH2 := HH
 have HZ2 := HZ
 go_wp2_with fail
 refine (awake14_c W2).mono ?_
 rintro e w3 ⟨rfl, hb3⟩
 have hb03 := hb02.trans (hb3.mono hb02.size)
 have hs3 := hb3.size
 have LT03 := Nat.lt_of_lt_of_le LT02 hs3
 have LT13 := Nat.lt_of_lt_of_le LT12 hs3
 have HH3 := Lib.hid ((hb3.block _ LT02).trans HH2.out)
 have HZ3 := Lib.hid ((hb3.block _ LT12).trans HZ2.out)
 go_wp2_with (show wpList _ _ _ (Oper.mk (some 19) _ _ _ _ _ :: _) _ _; refine wpList_load_row_g rfl 29 (.tmp 3) rfl (w.heap.size) rfl _ _ _ _ HH3.out Try.underlying29 rfl (by rw [info_group]; exact congrArg some HGS.out.symm) ?_)
 refine (HFEW.out w3 hb03).mono ?_
 rintro e w4 ⟨bf, rfl, hf, hb4⟩
 have hb04 := hb03.trans (hb4.mono hb03.size)
 have hs4 := hb4.size
 have LT04 := Nat.lt_of_lt_of_le LT03 hs4
 have LT14 := Nat.lt_of_lt_of_le LT13 hs4
 have HH4 := Lib.hid ((hb4.block _ LT03).trans HH3.out)
 have HZ4 := Lib.hid ((hb4.block _ LT13).trans HZ3.out)
 cases bf with
 | false =>
  clear hf
  go_wp2_with fail
  go_ret
  exact ⟨rfl, hb04⟩
 | true =>
 have HFP := Lib.hid (show fewJ g l from HFWE.out ▸ hf rfl)
 clear hf
 have p0 := blk_cell HZ4.out 0
 have p1 := blk_cell HZ4.out 1
 have p2 := blk_cell HZ4.out 2
 go_wp2_with (show wpList _ _ _ (Oper.mk (some 24) _ _ _ _ _ :: _) _ _; refine wpList_load_row_g rfl 29 (.tmp 3) rfl (w.heap.size) rfl _ _ _ _ HH4.out Try.underlying29 rfl (by rw [info_group]; exact congrArg some HGS.out.symm) ?_)
 refine (HMO.out w4 hb04 HFP.out).mono ?_
 rintro e w5 ⟨r, rfl, hr, hb5⟩
 have HR := Lib.hid hr
 clear hr p0 p1 p2
 have hb05 := hb04.trans (hb5.mono hb04.size)
 have hs5 := hb5.size
 have LT05 := Nat.lt_of_lt_of_le LT04 hs5
 have LT15 := Nat.lt_of_lt_of_le LT14 hs5
 have HH5 := Lib.hid ((hb5.block _ LT04).trans HH4.out)
 have HZ5 := Lib.hid ((hb5.block _ LT14).trans HZ4.out)
 by_cases hr0 : r = 0
 case neg =>
  have hrb : (r != 0) = true := by simpa using hr0
  have HP := Lib.hid (show (if r = 0 then turnE qD g l pe pa (perN pw) + turnE qC g l pe pa (perN pw) else (0 : Int)) = 0 from if_neg hr0)
  clear hr0
  rw [HP.out]
  go_wp2_with fail
  go_ret
  exact ⟨rfl, hb05⟩
 case pos =>
  subst hr0
  obtain ⟨hpn, fd, ld, hcf, hcl, hfl, hb1, hb2'⟩ := chk_period HR.out
  have hT : turnE qD g l pe pa (perN pw) + turnE qC g l pe pa (perN pw) = sumE (qD fd ld) l pe pa + sumE (qC fd ld) l pe pa := by unfold turnE; rw [hpn, hcf, hcl]
  have HPE := bal_period l pe pa hfl
  rw [← hT] at HPE
  rw [if_pos rfl]
  have hV := bchk_valid HR.out
  have hle : l.length ≤ 100 := by have := HFP.out.2.1; omega
  have b1 := turn_bd qD qD_bd hV hle pe pa (perN pw)
  have b2 := turn_bd qC qC_bd hV hle pe pa (perN pw)
  have b3 := sumE_lt (qB (fd - 1)) (qB_bd _) hV hle pe pa
  have HCB := Lib.hid (chk_back HR.out)
  obtain ⟨v, hv⟩ : ∃ v, turnE qD g l pe pa (perN pw) + turnE qC g l pe pa (perN pw) = v := ⟨_, rfl⟩
  have hvb : -9007199254740992 ≤ v ∧ v ≤ 9007199254740992 := by omega
  rw [hv] at HPE
  rw [hv]
  obtain ⟨v1, hv1⟩ : ∃ v, sumE (qB (fd - 1)) l pe pa = v := ⟨_, rfl⟩
  obtain ⟨v2, hv2⟩ : ∃ v, sumE (qB ld) l pe pa = v := ⟨_, rfl⟩
  rw [hv1, hv2] at HPE
  rw [hv1] at b3
  have HV1 := Lib.hid hv1
  have HV2 := Lib.hid hv2
  have HCF := Lib.hid (fun w2 : World => show Calls Try.prog 44 _ w2 (Quiet w2 (.tuple #[.int .i64 fd, .int .i64 0])) by have := rcalFirst_c g.calendar.year g.calendar.month g.calendar.periods pw w2; rw [hcf] at this; exact this)
  have HCL := Lib.hid (fun w2 : World => show Calls Try.prog 45 _ w2 (Quiet w2 (.tuple #[.int .i64 ld, .int .i64 0])) by have := rcalLast_c g.calendar.year g.calendar.month g.calendar.periods pw w2; rw [hcl] at this; exact this)
  have HEQ := Lib.hid HPE
  have HVB := Lib.hid (And.intro hvb b3)
  have HFD := Lib.hid (And.intro hb1 hb2')
  clear hv hv1 hv2 hT HPE hcf hcl hpn hV hle b1 b2 b3 hvb hfl hb1 hb2'
  have p0 := blk_cell HZ5.out 0
  have p1 := blk_cell HZ5.out 1
  have p2 := blk_cell HZ5.out 2
  have HCR5 := Lib.hid (cal_range HH5.out K1.out K2.out K3.out)
  go_wp2_with (show wpList _ _ _ (Oper.mk (some 41) _ _ _ _ _ :: _) _ _; refine wpList_load_mid rfl 23 (.tmp 40) rfl w.heap.size 1 rfl [.int .i64 g.calendar.year, .int .i64 g.calendar.month, .int .i64 g.calendar.periods] _ HCR5.out Try.underlying23 rfl info_cal ?_)
  refine (HCF.out w5).mono ?_
  rintro e w6 ⟨rfl, hb6⟩
  clear p0 p1 p2
  have hb06 := hb05.trans (hb6.mono hb05.size)
  have hs6 := hb6.size
  have LT06 := Nat.lt_of_lt_of_le LT05 hs6
  have LT16 := Nat.lt_of_lt_of_le LT15 hs6
  have HH6 := Lib.hid ((hb6.block _ LT05).trans HH5.out)
  have HZ6 := Lib.hid ((hb6.block _ LT15).trans HZ5.out)
  have p0 := blk_cell HZ6.out 0
  have p1 := blk_cell HZ6.out 1
  have p2 := blk_cell HZ6.out 2
  have HCR6 := Lib.hid (cal_range HH6.out K1.out K2.out K3.out)
  go_wp2_with (show wpList _ _ _ (Oper.mk (some 49) _ _ _ _ _ :: _) _ _; refine wpList_load_mid rfl 23 (.tmp 48) rfl w.heap.size 1 rfl [.int .i64 g.calendar.year, .int .i64 g.calendar.month, .int .i64 g.calendar.periods] _ HCR6.out Try.underlying23 rfl info_cal ?_)
  refine (HCL.out w6).mono ?_
  rintro e w7 ⟨rfl, hb7⟩
  clear p0 p1 p2
  have hb07 := hb06.trans (hb7.mono hb06.size)
  have hs7 := hb7.size
  have LT07 := Nat.lt_of_lt_of_le LT06 hs7
  have LT17 := Nat.lt_of_lt_of_le LT16 hs7
  have HH7 := Lib.hid ((hb7.block _ LT06).trans HH6.out)
  have HZ7 := Lib.hid ((hb7.block _ LT16).trans HZ6.out)
  have p0 := blk_cell HZ7.out 0
  have p1 := blk_cell HZ7.out 1
  have p2 := blk_cell HZ7.out 2
  have fd1 := HFD.out.1
  have fd2 := HFD.out.2
  go_wp2_with (show wpList _ _ _ (Oper.mk (some 56) _ _ _ _ _ :: _) _ _; refine wpList_load_row_g rfl 29 (.tmp 3) rfl (w.heap.size) rfl _ _ _ _ HH7.out Try.underlying29 rfl (by rw [info_group]; exact congrArg some HGS.out.symm) ?_)
  refine (HBA.out (fd - 1) w7 hb07 HFP.out).mono ?_
  rintro e w8 ⟨r2, rfl, hr2, hb8⟩
  obtain rfl : r2 = 0 := hr2.uniq HCB.out
  rw [if_pos rfl, HV1.out]
  clear p0 p1 p2 hr2
  have hb08 := hb07.trans (hb8.mono hb07.size)
  have hs8 := hb8.size
  have LT08 := Nat.lt_of_lt_of_le LT07 hs8
  have LT18 := Nat.lt_of_lt_of_le LT17 hs8
  have HH8 := Lib.hid ((hb8.block _ LT07).trans HH7.out)
  have HZ8 := Lib.hid ((hb8.block _ LT17).trans HZ7.out)
  have p0 := blk_cell HZ8.out 0
  have p1 := blk_cell HZ8.out 1
  have p2 := blk_cell HZ8.out 2
  go_wp2_with (show wpList _ _ _ (Oper.mk (some 68) _ _ _ _ _ :: _) _ _; refine wpList_load_row_g rfl 29 (.tmp 3) rfl (w.heap.size) rfl _ _ _ _ HH8.out Try.underlying29 rfl (by rw [info_group]; exact congrArg some HGS.out.symm) ?_)
  refine (HBA.out ld w8 hb08 HFP.out).mono ?_
  rintro e w9 ⟨r3, rfl, hr3, hb9⟩
  obtain rfl : r3 = 0 := hr3.uniq HCB.out
  rw [if_pos rfl, HV2.out]
  have hb09 := hb08.trans (hb9.mono hb08.size)
  have hq := HEQ.out
  have hvb := HVB.out
  have q1 : -9223372036854775808 ≤ v1 + v := by omega
  have q2 : v1 + v ≤ 9223372036854775807 := by omega
  have q3 : (v1 + v == v2) = true := by simpa using hq
  clear p0 p1 p2 hr3 hq hvb fd1 fd2
  go_wp2_with fail
  go_ret
  exact ⟨rfl, hb09⟩
end Go.Proofs.Ytebdajkknkapcaa
