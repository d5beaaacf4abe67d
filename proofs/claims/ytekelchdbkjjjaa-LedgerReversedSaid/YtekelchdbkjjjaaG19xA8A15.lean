/- The error of entries, an entity, a period and an account (ledger.books.check). Written by gen_a8.py. -/
import Derived.Test.YtekelchdbkjjjaaG19xB0B3
import Derived.Test.YtekelchdbkjjjaaG19xB4B12
import Derived.Test.YtekelchdbkjjjaaG19xB13B14
import Derived.Test.YtekelchdbkjjjaaG19xB15S0
import Derived.Test.YtekelchdbkjjjaaG19xB21B27
import Derived.Test.YtekelchdbkjjjaaG19xB28S2
import Derived.Test.YtekelchdbkjjjaaG19xS3C3
import Derived.Test.YtekelchdbkjjjaaG19xC4E3
import Derived.Test.YtekelchdbkjjjaaG19xE5H1
import Derived.Test.YtekelchdbkjjjaaG19xH2I7
import Derived.Test.YtekelchdbkjjjaaG19xI8I13
import Derived.Test.YtekelchdbkjjjaaG19xI14I15
import Derived.Test.YtekelchdbkjjjaaG19xI16
import Derived.Test.YtekelchdbkjjjaaG19xI19Q2
import Derived.Test.YtekelchdbkjjjaaG19xK1A7
import Derived.Test.YtekelchdbkjjjaaProg
import Derived.Great.BuildSlice
import Derived.OrdersIn
import Derived.RangeFuncCalls
import Derived.OwnWalkIn
import Derived.Sort.CutIn
set_option linter.unusedVariables false
set_option linter.unusedSimpArgs false
set_option maxRecDepth 4000
attribute [local go_sem ↓] Go.wp_at_zero Go.wp_at_succ
namespace Go.Proofs.Ytekelchdbkjjjaa
open Go Go.RowKit
def chartE (g : XGroup) (ent : Int) : List XAccount := (g.entities.getD ent.toNat {}).chart
def chkR (g : XGroup) (ent period acc : Int) (ch : Bool) : Int :=
 if ent < 0 ∨ (g.entities.length : Int) ≤ ent then 2 else if period ≠ -4611686018427387904 ∧ (calFirst g.calendar.year g.calendar.month g.calendar.periods period).2 ≠ 0 then 2 else if ch = true ∧ (findA (chartE g ent) acc).isSome = false then 17 else 0
def BChk (g : XGroup) (l : List XEntry) (ent period acc : Int) (ch : Bool) (r : Int) : Prop := (¬ validJ g l ∧ r = 1) ∨ (validJ g l ∧ r = chkR g ent period acc ch)
def BChkPost (g : XGroup) (l : List XEntry) (ent period acc : Int) (ch : Bool) (w : World) (e : Ending) (w' : World) : Prop := ∃ r, e = .returned (.int .i64 r) ∧ BChk g l ent period acc ch r ∧ Below w.heap.size w w'
theorem chk_ent {g : XGroup} {l : List XEntry} {ent period acc : Int} {ch : Bool} (hv : validJ g l) (h : ent < 0 ∨ (g.entities.length : Int) ≤ ent) : BChk g l ent period acc ch 2 := .inr ⟨hv, by unfold chkR; rw [if_pos h]⟩
theorem chk_per {g : XGroup} {l : List XEntry} {ent period acc : Int} {ch : Bool} (hv : validJ g l) (h : ¬ (ent < 0 ∨ (g.entities.length : Int) ≤ ent)) (h2 : period ≠ -4611686018427387904) (h3 : (calFirst g.calendar.year g.calendar.month g.calendar.periods period).2 ≠ 0) : BChk g l ent period acc ch 2 := .inr ⟨hv, by unfold chkR; rw [if_neg h, if_pos ⟨h2, h3⟩]⟩
theorem chk_acc {g : XGroup} {l : List XEntry} {ent period acc : Int} {ch : Bool} (hv : validJ g l) (h : ¬ (ent < 0 ∨ (g.entities.length : Int) ≤ ent)) (h2 : ¬ (period ≠ -4611686018427387904 ∧ (calFirst g.calendar.year g.calendar.month g.calendar.periods period).2 ≠ 0)) (h3 : ch = true) (h4 : (findA (chartE g ent) acc).isSome = false) : BChk g l ent period acc ch 17 := .inr ⟨hv, by unfold chkR; rw [if_neg h, if_neg h2, if_pos ⟨h3, h4⟩]⟩
theorem chk_ok {g : XGroup} {l : List XEntry} {ent period acc : Int} {ch : Bool} (hv : validJ g l) (h : ¬ (ent < 0 ∨ (g.entities.length : Int) ≤ ent)) (h2 : ¬ (period ≠ -4611686018427387904 ∧ (calFirst g.calendar.year g.calendar.month g.calendar.periods period).2 ≠ 0)) (h3 : ¬ (ch = true ∧ (findA (chartE g ent) acc).isSome = false)) : BChk g l ent period acc ch 0 := .inr ⟨hv, by unfold chkR; rw [if_neg h, if_neg h2, if_neg h3]⟩
theorem app_at {gl r : List Value} {i : Nat} {v : Value} (h : gl[i]? = some v) : (gl ++ r)[i]? = some v := by
 rw [List.getElem?_append_left (List.getElem?_eq_some_iff.1 h).1]; exact h
theorem bk_range {w : World} {b : Nat} {gl r : List Value} {T : TypeId} (h : w.heap[b]? = some (.cells (gl ++ r).toArray T (0, 0))) : w.rangeAt b 0 gl := fun j v hj => by
 have := blk_cell h (0 + j)
 rw [this, Nat.zero_add, List.getElem?_toArray]
 exact app_at hj
set_option maxHeartbeats 4000000 in
theorem bcheck_c (g : XGroup) (l : List XEntry) (gl : List Value) (A : Option Addr) (c : Nat) (ent period acc : Int) (ch : Bool) (w : World) (hg : GroupC w (· < w.heap.size) gl g) (hl : ListC EntryC 7 w (· < w.heap.size) [.slice A l.length c] l) (hsm : smallG g) (hmo : modest l) (hacc : intBd acc) :
 Calls Try.prog 15 #[.agg (gl ++ ([.slice A l.length c, .int .i64 ent] : List Value)).toArray, .int .i64 period, .int .i64 acc, .bool ch] w (BChkPost g l ent period acc ch w) := by
 have HJC := Lib.hid (fun (w2 : World) (hb : Below w.heap.size w w2) => jcheck_c g l gl A c w2 (hg.keep hb) (entries_keep hl hb) hsm hmo)
 have HGI := Lib.hid (show (Try.prog.info? 29).map (·.size) = some gl.length by rw [info_group, hg.len])
 obtain ⟨Ac, cc, Ae, ce, hl21, h20, _, h1, h2, h3, _, hen⟩ := hg.view
 have K1 := app_at (r := [.slice A l.length c, .int .i64 ent]) h1
 have K2 := app_at (r := [.slice A l.length c, .int .i64 ent]) h2
 have K3 := app_at (r := [.slice A l.length c, .int .i64 ent]) h3
 have K20 := app_at (r := [.slice A l.length c, .int .i64 ent]) h20
 have K21 : (gl ++ ([.slice A l.length c, .int .i64 ent] : List Value))[21]? = some (.slice A l.length c) := by rw [List.getElem?_append_right (by omega)]; simp [hl21]
 have K22 : (gl ++ ([.slice A l.length c, .int .i64 ent] : List Value))[22]? = some (.int .i64 ent) := by rw [List.getElem?_append_right (by omega)]; simp [hl21]
 have HEN := Lib.hid hen
 have HSM := Lib.hid hsm
 have HACC := Lib.hid hacc
 obtain ⟨n, hn⟩ : ∃ n, l.length = n := ⟨_, rfl⟩
 rw [hn] at HJC K1 K2 K3 K20 K21 K22 ⊢
 obtain ⟨ne, hne⟩ : ∃ n, g.entities.length = n := ⟨_, rfl⟩
 have HNE := Lib.hid hne
 rw [hne] at K20
 have hne1 : ne ≤ 1000 := by rw [← hne]; exact hsm.2.1
 obtain ⟨fp, hfp⟩ : ∃ p, calFirst g.calendar.year g.calendar.month g.calendar.periods period = p := ⟨_, rfl⟩
 have HFP := Lib.hid hfp
 have HCF := Lib.hid (fun w2 : World => calFirst_c g.calendar.year g.calendar.month g.calendar.periods period w2)
 rw [hfp] at HCF
 obtain ⟨p1, pe⟩ := fp
 obtain ⟨BL, hBL⟩ : ∃ BL, gl ++ ([.slice A n c, .int .i64 ent] : List Value) = BL := ⟨_, rfl⟩
 have HBL := Lib.hid hBL
 rw [hBL] at K1 K2 K3 K20 K21 K22 ⊢
 have K1 := Lib.hid K1
 have K2 := Lib.hid K2
 have K3 := Lib.hid K3
 have K20 := Lib.hid K20
 have K21 := Lib.hid K21
 have K22 := Lib.hid K22
 clear hg hl hsm hmo hacc h20 h1 h2 h3 hen hn hne hfp hBL hl21
 go_enter Try.func15, Try.ntmps15
 go_upto_region 1 with fail
 have H1 := heap_alloc_new w (.cells BL.toArray 53)
 have HB1 := below1 w (.cells BL.toArray 53)
 have HS1 := blk_lt H1
 generalize hW1 : w.alloc (Obj.cells BL.toArray 53) = W at *
 clear hW1
 have HK := Lib.hid H1
 have HB1h := Lib.hid HB1
 have HGR := Lib.hid (show W.rangeAt w.heap.size 0 gl from bk_range (r := [.slice A n c, .int .i64 ent]) (by rw [HBL.out]; exact H1))
 have c21 := (blk_cell H1 21).trans (show BL.toArray[21]? = some (.slice A n c) by rw [List.getElem?_toArray]; exact K21.out)
 clear H1
 go_wp2_with (show wpList _ _ _ (Oper.mk (some 17) _ _ _ _ _ :: _) _ _; refine wpList_load_mid rfl 29 (.tmp 16) rfl w.heap.size 0 rfl gl _ HGR.out Try.underlying29 rfl HGI.out ?_)
 refine (HJC.out W HB1).mono ?_
 rintro e w2 ⟨ji, jc, rfl, hv, hb2⟩
 have hb02 := HB1h.out.trans (hb2.mono HB1h.out.size)
 have HB02 := Lib.hid hb02
 have HK2 := Lib.hid ((hb2.block _ HS1).trans HK.out)
 have HV := Lib.hid hv
 clear hb2 hb02 hv c21
 by_cases hj0 : jc = 0
 case neg =>
  have hjb : (jc != 0) = true := by simpa using hj0
  have HNV := Lib.hid (show ¬ validJ g l from fun h => hj0 (HV.out.2 h))
  clear hj0
  go_wp2_with fail
  go_ret
  exact ⟨1, rfl, .inl ⟨HNV.out, rfl⟩, HB02.out⟩
 case pos =>
 have hjb : (jc != 0) = false := by simpa using hj0
 have HVA := Lib.hid (HV.out.1 hj0)
 clear hj0
 have c22 := (blk_cell HK2.out 22).trans (show BL.toArray[22]? = some (.int .i64 ent) by rw [List.getElem?_toArray]; exact K22.out)
 have c20 := (blk_cell HK2.out 20).trans (show BL.toArray[20]? = some (.slice Ae ne ce) by rw [List.getElem?_toArray]; exact K20.out)
 have HCR := Lib.hid (cal_range HK2.out K1.out K2.out K3.out)
 by_cases h1 : ent < 0
 case pos =>
  have h1d : decide (ent < 0) = true := decide_eq_true h1
  have HR := Lib.hid (chk_ent (period := period) (acc := acc) (ch := ch) HVA.out (.inl h1))
  clear h1
  go_wp2_with fail
  go_ret
  exact ⟨2, rfl, HR.out, HB02.out⟩
 case neg =>
 have h1d : decide (ent < 0) = false := decide_eq_false h1
 by_cases h2 : (ne : Int) ≤ ent
 case pos =>
  have h2d : decide (ent ≥ (ne : Int)) = true := decide_eq_true h2
  have h2e : decide ((ne : Int) ≤ ent) = true := decide_eq_true h2
  have HR := Lib.hid (chk_ent (period := period) (acc := acc) (ch := ch) HVA.out (.inr (by rw [HNE.out]; exact h2)))
  clear h1 h2
  go_wp2_with fail
  go_ret
  exact ⟨2, rfl, HR.out, HB02.out⟩
 case neg =>
 have h2d : decide (ent ≥ (ne : Int)) = false := decide_eq_false h2
 have h2e : decide ((ne : Int) ≤ ent) = false := decide_eq_false h2
 have HIN := Lib.hid (show ¬ (ent < 0 ∨ (g.entities.length : Int) ≤ ent) by rw [HNE.out]; omega)
 obtain ⟨q, rfl⟩ : ∃ q : Nat, ent = (q : Int) := ⟨ent.toNat, by omega⟩
 have hq : q < ne := by omega
 clear h1 h2
 have hqd : decide (ne ≤ q) = false := decide_eq_false (by omega)
 have hqe : q < g.entities.length := by rw [HNE.out]; exact hq
 obtain ⟨be, oe, es, hAe, hbe, hes, hat⟩ := ListC.get HEN.out q hqe
 subst hAe
 obtain ⟨Ec, c2, Al2, cl2, hes1, hch, hlk⟩ := EntityC.lit hes
 have hn2 := (HSM.out.2.2.2 _ (List.getElem_mem hqe)).1
 have hce : chartE g (q : Int) = g.entities[q].chart := by
  unfold chartE
  rw [Int.toNat_natCast, List.getD_eq_getElem?_getD, List.getElem?_eq_getElem hqe]; rfl
 obtain ⟨ec, hec⟩ : ∃ ec, g.entities[q].chart = ec := ⟨_, rfl⟩
 rw [hec] at hes1 hch hn2 hce
 obtain ⟨n2, hn2'⟩ : ∃ n, ec.length = n := ⟨_, rfl⟩
 rw [hn2'] at hes1
 subst hes1
 have HN2 := Lib.hid hn2'
 have HN3 := Lib.hid hn2
 have HCH := Lib.hid hch
 have HDE := Lib.hid (hat.c (j := 2) rfl)
 have HBE := Lib.hid hbe
 have HCE := Lib.hid hce
 obtain ⟨ao, hao⟩ : ∃ a, accO (findA ec acc) = a := ⟨_, rfl⟩
 obtain ⟨a1, a2, a3, a4⟩ := ao
 have HFO := Lib.hid hao
 obtain ⟨fs, hfs⟩ : ∃ s, (findA ec acc).isSome = s := ⟨_, rfl⟩
 have HFS := Lib.hid hfs
 have HFE := Lib.hid (show (findA (chartE g (q : Int)) acc).isSome = fs by rw [hce]; exact hfs)
 have hqI : (q : Int) < (ne : Int) := by omega
 clear hfs hao hn2' hn2 hch hat hbe hes hlk hec hce hqe
 by_cases hpn : period = -4611686018427387904
 case pos =>
  have HPN := Lib.hid (show ¬ (period ≠ -4611686018427387904 ∧ (calFirst g.calendar.year g.calendar.month g.calendar.periods period).2 ≠ 0) from fun h => h.1 hpn)
  have hpb : (period != -4611686018427387904) = false := by simpa using hpn
  have hbw := HB02.out
  have hd22 := c22
  clear hpn
  have hde := (hbw.cell (p := ⟨be, oe + q * 5 + 2, none⟩) HBE.out).trans HDE.out
  have HBW := Lib.hid hbw
  clear hbw
  cases ch with
  | false =>
   have HR := Lib.hid (chk_ok (acc := acc) (ch := false) HVA.out HIN.out HPN.out (fun h => by cases h.1))
   go_wp2_with fail
   go_ret
   exact ⟨0, rfl, HR.out, HBW.out⟩
  | true =>
   have HFN := Lib.hid (find_n (w := w2) HN2.out (chart_keep HCH.out HBW.out) HN3.out acc HACC.out HFO.out HFS.out)
   cases fs with
   | false =>
    have HR := Lib.hid (chk_acc (acc := acc) (ch := true) HVA.out HIN.out HPN.out rfl HFE.out)
    go_wp2_with (first | (go_at_call 26; refine HFN.out.mono ?_; rintro e w5 ⟨rfl, h5⟩; have H5 := Lib.hid h5; clear h5) | (show wpList _ _ _ (Oper.mk none (Op.store _ (Operand.tmp 13) _) _ _ _ _ :: _) _ _; refine wpList_store_fresh3 rfl 72 (.tmp 13) (.tmp 61) rfl rfl w5 #[.int .i64 0, .int .i64 0, .int .i64 0, .int .i64 0] 72 #[.int .i64 a1, .int .i64 a2, .int .i64 a3, .int .i64 a4] rfl rfl rfl (info_accS ⟨a1, a2, a3, a4⟩) rfl (by simp [Value.oneCell']) ?_; intro w6 H6 HB6 HS6))
    go_ret
    exact ⟨17, rfl, HR.out, HBW.out.trans ((H5.out.trans (HB6.mono H5.out.size)).mono HBW.out.size)⟩
   | true =>
    have HR := Lib.hid (chk_ok (acc := acc) (ch := true) HVA.out HIN.out HPN.out (fun h => by rw [HFE.out] at h; cases h.2))
    go_wp2_with (first | (go_at_call 26; refine HFN.out.mono ?_; rintro e w5 ⟨rfl, h5⟩; have H5 := Lib.hid h5; clear h5) | (show wpList _ _ _ (Oper.mk none (Op.store _ (Operand.tmp 13) _) _ _ _ _ :: _) _ _; refine wpList_store_fresh3 rfl 72 (.tmp 13) (.tmp 61) rfl rfl w5 #[.int .i64 0, .int .i64 0, .int .i64 0, .int .i64 0] 72 #[.int .i64 a1, .int .i64 a2, .int .i64 a3, .int .i64 a4] rfl rfl rfl (info_accS ⟨a1, a2, a3, a4⟩) rfl (by simp [Value.oneCell']) ?_; intro w6 H6 HB6 HS6))
    go_ret
    exact ⟨0, rfl, HR.out, HBW.out.trans ((H5.out.trans (HB6.mono H5.out.size)).mono HBW.out.size)⟩
 case neg =>
  have hpb : (period != -4611686018427387904) = true := by simpa using hpn
  go_wp2_with (show wpList _ _ _ (Oper.mk (some 42) _ _ _ _ _ :: _) _ _; refine wpList_load_mid rfl 23 (.tmp 41) rfl w.heap.size 1 rfl [.int .i64 g.calendar.year, .int .i64 g.calendar.month, .int .i64 g.calendar.periods] _ HCR.out Try.underlying23 rfl info_cal ?_)
  refine (HCF.out w2).mono ?_
  rintro e w3 ⟨rfl, hb3⟩
  have hb03 := HB02.out.trans (hb3.mono HB02.out.size)
  have HB03 := Lib.hid hb03
  have HK3 := Lib.hid ((hb3.block _ (blk_lt HK2.out)).trans HK2.out)
  clear hb3 hb03 c22 c20
  by_cases hp0 : pe = 0
  case neg =>
   have hpeb : (pe != 0) = true := by simpa using hp0
   have HR := Lib.hid (chk_per (acc := acc) (ch := ch) HVA.out HIN.out hpn (by rw [HFP.out]; exact hp0))
   clear hpn hp0
   go_wp2_with fail
   go_ret
   exact ⟨2, rfl, HR.out, HB03.out⟩
  case pos =>
  have hpeb : (pe != 0) = false := by simpa using hp0
  have HPN := Lib.hid (show ¬ (period ≠ -4611686018427387904 ∧ (calFirst g.calendar.year g.calendar.month g.calendar.periods period).2 ≠ 0) from fun h => h.2 (by rw [HFP.out]; exact hp0))
  clear hpn hp0
  have c20 := (blk_cell HK3.out 20).trans (show BL.toArray[20]? = some (.slice (some ⟨be, oe, none⟩) ne ce) by rw [List.getElem?_toArray]; exact K20.out)
  have hd22 := (blk_cell HK3.out 22).trans (show BL.toArray[22]? = some (.int .i64 (q : Int)) by rw [List.getElem?_toArray]; exact K22.out)
  have hbw := HB03.out
  have hde := (hbw.cell (p := ⟨be, oe + q * 5 + 2, none⟩) HBE.out).trans HDE.out
  have HBW := Lib.hid hbw
  clear hbw
  cases ch with
  | false =>
   have HR := Lib.hid (chk_ok (acc := acc) (ch := false) HVA.out HIN.out HPN.out (fun h => by cases h.1))
   go_wp2_with fail
   go_ret
   exact ⟨0, rfl, HR.out, HBW.out⟩
  | true =>
   have HFN := Lib.hid (find_n (w := w3) HN2.out (chart_keep HCH.out HBW.out) HN3.out acc HACC.out HFO.out HFS.out)
   cases fs with
   | false =>
    have HR := Lib.hid (chk_acc (acc := acc) (ch := true) HVA.out HIN.out HPN.out rfl HFE.out)
    go_wp2_with (first | (go_at_call 26; refine HFN.out.mono ?_; rintro e w5 ⟨rfl, h5⟩; have H5 := Lib.hid h5; clear h5) | (show wpList _ _ _ (Oper.mk none (Op.store _ (Operand.tmp 13) _) _ _ _ _ :: _) _ _; refine wpList_store_fresh3 rfl 72 (.tmp 13) (.tmp 61) rfl rfl w5 #[.int .i64 0, .int .i64 0, .int .i64 0, .int .i64 0] 72 #[.int .i64 a1, .int .i64 a2, .int .i64 a3, .int .i64 a4] rfl rfl rfl (info_accS ⟨a1, a2, a3, a4⟩) rfl (by simp [Value.oneCell']) ?_; intro w6 H6 HB6 HS6))
    go_ret
    exact ⟨17, rfl, HR.out, HBW.out.trans ((H5.out.trans (HB6.mono H5.out.size)).mono HBW.out.size)⟩
   | true =>
    have HR := Lib.hid (chk_ok (acc := acc) (ch := true) HVA.out HIN.out HPN.out (fun h => by rw [HFE.out] at h; cases h.2))
    go_wp2_with (first | (go_at_call 26; refine HFN.out.mono ?_; rintro e w5 ⟨rfl, h5⟩; have H5 := Lib.hid h5; clear h5) | (show wpList _ _ _ (Oper.mk none (Op.store _ (Operand.tmp 13) _) _ _ _ _ :: _) _ _; refine wpList_store_fresh3 rfl 72 (.tmp 13) (.tmp 61) rfl rfl w5 #[.int .i64 0, .int .i64 0, .int .i64 0, .int .i64 0] 72 #[.int .i64 a1, .int .i64 a2, .int .i64 a3, .int .i64 a4] rfl rfl rfl (info_accS ⟨a1, a2, a3, a4⟩) rfl (by simp [Value.oneCell']) ?_; intro w6 H6 HB6 HS6))
    go_ret
    exact ⟨0, rfl, HR.out, HBW.out.trans ((H5.out.trans (HB6.mono H5.out.size)).mono HBW.out.size)⟩
theorem all_range {p : Nat → Bool} {n k : Nat} (h : (List.range n).all p = true) (hk : k < n) : p k = true := List.all_eq_true.1 h k (List.mem_range.2 hk)
theorem group_chart {g : XGroup} (h : groupB g = true) {q : Nat} (hq : q < g.entities.length) : chartB g.entities[q].chart false = true := by
 unfold groupB at h
 simp only [Bool.and_eq_true] at h
 have h1 := h.2
 unfold entsB at h1
 have h2 := all_range h1 hq
 unfold entRow at h2
 rw [List.getElem?_eq_getElem hq] at h2
 simp only [Bool.and_eq_true] at h2
 have h3 := h2.2
 unfold entityB at h3
 simp only [Bool.and_eq_true] at h3
 have h4 := h3.1.2
 unfold mappingB at h4
 simp only [Bool.and_eq_true] at h4
 exact h4.1.1.2
theorem chart_field {ch : List XAccount} {b : Bool} (h : chartB ch b = true) {a : XAccount} (ha : a ∈ ch) : 1 ≤ a.code ∧ a.code ≤ 99999 := by
 unfold chartB at h
 simp only [Bool.and_eq_true] at h
 obtain ⟨k, hk, rfl⟩ := List.getElem_of_mem ha
 have h2 := all_range h.1 hk
 unfold rowP at h2
 rw [List.getElem?_eq_getElem hk] at h2
 simp only [Bool.and_eq_true] at h2
 have h3 := h2.2
 unfold properP at h3
 simp only [Bool.and_eq_true] at h3
 have h4 := h3.1
 unfold fieldB at h4
 simp only [Bool.and_eq_true, decide_eq_true_eq] at h4
 exact ⟨h4.1.1, h4.1.2.1⟩
theorem find_code {ch : List XAccount} {b : Bool} (h : chartB ch b = true) {c : Int} (hf : (findA ch c).isSome = true) : 1 ≤ c ∧ c ≤ 99999 := by
 obtain ⟨a, ha⟩ := Option.isSome_iff_exists.1 hf
 obtain ⟨h1, h2⟩ := findA_mem ha
 have := chart_field h h1
 omega
theorem chartE_at {g : XGroup} {q : Nat} (hq : q < g.entities.length) : chartE g (q : Int) = g.entities[q].chart := by
 unfold chartE
 rw [Int.toNat_natCast, List.getD_eq_getElem?_getD, List.getElem?_eq_getElem hq]; rfl
theorem valid_formed {g : XGroup} {l : List XEntry} (h : validJ g l) {x : XEntry} (hx : x ∈ l) : Formed (groupB g) g.entities.length x := (formB_iff _ _ _).1 (checkE_form (okJ_check h.2 hx))
theorem valid_charted {g : XGroup} {l : List XEntry} (h : validJ g l) {x : XEntry} (hx : x ∈ l) : chartedB (chartE g x.entity) x.lines = true ∧ inCalB g.calendar.year g.calendar.month g.calendar.periods x.date = true ∧ sumL x.lines = 0 := by
 have h1 := okJ_check h.2 hx
 unfold checkE at h1
 unfold chartE
 split at h1
 · split at h1
   · split at h1
     · split at h1
       · exact ⟨‹_›, ‹_›, ‹_›⟩
       · cases h1
     · cases h1
   · cases h1
 · cases h1
theorem valid_line {g : XGroup} {l : List XEntry} (h : validJ g l) {x : XEntry} (hx : x ∈ l) {y : XLine} (hy : y ∈ x.lines) : lineOk x.date y ∧ (findA (chartE g x.entity) y.account).isSome = true := by
 have h1 := valid_formed h hx
 have h2 := (valid_charted h hx).1
 obtain ⟨_, _, h3, h4, _, _, _, _, _, _, _, h5⟩ := h1
 obtain ⟨q, hq⟩ : ∃ q : Nat, x.entity = (q : Int) := ⟨x.entity.toNat, by omega⟩
 have hqe : q < g.entities.length := by omega
 unfold chartedB at h2
 rw [List.all_eq_true] at h2
 have h6 := h2 y hy
 have h7 := h6
 rw [hq, chartE_at hqe] at h7
 have h8 := find_code (group_chart h.1 hqe) h7
 have h9 := ((lineB_iff _ _ _).1 (h5 y hy)).2.1
 unfold monB at h9
 rw [decide_eq_true_eq] at h9
 exact ⟨⟨by omega, h8.1, h8.2⟩, h6⟩
theorem valid_lines {g : XGroup} {l : List XEntry} (h : validJ g l) {x : XEntry} (hx : x ∈ l) : x.lines.length ≤ 40 := (valid_formed h hx).2.2.2.2.2.2.2.2.2.2.1
theorem linesD_len {l : List XEntry} (ent d : Int) (h : ∀ x ∈ l, x.lines.length ≤ 40) : (linesD l ent d).length ≤ 40 * l.length := by
 induction l with
 | nil => simp [linesD]
 | cons x l ih =>
  have h1 := ih (fun z hz => h z (List.mem_cons_of_mem _ hz))
  have h2 := h x (List.mem_cons_self ..)
  have h3 : (linesD (x :: l) ent d).length = (if x.entity = ent ∧ x.date ≤ d then x.lines.map (fun y => (x.date, y)) else []).length + (linesD l ent d).length := by simp [linesD]
  rw [h3, List.length_cons]
  split
  · rw [List.length_map]; omega
  · simp only [List.length_nil]; omega
theorem sum_bal (l : List XEntry) (ent acc d : Int) : sumPd (fun _ _ => true) acc (linesD l ent d) = sumE (qB d) l ent acc := by
 rw [sumPd_D]
 exact sumE_congr ent acc (fun x _ _ y _ => by simp only [qB, and_true])
theorem GroupC.ones {w : World} {Q : Nat → Prop} {cs : List Value} {g : XGroup} (h : GroupC w Q cs g) : cs.all (·.oneCell') = true := by
 obtain ⟨Ac, cc, Ae, ce, e, _⟩ := h.lit
 subst e
 simp [grpL, Value.oneCell']
theorem GroupC.books {w : World} {Q : Nat → Prop} {cs : List Value} {g : XGroup} (h : GroupC w Q cs g) (A : Option Addr) (n c : Nat) (ent : Int) : Try.prog.built 53 [(0, .agg cs.toArray), (1, .slice A n c), (2, .int .i64 ent)] = some (cs ++ ([.slice A n c, .int .i64 ent] : List Value)).toArray := by
 obtain ⟨Ac, cc, Ae, ce, e, _⟩ := h.lit
 subst e
 kernel_rfl
theorem info_books : (Try.prog.info? 53).map (·.size) = some 23 := by kernel_rfl
end Go.Proofs.Ytekelchdbkjjjaa
namespace Go.Proofs.Ytekelchdbkjjjaa
open Go Go.RowKit Go.Shelf
section
attribute [local go_sem] Oper.semAt_some
theorem bal1_in (F : Fence) (n : Nat) (hF : F.fn 23) (hro : F.round = none) (w : World) : HoldsC F n w 23 #[] (fun _ _ => true) := fun t m W hW => by
 clear hW
 refine callsIn_of_wp Try.func23 rfl hF ?_ hro
 simp only [Try.ntmps23, List.size_toArray, List.length_cons, List.length_nil, Nat.reduceAdd, Nat.reduceSub, Array.replicate_succ, Array.replicate_zero, List.push_toArray, List.append_toArray, List.nil_append, List.cons_append]
 gi_wp2_with fail
 go_ret
 exact ⟨rfl, rfl⟩
end
section
def BalPost (g : XGroup) (l : List XEntry) (ent acc d : Int) (w : World) (e : Ending) (w' : World) : Prop := ∃ r, e = .returned (.tuple #[.int .i64 (if r = 0 then sumE (qB d) l ent acc else 0), .int .i64 r]) ∧ BChk g l ent (-4611686018427387904) acc true r ∧ Below w.heap.size w w'
theorem bchk_valid {g : XGroup} {l : List XEntry} {ent period acc : Int} {ch : Bool} (h : BChk g l ent period acc ch 0) : validJ g l := by
 rcases h with h | h
 · exact absurd h.2 (by decide)
 · exact h.1
set_option maxHeartbeats 4000000 in
theorem balance_c (g : XGroup) (l : List XEntry) (gl : List Value) (A : Option Addr) (c : Nat) (ent acc d : Int) (w : World) (hg : GroupC w (· < w.heap.size) gl g) (hl : ListC EntryC 7 w (· < w.heap.size) [.slice A l.length c] l) (hsm : smallG g) (hmo : modest l) (hle : l.length ≤ 100) (hacc : intBd acc) : Calls Try.prog 13 #[.agg gl.toArray, .slice A l.length c, .int .i64 ent, .int .i64 acc, .int .i64 d] w (BalPost g l ent acc d w) := by
 have HCK := Lib.hid (fun (period : Int) (w2 : World) (hb : Below w.heap.size w w2) => bcheck_c g l gl A c ent period acc true w2 (hg.keep hb) (entries_keep hl hb) hsm hmo hacc)
 have HGS := Lib.hid (show gl.toArray.size = 21 by have := hg.len; simpa using this)
 have HGL := Lib.hid hg.len
 have HBU := Lib.hid (hg.books A l.length c ent)
 have HON := Lib.hid (show (gl ++ ([.slice A l.length c, .int .i64 ent] : List Value)).toArray.all (·.oneCell') = true by
  have h1 := hg.ones
  rw [List.all_toArray, List.all_append, h1]
  rfl)
 have HSZ := Lib.hid (show (gl ++ ([.slice A l.length c, .int .i64 ent] : List Value)).toArray.size = 23 by have := hg.len; simp; omega)
 have HSUM := Lib.hid (fun (h : Nat) (hb : Array Value) (eh : ∀ args w, (callFunc h args).run Try.prog w = .ok (.enter h args) w) (p : Int → Int → Bool) (d : Int) (w2 : World) (hbl : Below w.heap.size w w2) (hv : validJ g l) (hH : HoldsC Fence.wide 2 w2 h hb p) =>
  callsIn_wide.1 (bsum_in Fence.wide 5 trivial trivial trivial h hb trivial eh rfl (by omega) l A c ent acc d (gl ++ ([.slice A l.length c, .int .i64 ent] : List Value)).toArray p w2 (by have := hg.len; rw [List.getElem?_toArray, List.getElem?_append_right (by omega)]; simp [this]) (by have := hg.len; rw [List.getElem?_toArray, List.getElem?_append_right (by omega)]; simp [this])
   (entries_keep hl hbl) (fun x hx => by have := valid_lines hv hx; omega) (by omega) (fun x hx _ _ y hy => (valid_line hv hx hy).1) (by have := linesD_len (l := l) ent d (fun x hx => valid_lines hv hx); omega) hH))
 obtain ⟨BL, hBL⟩ : ∃ BL, (gl ++ ([.slice A l.length c, .int .i64 ent] : List Value)).toArray = BL := ⟨_, rfl⟩
 rw [hBL] at HCK HBU HON HSZ HSUM
 obtain ⟨n, hn⟩ : ∃ n, l.length = n := ⟨_, rfl⟩
 rw [hn] at HBU ⊢
 have HIB := Lib.hid (show (Try.prog.info? 53).map (·.size) = some BL.size by rw [info_books, HSZ.out])
 clear hg hl hsm hmo hle hacc hBL hn
 have HCK := Lib.hid (HCK.out (-4611686018427387904))
 have HSM1 := Lib.hid (fun (w2 : World) (hbl : Below w.heap.size w w2) (hv : validJ g l) => HSUM.out 23 #[] (enters_of Try.func23 (by kernel_rfl) rfl) (fun _ _ => true) d w2 hbl hv (bal1_in Fence.wide 2 trivial rfl w2))
 clear HSUM
 go_enter Try.func13, Try.ntmps13
 go_upto_region 1 with fail
 have H1 := heap_alloc_new w (.cells gl.toArray 29)
 have HB1 := below1 w (.cells gl.toArray 29)
 have HS1 := blk_lt H1
 generalize hW1 : w.alloc (Obj.cells gl.toArray 29) = W at *
 clear hW1
 have HK := Lib.hid H1
 have HB1h := Lib.hid HB1
 clear H1
 go_wp2_with (first | (show wpList _ _ _ (Oper.mk (some 14) _ _ _ _ _ :: _) _ _; refine wpList_load_row_g rfl 29 (.tmp 5) rfl (w.heap.size) rfl _ _ _ _ HK.out Try.underlying29 rfl (by rw [info_group]; exact congrArg some HGS.out.symm) ?_) | (show wpList _ _ _ (Oper.mk (some 17) _ _ _ _ _ :: _) _ _; go_loud (refine wpList_built rfl 53 _ rfl [(0, .agg gl.toArray), (1, .slice A n c), (2, .int .i64 ent)] (by simp [Act.eval]) BL HBU.out ?_)) | (show wpList _ _ _ (Oper.mk none (Op.store _ (Operand.tmp 12) _) _ _ _ _ :: _) _ _; refine wpList_store_fresh3 rfl 53 (.tmp 12) (.tmp 17) rfl rfl W #[.string ⟨#[]⟩, .int .i64 0, .int .i64 0, .int .i64 0, .slice none 0 0, .int .i64 0, .int .i64 0, .int .i64 0, .int .i64 0, .int .i64 0, .int .i64 0, .int .i64 0, .int .i64 0, .int .i64 0, .int .i64 0, .int .i64 0, .int .i64 0, .int .i64 0, .int .i64 0, .int .i64 0, .slice none 0 0, .slice none 0 0, .int .i64 0] 53 BL rfl rfl rfl HIB.out HSZ.out.symm HON.out ?_; intro w4 H4 HB4 HS4) | (show wpList _ _ _ (Oper.mk (some 18) _ _ _ _ _ :: _) _ _; refine wpList_load_row_g rfl 53 (.tmp 12) rfl W.heap.size rfl _ _ _ _ H4 Try.underlying53 rfl HIB.out ?_))
 have hb04 := HB1h.out.trans (HB4.mono HB1h.out.size)
 have HK4 := Lib.hid H4
 have HB04 := Lib.hid hb04
 clear HB4 H4 hb04
 refine (HCK.out w4 HB04.out).mono ?_
 rintro e w5 ⟨r, rfl, hr, hb5⟩
 have HR := Lib.hid hr
 have hb05 := HB04.out.trans (hb5.mono HB04.out.size)
 have HB05 := Lib.hid hb05
 have HK5 := Lib.hid ((hb5.block _ HS4).trans HK4.out)
 clear hb5 hb05 hr
 by_cases hr0 : r = 0
 case neg =>
  have hrb : (r != 0) = true := by simpa using hr0
  have HP := Lib.hid (show (if r = 0 then sumE (qB d) l ent acc else (0 : Int)) = 0 from if_neg hr0)
  clear hr0
  go_wp2_with fail
  go_ret2
  exact ⟨r, by rw [HP.out]; first | done | rfl, HR.out, HB05.out⟩
 case pos =>
  subst hr0
  have HSC := Lib.hid (HSM1.out w5 HB05.out (bchk_valid HR.out))
  have HV := Lib.hid (sum_bal l ent acc d)
  go_wp2_with (first | (show wpList _ _ _ (Oper.mk (some 24) _ _ _ _ _ :: _) _ _; refine wpList_load_row_g rfl 53 (.tmp 12) rfl W.heap.size rfl _ _ _ _ HK5.out Try.underlying53 rfl HIB.out ?_))
  refine HSC.out.mono ?_
  rintro e w6 ⟨rfl, hb6⟩
  rw [HV.out]
  obtain ⟨sv, hsv⟩ : ∃ sv, sumE (qB d) l ent acc = sv := ⟨_, rfl⟩
  have HSV := Lib.hid hsv
  have HB06 := Lib.hid (HB05.out.trans (hb6.mono HB05.out.size))
  rw [hsv]
  clear hsv hb6 HV HSC
  go_wp2_with fail
  go_ret2
  exact ⟨0, by rw [if_pos rfl, HSV.out]; first | done | rfl, HR.out, HB06.out⟩
end
end Go.Proofs.Ytekelchdbkjjjaa
namespace Go.Proofs.Ytekelchdbkjjjaa
open Go Go.RowKit
theorem BChk.uniq {g : XGroup} {l : List XEntry} {ent period acc : Int} {ch : Bool} {r s : Int} (h : BChk g l ent period acc ch r) (k : BChk g l ent period acc ch s) : r = s := by
 rcases h with ⟨h1, rfl⟩ | ⟨h1, rfl⟩ <;> rcases k with ⟨k1, rfl⟩ | ⟨k1, rfl⟩
 · rfl
 · exact absurd k1 h1
 · exact absurd h1 k1
 · rfl
theorem absE_valid {g : XGroup} {l : List XEntry} (h : validJ g l) (hl : l.length ≤ 100) : absE l ≤ 4503599627370496 := by
 have h3 : ∀ k : List XEntry, (∀ x ∈ k, x ∈ l) → absE k ≤ 40000000000000 * k.length := fun k => by
  induction k with
  | nil => intro _; simp [absE]
  | cons x k ih =>
   intro hk
   have h4 := ih (fun z hz => hk z (List.mem_cons_of_mem _ hz))
   have hx := hk x (List.mem_cons_self ..)
   have h5 := valid_lines h hx
   have h6 : ∀ m : List XLine, (∀ y ∈ m, y ∈ x.lines) → absL m ≤ 1000000000000 * m.length := fun m => by
    induction m with
    | nil => intro _; simp [absL]
    | cons y m ih2 =>
     intro hm
     have h7 := ih2 (fun z hz => hm z (List.mem_cons_of_mem _ hz))
     have h8 := (valid_formed h hx).2.2.2.2.2.2.2.2.2.2.2 y (hm y (List.mem_cons_self ..))
     have h9 := ((lineB_iff _ _ _).1 h8).2.1
     unfold monB at h9
     rw [decide_eq_true_eq] at h9
     have h10 : absL (y :: m) = (y.amount.natAbs : Int) + absL m := by simp [absL]
     rw [h10, List.length_cons]
     omega
   have h11 := h6 x.lines (fun y hy => hy)
   rw [absE_cons, List.length_cons]
   omega
 have := h3 l (fun x hx => hx)
 omega
theorem sumE_lt (q : Int → Int → Int) (hq : ∀ a b, -(b.natAbs : Int) ≤ q a b ∧ q a b ≤ (b.natAbs : Int)) {g : XGroup} {l : List XEntry} (h : validJ g l) (hl : l.length ≤ 100) (ent acc : Int) : -4503599627370496 ≤ sumE q l ent acc ∧ sumE q l ent acc ≤ 4503599627370496 := by
 have h1 := sumE_le (q := q) ent acc (es := l) hq
 have h2 := absE_valid h hl
 omega
def aw14L : List XLine := [⟨10, 100, -1⟩, ⟨100, -100, -1⟩]
def aw14 : XEntry := ⟨1, 0, 20454, 1, 0, ⟨#[]⟩, aw14L⟩
theorem aw14_bd : ∀ x ∈ aw14L, lineBd x := by
 show ∀ x ∈ aw14L, intBd x.account ∧ intBd x.amount ∧ intBd x.partner
 decide
theorem aw14_first : calFirst 2026 1 36 0 = (20454, 0) := by decide +kernel
theorem aw14_post : postE sampleG [] aw14 = 0 := by decide +kernel
theorem aw14_valid : validJ sampleG [aw14] := ⟨sample_valid, fun k hk => by
 have : k = 0 := by simp at hk; omega
 subst this
 exact aw14_post⟩
theorem aw14_chk : BChk sampleG [aw14] 0 (-4611686018427387904) 100 true 0 := .inr ⟨aw14_valid, by decide +kernel⟩
theorem aw14_sum : sumE (qB 20454) [aw14] 0 100 = -100 := by decide +kernel
theorem entry_lay {w W : World} {T : TypeId} {x : XEntry} {cs : List Value} (hW : W.heap[w.heap.size]? = some (.cells cs.toArray T (0, 0))) (hx : EntryC W (· < W.heap.size) cs x) (hs : cs.length = 7) : ListC EntryC 7 W (· < W.heap.size) [.slice (some ⟨w.heap.size, 0, none⟩) 1 1] [x] :=
 ⟨_, _, rfl, Nat.le_refl _, by unfold maxLen; decide, fun _ => ⟨w.heap.size, 0, rfl, blk_lt hW, fun i y hi => by
  have hi0 : i = 0 := by
   have := (List.getElem?_eq_some_iff.1 hi).1
   simp at this
   exact this
  subst hi0
  simp at hi
  subst hi
  exact ⟨cs, hx, by simpa using box_at hW⟩⟩⟩
set_option maxHeartbeats 4000000 in
theorem awake14_c (w : World) : Calls Try.prog 5 #[] w (Quiet w (.bool true)) := by
 go_enter Try.func5, Try.ntmps5
 go_wp2_with fail
 refine (sample_c w).mono ?_
 rintro e w2 ⟨vs, rfl, hg, hb2⟩
 have hone : vs.toArray.all (·.oneCell') = true := by rw [List.all_toArray, List.all_eq_true]; exact grp_one hg
 have HGS := Lib.hid (show vs.toArray.size = 21 by simpa using hg.len)
 have HONE := Lib.hid hone
 have HG := Lib.hid hg
 obtain ⟨_, _, _, _, _, _, _, k1, k2, k3, _, _⟩ := hg.view
 have K1 := Lib.hid (show vs[1]? = some (.int .i64 2026) from k1)
 have K2 := Lib.hid (show vs[2]? = some (.int .i64 1) from k2)
 have K3 := Lib.hid (show vs[3]? = some (.int .i64 36) from k3)
 clear hg hone k1 k2 k3
 go_upto_region 2 with (show wpList _ _ _ (Oper.mk none (Op.store _ (Operand.tmp 1) _) _ _ _ _ :: _) _ _; refine wpList_store_fresh3 rfl 29 (.tmp 1) (.tmp 7) rfl rfl w2 #[.string ⟨#[]⟩, .int .i64 0, .int .i64 0, .int .i64 0, .slice none 0 0, .int .i64 0, .int .i64 0, .int .i64 0, .int .i64 0, .int .i64 0, .int .i64 0, .int .i64 0, .int .i64 0, .int .i64 0, .int .i64 0, .int .i64 0, .int .i64 0, .int .i64 0, .int .i64 0, .int .i64 0, .slice none 0 0] 29 vs.toArray rfl rfl rfl (by rw [info_group]; exact congrArg some HGS.out.symm) HGS.out.symm HONE.out ?_; intro w3 H3 HB3 HS3)
 have HK3 := Lib.hid H3
 have HB03 := Lib.hid (hb2.trans (HB3.mono hb2.size))
 have HCR := Lib.hid (cal_range H3 K1.out K2.out K3.out)
 have HG3 := Lib.hid (HG.out.keep HB3)
 clear H3 HB3 hb2
 go_wp2_with (show wpList _ _ _ (Oper.mk (some 10) _ _ _ _ _ :: _) _ _; refine wpList_load_mid rfl 23 (.tmp 9) rfl w2.heap.size 1 rfl [.int .i64 2026, .int .i64 1, .int .i64 36] _ HCR.out Try.underlying23 rfl info_cal ?_)
 refine (rcalFirst_c 2026 1 36 0 w3).mono ?_
 rintro e w5 ⟨rfl, hb5⟩
 rw [aw14_first]
 have HB05 := Lib.hid (HB03.out.trans (hb5.mono HB03.out.size))
 have HK5 := Lib.hid ((hb5.block _ (blk_lt HK3.out)).trans HK3.out)
 have HG5 := Lib.hid (HG3.out.keep hb5)
 clear hb5
 go_upto_region 4 with fail
 have H6 := heap_alloc_new w5 (.cells #[.int .i64 10, .int .i64 100, .int .i64 (-1), .int .i64 100, .int .i64 (-100), .int .i64 (-1)] 49)
 have HB6 := below1 w5 (.cells #[.int .i64 10, .int .i64 100, .int .i64 (-1), .int .i64 100, .int .i64 (-100), .int .i64 (-1)] 49)
 have es6 : (w5.alloc (.cells #[.int .i64 10, .int .i64 100, .int .i64 (-1), .int .i64 100, .int .i64 (-100), .int .i64 (-1)] 49)).heap.size = w5.heap.size + 1 := by simp
 generalize w5.alloc (.cells #[.int .i64 10, .int .i64 100, .int .i64 (-1), .int .i64 100, .int .i64 (-100), .int .i64 (-1)] 49) = w6 at *
 have HL6 := Lib.hid (lines_lay aw14L aw14_bd (by decide) w5 w6 _ _ rfl H6)
 have H7 := heap_alloc_new w6 (.cells #[.int .i64 1, .int .i64 0, .int .i64 20454, .int .i64 1, .int .i64 0, .string ⟨#[]⟩, .slice (some ⟨w5.heap.size, 0, none⟩) 2 2] 36)
 have HB7 := below1 w6 (.cells #[.int .i64 1, .int .i64 0, .int .i64 20454, .int .i64 1, .int .i64 0, .string ⟨#[]⟩, .slice (some ⟨w5.heap.size, 0, none⟩) 2 2] 36)
 rw [es6] at H7
 generalize w6.alloc (.cells #[.int .i64 1, .int .i64 0, .int .i64 20454, .int .i64 1, .int .i64 0, .string ⟨#[]⟩, .slice (some ⟨w5.heap.size, 0, none⟩) 2 2] 36) = w7 at *
 have hb57 := HB6.trans (HB7.mono HB6.size)
 have HB07 := Lib.hid (HB05.out.trans (hb57.mono HB05.out.size))
 have HG7 := Lib.hid (HG5.out.keep hb57)
 have HK7 := Lib.hid ((hb57.block _ (blk_lt HK5.out)).trans HK5.out)
 have HX7 := Lib.hid H7
 have HL7 := Lib.hid (lines_keep HL6.out HB7)
 clear H6 HB6 es6 H7 HB7 hb57 HL6
 go_upto_region 5 with (first | (show wpList _ _ _ (Oper.mk (some 20) _ _ _ _ _ :: _) _ _; refine wpList_load_row_g rfl 29 (.tmp 1) rfl (w2.heap.size) rfl _ _ _ _ HK7.out Try.underlying29 rfl (by rw [info_group]; exact congrArg some HGS.out.symm) ?_) | (show wpList _ _ _ (Oper.mk (some 21) _ _ _ _ _ :: _) _ _; refine wpList_load_row_g rfl 36 (.tmp 4) rfl (w5.heap.size + 1) rfl _ _ _ _ HX7.out Try.underlying36 rfl info_entry ?_))
 have H8 := heap_alloc_new w7 (.cells #[.int .i64 1, .int .i64 0, .int .i64 20454, .int .i64 1, .int .i64 0, .string ⟨#[]⟩, .slice (some ⟨w5.heap.size, 0, none⟩) 2 2] 36)
 have HB8 := below1 w7 (.cells #[.int .i64 1, .int .i64 0, .int .i64 20454, .int .i64 1, .int .i64 0, .string ⟨#[]⟩, .slice (some ⟨w5.heap.size, 0, none⟩) 2 2] 36)
 generalize w7.alloc (.cells #[.int .i64 1, .int .i64 0, .int .i64 20454, .int .i64 1, .int .i64 0, .string ⟨#[]⟩, .slice (some ⟨w5.heap.size, 0, none⟩) 2 2] 36) = w8 at *
 have hx := EntryC.mk (w := w8) (Q := (· < w8.heap.size)) (x := aw14) (A := some ⟨w5.heap.size, 0, none⟩) (c := 2) (by show intBd 1 ∧ intBd 0 ∧ intBd 20454 ∧ intBd 1 ∧ intBd 0; unfold intBd; omega) (lines_keep HL7.out HB8)
 have hb := balance_c sampleG [aw14] vs (some ⟨w7.heap.size, 0, none⟩) 1 0 100 20454 w8 (HG7.out.keep HB8) (entry_lay H8 hx rfl) sample_small ⟨by intro x hx; simp at hx; subst hx; decide, by simp⟩ (by simp) (by unfold intBd; omega)
 have HBAL := Lib.hid hb
 have HB08 := Lib.hid (HB07.out.trans (HB8.mono HB07.out.size))
 clear hb hx H8 HB8
 refine HBAL.out.mono ?_
 rintro e w9 ⟨r, rfl, hr, hb9⟩
 obtain rfl : r = 0 := hr.uniq aw14_chk
 rw [if_pos rfl, aw14_sum]
 have HB09 := Lib.hid (HB08.out.trans (hb9.mono HB08.out.size))
 clear hr hb9
 go_wp2_with fail
 go_ret
 exact ⟨rfl, HB09.out⟩
theorem few_modest {g : XGroup} {l : List XEntry} (h : fewJ g l) : modest l := ⟨fun x hx => by have h1 := h.1 x hx; have h2 := h1.1; have h3 := h1.2.1; omega, by have := h.2.1; omega⟩
theorem wp_round {P : Program} {o : Oper} (hnd : ∀ c, o.op ≠ .defer c) {l n : Nat} {a : Act} {w : World} {K : Act → World → Prop} {Q : Exit → Act → World → Prop} (h : o.wp P a w K Q) : o.wpIn (Fence.wide.inRound l) n P a w K Q := by
 refine ⟨fun f _ => trivial, ?_⟩
 rw [Oper.semAt_plain _ _ _ hnd]
 unfold Oper.wp at h
 generalize (execOp a.eval o).run P w = r at *
 cases r with
 | ok nx w' =>
  cases nx with
  | enter f args => exact ⟨fun hd => (by cases hd), CallsIn.inRound l (callsIn_wide.2 h)⟩
  | row row args => exact ⟨fun hd => (by cases hd), fun c cs _ => by
   obtain ⟨v, w2, h1, h2⟩ := h c cs
   exact ⟨v, w2, h1, stepsIn_wide.2 h2⟩⟩
  | value v => exact h
  | skip => exact h
  | defer d => exact h
  | _ => exact h.elim
 | halt hl w' =>
  cases hl with
  | panic v => exact h
  | _ => exact h.elim
def noDefer (ops : Array Oper) : Bool := ops.toList.all fun o => match o.op with | .defer _ => false | _ => true
theorem noDefer_at {ops : Array Oper} (h : noDefer ops = true) {i : Nat} {o : Oper} (hi : ops[i]? = some o) (c : Call) : o.op ≠ .defer c := fun e => by
 unfold noDefer at h
 rw [List.all_eq_true] at h
 have := h o (by simpa using Array.mem_of_getElem? hi)
 rw [e] at this
 cases this
theorem any_round {P : Program} {md : Region.Mode} {ops : Array Oper} {Q : Exit → Act → World → Prop} {l n : Nat} (hnd : noDefer ops = true) (hlo : ¬ LetsOut Q) : ∀ (fuel : Nat) (listed : Array Bool) (a : Act) (w : World), wpAny P md ops Q fuel listed a w → wpAnyIn (Fence.wide.inRound l) n P md ops Q fuel listed a w
 | 0, _, _, _, h => h
 | fuel + 1, listed, a, w, h => ⟨h.1, fun i hi => by
  have h2 := h.2 i hi
  refine wpOpIn_mono (fun a w => any_round hnd hlo fuel _ a w) ?_
  unfold wpOp at h2
  unfold wpOpIn
  cases ho : ops[i]? with
  | none => rw [ho] at h2; exact h2
  | some o =>
   rw [ho] at h2
   simp only at h2 ⊢
   split
   · rename_i hw
     rw [if_pos hw] at h2
     rcases h2 with h2 | h2
     · exact wp_round (fun c => noDefer_at hnd ho c) h2
     · exact absurd h2.2 hlo
   · rename_i hw
     rw [if_neg hw] at h2
     exact ⟨fun f _ => trivial, h2⟩⟩
theorem Inv.withS {md : Region.Mode} {ops : Array Oper} {V : Nat → Value → World → Prop} {S S' : World → Prop} {a0 : Act} {listed : Array Bool} {a : Act} {w : World} (hI : Inv md ops V S a0 listed a w) (h : S' w) : Inv md ops V S' a0 listed a w :=
 ⟨hI.lsize, h, hI.defers, hI.size, hI.closed, hI.got, hI.old⟩
theorem Inv.waits {md : Region.Mode} {ops : Array Oper} {V : Nat → Value → World → Prop} {S : World → Prop} {a0 : Act} {listed : Array Bool} {a : Act} {w : World} (hI : Inv md ops V S a0 listed a w) {i : Nat} (hnd : ¬ Done listed i) (j : Nat) {oj : Oper} (hj : ops[j]? = some oj) (h : (oj.after.toList.any fun e => Region.binds md e && e.on == i) = true) : listed.getD j false = false := by
 cases hd : listed.getD j false with
 | false => rfl
 | true =>
  simp only [List.any_eq_true, Bool.and_eq_true, beq_iff_eq] at h
  obtain ⟨e, he, hb, rfl⟩ := h
  exact absurd (hI.closed j oj hj hd e (by simpa using he) hb) hnd
theorem wpAny_invL {P : Program} {md : Region.Mode} {ops : Array Oper} {Q : Exit → Act → World → Prop} {V : Nat → Value → World → Prop} {S : Array Bool → World → Prop} {a0 : Act}
 (hord : ∀ (i : Nat) (o : Oper), ops[i]? = some o → ∀ e ∈ o.after, e.on < i)
 (hdst : ∀ (i j : Nat) (oi oj : Oper) (d : Nat), ops[i]? = some oi → ops[j]? = some oj → oi.dst = some d → oj.dst = some d → i = j)
 (hlt : ∀ (i : Nat) (o : Oper) (d : Nat), ops[i]? = some o → o.dst = some d → d < a0.tmps.size)
 (hstep : ∀ i o, ops[i]? = some o → ∀ listed a w, Inv md ops V (S listed) a0 listed a w → (∀ e ∈ o.after, Region.binds md e = true → Done listed e.on) → ¬ Done listed i →
  ∀ K : Act → World → Prop, (∀ v w', S (listed.setIfInBounds i true) w' → V i v w' → (∀ j u, V j u w → V j u w') → K (a.put o.dst v) w') → if Region.wanted o (yielded ops a.tmps) = true then o.wp P a w K Q else K (a.put o.dst undef) w)
 (hend : ∀ listed a w, Inv md ops V (S listed) a0 listed a w → (∀ i, i < ops.size → Done listed i) → Q .normal a w) :
 ∀ fuel listed a w, Inv md ops V (S listed) a0 listed a w → left ops.size listed ≤ fuel → wpAny P md ops Q fuel listed a w
 | 0, listed, a, w, hI, hf => by
  have hr : Region.ready md ops listed = [] := by
   rw [List.eq_nil_iff_forall_not_mem]
   intro i hi
   obtain ⟨h1, o, h2, _⟩ := mem_ready.1 hi
   have := left_set hI.lsize (Array.getElem?_eq_some_iff.1 h2).1 h1
   omega
  exact ⟨hr, hend listed a w hI (fun i hi => all_done hI.lsize hord hr (i + 1) i (by omega) hi)⟩
 | fuel + 1, listed, a, w, hI, hf => by
  refine ⟨fun hr => hend listed a w hI (fun i hi => all_done hI.lsize hord hr (i + 1) i (by omega) hi), fun i hi => ?_⟩
  obtain ⟨h1, o, h2, h3⟩ := mem_ready.1 hi
  have hsz : i < ops.size := (Array.getElem?_eq_some_iff.1 h2).1
  have hnd : ¬ Done listed i := by
   unfold Done
   rw [← getD_tf (by rw [hI.lsize]; exact hsz), h1]
   simp
  refine wpOp_step h2 (fun K hK => hstep i o h2 listed a w hI h3 hnd K (fun v w' hS hv hst => hK _ _ ?_))
  refine wpAny_invL hord hdst hlt hstep hend fuel _ _ _ ((Inv.step (hI.withS (S' := fun _ => True) trivial) hdst hlt h2 h3 trivial hv hst).withS hS) ?_
  have := left_set hI.lsize hsz h1
  omega
def OpStepL (P : Program) (md : Region.Mode) (ops : Array Oper) (Q : Exit → Act → World → Prop) (V : Nat → Value → World → Prop) (S : Array Bool → World → Prop) (a0 : Act) (i : Nat) (o : Oper) : Prop :=
 ∀ listed a w, Inv md ops V (S listed) a0 listed a w → (∀ e ∈ o.after, Region.binds md e = true → Done listed e.on) → ¬ Done listed i →
  ∀ K : Act → World → Prop, Shut (∀ v w', S (listed.setIfInBounds i true) w' → V i v w' → (∀ j u, V j u w → V j u w') → K (a.put o.dst v) w') → if Region.wanted o (yielded ops a.tmps) = true then o.wp P a w K Q else K (a.put o.dst undef) w
theorem wpIn_region_invL {P : Program} {ops : Array Oper} {Q : Exit → Act → World → Prop} {l n : Nat} (V : Nat → Value → World → Prop) (S : Array Bool → World → Prop) {id : Nat} {a : Act} {w : World}
 (hm : P.follows .mixedOrders = true) (ho : ordB ops = true) (hd : dstB ops a.tmps.size = true) (hnf : noDefer ops = true) (hlo : ¬ LetsOut Q) (hS : S (Array.replicate ops.size false) w.drew)
 (hstep : AllOps (OpStepL P .any ops Q V S a) 0 ops.toList)
 (hend : ∀ listed a' w', Inv .any ops V (S listed) a listed a' w' → (∀ i, i < ops.size → Done listed i) → Q .normal a' w') : (Code.region id ops true).wpIn (Fence.wide.inRound l) n P Q a w := by
 refine wpIn_region_any hm (any_round hnf hlo _ _ _ _ (wpAny_invL (V := V) (S := S) (a0 := a) (ordB_spec ho) (fun i j oi oj d hi hj hid hjd => (dstB_spec hd i oi d hi hid).2 j oj hj hjd) (fun i o d hi hid => (dstB_spec hd i o d hi hid).1)
  (fun i o hi listed a' w' hI hdn hnd K hK => ?_) hend _ _ _ _ ?_ ?_))
 · have := AllOps.get hstep (i := i) (o := o) (by simpa using hi)
   rw [Nat.zero_add] at this
   exact this listed a' w' hI hdn hnd K hK
 · have hno : ∀ i, ¬ Done (Array.replicate ops.size false) i := fun i h => by
    unfold Done at h
    by_cases hi : i < ops.size <;> simp [Array.getD_eq_getD_getElem?, hi] at h
   exact ⟨by simp, hS, rfl, rfl, fun i _ _ h => absurd h (hno i), fun i _ _ _ _ h => absurd h (hno i), fun _ _ => rfl⟩
 · unfold left
   exact Nat.le_trans (List.length_filter_le _ _) (by simp)
end Go.Proofs.Ytekelchdbkjjjaa
namespace Go.Proofs.Ytekelchdbkjjjaa
open Go Go.RowKit Go.Shelf
attribute [local go_sem] Oper.semAt_some
theorem MapO.look1 {w : World} {b n : Nat} {f : Int → Option Int} (h : MapO w b n f) {c : Int} (hc : intBd c) : (Instr.lookup 55 (.map (some b)) (.int .i64 c) false).run Try.prog w = .ok (.int .i64 ((f c).getD 0)) w := by
 obtain ⟨D, h1, h2⟩ := h
 obtain ⟨a, hrun, hat, _⟩ := h1.lookup_int int_keyed3 iimap_uty int_uty (int_zero w) (iKey_of hc)
 have h3 := (h2 c).2
 rw [hat] at h3
 simp only [DataW.lit.injEq, Lit.int.injEq, true_and] at h3
 rw [hrun, h3]
section
variable {F : Fence} {n : Nat} {ops : Array Oper} {rest : List Oper} {o : Oper} {a : Act} {Q : Exit → Act → World → Prop} {w : World}
theorem wpListIn_look1 (hgd : o.guard = none) (m x : Operand) (ho : o.op = Op.lookup 55 m x false) (b k : Nat) (f : Int → Option Int) (hm : a.eval m = .map (some b)) (h : MapO w b k f) (c : Int) (hx : a.eval x = .int .i64 c) (hc : intBd c)
 (hK : wpListIn F n Try.prog ops Q rest (a.put o.dst (.int .i64 ((f c).getD 0))) w) : wpListIn F n Try.prog ops Q (o :: rest) a w := by
 refine wpListIn_plain hgd fun K hK' => ?_
 unfold Oper.wpIn
 refine ⟨by simp [Oper.about, ho], ?_⟩
 rw [Oper.semAt_plain F _ _ (by rw [ho]; intro c hc'; cases hc')]
 have hrun := h.look1 hc
 simp [execOp, ho, hm, hx, hrun, Result.andThen]
 exact hK' _ _ hK
theorem wpListIn_upd (hgd : o.guard = none) (m x v : Operand) (ho : o.op = Op.mapUpdate 55 m x v) (b k : Nat) (f : Int → Option Int) (hm : a.eval m = .map (some b)) (h : MapO w b k f) (hn : k < maxLen) (c : Int) (hx : a.eval x = .int .i64 c) (hc : intBd c) (xv : Int) (hv : a.eval v = .int .i64 xv) (hxv : intBd xv)
 (hK : ∀ w', MapO w' b (k + 1) (fun d => if d = c then some xv else f d) → Fr (fun q => q ≠ b) w w' → wpListIn F n Try.prog ops Q rest (a.put o.dst undef) w') : wpListIn F n Try.prog ops Q (o :: rest) a w := by
 obtain ⟨w', hrun, r1, r2⟩ := h.store hn hc hxv
 refine wpListIn_plain hgd fun K hK' => ?_
 unfold Oper.wpIn
 refine ⟨by simp [Oper.about, ho], ?_⟩
 rw [Oper.semAt_plain F _ _ (by rw [ho]; intro c hc'; cases hc')]
 simp [execOp, ho, hm, hx, hv, hrun, Result.andThen]
 exact hK' _ _ (hK w' r1 r2)
end
theorem wpList_look1 {ops : Array Oper} {rest : List Oper} {o : Oper} {a : Act} {w : World} {Q : Exit → Act → World → Prop} (hg : o.guard = none) (m x : Operand) (hop : o.op = Op.lookup 55 m x false)
 (b n : Nat) (f : Int → Option Int) (hm : a.eval m = .map (some b)) (h : MapO w b n f) (c : Int) (hx : a.eval x = .int .i64 c) (hc : intBd c)
 (hK : wpList Try.prog ops Q rest (a.put o.dst (.int .i64 ((f c).getD 0))) w) : wpList Try.prog ops Q (o :: rest) a w := by
 refine wpList_plain hg fun K' hK' => ?_
 have hrun := h.look1 hc
 unfold Oper.wp
 simp [execOp, hop, hm, hx, hrun, Result.andThen]
 exact hK' _ _ hK
def TriPost (g : XGroup) (l : List XEntry) (ent d : Int) (w : World) (e : Ending) (w' : World) : Prop := ∃ (r : Int) (A' : Option Addr) (c' : Nat) (ts : List XBalance), e = .returned (.tuple #[.slice A' ts.length c', .int .i64 r]) ∧ BChk g l ent (-4611686018427387904) 0 false r ∧ (r = 0 → IsTri (fun c => sumE (qB d) l ent c) ts) ∧ (r ≠ 0 → ts = []) ∧ ts.length ≤ 100000 ∧ ListC BalanceC 2 w' (· < w'.heap.size) [.slice A' ts.length c'] ts ∧ Below w.heap.size w w'
def Span (pre : List (DL lineOk)) (lo hi : Int) : Prop := (pre = [] ∧ lo = 0 ∧ hi = -1) ∨ (1 ≤ lo ∧ lo ≤ hi ∧ hi ≤ 99999 ∧ ∀ z ∈ pre, lo ≤ z.1.2.account ∧ z.1.2.account ≤ hi)
theorem Span.next {pre : List (DL lineOk)} {lo hi : Int} (h : 1 ≤ lo ∧ lo ≤ hi ∧ hi ≤ 99999 ∧ ∀ z ∈ pre, lo ≤ z.1.2.account ∧ z.1.2.account ≤ hi) (z : DL lineOk) : Span (pre ++ [z]) (min lo z.1.2.account) (max hi z.1.2.account) := by
 have h1 := z.2.2
 obtain ⟨a, b, c, e⟩ := h
 refine .inr ⟨by omega, by omega, by omega, fun y hy => ?_⟩
 rcases List.mem_append.1 hy with hy | hy
 · have := e y hy; omega
 · simp at hy; subst hy; omega
theorem Span.first (z : DL lineOk) : Span ([] ++ [z]) (min z.1.2.account z.1.2.account) (max z.1.2.account z.1.2.account) := by
 have h1 := z.2.2
 refine .inr ⟨by omega, by omega, by omega, fun y hy => ?_⟩
 simp at hy; subst hy; omega
def TriI (n₀ bm : Nat) (w0 : World) (pre : List (DL lineOk)) (W : World) : Prop := KeepN n₀ (fun q => q = bm + 2 ∨ q = bm + 3) w0 W ∧ (∃ f, MapO W bm pre.length f ∧ ∀ c, (f c).getD 0 = sumPd (fun _ _ => true) c (pre.map (·.1))) ∧ ∃ lo hi : Int, W.heap[bm + 2]? = some (.cells #[.int .i64 lo] 3 (0, 0)) ∧ W.heap[bm + 3]? = some (.cells #[.int .i64 hi] 3 (0, 0)) ∧ Span pre lo hi
theorem triI_own {n₀ bm B : Nat} {w0 : World} (hn : n₀ ≤ w0.heap.size) (hB : n₀ ≤ B) (hbm : bm < B) : OwnFrom B (TriI n₀ bm w0) := fun pre W W' row hs hg hr => by
 obtain ⟨h1, ⟨f, h2, h3⟩, lo, hi, h4, h5, h6⟩ := hs
 refine ⟨keepN_own hn hB pre W W' row h1 hg hr, ⟨f, h2.same (hg.block bm h2.lt (fun e => by have := (hr bm e.symm).1; omega)), h3⟩, lo, hi, ?_, ?_, h6⟩
 · exact cells_own (β := List (DL lineOk)) (f := fun _ => #[.int .i64 lo]) pre W W' row h4 hg hr
 · exact cells_own (β := List (DL lineOk)) (f := fun _ => #[.int .i64 hi]) pre W W' row h5 hg hr
theorem two_sets {w : World} {b : Nat} {x y : Int} (h1 : w.heap[b + 2]? = some (.cells #[.int .i64 x] 3 (0, 0))) (h2 : w.heap[b + 3]? = some (.cells #[.int .i64 y] 3 (0, 0))) (u v : Int) :
 ((w.setCell ⟨b + 1 + 1, 0, none⟩ (.int .i64 u)).setCell ⟨b + 1 + 1 + 1, 0, none⟩ (.int .i64 v)).heap[b + 2]? = some (.cells #[.int .i64 u] 3 (0, 0)) ∧ ((w.setCell ⟨b + 1 + 1, 0, none⟩ (.int .i64 u)).setCell ⟨b + 1 + 1 + 1, 0, none⟩ (.int .i64 v)).heap[b + 3]? = some (.cells #[.int .i64 v] 3 (0, 0)) ∧ Fr (fun q => q ≠ b + 2 ∧ q ≠ b + 3) w ((w.setCell ⟨b + 1 + 1, 0, none⟩ (.int .i64 u)).setCell ⟨b + 1 + 1 + 1, 0, none⟩ (.int .i64 v)) := by
 have e1 := heap_setCell_same h1 0 (.int .i64 u)
 have e2 : (w.setCell ⟨b + 2, 0, none⟩ (.int .i64 u)).heap[b + 3]? = some (.cells #[.int .i64 y] 3 (0, 0)) := (Below.heap_setCell w ⟨b + 2, 0, none⟩ _ (b + 3) (by show b + 3 ≠ b + 2; omega)).trans h2
 refine ⟨(Below.heap_setCell _ ⟨b + 3, 0, none⟩ _ (b + 2) (by show b + 2 ≠ b + 3; omega)).trans e1, heap_setCell_same e2 0 (.int .i64 v), ((Fr.refl _ w).setCell (p := ⟨b + 2, 0, none⟩) (fun h => h.1 rfl) _).setCell (p := ⟨b + 3, 0, none⟩) (fun h => h.2 rfl) _⟩
theorem span_out {pre : List (DL lineOk)} {lo hi c : Int} (h : Span pre lo hi) (hc : ¬ (lo ≤ c ∧ c ≤ hi)) : sumPd (fun _ _ => true) c (pre.map (·.1)) = 0 := by
 have h2 : ∀ z ∈ pre, z.1.2.account ≠ c := fun z hz e => by
  rcases h with ⟨h, _⟩ | ⟨_, _, _, h⟩
  · rw [h] at hz; cases hz
  · have := h z hz; omega
 clear h
 induction pre with
 | nil => rfl
 | cons z pre ih =>
  have h3 : sumPd (fun _ _ => true) c ((z :: pre).map (·.1)) = (if z.1.2.account = c ∧ true = true then z.1.2.amount else 0) + sumPd (fun _ _ => true) c (pre.map (·.1)) := by simp [sumPd]
  rw [h3, if_neg (fun e => h2 z (List.mem_cons_self ..) e.1), ih (fun y hy => h2 y (List.mem_cons_of_mem _ hy))]
  rfl
theorem info_balA : (Try.prog.info? 60).map (fun i => (i.zero, i.size, i.bytes)) = some (some (.agg #[.int .i64 0, .int .i64 0]), 2, 16) := by kernel_rfl
theorem bals_uty : Try.prog.underlying 37 = some (.slice 60) := by kernel_rfl
def balL (y : XBalance) : List Value := [.int .i64 y.account, .int .i64 y.amount]
def SpanS (bm : Nat) (lo hi la : Int) (w0 : World) (listed : Array Bool) (w : World) : Prop := Fr (fun q => q ≠ bm + 2 ∧ q ≠ bm + 3) w0 w ∧ w.heap[bm + 2]? = some (.cells #[.int .i64 (if listed.getD 8 false = true then min lo la else lo)] 3 (0, 0)) ∧ w.heap[bm + 3]? = some (.cells #[.int .i64 (if listed.getD 9 false = true then max hi la else hi)] 3 (0, 0))
section
variable {bm : Nat} {lo hi la : Int} {w0 w : World} {listed : Array Bool}
theorem getD_other {i j : Nat} (h : i ≠ j) : (listed.setIfInBounds i true).getD j false = listed.getD j false := by simp [Array.getD_eq_getD_getElem?, Array.getElem?_setIfInBounds, h]
theorem getD_same {i : Nat} (h : i < listed.size) : (listed.setIfInBounds i true).getD i false = true := by simp [Array.getD_eq_getD_getElem?, h]
theorem SpanS.other (h : SpanS bm lo hi la w0 listed w) (i : Nat) (h8 : i ≠ 8) (h9 : i ≠ 9) : SpanS bm lo hi la w0 (listed.setIfInBounds i true) w := by
 unfold SpanS
 rw [getD_other h8, getD_other h9]
 exact h
theorem SpanS.load13 (h : SpanS bm lo hi la w0 listed w) (hn : listed.getD 8 false = false) : w.cell? ⟨bm + 1 + 1, 0, none⟩ = some (.int .i64 lo) := by
 have := blk_cell h.2.1 0
 rw [hn] at this
 exact this
theorem SpanS.load14 (h : SpanS bm lo hi la w0 listed w) (hn : listed.getD 9 false = false) : w.cell? ⟨bm + 1 + 1 + 1, 0, none⟩ = some (.int .i64 hi) := by
 have := blk_cell h.2.2 0
 rw [hn] at this
 exact this
theorem SpanS.c13 (h : SpanS bm lo hi la w0 listed w) : w.cell? ⟨bm + 1 + 1, 0, none⟩ = some (.int .i64 (if listed.getD 8 false = true then min lo la else lo)) := blk_cell h.2.1 0
theorem SpanS.c14 (h : SpanS bm lo hi la w0 listed w) : w.cell? ⟨bm + 1 + 1 + 1, 0, none⟩ = some (.int .i64 (if listed.getD 9 false = true then max hi la else hi)) := blk_cell h.2.2 0
theorem SpanS.f13 (h : SpanS bm lo hi la w0 listed w) : w.frozen? ⟨bm + 1 + 1, 0, none⟩ = false := blk_frozen h.2.1 0
theorem SpanS.f14 (h : SpanS bm lo hi la w0 listed w) : w.frozen? ⟨bm + 1 + 1 + 1, 0, none⟩ = false := blk_frozen h.2.2 0
theorem SpanS.set13 (h : SpanS bm lo hi la w0 listed w) (hs : 8 < listed.size) : SpanS bm lo hi la w0 (listed.setIfInBounds 8 true) (w.setCell ⟨bm + 1 + 1, 0, none⟩ (.int .i64 (min lo la))) := by
 unfold SpanS
 rw [getD_same hs, getD_other (by decide), if_pos rfl]
 exact ⟨h.1.setCell (p := ⟨bm + 2, 0, none⟩) (fun h => h.1 rfl) _, heap_setCell_same h.2.1 0 _, (Below.heap_setCell w ⟨bm + 2, 0, none⟩ _ (bm + 3) (by show bm + 3 ≠ bm + 2; omega)).trans h.2.2⟩
theorem SpanS.set14 (h : SpanS bm lo hi la w0 listed w) (hs : 9 < listed.size) : SpanS bm lo hi la w0 (listed.setIfInBounds 9 true) (w.setCell ⟨bm + 1 + 1 + 1, 0, none⟩ (.int .i64 (max hi la))) := by
 unfold SpanS
 rw [getD_same hs, getD_other (by decide), if_pos (c := (true = true)) rfl]
 exact ⟨h.1.setCell (p := ⟨bm + 3, 0, none⟩) (fun h => h.2 rfl) _, (Below.heap_setCell w ⟨bm + 3, 0, none⟩ _ (bm + 2) (by show bm + 2 ≠ bm + 3; omega)).trans h.2.1, heap_setCell_same h.2.2 0 _⟩
theorem SpanS.fin (h : SpanS bm lo hi la w0 listed w) (h8 : Done listed 8) (h9 : Done listed 9) : Fr (fun q => q ≠ bm + 2 ∧ q ≠ bm + 3) w0 w ∧ w.heap[bm + 2]? = some (.cells #[.int .i64 (min lo la)] 3 (0, 0)) ∧ w.heap[bm + 3]? = some (.cells #[.int .i64 (max hi la)] 3 (0, 0)) := by
 unfold SpanS at h
 rw [if_pos (show listed.getD 8 false = true from h8), if_pos (show listed.getD 9 false = true from h9)] at h
 exact h
end
theorem Ks.vals {W w w' : World} {ks : List Kind} {j : Nat} {u : Value} (hv : ∀ k ∈ ks, ∃ x, k = .val x) (h : Ks W ks j u w) : Ks W ks j u w' := fun k hk => by
 obtain ⟨x, rfl⟩ := hv k (List.mem_of_getElem? hk)
 exact h _ hk
set_option maxHeartbeats 4000000 in
theorem trial_c (g : XGroup) (l : List XEntry) (gl : List Value) (A : Option Addr) (c : Nat) (ent d : Int) (w : World) (hg : GroupC w (· < w.heap.size) gl g) (hl : ListC EntryC 7 w (· < w.heap.size) [.slice A l.length c] l) (hsm : smallG g) (hmo : modest l) (hle : l.length ≤ 100) :
 Calls Try.prog 7 #[.agg gl.toArray, .slice A l.length c, .int .i64 ent, .int .i64 d] w (TriPost g l ent d w) := by
 have hmm := @run_makeMap Try.prog
 have HCK := Lib.hid (fun (w2 : World) (hb : Below w.heap.size w w2) => bcheck_c g l gl A c ent (-4611686018427387904) 0 false w2 (hg.keep hb) (entries_keep hl hb) hsm hmo (by unfold intBd; omega))
 have HGS := Lib.hid (show gl.toArray.size = 21 by have := hg.len; simpa using this)
 have HBU := Lib.hid (hg.books A l.length c ent)
 have HON := Lib.hid (show (gl ++ ([.slice A l.length c, .int .i64 ent] : List Value)).toArray.all (·.oneCell') = true by
  have h1 := hg.ones
  rw [List.all_toArray, List.all_append, h1]
  rfl)
 have HSZ := Lib.hid (show (gl ++ ([.slice A l.length c, .int .i64 ent] : List Value)).toArray.size = 23 by have := hg.len; simp; omega)
 have HL := Lib.hid hl
 have HLE := Lib.hid hle
 obtain ⟨BL, hBL⟩ : ∃ BL, (gl ++ ([.slice A l.length c, .int .i64 ent] : List Value)).toArray = BL := ⟨_, rfl⟩
 rw [hBL] at HCK HBU HON HSZ
 obtain ⟨n, hn⟩ : ∃ n, l.length = n := ⟨_, rfl⟩
 have HN := Lib.hid hn
 rw [hn] at HBU ⊢
 have HIB := Lib.hid (show (Try.prog.info? 53).map (·.size) = some BL.size by rw [info_books, HSZ.out])
 clear hg hl hsm hmo hle hBL hn
 refine callsIn_wide.1 (callsIn_of_wp_marks (n := 6) Try.func7 rfl trivial (wpIn_wide.2 ?_) rfl)
 simp only [Try.ntmps7, List.size_toArray, List.length_cons, List.length_nil, Nat.reduceAdd, Nat.reduceSub, Array.replicate_succ, Array.replicate_zero, List.push_toArray, List.append_toArray, List.nil_append, List.cons_append]
 go_upto_region 1 with fail
 have H1 := heap_alloc_new w (.cells gl.toArray 29)
 have HB1 := below1 w (.cells gl.toArray 29)
 have HS1 := blk_lt H1
 generalize hW1 : w.alloc (Obj.cells gl.toArray 29) = W at *
 clear hW1
 have HK := Lib.hid H1
 have HB1h := Lib.hid HB1
 clear H1
 go_wp2_with (first | (show wpList _ _ _ (Oper.mk (some 20) _ _ _ _ _ :: _) _ _; refine wpList_load_row_g rfl 29 (.tmp 4) rfl (w.heap.size) rfl _ _ _ _ HK.out Try.underlying29 rfl (by rw [info_group]; exact congrArg some HGS.out.symm) ?_) | (show wpList _ _ _ (Oper.mk (some 23) _ _ _ _ _ :: _) _ _; go_loud (refine wpList_built rfl 53 _ rfl [(0, .agg gl.toArray), (1, .slice A n c), (2, .int .i64 ent)] (by simp [Act.eval]) BL HBU.out ?_)) | (show wpList _ _ _ (Oper.mk none (Op.store _ (Operand.tmp 10) _) _ _ _ _ :: _) _ _; refine wpList_store_fresh3 rfl 53 (.tmp 10) (.tmp 23) rfl rfl W #[.string ⟨#[]⟩, .int .i64 0, .int .i64 0, .int .i64 0, .slice none 0 0, .int .i64 0, .int .i64 0, .int .i64 0, .int .i64 0, .int .i64 0, .int .i64 0, .int .i64 0, .int .i64 0, .int .i64 0, .int .i64 0, .int .i64 0, .int .i64 0, .int .i64 0, .int .i64 0, .int .i64 0, .slice none 0 0, .slice none 0 0, .int .i64 0] 53 BL rfl rfl rfl HIB.out HSZ.out.symm HON.out ?_; intro w4 H4 HB4 HS4) | (show wpList _ _ _ (Oper.mk (some 24) _ _ _ _ _ :: _) _ _; refine wpList_load_row_g rfl 53 (.tmp 10) rfl W.heap.size rfl _ _ _ _ H4 Try.underlying53 rfl HIB.out ?_))
 have HB04 := Lib.hid (HB1h.out.trans (HB4.mono HB1h.out.size))
 clear HB4 H4
 refine (HCK.out w4 HB04.out).mono ?_
 rintro e w5 ⟨r, rfl, hr, hb5⟩
 have HR := Lib.hid hr
 have HB05 := Lib.hid (HB04.out.trans (hb5.mono HB04.out.size))
 clear hb5 hr
 by_cases hr0 : r = 0
 case neg =>
  have hrb : (r != 0) = true := by simpa using hr0
  have HP := Lib.hid hr0
  clear hr0
  go_wp2_with fail
  exact ⟨_, results_tmp2 rfl _ _ _, r, none, 0, [], rfl, HR.out, fun h => absurd h HP.out, fun _ => rfl, by decide, ⟨_, _, rfl, by decide, by decide, fun h => by cases h⟩, HB05.out⟩
 case pos =>
  subst hr0
  have HV := Lib.hid (bchk_valid HR.out)
  go_upto_region 7 with fail
  obtain ⟨W9, hW9⟩ : ∃ W9, (((w5.alloc (Obj.map #[] 0)).alloc (Obj.cells #[.map (some w5.heap.size)] 55)).alloc (Obj.cells #[.int .i64 0] 3)).alloc (Obj.cells #[.int .i64 (-1)] 3) = W9 := ⟨_, rfl⟩
  rw [hW9]
  have hM9 : MapO W9 w5.heap.size 0 (fun _ => none) := by
   rw [← hW9]
   exact ((MapO.made w5).below (((below1 _ _).trans ((below1 _ _).mono (by simp))).trans ((below1 _ _).mono (by simp))))
  have e1 : W9.heap[w5.heap.size + 1]? = some (.cells #[.map (some w5.heap.size)] 55 (0, 0)) := by
   rw [← hW9]
   refine alloc_keep (alloc_keep ?_ _) _
   have := heap_alloc_new (w5.alloc (Obj.map #[] 0)) (Obj.cells #[.map (some w5.heap.size)] 55)
   rwa [World.size_alloc] at this
  have e2 : W9.heap[w5.heap.size + 1 + 1]? = some (.cells #[.int .i64 0] 3 (0, 0)) := by
   rw [← hW9]
   refine alloc_keep ?_ _
   have := heap_alloc_new ((w5.alloc (Obj.map #[] 0)).alloc (Obj.cells #[.map (some w5.heap.size)] 55)) (Obj.cells #[.int .i64 0] 3)
   rwa [World.size_alloc, World.size_alloc] at this
  have e3 : W9.heap[w5.heap.size + 1 + 1 + 1]? = some (.cells #[.int .i64 (-1)] 3 (0, 0)) := by
   rw [← hW9]
   have := heap_alloc_new (((w5.alloc (Obj.map #[] 0)).alloc (Obj.cells #[.map (some w5.heap.size)] 55)).alloc (Obj.cells #[.int .i64 0] 3)) (Obj.cells #[.int .i64 (-1)] 3)
   rwa [World.size_alloc, World.size_alloc, World.size_alloc] at this
  have hs9 : W9.heap.size = w5.heap.size + 4 := by rw [← hW9]; simp
  have hb9 : Below w5.heap.size w5 W9 := by rw [← hW9]; exact ((((Below.refl _ w5).alloc (Nat.le_refl _) _).alloc (by simp) _).alloc (by simp; omega) _).alloc (by simp; omega) _
  have HB9 := Lib.hid (HB05.out.trans (hb9.mono HB05.out.size))
  have HS9 := Lib.hid hs9
  have HM9 := Lib.hid hM9
  have E1 := Lib.hid e1
  have E2 := Lib.hid e2
  have E3 := Lib.hid e3
  have HS5 := Lib.hid HB05.out.size
  clear hW9 e1 e2 e3 hs9 hb9 hM9
  go_wp2_with (go_at_call 16; refine (callsIn_wide.1 (lines_in Fence.wide 5 trivial rfl _ n c ent d W9)).mono ?_; rintro e w' ⟨rfl, rfl⟩)
  obtain ⟨W12, hW12⟩ : ∃ W, ((W9.alloc (.cells #[.slice A n c] 30)).alloc (.cells #[.int .i64 ent] 3)).alloc (.cells #[.int .i64 d] 3) = W := ⟨_, rfl⟩
  rw [hW12]
  have HL0 := Lib.hid (show ¬ (W9.heap.size = w5.heap.size + 2 ∨ W9.heap.size = w5.heap.size + 3) ∧ W12.heap[W9.heap.size]? = some (.cells #[.slice A l.length c] 30 (0, 0)) from ⟨by have := HS9.out; omega, by rw [← hW12, HN.out]; exact alloc_keep (alloc_keep (heap_alloc_new W9 _) _) _⟩)
  have HL1 := Lib.hid (show ¬ (W9.heap.size + 1 = w5.heap.size + 2 ∨ W9.heap.size + 1 = w5.heap.size + 3) ∧ W12.heap[W9.heap.size + 1]? = some (.cells #[.int .i64 ent] 3 (0, 0)) from ⟨by have := HS9.out; omega, by
   rw [← hW12]
   refine alloc_keep ?_ _
   have := heap_alloc_new (W9.alloc (.cells #[.slice A n c] 30)) (.cells #[.int .i64 ent] 3)
   rwa [World.size_alloc] at this⟩)
  have HL2 := Lib.hid (show ¬ (W9.heap.size + 1 + 1 = w5.heap.size + 2 ∨ W9.heap.size + 1 + 1 = w5.heap.size + 3) ∧ W12.heap[W9.heap.size + 1 + 1]? = some (.cells #[.int .i64 d] 3 (0, 0)) from ⟨by have := HS9.out; omega, by
   rw [← hW12]
   have := heap_alloc_new ((W9.alloc (.cells #[.slice A n c] 30)).alloc (.cells #[.int .i64 ent] 3)) (.cells #[.int .i64 d] 3)
   rwa [World.size_alloc, World.size_alloc] at this⟩)
  have HS12 := Lib.hid (show W12.heap.size = w5.heap.size + 7 by rw [← hW12]; have := HS9.out; simp; omega)
  have hb12 : Below W9.heap.size W9 W12 := by rw [← hW12]; exact (((Below.refl _ W9).alloc (Nat.le_refl _) _).alloc (by simp) _).alloc (by simp; omega) _
  have HB12 := Lib.hid (HB9.out.trans (hb12.mono HB9.out.size))
  have F1 := Lib.hid ((hb12.block _ (blk_lt E1.out)).trans E1.out)
  have F2 := Lib.hid ((hb12.block _ (blk_lt E2.out)).trans E2.out)
  have F3 := Lib.hid ((hb12.block _ (blk_lt E3.out)).trans E3.out)
  have FM := Lib.hid (HM9.out.below hb12)
  have HLE2 := Lib.hid (show ListC EntryC 7 W12 (· < w.heap.size) [.slice A l.length c] l from HL.out.fr (fun h => EntryC.fr h (Fr.ofBelow HB12.out)) (Fr.ofBelow HB12.out))
  clear hb12 hW12 E1 E2 E3
  have HSQ := Lib.hid (lines_gives Fence.wide 5 trivial rfl (by omega) W9.heap.size (W9.heap.size + 1) (W9.heap.size + 1 + 1) w.heap.size (fun q => q = w5.heap.size + 2 ∨ q = w5.heap.size + 3) l A c ent d lineOk 4000 W12 (by have := HS12.out; have := HS5.out; omega) (fun q hq => by have := HS12.out; omega) HL0.out HL1.out HL2.out HLE2.out (fun x hx => by have := valid_lines HV.out hx; omega) (by have := HLE.out; omega) (fun x hx _ _ y hy => (valid_line HV.out hx hy).1) (by have := linesD_len (l := l) ent d (fun x hx => valid_lines HV.out hx); have := HLE.out; omega))
  refine wpIn_wide.1 (wpIn_rangeBox (n := 6) rfl (by omega) (gf := 27) (lb := #[.pointer (some ⟨W9.heap.size, 0, none⟩), .pointer (some ⟨W9.heap.size + 1, 0, none⟩), .pointer (some ⟨W9.heap.size + 1 + 1, 0, none⟩)]) rfl trivial (enters_of Try.func27 (by kernel_rfl) rfl) HSQ.out (fun h k => h.trans k) (fun W l o o' hl ho hc hw => KeepN.putObj (w := W12) (by have := HS12.out; have := HS5.out; omega) W l o o' hl ho hc hw) (fun W W' hW hg => KeepN.grown hg (by have := HS12.out; have := HS5.out; omega)) (Below.refl _ _) (fun _ => rfl)
   (TriI w.heap.size w5.heap.size W12) (triI_own (by have := HS12.out; have := HS5.out; omega) (by have := HS12.out; have := HS5.out; omega) (by have := HS12.out; omega)) ⟨KeepN.refl _, ⟨_, FM.out, fun c => rfl⟩, 0, -1, F2.out, F3.out, .inl ⟨rfl, rfl, rfl⟩⟩ (fun x => (lineL x.1.2).toArray) 49 (fun x b => { tmps := #[.agg gl.toArray, .slice A n c, .int .i64 ent, .int .i64 d, .pointer (some ⟨w.heap.size, 0, none⟩), undef, undef, undef, .slice none 0 0, .int .i64 0, .pointer (some ⟨W.heap.size, 0, none⟩), .int .i64 0, .pointer (some ⟨w5.heap.size + 1, 0, none⟩), .pointer (some ⟨w5.heap.size + 1 + 1, 0, none⟩), .pointer (some ⟨w5.heap.size + 1 + 1 + 1, 0, none⟩), undef, .pointer (some ⟨b, 0, none⟩), undef, undef, undef, .agg gl.toArray, .slice A n c, .int .i64 ent, .agg BL, .agg BL, .int .i64 0, .int .i64 0, .bool false, undef, .map (some w5.heap.size), .slice A n c, .int .i64 ent, .int .i64 d, .func (.func 27) #[] #[.pointer (some ⟨W9.heap.size, 0, none⟩), .pointer (some ⟨W9.heap.size + 1, 0, none⟩), .pointer (some ⟨W9.heap.size + 1 + 1, 0, none⟩)], .int .i64 x.1.1, .agg (lineL x.1.2).toArray, undef, undef, undef, undef, undef, undef, undef, undef, undef, undef, undef, undef, undef, undef, undef, undef, undef, undef, undef, undef, undef, undef, undef, undef, undef, undef, undef, undef, undef, undef, undef, undef, undef, undef, undef, undef, undef, undef, undef, undef], defers := [] }) ?assign ?body ?done)
  case assign =>
   rintro l ⟨⟨t, la, lm, lp⟩, hx⟩ W K hK
   have HK := Lib.hid hK
   clear hK
   simp only [encDL, lineL]
   gi_wp2_with (show wpListIn _ _ _ _ _ (Oper.mk none (Op.store _ (Operand.tmp 16) _) _ _ _ _ :: _) _ _; refine wpListIn_store_fresh rfl 49 (.tmp 16) (.tmp 35) rfl rfl W #[.int .i64 0, .int .i64 0, .int .i64 0] 49 #[.int .i64 la, .int .i64 lm, .int .i64 lp] rfl rfl rfl info_line rfl (by simp [Value.oneCell']) ?_; intro w4 H4 HG4 HS4)
   exact HK.out w4 HG4 H4
  case body =>
   rintro l pre ⟨⟨t, la, lm, lp⟩, hx⟩ b W ⟨hK, ⟨f, hM, hf⟩, lo, hi, h13, h14, hsp⟩ hlen hbW hbx
   have HNX := Lib.hid (fun c => sumPd_next (fun _ _ => true) c pre ⟨(t, ⟨la, lm, lp⟩), hx⟩)
   have hsb := sumPd_abs (fun _ _ => true) la pre
   rw [← hf la] at hsb
   obtain ⟨s, hs⟩ : ∃ s, (f la).getD 0 = s := ⟨_, rfl⟩
   have HSV := Lib.hid hs
   rw [hs] at hsb
   have hxb : lm.natAbs ≤ 1125899906842624 := hx.1
   have hsb2 : s.natAbs ≤ 4000 * 1125899906842624 := Nat.le_trans hsb (Nat.mul_le_mul_right _ (by omega))
   have HBD := Lib.hid (show intBd la ∧ intBd (s + lm) from by have := hx.2; unfold intBd; simp only at this; omega)
   have hr1 : -9223372036854775808 ≤ s + lm := by omega
   have hr2 : s + lm ≤ 9223372036854775807 := by omega
   have x0 := blk_cell hbx 0
   have x1 := blk_cell hbx 1
   have m0 := blk_cell (hK.cells (by omega) F1.out) 0
   have HKW := Lib.hid hK
   have HM := Lib.hid hM
   have HF := Lib.hid hf
   have H13 := Lib.hid h13
   have H14 := Lib.hid h14
   have HSP := Lib.hid hsp
   have HBX := Lib.hid hbx
   have HLEN := Lib.hid (show pre.length < maxLen by unfold maxLen; omega)
   clear hsb hsb2 hxb hs hK hM hf h13 h14 hsp hbx
   simp only [lineL]
   gi_upto_region 10 with (first | (show wpListIn _ _ _ _ _ (Oper.mk (some 39) _ _ _ _ _ :: _) _ _; refine wpListIn_look1 rfl (.tmp 36) (.tmp 38) rfl w5.heap.size pre.length f rfl HM.out la rfl HBD.out.1 ?_; rw [HSV.out]) | (show wpListIn _ _ _ _ _ (Oper.mk none (Op.mapUpdate _ _ _ _) _ _ _ _ :: _) _ _; refine wpListIn_upd rfl (.tmp 36) (.tmp 38) (.tmp 42) rfl w5.heap.size pre.length f rfl HM.out HLEN.out la rfl HBD.out.1 (s + lm) rfl HBD.out.2 ?_; intro w3 hM3 hf3))
   have HM3 := Lib.hid hM3
   have HF3 := Lib.hid hf3
   have G13 := Lib.hid ((hf3.block _ (show w5.heap.size + 2 ≠ w5.heap.size by omega)).trans H13.out)
   have G14 := Lib.hid ((hf3.block _ (show w5.heap.size + 3 ≠ w5.heap.size by omega)).trans H14.out)
   have GBX := Lib.hid ((hf3.block b (show b ≠ w5.heap.size by have := HS12.out; omega)).trans HBX.out)
   clear hM3 hf3 x0 x1 m0
   have q13 := blk_cell G13.out 0
   have q14 := blk_cell G14.out 0
   have qx := blk_cell GBX.out 0
   have hmo : Try.prog.follows .mixedOrders = true := by kernel_rfl
   have f13 := blk_frozen G13.out 0
   have f14 := blk_frozen G14.out 0
   have hbb : w5.heap.size + 3 < b := by have := HS12.out; omega
   gi_upto_if 45 with fail
   gi_cut [45] from 45 (fun v wx => ∃ lo' hi' : Int, wx.heap[w5.heap.size + 2]? = some (.cells #[.int .i64 lo'] 3 (0, 0)) ∧ wx.heap[w5.heap.size + 3]? = some (.cells #[.int .i64 hi'] 3 (0, 0)) ∧ (1 ≤ lo' ∧ lo' ≤ hi' ∧ hi' ≤ 99999 ∧ ∀ z ∈ pre, lo' ≤ z.1.2.account ∧ z.1.2.account ≤ hi') ∧ Fr (fun q => q ≠ w5.heap.size + 2 ∧ q ≠ w5.heap.size + 3) w3 wx)
   case first =>
    rcases HSP.out with ⟨hp0, hlo, hhi⟩ | hsp
    · have HPE := Lib.hid hp0
      subst hlo hhi
      have HLA := Lib.hid (show 1 ≤ la ∧ la ≤ 99999 from hx.2)
      have HFIN := Lib.hid (show ∀ wx : World, wx = ((w3.setCell ⟨w5.heap.size + 1 + 1, 0, none⟩ (.int .i64 la)).setCell ⟨w5.heap.size + 1 + 1 + 1, 0, none⟩ (.int .i64 la)).drew → ∃ lo' hi' : Int, wx.heap[w5.heap.size + 2]? = some (.cells #[.int .i64 lo'] 3 (0, 0)) ∧ wx.heap[w5.heap.size + 3]? = some (.cells #[.int .i64 hi'] 3 (0, 0)) ∧ (1 ≤ lo' ∧ lo' ≤ hi' ∧ hi' ≤ 99999 ∧ ∀ z ∈ pre, lo' ≤ z.1.2.account ∧ z.1.2.account ≤ hi') ∧ Fr (fun q => q ≠ w5.heap.size + 2 ∧ q ≠ w5.heap.size + 3) w3 wx from fun wx e => by
       subst e
       obtain ⟨h1, h2, h3⟩ := two_sets G13.out G14.out la la
       exact ⟨la, la, h1, h2, ⟨HLA.out.1, Int.le_refl _, HLA.out.2, fun z hz => by rw [HPE.out] at hz; cases hz⟩, h3.drew⟩)
      clear hp0
      gi_upto_region 11 with fail
      gi_region_with_o (fail)
      all_goals
       gi_wp2_with fail
       gi_meet
       exact HFIN.out _ rfl
    · have hlp : ¬ hi < lo := by omega
      have hlh : decide (hi < lo) = false := decide_eq_false hlp
      have HSQ2 := Lib.hid hsp
      clear hsp
      gi_wp2_with fail
      gi_meet
      exact ⟨lo, hi, G13.out, G14.out, HSQ2.out, Fr.refl _ _⟩
   case rest =>
    obtain ⟨lo', hi', h13, h14, hsp, hfr⟩ := hcut
    have HR13 := Lib.hid h13
    have HR14 := Lib.hid h14
    have HSP2 := Lib.hid hsp
    have HFR := Lib.hid hfr
    have HBX2 := Lib.hid ((hfr.block b ⟨by omega, by omega⟩).trans GBX.out)
    clear h13 h14 hsp hfr q13 q14 qx f13 f14
    gi_upto_region 12 with fail
    refine wpIn_region_invL (Ks wc [.val (.int .i64 lo'), .val (.pointer (some ⟨b, 0, none⟩)), .val (.int .i64 la), .val (.int .i64 (min lo' la)), .val (.int .i64 hi'), .val (.pointer (some ⟨b, 0, none⟩)), .val (.int .i64 la), .val (.int .i64 (max hi' la)), .val undef, .val undef]) (SpanS w5.heap.size lo' hi' la wc) (by kernel_rfl) (by kernel_rfl) (by kernel_rfl) (by kernel_rfl) (fun ⟨_, _, hlo⟩ => (show False from hlo)) ⟨(Fr.refl _ _).drew, HR13.out, HR14.out⟩ ?_ ?_
    · refine ⟨?_, ?_, ?_, ?_, ?_, ?_, ?_, ?_, ?_, ?_, trivial⟩
      · intro _ A0 w2 hI hd hnd K hK; have e0 := hI.q hnd 13; have hS := hI.world
        have hcc := SpanS.load13 hS (hI.waits hnd 8 rfl (by kernel_rfl))
        refine wanted_go rfl ?_; clear hI hd hnd; go_simp
        exact hK.out _ _ (hS.other 0 (by decide) (by decide)) (Ks.of rfl rfl) (fun _ _ h => h)
      · intro _ A0 w2 hI hd hnd K hK; have e0 := hI.q hnd 16; have hS := hI.world; refine wanted_go rfl ?_; clear hI hd hnd; go_simp
        exact hK.out _ _ (hS.other 1 (by decide) (by decide)) (Ks.of rfl rfl) (fun _ _ h => h)
      · intro _ A0 w2 hI hd hnd K hK; have e0 := hI.p hd 1 51; have hS := hI.world; have hcc : w2.cell? ⟨b, 0, none⟩ = some (.int .i64 la) := blk_cell ((hS.1.block b ⟨by omega, by omega⟩).trans HBX2.out) 0
        refine wanted_go rfl ?_; clear hI hd hnd; go_simp
        exact hK.out _ _ (hS.other 2 (by decide) (by decide)) (Ks.of rfl rfl) (fun _ _ h => h)
      · intro _ A0 w2 hI hd hnd K hK; have e0 := hI.p hd 0 50; have e1 := hI.p hd 2 52; have hS := hI.world; refine wanted_go rfl ?_; clear hI hd hnd; go_simp
        exact hK.out _ _ (hS.other 3 (by decide) (by decide)) (Ks.of rfl rfl) (fun _ _ h => h)
      · intro _ A0 w2 hI hd hnd K hK; have e0 := hI.q hnd 14; have hS := hI.world
        have hcc := SpanS.load14 hS (hI.waits hnd 9 rfl (by kernel_rfl))
        refine wanted_go rfl ?_; clear hI hd hnd; go_simp
        exact hK.out _ _ (hS.other 4 (by decide) (by decide)) (Ks.of rfl rfl) (fun _ _ h => h)
      · intro _ A0 w2 hI hd hnd K hK; have e0 := hI.q hnd 16; have hS := hI.world; refine wanted_go rfl ?_; clear hI hd hnd; go_simp
        exact hK.out _ _ (hS.other 5 (by decide) (by decide)) (Ks.of rfl rfl) (fun _ _ h => h)
      · intro _ A0 w2 hI hd hnd K hK; have e0 := hI.p hd 5 55; have hS := hI.world; have hcc : w2.cell? ⟨b, 0, none⟩ = some (.int .i64 la) := blk_cell ((hS.1.block b ⟨by omega, by omega⟩).trans HBX2.out) 0
        refine wanted_go rfl ?_; clear hI hd hnd; go_simp
        exact hK.out _ _ (hS.other 6 (by decide) (by decide)) (Ks.of rfl rfl) (fun _ _ h => h)
      · intro _ A0 w2 hI hd hnd K hK; have e0 := hI.p hd 4 54; have e1 := hI.p hd 6 56; have hS := hI.world; refine wanted_go rfl ?_; clear hI hd hnd; go_simp
        exact hK.out _ _ (hS.other 7 (by decide) (by decide)) (Ks.of rfl rfl) (fun _ _ h => h)
      · intro _ A0 w2 hI hd hnd K hK; have e0 := hI.q hnd 13; have e1 := hI.p hd 3 53; have hS := hI.world
        have hsz := hI.lsize
        have hcc := SpanS.c13 hS
        have hcf := SpanS.f13 hS
        refine wanted_go rfl ?_; clear hI hd hnd; go_simp
        exact hK.out undef _ (hS.set13 (by rw [hsz]; decide)) (Ks.of rfl rfl) (fun _ _ h => Ks.vals (by simp) h)
      · intro _ A0 w2 hI hd hnd K hK; have e0 := hI.q hnd 14; have e1 := hI.p hd 7 57; have hS := hI.world
        have hsz := hI.lsize
        have hcc := SpanS.c14 hS
        have hcf := SpanS.f14 hS
        refine wanted_go rfl ?_; clear hI hd hnd; go_simp
        exact hK.out undef _ (hS.set14 (by rw [hsz]; decide)) (Ks.of rfl rfl) (fun _ _ h => Ks.vals (by simp) h)
    · intro _ A0 w2 hI hall
      obtain ⟨hf2, h13, h14⟩ := hI.world.fin (hall 8 (by decide)) (hall 9 (by decide))
      clear hI hall
      have hW2 : Fr (fun q => q ≠ w5.heap.size ∧ q ≠ w5.heap.size + 2 ∧ q ≠ w5.heap.size + 3) W w2 := ((HF3.out.mono (fun q hq => hq.1)).trans (HFR.out.mono (fun q hq => ⟨hq.2.1, hq.2.2⟩))).trans (hf2.mono (fun q hq => ⟨hq.2.1, hq.2.2⟩))
      have hs12 := HS12.out
      have hs5 := HS5.out
      have hnm : ∀ (k : Nat) (o : Obj), W.heap[k]? = some o → o.isCells = true → k ≠ w5.heap.size := fun k o ho hc e => by
       obtain ⟨D, ⟨es, clock, hb, _⟩, _⟩ := HM.out
       rw [e, hb] at ho
       cases ho
       cases hc
      have hKN : KeepN w.heap.size (fun q => q = w5.heap.size + 2 ∨ q = w5.heap.size + 3) W w2 := ⟨(hW2.mono (fun q (hq : q < w.heap.size) => ⟨by omega, by omega, by omega⟩)).below, fun k o hk ho hc => (hW2.block k ⟨hnm k o ho hc, fun e => hk (.inl e), fun e => hk (.inr e)⟩).trans ho⟩
      refine (show KeepsFrom W12.heap.size W w2 ∧ KeepN w.heap.size (fun q => q = w5.heap.size + 2 ∨ q = w5.heap.size + 3) W w2 ∧ TriI w.heap.size w5.heap.size W12 (pre ++ [⟨(t, ⟨la, lm, lp⟩), hx⟩]) w2 from ⟨⟨hW2.size, fun k o hk ho _ => (hW2.block k ⟨by omega, by omega, by omega⟩).trans ho⟩, hKN, HKW.out.trans hKN, ⟨fun d => if d = la then some (s + lm) else f d, ?_, fun c => ?_⟩, _, _, h13, h14, Span.next HSP2.out ⟨(t, ⟨la, lm, lp⟩), hx⟩⟩)
      · rw [List.length_append, List.length_singleton]
        exact HM3.out.same ((hf2.block _ ⟨by omega, by omega⟩).trans (HFR.out.block _ ⟨by omega, by omega⟩))
      · rw [HNX.out c]
        show (if c = la then some (s + lm) else f c).getD 0 = sumPd (fun _ _ => true) c (pre.map (·.1)) + (if la = c ∧ true = true then lm else 0)
        by_cases hc : c = la
        · subst hc
          rw [if_pos rfl, if_pos ⟨rfl, rfl⟩, ← HF.out, HSV.out]; rfl
        · rw [if_neg hc, if_neg (fun h => hc h.1.symm), HF.out]; omega
  case done =>
   rintro D ys W0 hD hys ⟨hK, ⟨f, hM, hf⟩, lo, hi, h13, h14, hsp⟩ hD2
   have HF := Lib.hid (show ∀ c, (f c).getD 0 = sumE (qB d) l ent c from fun c => by rw [hf c, hys]; exact sum_bal l ent c d)
   have m0 := blk_cell (hK.cells (by omega) F1.out) 0
   have n13 := blk_cell h13 0
   have n14 := blk_cell h14 0
   have HKW := Lib.hid hK
   have HM := Lib.hid hM
   have HHD := Lib.hid hD2
   have HDS := Lib.hid hD
   have HSPN := Lib.hid hsp
   have HYS := Lib.hid hys
   clear hK hf hM hD2 hsp hys hD
   obtain ⟨FF, hFF⟩ : ∃ FF : Int → Int, (fun c => sumE (qB d) l ent c) = FF := ⟨_, rfl⟩
   have HFF := Lib.hid hFF
   have HF := Lib.hid (show ∀ c, (f c).getD 0 = FF c from fun c => by rw [← hFF]; exact HF.out c)
   have HFB := Lib.hid (show ∀ c, intBd (FF c) from fun c => by
    have := sumE_lt (qB d) (qB_bd _) HV.out (by have := HLE.out; omega) ent c
    rw [← hFF]
    unfold intBd
    simp only
    omega)
   have HOUT := Lib.hid (show ∀ c, FF c ≠ 0 → lo ≤ c ∧ c ≤ hi from fun c hc => Decidable.byContradiction fun hn => hc (by
    rw [← hFF]
    show sumE (qB d) l ent c = 0
    rw [← sum_bal, ← HYS.out]
    exact span_out HSPN.out hn))
   have HLH := Lib.hid (show (lo = 0 ∧ hi = -1) ∨ (1 ≤ lo ∧ lo ≤ hi ∧ hi ≤ 99999) from by
    rcases HSPN.out with ⟨_, h1, h2⟩ | ⟨h1, h2, h3, _⟩
    · exact .inl ⟨h1, h2⟩
    · exact .inr ⟨h1, h2, h3⟩)
   obtain ⟨ia, hia, hzia, hsia, hbia⟩ := info_parts info_balA
   have G1 := Lib.hid ((HKW.out.cells (show ¬ (w5.heap.size + 1 = w5.heap.size + 2 ∨ w5.heap.size + 1 = w5.heap.size + 3) by omega) F1.out))
   have G14 := Lib.hid h14
   clear hFF h13 h14 n14 m0
   go_upto_block 2 with fail
   clear n13
   go_wp2_with fail
   go_loopw [17, 18] (fun v cd wr => ∃ (k : Nat) (q : Int), q = lo + k ∧ q ≤ hi + 1 ∧ cd = .int .i64 q ∧ wr.ownsRow W0.heap.size 60 2 v (triL FF lo k).length ((triL FF lo k).flatMap balL) ∧ Below W0.heap.size W0 wr) (fun _ cd _ => (hi + 1 - intOf cd).toNat)
   case atStart => exact ⟨0, lo, by omega, by have := HLH.out; omega, rfl, World.ownsRow_nil _ _ _ _, Below.refl _ _⟩
   case round =>
    obtain ⟨k, q, hq, hqh, rfl, hown, hb⟩ := hrel
    generalize wr = w8 at *
    have HOW := Lib.hid hown
    have HB8 := Lib.hid hb
    have HQ := Lib.hid hq
    have m0 := blk_cell ((hb.block _ (blk_lt G1.out)).trans G1.out) 0
    have n14 := blk_cell ((hb.block _ (blk_lt G14.out)).trans G14.out) 0
    have HM8 := Lib.hid (HM.out.below hb)
    have hlh := HLH.out
    clear hown hb hq
    by_cases hlt : q ≤ hi
    case pos =>
     have hqb : 0 ≤ q ∧ q ≤ 99999 := by have := HQ.out; omega
     obtain ⟨hq0, hq1⟩ := hqb
     have HQI := Lib.hid (show intBd q by unfold intBd; omega)
     obtain ⟨v, hv⟩ : ∃ v, FF q = v := ⟨_, rfl⟩
     have HVE := Lib.hid hv
     have HVF := Lib.hid (show (f q).getD 0 = v by rw [HF.out, hv])
     have HVB := Lib.hid (show intBd v by rw [← hv]; exact HFB.out q)
     have hvb : -9223372036854775808 ≤ v ∧ v ≤ 9223372036854775807 := HVB.out
     obtain ⟨hv0, hv1⟩ := hvb
     clear hv hlh
     by_cases hvz : v = 0
     case pos =>
      have HST := Lib.hid (show triL FF lo (k + 1) = triL FF lo k by
       rw [triL, ← HQ.out, if_neg (fun h => h (by rw [HVE.out]; exact hvz)), List.append_nil])
      subst hvz
      go_wp2_with (show wpList _ _ _ (Oper.mk (some 66) _ _ _ _ _ :: _) _ _; refine wpList_look1 rfl (.tmp 64) (.tmp 65) rfl w5.heap.size _ f rfl HM8.out q rfl HQI.out ?_; rw [HVF.out])
      go_roundw
      case rel => exact ⟨k + 1, q + 1, by have := HQ.out; omega, by omega, rfl, by rw [HST.out]; exact HOW.out, HB8.out⟩
      case measure => simp only [intOf]; omega
     case neg =>
      have hvn : (v != 0) = true := by simpa using hvz
      have HST := Lib.hid (show triL FF lo (k + 1) = triL FF lo k ++ [⟨q, v⟩] by
       rw [triL, ← HQ.out, if_pos (fun h => hvz (by rw [← HVE.out]; exact h)), HVE.out])
      obtain ⟨nt, hnt⟩ : ∃ n, (triL FF lo k).length = n := ⟨_, rfl⟩
      have hnl : nt ≤ 100000 := by have h1 := triL_len FF lo k; have h2 := HQ.out; have h3 := HLH.out; omega
      have HNT := Lib.hid hnt
      rw [hnt] at HOW
      clear hvz hnt
      have hsx := HB8.out.size
      go_wp2_with (first | (show wpList _ _ _ (Oper.mk (some 66) _ _ _ _ _ :: _) _ _; refine wpList_look1 rfl (.tmp 64) (.tmp 65) rfl w5.heap.size _ f rfl HM8.out q rfl HQI.out ?_; rw [HVF.out]) | (at_builtin; go_loud (refine wpList_app _ rfl (.tmp 69) (.tmp 73) 37 rfl W0.heap.size 60 ia _ 2 16 bals_uty hia hzia hsia hbia rfl (by decide) u17 nt ((triL FF lo k).flatMap balL) rfl (HOW.out.alloc _) (fun _ => True) (some ⟨w8.heap.size, 0, none⟩) 1 1 [.int .i64 q, .int .i64 v] rfl (rd_new (heap_alloc_new _ _) rfl) (by simp [Value.oneCell']) (by simp only [maxLen]; omega) (by omega) (by simp; omega) ?_); intro v9 w9 hown9 hg9 _))
      go_roundw
      case rel =>
       refine ⟨k + 1, q + 1, by have := HQ.out; omega, by omega, rfl, ?_, below_grown (HB8.out.alloc hsx _) hg9 (fun q hq => (HOW.out.lt _ hq).1) (Nat.le_refl _)⟩
       rw [HST.out, List.flatMap_append, List.length_append, HNT.out]
       exact hown9
      case measure => simp only [intOf]; omega
    case neg =>
     have HTS := Lib.hid (show IsTri FF (triL FF lo k) from triL_is (fun c hc => by have h1 := HOUT.out c hc; have h2 := HQ.out; omega))
     have hTL := triL_len FF lo k
     have HTL := Lib.hid (show (triL FF lo k).length ≤ 100000 by have h2 := HQ.out; have h3 := HLH.out; omega)
     have HMB := Lib.hid (fun (x : XBalance) (hx : x ∈ triL FF lo k) => show intBd x.account ∧ intBd x.amount by
      obtain ⟨h1, h2, h3⟩ := (triL_mem FF lo k x).1 hx
      refine ⟨by unfold intBd; have h4 := HQ.out; have h5 := HLH.out; omega, ?_⟩
      rw [h3]
      exact HFB.out _)
     obtain ⟨ts, hts⟩ : ∃ ts, triL FF lo k = ts := ⟨_, rfl⟩
     rw [hts] at HTS HTL HMB HOW
     have HHD8 := Lib.hid ((HB8.out.block D (Array.getElem?_eq_some_iff.1 HHD.out).1).trans HHD.out)
     have hlc := own_listF (El := BalanceC) (f := balL) (fun _ => rfl) HOW.out (Q := fun q => W0.heap.size ≤ q ∧ q < w8.heap.size) (fun x hx => ⟨[_], [_], rfl, ⟨rfl, (HMB.out x hx).1⟩, ⟨rfl, (HMB.out x hx).2⟩⟩) (fun q hq => HOW.out.lt _ hq)
     obtain ⟨Ao, no, co, rfl⟩ := own_shape HOW.out
     obtain rfl : no = ts.length := own_val HOW.out
     have HLC := Lib.hid hlc
     obtain ⟨no, hno⟩ : ∃ x, ts.length = x := ⟨_, rfl⟩
     rw [hno]
     have HNO := Lib.hid hno
     clear hTL hts hlc hno HOW hlh
     go_wp2_with fail
     refine ⟨by simp, .inl ⟨_, _, rfl, run_takeDeferred HHD8.out, ?_⟩⟩
     have hDl : D < W0.heap.size := (Array.getElem?_eq_some_iff.1 HHD.out).1
     have hfd : Fr (fun q => q ≠ D) w8 (w8.putObj D (.deferred none)) := ⟨rfl, rfl, rfl, by simp, fun q hq => World.putObj_heap_other hq⟩
     have hb1 : Below w.heap.size w W0 := HB12.out.trans (HKW.out.1.mono (Nat.le_refl _))
     have hb2 : Below w.heap.size w w8 := hb1.trans (HB8.out.mono hb1.size)
     refine ⟨_, results_tmp2 rfl _ _ _, 0, Ao, co, ts, by rw [HNO.out]; rfl, HR.out, fun _ => HTS.out.eqv (fun c => by rw [← HFF.out]), fun h => absurd rfl h, HTL.out, ?_, ((Fr.ofBelow hb2).trans (hfd.mono (fun q (hq : q < w.heap.size) => by have := HDS.out; have := HS12.out; have := HS5.out; omega))).below⟩
     exact (ListC.fr (HLC.out) (fun h => BalanceC.fr h (hfd.mono (fun q hq => by omega))) (hfd.mono (fun q hq => by omega))).mono (fun h => BalanceC.mono h (fun q hq => by simpa using hq.2)) (fun q hq => by simpa using hq.2)
end Go.Proofs.Ytekelchdbkjjjaa
