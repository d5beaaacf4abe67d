/- Opposite lines. Written by gen_f9.py. -/
import Derived.Test.YtnigokmjehemaaaJF1F7
import Derived.Test.YtnigokmjehemaaaProg
namespace Go.Proofs.Ytnigokmjehemaaa
open Go Go.RowKit
set_option linter.unusedVariables false
set_option linter.unusedSimpArgs false
set_option maxRecDepth 4000
attribute [local go_sem ↓] Go.wp_at_zero Go.wp_at_succ
/-- The opposite of a line. -/
def negL (x : XLine) : XLine := ⟨x.account, -x.amount, x.partner⟩
def oppB (a b : List XLine) : Bool := decide (a = b.map negL)
def midL (x : XLine) : Prop := -4611686018427387904 ≤ x.amount ∧ x.amount ≤ 4611686018427387904
set_option maxHeartbeats 1000000 in
theorem oppcl_c (x y : XLine) (w : World) (hy : midL y) : Calls Try.prog 89 #[.agg (lineL x).toArray, .agg (lineL y).toArray] w (Quiet w (.bool (decide (x = negL y)))) := by
  obtain ⟨r, hr⟩ : ∃ r, decide (x = negL y) = r := ⟨_, rfl⟩
  rw [hr]
  obtain ⟨xa, xm, xp⟩ := x
  obtain ⟨ya, ym, yp⟩ := y
  have HR := Lib.hid (show r = decide (xa = ya ∧ xm = -ym ∧ xp = yp) by rw [← hr]; simp [negL])
  obtain ⟨hy1, hy2⟩ := hy
  simp only at hy1 hy2
  clear hr
  show Calls Try.prog 89 #[.agg #[.int .i64 xa, .int .i64 xm, .int .i64 xp], .agg #[.int .i64 ya, .int .i64 ym, .int .i64 yp]] w (Quiet w (.bool r))
  go_enter Try.func89, Try.ntmps89
  go_upto_region 1 with fail
  have H := heap_alloc_new w (.cells #[.int .i64 xa, .int .i64 xm, .int .i64 xp] 57)
  have HB := below1 w (.cells #[.int .i64 xa, .int .i64 xm, .int .i64 xp] 57)
  have HS : w.heap.size < (w.alloc (.cells #[.int .i64 xa, .int .i64 xm, .int .i64 xp] 57)).heap.size := blk_lt H
  generalize hW : w.alloc (Obj.cells #[.int .i64 xa, .int .i64 xm, .int .i64 xp] 57) = W at *
  have H2 := heap_alloc_new W (.cells #[.int .i64 ya, .int .i64 ym, .int .i64 yp] 57)
  have HB2 := below1 W (.cells #[.int .i64 ya, .int .i64 ym, .int .i64 yp] 57)
  have HS2 : W.heap.size < (W.alloc (.cells #[.int .i64 ya, .int .i64 ym, .int .i64 yp] 57)).heap.size := blk_lt H2
  replace H := alloc_keep H (Obj.cells #[.int .i64 ya, .int .i64 ym, .int .i64 yp] 57)
  generalize hW2 : W.alloc (Obj.cells #[.int .i64 ya, .int .i64 ym, .int .i64 yp] 57) = W2 at *
  clear hW2
  have eW : W.heap.size = w.heap.size + 1 := by rw [← hW]; simp
  rw [eW] at H2
  clear hW
  have hb2 := HB.trans (HB2.mono HB.size)
  have hs2 := HB2.size
  have LT1 := blk_lt H2
  have LT0 : w.heap.size < W2.heap.size := by omega
  have HH := Lib.hid H
  have HZ := Lib.hid H2
  have EW := Lib.hid eW
  clear H H2 eW
  have c0 := blk_cell HH.out 0
  have c1 := blk_cell HH.out 1
  have c2 := blk_cell HH.out 2
  have e0 := blk_cell HZ.out 0
  have e1 := blk_cell HZ.out 1
  have e2 := blk_cell HZ.out 2
  by_cases h1 : xa = ya
  case neg =>
    have h1' : (xa == ya) = false := by simpa using h1
    have hf := Lib.hid (show r = false from HR.out.trans (decide_eq_false (fun h => h1 h.1)))
    go_wp2_with fail
    go_ret
    exact ⟨by rw [hf.out]; first | done | rfl, hb2⟩
  case pos =>
  have h1' : (xa == ya) = true := by simpa using h1
  have HA := Lib.hid h1
  clear h1
  by_cases h2 : xp = yp
  case neg =>
    have h2' : (xp == yp) = false := by simpa using h2
    have hf := Lib.hid (show r = false from HR.out.trans (decide_eq_false (fun h => h2 h.2.2)))
    go_wp2_with fail
    go_ret
    exact ⟨by rw [hf.out]; first | done | rfl, hb2⟩
  case pos =>
  have h2' : (xp == yp) = true := by simpa using h2
  have HP := Lib.hid h2
  clear h2
  by_cases h3 : xm = -ym
  case neg =>
    have h3' : (xm == -ym) = false := by simpa using h3
    have hf := Lib.hid (show r = false from HR.out.trans (decide_eq_false (fun h => h3 h.2.1)))
    go_wp2_with fail
    go_ret
    exact ⟨by rw [hf.out]; first | done | rfl, hb2⟩
  case pos =>
    have h3' : (xm == -ym) = true := by simpa using h3
    have hf := Lib.hid (show r = true from HR.out.trans (decide_eq_true ⟨HA.out, h3, HP.out⟩))
    clear h3
    go_wp2_with fail
    go_ret
    exact ⟨by rw [hf.out]; first | done | rfl, hb2⟩
set_option maxHeartbeats 2000000 in
theorem eqf_c (a b' : List XLine) (A B : Option Addr) (c c4 : Nat) (w : World) (ha : ListC LineC 3 w (· < w.heap.size) [.slice A a.length c] a) (hb' : ListC LineC 3 w (· < w.heap.size) [.slice B b'.length c4] b') (hmid : ∀ x ∈ b', midL x) : Calls Try.prog 88 #[.slice A a.length c, .slice B b'.length c4, .func (.func 89) #[] #[]] w (Quiet w (.bool (oppB a b'))) := by
  obtain ⟨r, hr⟩ : ∃ r, oppB a b' = r := ⟨_, rfl⟩
  rw [hr]
  have HR := Lib.hid (show decide (a = b'.map negL) = r from hr)
  have hbn := ha.cap
  have hbn2 := hb'.cap
  obtain ⟨n, hnl⟩ : ∃ n, a.length = n := ⟨_, rfl⟩
  obtain ⟨m, hml⟩ : ∃ n, b'.length = n := ⟨_, rfl⟩
  have HA := Lib.hid ha
  have HB := Lib.hid hb'
  have HN := Lib.hid hnl
  have HM := Lib.hid hml
  have HMID := Lib.hid hmid
  rw [hnl] at hbn ⊢
  rw [hml] at hbn2 ⊢
  unfold maxLen at hbn hbn2
  have hn9 : n ≤ 9223372036854775807 := by omega
  have hm9 : m ≤ 9223372036854775807 := by omega
  clear hr ha hb' hnl hml hbn hbn2 hmid
  by_cases hl : n = m
  case neg =>
    have hf := Lib.hid (show r = false by rw [← HR.out]; exact decide_eq_false (fun e => hl (by rw [← HN.out, ← HM.out, e, List.length_map])))
    have hl1 : ((n : Int) != (m : Int)) = true := by simp; omega
    clear hl
    go_enter Try.func88, Try.ntmps88
    go_wp2_with fail
    go_ret
    exact ⟨by rw [hf.out]; first | done | rfl, Below.refl _ _⟩
  case pos =>
  subst hl
  go_enter Try.func88, Try.ntmps88
  go_wp2_with fail
  go_loopw [17] (fun i wr => ∃ k : Nat, k ≤ n ∧ i = .int .i64 (k : Int) ∧ Below w.heap.size w wr ∧ ∀ j, j < k → a[j]? = (b'.map negL)[j]?) (fun i _ => n - (intOf i).toNat)
  case atStart => exact ⟨0, by omega, rfl, Below.refl _ _, fun j h => by omega⟩
  case round =>
    obtain ⟨k, hk, rfl, hb, hall⟩ := hrel
    have HALL := Lib.hid hall
    clear hall
    by_cases hlt : k < n
    case pos =>
      have hltI : (k : Int) < (n : Int) := by omega
      have hkl : k < a.length := by rw [HN.out]; exact hlt
      have hkm : k < b'.length := by rw [HM.out]; exact hlt
      obtain ⟨b, o, es, hAe, hbw, hes, hat⟩ := ListC.get HA.out k hkl
      obtain ⟨b4, o4, es4, hAe4, hbw4, hes4, hat4⟩ := ListC.get HB.out k hkm
      subst hAe hAe4
      have hes1 := (LineC.lit hes).1
      have hes2 := (LineC.lit hes4).1
      rw [hes1] at hat
      rw [hes2] at hat4
      have hmd := HMID.out _ (List.getElem_mem hkm)
      obtain ⟨x, hx⟩ : ∃ x, a[k] = x := ⟨_, rfl⟩
      obtain ⟨y, hy⟩ : ∃ x, b'[k] = x := ⟨_, rfl⟩
      rw [hx] at hat
      rw [hy] at hat4 hmd
      have HX := Lib.hid (show a[k]? = some x by rw [List.getElem?_eq_getElem hkl, hx])
      have HY := Lib.hid (show (b'.map negL)[k]? = some (negL y) by rw [List.getElem?_map, List.getElem?_eq_getElem hkm, hy]; rfl)
      have HCL := Lib.hid (fun w2 : World => oppcl_c x y w2 hmd)
      obtain ⟨q, hq⟩ : ∃ q, decide (x = negL y) = q := ⟨_, rfl⟩
      rw [hq] at HCL
      have HQ := Lib.hid hq
      obtain ⟨xa, xm, xp⟩ := x
      obtain ⟨ya, ym, yp⟩ := y
      have HCL2 := Lib.hid (show ∀ w2, Calls Try.prog 89 #[.agg #[.int .i64 xa, .int .i64 xm, .int .i64 xp], .agg #[.int .i64 ya, .int .i64 ym, .int .i64 yp]] w2 (Quiet w2 (.bool q)) from HCL.out)
      try simp only at hat hat4
      have HAR := Lib.hid ((hat.fr (Fr.ofBelow hb)).range)
      have HAR4 := Lib.hid ((hat4.fr (Fr.ofBelow hb)))
      clear hes hes4 hes1 hes2 hat hat4 hx hy hmd hq HCL
      go_upto_region 6 with (show wpList _ _ _ (Oper.mk (some 21) _ _ _ _ _ :: _) _ _; refine wpList_load_mid rfl 57 (.tmp 20) rfl b (o + k * 3) rfl [.int .i64 xa, .int .i64 xm, .int .i64 xp] _ HAR.out Try.underlying57 rfl info_line ?_)
      have H6 := heap_alloc_new wr (.cells #[.int .i64 xa, .int .i64 xm, .int .i64 xp] 57)
      have HB6 := below1 wr (.cells #[.int .i64 xa, .int .i64 xm, .int .i64 xp] 57)
      have HS6 : wr.heap.size < (wr.alloc (.cells #[.int .i64 xa, .int .i64 xm, .int .i64 xp] 57)).heap.size := blk_lt H6
      have ez6 : (wr.alloc (.cells #[.int .i64 xa, .int .i64 xm, .int .i64 xp] 57)).heap.size = wr.heap.size + 1 := by simp
      generalize hW6 : wr.alloc (Obj.cells #[.int .i64 xa, .int .i64 xm, .int .i64 xp] 57) = W6 at *
      clear hW6
      have HK6 := Lib.hid H6
      have EZ6 := Lib.hid ez6
      clear H6 ez6
      have hb6 := hb.trans (HB6.mono hb.size)
      have HAR6 := Lib.hid ((HAR4.out.fr ((Fr.ofBelow HB6).mono (fun q (hq : q < w.heap.size) => by have := hb.size; omega))).range)
      go_upto_region 7 with (show wpList _ _ _ (Oper.mk (some 25) _ _ _ _ _ :: _) _ _; refine wpList_load_mid rfl 57 (.tmp 24) rfl b4 (o4 + k * 3) rfl [.int .i64 ya, .int .i64 ym, .int .i64 yp] _ HAR6.out Try.underlying57 rfl info_line ?_)
      have H7 := heap_alloc_new W6 (.cells #[.int .i64 ya, .int .i64 ym, .int .i64 yp] 57)
      have HB7 := below1 W6 (.cells #[.int .i64 ya, .int .i64 ym, .int .i64 yp] 57)
      have HS7 : W6.heap.size < (W6.alloc (.cells #[.int .i64 ya, .int .i64 ym, .int .i64 yp] 57)).heap.size := blk_lt H7
      generalize hW7 : W6.alloc (Obj.cells #[.int .i64 ya, .int .i64 ym, .int .i64 yp] 57) = W7 at *
      clear hW7
      have HK7 := Lib.hid H7
      have HK67 := Lib.hid ((HB7.block _ HS6).trans HK6.out)
      clear H7
      have hb7 := hb6.trans (HB7.mono hb6.size)
      go_wp2_with (first | (show wpList _ _ _ (Oper.mk (some 27) _ _ _ _ _ :: _) _ _; refine wpList_load_row_g rfl 57 (.tmp 8) rfl wr.heap.size rfl _ _ _ _ HK67.out Try.underlying57 rfl info_line ?_) | (show wpList _ _ _ (Oper.mk (some 28) _ _ _ _ _ :: _) _ _; refine wpList_load_row_g rfl 57 (.tmp 9) rfl W6.heap.size rfl _ _ _ _ HK7.out Try.underlying57 rfl info_line ?_))
      refine (HCL2.out W7).mono ?_
      rintro e w8 ⟨rfl, hb8⟩
      have hb08 := hb7.trans (hb8.mono hb7.size)
      cases q with
      | false =>
        have hf := Lib.hid (show r = false by
          rw [← HR.out]
          refine decide_eq_false (fun e => ?_)
          have h1 := HX.out
          rw [e, HY.out] at h1
          exact of_decide_eq_false HQ.out (Option.some.inj h1).symm)
        go_wp2_with fail
        go_ret
        exact ⟨by rw [hf.out]; first | done | rfl, hb08⟩
      | true =>
        go_wp2_with fail
        go_roundw
        case rel => exact ⟨k + 1, by omega, by go_num, hb08, fun j hj => by
          rcases Nat.lt_or_ge j k with h | h
          · exact HALL.out j h
          · have : j = k := by omega
            subst this
            rw [HX.out, HY.out, of_decide_eq_true HQ.out]⟩
        case measure => first | exact meas_v hlt | (simp only [intOf]; omega)
    case neg =>
      have hltI : ¬ (k : Int) < (n : Int) := by omega
      have hf := Lib.hid (show r = true by
        rw [← HR.out]
        refine decide_eq_true (List.ext_getElem? (fun i => ?_))
        rcases Nat.lt_or_ge i k with h | h
        · exact HALL.out i h
        · rw [List.getElem?_eq_none (by rw [HN.out]; omega), List.getElem?_eq_none (by rw [List.length_map, HM.out]; omega)])
      go_wp2_with fail
      go_ret
      exact ⟨by rw [hf.out]; first | done | rfl, hb⟩
theorem opp_c (a b' : List XLine) (A B : Option Addr) (c c4 : Nat) (w : World) (ha : ListC LineC 3 w (· < w.heap.size) [.slice A a.length c] a) (hb' : ListC LineC 3 w (· < w.heap.size) [.slice B b'.length c4] b') (hmid : ∀ x ∈ b', midL x) : Calls Try.prog 43 #[.slice A a.length c, .slice B b'.length c4] w (Quiet w (.bool (oppB a b'))) := by
  have hc := eqf_c a b' A B c c4 w ha hb' hmid
  obtain ⟨n, hnl⟩ : ∃ n, a.length = n := ⟨_, rfl⟩
  obtain ⟨m, hml⟩ : ∃ n, b'.length = n := ⟨_, rfl⟩
  obtain ⟨r, hr⟩ : ∃ r, oppB a b' = r := ⟨_, rfl⟩
  rw [hnl, hml, hr] at hc ⊢
  have HC := Lib.hid hc
  clear hc hnl hml hr ha hb' hmid
  go_enter Try.func43, Try.ntmps43
  go_wp2_with fail
  refine HC.out.mono ?_
  rintro e w2 ⟨rfl, hb2⟩
  go_wp2_with fail
  go_ret
  exact ⟨rfl, hb2⟩
end Go.Proofs.Ytnigokmjehemaaa
