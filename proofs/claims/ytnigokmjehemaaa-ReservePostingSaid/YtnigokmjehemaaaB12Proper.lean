/- Charts: proper, in the program. Written by gen_b12.py. -/
import Derived.Test.YtnigokmjehemaaaProg
import Derived.Test.YtnigokmjehemaaaB10Climb
namespace Go.Proofs.Ytnigokmjehemaaa
open Go Go.RowKit
set_option linter.unusedVariables false
set_option linter.unusedSimpArgs false
set_option maxRecDepth 4000
attribute [local go_sem ↓] Go.wp_at_zero Go.wp_at_succ
section
variable {l : List XAccount} {g : Bool} {a : XAccount}
theorem fieldB_f (h : ¬ (1 ≤ a.code ∧ a.code ≤ 99999 ∧ 1 ≤ a.kind ∧ a.kind ≤ 5)) : fieldB g a = false := by unfold fieldB; rw [decide_eq_false h]; rfl
theorem fieldB_t (h : ¬ (1 ≤ a.basis ∧ a.basis ≤ 3)) : fieldB true a = false := by unfold fieldB; rw [if_pos rfl, decide_eq_false h, Bool.and_false]
theorem fieldB_e (h : ¬ a.basis = 0) : fieldB false a = false := by
  unfold fieldB
  rw [if_neg (by decide), show (a.basis == 0) = false from by simpa using h, Bool.and_false]
theorem fieldB_T (h : 1 ≤ a.code ∧ a.code ≤ 99999 ∧ 1 ≤ a.kind ∧ a.kind ≤ 5) (h2 : 1 ≤ a.basis ∧ a.basis ≤ 3) : fieldB true a = true := by unfold fieldB; rw [decide_eq_true h, if_pos rfl, decide_eq_true h2]; rfl
theorem fieldB_E (h : 1 ≤ a.code ∧ a.code ≤ 99999 ∧ 1 ≤ a.kind ∧ a.kind ≤ 5) (h2 : a.basis = 0) : fieldB false a = true := by
  unfold fieldB
  rw [decide_eq_true h, if_neg (by decide), h2]; rfl
theorem properP_f (h : fieldB g a = false) : properP l g a = false := by unfold properP; rw [h]; rfl
theorem properR_f (h : fieldB g a = false) : properR l g a = false := by unfold properR; rw [h]; rfl
theorem properP_0 (h : fieldB g a = true) (h0 : a.parent = 0) : properP l g a = true := by unfold properP; rw [h, h0]; rfl
theorem properR_0 (h : fieldB g a = true) (h0 : a.parent = 0) : properR l g a = true := by unfold properR; rw [h, h0]; rfl
theorem properP_p (h0 : ¬ a.parent = 0) (hp : parB l a = false) : properP l g a = false := by
  unfold properP
  rw [hp, show (a.parent == 0) = false from by simpa using h0]; simp
theorem properR_p (h : fieldB g a = true) (h0 : ¬ a.parent = 0) : properR l g a = parB l a := by
  unfold properR
  rw [h, show (a.parent == 0) = false from by simpa using h0]; simp
theorem properP_up (h : fieldB g a = true) (h0 : ¬ a.parent = 0) (hp : parB l a = true) : properP l g a = ((upP l (l.length + 1) [] a.code).2 == 0) := by
  unfold properP
  rw [h, hp, show (a.parent == 0) = false from by simpa using h0]; simp
theorem parB_none (h : findA l a.parent = none) : parB l a = false := by unfold parB; rw [h]
theorem parB_some {p : XAccount} (h : findA l a.parent = some p) : parB l a = (!(p.code == a.code) && p.kind == a.kind) := by unfold parB; rw [h]
end
/-- The way up from an account of the list: it is not empty; the last code on it is of an account that leads to where the way stops. -/
theorem upP_top {l : List XAccount} {c : Int} (h : (findA l c).isSome = true) : ∃ (j : Nat) (x : Int) (top : XAccount), (upP l (l.length + 1) [] c).1.length = j + 1 ∧ (upP l (l.length + 1) [] c).1[j]? = some x ∧ findA l x = some top ∧ top.parent = (upP l (l.length + 1) [] c).2 := by
  have hlast := upP_last (l := l) (l.length + 1) [] c (fun x hx => by cases hx)
  obtain ⟨a0, ha0⟩ := Option.isSome_iff_exists.1 h
  have hlen : 1 ≤ (upP l (l.length + 1) [] c).1.length := by
    unfold upP
    rw [ha0]
    have := upP_pos (l := l) l.length ([] ++ [c]) a0.parent
    simpa using this
  generalize upP l (l.length + 1) [] c = P at *
  obtain ⟨p, e⟩ := P
  simp only at *
  obtain ⟨j, hj⟩ : ∃ j, p.length = j + 1 := ⟨p.length - 1, by omega⟩
  obtain ⟨x, hx⟩ : ∃ x, p[j]? = some x := ⟨p[j], List.getElem?_eq_getElem (by omega)⟩
  have hl : p.getLast? = some x := by rw [List.getLast?_eq_getElem?, hj]; exact hx
  obtain ⟨top, h1, h2⟩ := hlast x hl
  exact ⟨j, x, top, hj, hx, h1, h2⟩
theorem upP_small {l : List XAccount} : ∀ (f : Nat) (acc : List Int) (c : Int), known l acc → acc.length + f = l.length + 1 → (upP l f acc c).1.length ≤ l.length ∧ (∀ x ∈ (upP l f acc c).1, (findA l x).isSome = true)
  | 0, acc, c, hk, hf => by have := known_le hk; omega
  | f + 1, acc, c, hk, hf => by
    unfold upP
    cases ha : findA l c with
    | none => exact ⟨known_le hk, hk.2⟩
    | some a =>
      simp only
      by_cases hc : acc.contains c = true
      · rw [if_pos hc]; exact ⟨known_le hk, hk.2⟩
      · rw [if_neg hc]
        have hc' : acc.contains c = false := by simpa using hc
        exact upP_small f (acc ++ [c]) a.parent (known_snoc hk hc' ha) (by simp only [List.length_append, List.length_cons, List.length_nil]; omega)
theorem iv_get {l : List Int} {j : Nat} {x : Int} (h : l[j]? = some x) : (iv l)[j]? = some (.int .i64 x) := by unfold iv; rw [List.getElem?_map, h]; rfl
set_option maxHeartbeats 2000000 in
theorem rproper_c (l : List XAccount) (A : Option Addr) (c : Nat) (a : XAccount) (g : Bool) (w : World) (hl : ListC AccountC 4 w (· < w.heap.size) [.slice A l.length c] l) (hab : accB a) (hn : l.length ≤ 1000) : Calls Try.prog 171 #[.slice A l.length c, .agg (accL a).toArray, .bool g] w (Quiet w (.bool (properR l g a))) := by
  obtain ⟨r, hr⟩ : ∃ r, properR l g a = r := ⟨_, rfl⟩
  rw [hr]
  have HR := Lib.hid hr
  clear hr
  obtain ⟨n, hnl⟩ : ∃ n, l.length = n := ⟨_, rfl⟩
  rw [hnl] at hn
  have HL := Lib.hid hl
  have HN := Lib.hid hnl
  rw [hnl]
  clear hl hnl
  obtain ⟨c1, c2, c3, c4⟩ := a
  simp only [accB] at hab
  obtain ⟨q1, q2, q3, q4⟩ := hab
  have Q4 := Lib.hid q4
  have Q1 := Lib.hid q1
  obtain ⟨q11, q12⟩ := q1
  obtain ⟨q21, q22⟩ := q2
  obtain ⟨q31, q32⟩ := q3
  obtain ⟨q41, q42⟩ := q4
  go_enter Try.func171, Try.ntmps171
  go_upto_region 1 with fail
  have H0 := heap_alloc_new w (.cells #[.int .i64 c1, .int .i64 c2, .int .i64 c3, .int .i64 c4] 157)
  have HB := below1 w (.cells #[.int .i64 c1, .int .i64 c2, .int .i64 c3, .int .i64 c4] 157)
  have HS : w.heap.size < (w.alloc (.cells #[.int .i64 c1, .int .i64 c2, .int .i64 c3, .int .i64 c4] 157)).heap.size := blk_lt H0
  generalize hW : w.alloc (Obj.cells #[.int .i64 c1, .int .i64 c2, .int .i64 c3, .int .i64 c4] 157) = W at *
  have d0 := blk_cell H0 0
  have d1 := blk_cell H0 1
  have d2 := blk_cell H0 2
  have d3 := blk_cell H0 3
  have HH0 := Lib.hid H0
  clear hW H0
  by_cases k0 : c1 < 1
  case pos =>
    have hf := Lib.hid (show r = false by rw [← HR.out]; exact properR_f (fieldB_f (fun h => by have h1 := h.1; simp only at h1; omega)))
    go_wp2_with fail
    go_ret
    exact ⟨by rw [hf.out]; first | done | rfl, HB⟩
  case neg =>
  by_cases k1 : 99999 < c1
  case pos =>
    have hf := Lib.hid (show r = false by rw [← HR.out]; exact properR_f (fieldB_f (fun h => by have h1 := h.2.1; simp only at h1; omega)))
    go_wp2_with fail
    go_ret
    exact ⟨by rw [hf.out]; first | done | rfl, HB⟩
  case neg =>
  by_cases k2 : c2 < 1
  case pos =>
    have hf := Lib.hid (show r = false by rw [← HR.out]; exact properR_f (fieldB_f (fun h => by have h1 := h.2.2.1; simp only at h1; omega)))
    go_wp2_with fail
    go_ret
    exact ⟨by rw [hf.out]; first | done | rfl, HB⟩
  case neg =>
  by_cases k3 : 5 < c2
  case pos =>
    have hf := Lib.hid (show r = false by rw [← HR.out]; exact properR_f (fieldB_f (fun h => by have h1 := h.2.2.2; simp only at h1; omega)))
    go_wp2_with fail
    go_ret
    exact ⟨by rw [hf.out]; first | done | rfl, HB⟩
  case neg =>
  have HF := Lib.hid (show 1 ≤ c1 ∧ c1 ≤ 99999 ∧ 1 ≤ c2 ∧ c2 ≤ 5 by omega)
  cases g with
  | true =>
    by_cases k4 : c3 < 1
    case pos =>
      have hf := Lib.hid (show r = false by rw [← HR.out]; exact properR_f (fieldB_t (fun h => by have h1 := h.1; simp only at h1; omega)))
      go_wp2_with fail
      go_ret
      exact ⟨by rw [hf.out]; first | done | rfl, HB⟩
    case neg =>
    by_cases k5 : 3 < c3
    case pos =>
      have hf := Lib.hid (show r = false by rw [← HR.out]; exact properR_f (fieldB_t (fun h => by have h1 := h.2; simp only at h1; omega)))
      go_wp2_with fail
      go_ret
      exact ⟨by rw [hf.out]; first | done | rfl, HB⟩
    case neg =>
    have HFB := Lib.hid (fieldB_T (a := ⟨c1, c2, c3, c4⟩) HF.out (show 1 ≤ c3 ∧ c3 ≤ 3 by omega))
    by_cases k7 : c4 = 0
    case pos =>
      have hf := Lib.hid (show r = true by rw [← HR.out]; exact properR_0 HFB.out k7)
      go_wp2_with fail
      go_ret
      exact ⟨by rw [hf.out]; first | done | rfl, HB⟩
    case neg =>
    have hf := Lib.hid (show r = parB l ⟨c1, c2, c3, c4⟩ by rw [← HR.out]; exact properR_p HFB.out k7)
    go_wp2_with fail
    have hcall := rfind_c l A c c4 W (chart_keep HL.out HB) Q4.out (by rw [HN.out]; exact hn)
    rw [HN.out] at hcall
    refine hcall.mono ?_
    clear hcall
    rintro e w2 ⟨rfl, hb2⟩
    have hbb := HB.trans (hb2.mono HB.size)
    have G0 := (hb2.block _ HS).trans HH0.out
    have GG := Lib.hid G0
    clear G0
    cases ha : findA l c4 with
    | none =>
      have e0 : findV l c4 = .tuple #[.agg (accL {}).toArray, .bool false] := findV_none ha
      rw [e0]
      have hf2 := Lib.hid (show r = false by rw [hf.out]; exact parB_none ha)
      clear e0 ha
      go_wp2_with fail
      go_ret
      exact ⟨by rw [hf2.out]; first | done | rfl, hbb.alloc hbb.size _⟩
    | some p =>
      have e0 : findV l c4 = .tuple #[.agg (accL p).toArray, .bool true] := findV_some ha
      rw [e0]
      have hpb := HL.out.accB p (findA_mem ha).1
      have hf2 := Lib.hid (show r = (!(p.code == c1) && p.kind == c2) by rw [hf.out]; exact parB_some (a := ⟨c1, c2, c3, c4⟩) ha)
      clear e0 ha
      obtain ⟨p1, p2, p3, p4⟩ := p
      have G0 := alloc_keep GG.out (Obj.cells #[.int .i64 p1, .int .i64 p2, .int .i64 p3, .int .i64 p4] 157)
      go_upto_region 8 with fail
      have H7 := heap_alloc_new w2 (.cells #[.int .i64 p1, .int .i64 p2, .int .i64 p3, .int .i64 p4] 157)
      have HB7 := hbb.alloc hbb.size (.cells #[.int .i64 p1, .int .i64 p2, .int .i64 p3, .int .i64 p4] 157)
      generalize hW7 : w2.alloc (Obj.cells #[.int .i64 p1, .int .i64 p2, .int .i64 p3, .int .i64 p4] 157) = W7 at *
      have f0 := blk_cell H7 0
      have f1 := blk_cell H7 1
      have g0 := blk_cell G0 0
      have g1 := blk_cell G0 1
      clear hW7 H7 G0
      by_cases hp : p1 = c1
      case pos =>
        have hf3 := Lib.hid (show r = false by rw [hf2.out, hp]; simp)
        go_wp2_with fail
        go_ret
        exact ⟨by rw [hf3.out]; first | done | rfl, HB7⟩
      case neg =>
      by_cases hq : p2 = c2
      case pos =>
        have hf3 := Lib.hid (show r = true by rw [hf2.out, hq]; simp [hp])
        have hp' : (p1 != c1) = true := by simpa using hp
        go_wp2_with fail
        go_ret
        exact ⟨by rw [hf3.out]; first | done | rfl, HB7⟩
      case neg =>
      have hf3 := Lib.hid (show r = false by rw [hf2.out]; simp [hq])
      have hp' : (p1 != c1) = true := by simpa using hp
      have hq' : (p2 == c2) = false := by simpa using hq
      go_wp2_with fail
      go_ret
      exact ⟨by rw [hf3.out]; first | done | rfl, HB7⟩
  | false =>
    by_cases k4 : ¬ c3 = 0
    case pos =>
      have k5 : (c3 == 0) = false := by simpa using k4
      have hf := Lib.hid (show r = false by rw [← HR.out]; exact properR_f (fieldB_e k4))
      go_wp2_with fail
      go_ret
      exact ⟨by rw [hf.out]; first | done | rfl, HB⟩
    case neg =>
    have k5 : c3 = 0 := by omega
    have HFB := Lib.hid (fieldB_E (a := ⟨c1, c2, c3, c4⟩) HF.out k5)
    by_cases k7 : c4 = 0
    case pos =>
      have hf := Lib.hid (show r = true by rw [← HR.out]; exact properR_0 HFB.out k7)
      go_wp2_with fail
      go_ret
      exact ⟨by rw [hf.out]; first | done | rfl, HB⟩
    case neg =>
    have hf := Lib.hid (show r = parB l ⟨c1, c2, c3, c4⟩ by rw [← HR.out]; exact properR_p HFB.out k7)
    go_wp2_with fail
    have hcall := rfind_c l A c c4 W (chart_keep HL.out HB) Q4.out (by rw [HN.out]; exact hn)
    rw [HN.out] at hcall
    refine hcall.mono ?_
    clear hcall
    rintro e w2 ⟨rfl, hb2⟩
    have hbb := HB.trans (hb2.mono HB.size)
    have G0 := (hb2.block _ HS).trans HH0.out
    have GG := Lib.hid G0
    clear G0
    cases ha : findA l c4 with
    | none =>
      have e0 : findV l c4 = .tuple #[.agg (accL {}).toArray, .bool false] := findV_none ha
      rw [e0]
      have hf2 := Lib.hid (show r = false by rw [hf.out]; exact parB_none ha)
      clear e0 ha
      go_wp2_with fail
      go_ret
      exact ⟨by rw [hf2.out]; first | done | rfl, hbb.alloc hbb.size _⟩
    | some p =>
      have e0 : findV l c4 = .tuple #[.agg (accL p).toArray, .bool true] := findV_some ha
      rw [e0]
      have hpb := HL.out.accB p (findA_mem ha).1
      have hf2 := Lib.hid (show r = (!(p.code == c1) && p.kind == c2) by rw [hf.out]; exact parB_some (a := ⟨c1, c2, c3, c4⟩) ha)
      clear e0 ha
      obtain ⟨p1, p2, p3, p4⟩ := p
      have G0 := alloc_keep GG.out (Obj.cells #[.int .i64 p1, .int .i64 p2, .int .i64 p3, .int .i64 p4] 157)
      go_upto_region 8 with fail
      have H7 := heap_alloc_new w2 (.cells #[.int .i64 p1, .int .i64 p2, .int .i64 p3, .int .i64 p4] 157)
      have HB7 := hbb.alloc hbb.size (.cells #[.int .i64 p1, .int .i64 p2, .int .i64 p3, .int .i64 p4] 157)
      generalize hW7 : w2.alloc (Obj.cells #[.int .i64 p1, .int .i64 p2, .int .i64 p3, .int .i64 p4] 157) = W7 at *
      have f0 := blk_cell H7 0
      have f1 := blk_cell H7 1
      have g0 := blk_cell G0 0
      have g1 := blk_cell G0 1
      clear hW7 H7 G0
      by_cases hp : p1 = c1
      case pos =>
        have hf3 := Lib.hid (show r = false by rw [hf2.out, hp]; simp)
        go_wp2_with fail
        go_ret
        exact ⟨by rw [hf3.out]; first | done | rfl, HB7⟩
      case neg =>
      by_cases hq : p2 = c2
      case pos =>
        have hf3 := Lib.hid (show r = true by rw [hf2.out, hq]; simp [hp])
        have hp' : (p1 != c1) = true := by simpa using hp
        go_wp2_with fail
        go_ret
        exact ⟨by rw [hf3.out]; first | done | rfl, HB7⟩
      case neg =>
      have hf3 := Lib.hid (show r = false by rw [hf2.out]; simp [hq])
      have hp' : (p1 != c1) = true := by simpa using hp
      have hq' : (p2 == c2) = false := by simpa using hq
      go_wp2_with fail
      go_ret
      exact ⟨by rw [hf3.out]; first | done | rfl, HB7⟩

end Go.Proofs.Ytnigokmjehemaaa
