/- slices.IndexFunc and ContainsFunc over a chart. Written by gen_b21.py. -/
import Derived.Test.YtnigokmjehemaaaProg
import Derived.Test.YtnigokmjehemaaaB19NotBased
namespace Go.Proofs.Ytnigokmjehemaaa
open Go Go.RowKit
set_option linter.unusedVariables false
set_option linter.unusedSimpArgs false
set_option maxRecDepth 4000
attribute [local go_sem ↓] Go.wp_at_zero Go.wp_at_succ
/-- The place of the first element with a property, or -1. -/
def idxI {α : Type} (p : α → Bool) (l : List α) : Int := match l.findIdx? p with
  | some k => (k : Int)
  | none => -1
theorem idx_some {α : Type} {p : α → Bool} {l : List α} {k : Nat} (hk : k < l.length) (h : p l[k] = true) (hb : ∀ j (hj : j < l.length), j < k → p l[j] = false) : idxI p l = (k : Int) := by
  unfold idxI
  have : l.findIdx? p = some k := by
    rw [List.findIdx?_eq_some_iff_getElem]
    exact ⟨hk, h, fun j hj => by simpa using hb j (by omega) hj⟩
  rw [this]
theorem idx_none {α : Type} {p : α → Bool} {l : List α} (hb : ∀ j (hj : j < l.length), p l[j] = false) : idxI p l = -1 := by
  unfold idxI
  have : l.findIdx? p = none := by
    rw [List.findIdx?_eq_none_iff]
    intro x hx
    obtain ⟨j, hj, rfl⟩ := List.getElem_of_mem hx
    exact hb j hj
  rw [this]
theorem idx_any {α : Type} (p : α → Bool) (l : List α) : decide (0 ≤ idxI p l) = l.any p := by
  unfold idxI
  cases h : l.findIdx? p with
  | none =>
    rw [List.findIdx?_eq_none_iff] at h
    have : l.any p = false := by
      rw [List.any_eq_false]
      intro x hx
      simpa using h x hx
    rw [this]; rfl
  | some k =>
    rw [List.findIdx?_eq_some_iff_getElem] at h
    obtain ⟨hk, hp, _⟩ := h
    have : l.any p = true := List.any_eq_true.2 ⟨l[k], List.getElem_mem hk, hp⟩
    rw [this]
    show decide ((0 : Int) ≤ (k : Int)) = true
    exact decide_eq_true (by omega)
theorem idx_le {α : Type} (p : α → Bool) (l : List α) : idxI p l ≤ (l.length : Int) := by
  unfold idxI
  cases h : l.findIdx? p with
  | none => simp only; omega
  | some k =>
    rw [List.findIdx?_eq_some_iff_getElem] at h
    obtain ⟨hk, _⟩ := h
    simp only; omega
theorem idx_ge {α : Type} (p : α → Bool) (l : List α) : -1 ≤ idxI p l := by
  unfold idxI
  cases h : l.findIdx? p with
  | none => simp
  | some k => simp only; omega
set_option maxHeartbeats 1000000 in
theorem idxA_c (l : List XAccount) (A : Option Addr) (c : Nat) (w : World) (hl : ListC AccountC 4 w (· < w.heap.size) [.slice A l.length c] l) (hn : l.length ≤ 1000) : Calls Try.prog 191 #[.slice A l.length c, .func (.func 163) #[] #[]] w (Quiet w (.int .i64 (idxI (fun a => !basedB a) l))) := by
  obtain ⟨r, hr⟩ : ∃ r, idxI (fun a => !basedB a) l = r := ⟨_, rfl⟩
  rw [hr]
  have HR := Lib.hid hr
  clear hr
  obtain ⟨n, hnl⟩ : ∃ n, l.length = n := ⟨_, rfl⟩
  rw [hnl] at hn
  have HL := Lib.hid hl
  have HN := Lib.hid hnl
  rw [hnl]
  clear hl hnl
  go_enter Try.func191, Try.ntmps191
  go_wp2_with fail
  go_loopw [8] (fun i wr => ∃ k : Nat, k ≤ n ∧ i = .int .i64 (k : Int) ∧ Below w.heap.size w wr ∧ ∀ j (hj : j < l.length), j < k → basedB l[j] = true) (fun i _ => n - (intOf i).toNat)
  case atStart => exact ⟨0, by omega, rfl, Below.refl _ _, fun j hj h => by omega⟩
  case round =>
    obtain ⟨k, hk, rfl, hb, hall⟩ := hrel
    have HA := Lib.hid hall
    clear hall
    have hsz := hb.size
    by_cases hlt : k < n
    case pos =>
      have hltI : (k : Int) < (n : Int) := by omega
      have hkl : k < l.length := by rw [HN.out]; exact hlt
      obtain ⟨b, o, es, hAe, hbw, hes, hat⟩ := ListC.get HL.out k hkl
      subst hAe
      obtain ⟨hes1, hb1, hb2, hb3, hb4⟩ := AccountC.lit hes
      rw [hes1] at hat
      obtain ⟨ac, hac⟩ : ∃ ac, l[k] = ac := ⟨_, rfl⟩
      rw [hac] at hat
      have HAC := Lib.hid hac
      have HAR := Lib.hid ((hat.fr (Fr.ofBelow hb)).range)
      clear hes hes1 hat hac hb1 hb2 hb3 hb4
      go_wp2_with (show wpList _ _ _ (Oper.mk (some 15) _ _ _ _ _ :: _) _ _; refine wpList_load_mid rfl 157 (.tmp 14) rfl b (o + k * 4) rfl (accL ac) _ HAR.out Try.underlying157 rfl (info_accL _) ?_)
      refine (notBased_c ac wr).mono ?_
      rintro e w2 ⟨rfl, hb2⟩
      have hbb := hb.trans (hb2.mono hb.size)
      cases hp : basedB ac with
      | false =>
        have hf := Lib.hid (show r = (k : Int) by rw [← HR.out]; exact idx_some hkl (by rw [HAC.out, hp]; rfl) (fun j hj hjk => by rw [HA.out j hj hjk]; rfl))
        clear hp
        simp only [Bool.not_false]
        go_wp2_with fail
        go_ret
        exact ⟨by rw [hf.out]; first | done | rfl, hbb⟩
      | true =>
        have HP := Lib.hid hp
        clear hp
        simp only [Bool.not_true]
        go_wp2_with fail
        go_roundw
        case rel => exact ⟨k + 1, by omega, by go_num, hbb, fun j hj hjk => by
          rcases Nat.lt_or_ge j k with h | h
          · exact HA.out j hj h
          · have : j = k := by omega
            subst this
            rw [HAC.out]
            exact HP.out⟩
        case measure =>
          have e : wrap64 ((k : Int) + 1) = ((k + 1 : Nat) : Int) := by unfold wrap64; omega
          simp only [intOf, e]
          omega
    case neg =>
      have hltI : ¬ (k : Int) < (n : Int) := by omega
      have hf := Lib.hid (show r = -1 by rw [← HR.out]; exact idx_none (fun j hj => by rw [HA.out j hj (by have := HN.out; omega)]; rfl))
      go_wp2_with fail
      go_ret
      exact ⟨by rw [hf.out]; first | done | rfl, hb⟩
set_option maxHeartbeats 1000000 in
theorem anyA_c (l : List XAccount) (A : Option Addr) (c : Nat) (w : World) (hl : ListC AccountC 4 w (· < w.heap.size) [.slice A l.length c] l) (hn : l.length ≤ 1000) : Calls Try.prog 162 #[.slice A l.length c, .func (.func 163) #[] #[]] w (Quiet w (.bool (!l.all basedB))) := by
  have hcall := idxA_c l A c w hl hn
  obtain ⟨n, hnl⟩ : ∃ n, l.length = n := ⟨_, rfl⟩
  rw [hnl] at hcall ⊢
  have hh : decide (0 ≤ idxI (fun a => !basedB a) l) = !l.all basedB := by rw [idx_any, List.not_all_eq_any_not]
  obtain ⟨i, hi⟩ : ∃ i, idxI (fun a => !basedB a) l = i := ⟨_, rfl⟩
  rw [hi] at hcall hh
  rw [← hh]
  clear hh hi
  go_enter Try.func162, Try.ntmps162
  go_wp2_with fail
  refine hcall.mono ?_
  clear hcall
  rintro e w2 ⟨rfl, hb2⟩
  by_cases h : 0 ≤ i
  · have hf : decide (0 ≤ i) = true := decide_eq_true h
    have HF := Lib.hid hf
    clear hf
    go_wp2_with fail
    go_ret
    exact ⟨by rw [HF.out]; first | done | rfl, hb2⟩
  · have hf : decide (0 ≤ i) = false := decide_eq_false h
    have HF := Lib.hid hf
    clear hf
    go_wp2_with fail
    go_ret
    exact ⟨by rw [HF.out]; first | done | rfl, hb2⟩
end Go.Proofs.Ytnigokmjehemaaa
