/- Charts: the way up, in plain Lean. Written by gen_b9.py. -/
import Derived.Test.YtnigokmjehemaaaB8Find
namespace Go.Proofs.Ytnigokmjehemaaa
open Go Go.RowKit
set_option linter.unusedVariables false
set_option linter.unusedSimpArgs false
/-- The program's way up: the codes, and the code at which it stops. -/
def upP (l : List XAccount) : Nat → List Int → Int → List Int × Int
  | 0, acc, c => (acc, c)
  | f + 1, acc, c => match findA l c with
    | none => (acc, c)
    | some a => if acc.contains c then (acc, c) else upP l f (acc ++ [c]) a.parent
/-- The reference's way up. -/
def upR (l : List XAccount) : Nat → List Int → Int → List Int
  | 0, acc, _ => acc
  | f + 1, acc, c => match findA l c with
    | none => acc
    | some a => upR l f (acc ++ [c]) a.parent
theorem findA_mem {l : List XAccount} {c : Int} {a : XAccount} (h : findA l c = some a) : a ∈ l ∧ a.code = c := by
  unfold findA at h
  exact ⟨List.mem_of_find?_eq_some h, by simpa using List.find?_some h⟩
theorem findA_of_mem {l : List XAccount} {a : XAccount} (h : a ∈ l) : (findA l a.code).isSome = true := by
  unfold findA
  rw [List.find?_isSome]
  exact ⟨a, h, by simp⟩
/-- Codes that are on the list: no two alike. -/
def known (l : List XAccount) (acc : List Int) : Prop := acc.Nodup ∧ ∀ x ∈ acc, (findA l x).isSome = true
theorem nodup_le : ∀ (xs ys : List Int), xs.Nodup → (∀ x ∈ xs, x ∈ ys) → xs.length ≤ ys.length
  | [], _, _, _ => Nat.zero_le _
  | x :: xs, ys, h, hs => by
    rw [List.nodup_cons] at h
    have hx : x ∈ ys := hs x (by simp)
    have := nodup_le xs (ys.erase x) h.2 (fun y hy => (List.mem_erase_of_ne (by rintro rfl; exact h.1 hy)).2 (hs y (by simp [hy])))
    rw [List.length_erase_of_mem hx] at this
    have := List.length_pos_of_mem hx
    simp only [List.length_cons]
    omega
theorem known_le {l : List XAccount} {acc : List Int} (h : known l acc) : acc.length ≤ l.length := by
  have h1 : acc ⊆ l.map (·.code) := by
    intro x hx
    have := h.2 x hx
    obtain ⟨a, ha⟩ := Option.isSome_iff_exists.1 this
    obtain ⟨m, e⟩ := findA_mem ha
    exact List.mem_map.2 ⟨a, m, e⟩
  have := nodup_le acc _ h.1 (fun x hx => h1 hx)
  simpa using this
theorem known_nil (l : List XAccount) : known l [] := ⟨List.nodup_nil, by simp⟩
theorem known_snoc {l : List XAccount} {acc : List Int} {c : Int} {a : XAccount} (h : known l acc) (hc : acc.contains c = false) (ha : findA l c = some a) : known l (acc ++ [c]) := by
  have hn : c ∉ acc := by simpa using hc
  refine ⟨List.nodup_append.2 ⟨h.1, by simp, ?_⟩, ?_⟩
  · intro x hx y hy
    simp only [List.mem_singleton] at hy
    subst hy
    exact fun e => hn (e ▸ hx)
  · intro x hx
    rcases List.mem_append.1 hx with h1 | h1
    · exact h.2 x h1
    · simp only [List.mem_singleton] at h1
      subst h1
      rw [ha]; rfl
/-- Each code of the way leads to one of the way, or to c. -/
def leads (l : List XAccount) (acc : List Int) (c : Int) : Prop := ∀ x ∈ acc, ∃ a, findA l x = some a ∧ (a.parent ∈ acc ∨ a.parent = c)
theorem upR_ring {l : List XAccount} {S : List Int} (hS : ∀ x ∈ S, ∃ a, findA l x = some a ∧ a.parent ∈ S) : ∀ (f : Nat) (acc : List Int) (c : Int), c ∈ S → (upR l f acc c).length = acc.length + f
  | 0, acc, c, _ => rfl
  | f + 1, acc, c, hc => by
    obtain ⟨a, ha, hp⟩ := hS c hc
    unfold upR
    rw [ha]
    simp only
    rw [upR_ring hS f (acc ++ [c]) a.parent hp, List.length_append]
    simp only [List.length_cons, List.length_nil]
    omega
theorem up_both {l : List XAccount} : ∀ (f : Nat) (acc : List Int) (c : Int), known l acc → leads l acc c → acc.length + f = l.length + 1 →
    (findA l (upP l f acc c).2 = none ↔ (upR l f acc c).length ≤ l.length)
  | 0, acc, c, hk, _, hf => by have := known_le hk; omega
  | f + 1, acc, c, hk, hl, hf => by
    unfold upP upR
    cases ha : findA l c with
    | none =>
      simp only
      rw [ha]
      have := known_le hk
      simp [this]
    | some a =>
      simp only
      by_cases hc : acc.contains c = true
      · rw [if_pos hc]
        simp only [ha, reduceCtorEq, false_iff, Nat.not_le]
        have hcm : c ∈ acc := by simpa using hc
        have hS : ∀ x ∈ acc, ∃ a, findA l x = some a ∧ a.parent ∈ acc := by
          intro x hx
          obtain ⟨b, h1, h2⟩ := hl x hx
          refine ⟨b, h1, ?_⟩
          rcases h2 with h2 | h2
          · exact h2
          · rw [h2]; exact hcm
        obtain ⟨b, h1, h2⟩ := hS c hcm
        rw [ha] at h1
        cases h1
        rw [upR_ring hS f (acc ++ [c]) a.parent h2, List.length_append]
        simp only [List.length_cons, List.length_nil]
        omega
      · rw [if_neg hc]
        have hc' : acc.contains c = false := by simpa using hc
        refine up_both f (acc ++ [c]) a.parent (known_snoc hk hc' ha) ?_ (by simp only [List.length_append, List.length_cons, List.length_nil]; omega)
        intro x hx
        rcases List.mem_append.1 hx with h1 | h1
        · obtain ⟨b, h2, h3⟩ := hl x h1
          refine ⟨b, h2, ?_⟩
          rcases h3 with h3 | h3
          · exact .inl (List.mem_append_left _ h3)
          · exact .inl (h3 ▸ List.mem_append_right _ (by simp))
        · simp only [List.mem_singleton] at h1
          subst h1
          exact ⟨a, ha, .inr rfl⟩
/-- The last account on the way leads to where the way stops. -/
theorem upP_last {l : List XAccount} : ∀ (f : Nat) (acc : List Int) (c : Int), (∀ x, acc.getLast? = some x → ∃ a, findA l x = some a ∧ a.parent = c) →
    ∀ x, (upP l f acc c).1.getLast? = some x → ∃ a, findA l x = some a ∧ a.parent = (upP l f acc c).2
  | 0, acc, c, h => h
  | f + 1, acc, c, h => by
    unfold upP
    cases ha : findA l c with
    | none => exact h
    | some a =>
      simp only
      by_cases hc : acc.contains c = true
      · rw [if_pos hc]; exact h
      · rw [if_neg hc]
        refine upP_last f (acc ++ [c]) a.parent ?_
        intro x hx
        rw [List.getLast?_append] at hx
        simp only [List.getLast?_singleton, Option.some_or, Option.some.injEq] at hx
        subst hx
        exact ⟨a, ha, rfl⟩
theorem upP_pos {l : List XAccount} : ∀ (f : Nat) (acc : List Int) (c : Int), acc.length ≤ (upP l f acc c).1.length
  | 0, acc, c => Nat.le_refl _
  | f + 1, acc, c => by
    unfold upP
    cases ha : findA l c with
    | none => exact Nat.le_refl _
    | some a =>
      simp only
      by_cases hc : acc.contains c = true
      · rw [if_pos hc]; exact Nat.le_refl _
      · rw [if_neg hc]
        have := upP_pos (l := l) f (acc ++ [c]) a.parent
        simp only [List.length_append, List.length_cons, List.length_nil] at this
        omega
/-- The way stops where it does not find on: the code is no account, or it is on the way. -/
theorem upP_stop {l : List XAccount} : ∀ (f : Nat) (acc : List Int) (c : Int), known l acc → acc.length + f = l.length + 1 → ∀ a, findA l (upP l f acc c).2 = some a → (upP l f acc c).2 ∈ (upP l f acc c).1
  | 0, acc, c, hk, hf => by have := known_le hk; omega
  | f + 1, acc, c, hk, hf => by
    unfold upP
    cases ha : findA l c with
    | none => simp only; intro a h; rw [ha] at h; cases h
    | some a =>
      simp only
      by_cases hc : acc.contains c = true
      · rw [if_pos hc]; intro _ _; simpa using hc
      · rw [if_neg hc]
        have hc' : acc.contains c = false := by simpa using hc
        exact upP_stop f (acc ++ [c]) a.parent (known_snoc hk hc' ha) (by simp only [List.length_append, List.length_cons, List.length_nil]; omega)
/-- The fields of an account; its parent, if any, is another account of its kind. -/
def fieldB (g : Bool) (a : XAccount) : Bool := decide (1 ≤ a.code ∧ a.code ≤ 99999 ∧ 1 ≤ a.kind ∧ a.kind ≤ 5) && (if g then decide (1 ≤ a.basis ∧ a.basis ≤ 3) else a.basis == 0)
def parB (l : List XAccount) (a : XAccount) : Bool := match findA l a.parent with
  | none => false
  | some p => !(p.code == a.code) && p.kind == a.kind
def properP (l : List XAccount) (g : Bool) (a : XAccount) : Bool := fieldB g a && (a.parent == 0 || (parB l a && (upP l (l.length + 1) [] a.code).2 == 0))
def properR (l : List XAccount) (g : Bool) (a : XAccount) : Bool := fieldB g a && (a.parent == 0 || parB l a)
def rowP (l : List XAccount) (g : Bool) (i : Nat) : Bool := match l[i]? with
  | none => false
  | some a => !(decide (0 < i) && decide ((l.getD (i - 1) {}).code ≥ a.code)) && properP l g a
def rowR (l : List XAccount) (g : Bool) (i : Nat) : Bool := match l[i]? with
  | none => false
  | some a => properR l g a && !(decide (0 < i) && decide (a.code ≤ (l.getD (i - 1) {}).code)) && decide ((upR l (l.length + 1) [] a.code).length ≤ l.length)
def chartB (l : List XAccount) (g : Bool) : Bool := (List.range l.length).all (rowP l g) && decide (l.length ≤ 200)
def chartR (l : List XAccount) (g : Bool) : Bool := decide (l.length ≤ 200) && (List.range l.length).all (rowR l g)
theorem up_zero {l : List XAccount} (hc : ∀ a ∈ l, 1 ≤ a.code) (hp : ∀ a ∈ l, a.parent = 0 ∨ parB l a = true) {a : XAccount} (ha : a ∈ l) :
    (upP l (l.length + 1) [] a.code).2 = 0 ↔ (upR l (l.length + 1) [] a.code).length ≤ l.length := by
  rw [← up_both (l.length + 1) [] a.code (known_nil l) (fun x hx => by cases hx) (by simp)]
  have hlast := upP_last (l := l) (l.length + 1) [] a.code (fun x hx => by cases hx)
  obtain ⟨a0, ha0⟩ := Option.isSome_iff_exists.1 (findA_of_mem ha)
  have hlen : 1 ≤ (upP l (l.length + 1) [] a.code).1.length := by
    unfold upP
    rw [ha0]
    have := upP_pos (l := l) l.length ([] ++ [a.code]) a0.parent
    simpa using this
  generalize upP l (l.length + 1) [] a.code = P at *
  obtain ⟨p, e⟩ := P
  simp only at *
  have hne : p ≠ [] := by rintro rfl; simp at hlen
  obtain ⟨b, hb, hbe⟩ := hlast _ (List.getLast?_eq_some_getLast hne)
  constructor
  · rintro rfl
    cases h : findA l 0 with
    | none => rfl
    | some z =>
      obtain ⟨m, hz⟩ := findA_mem h
      have := hc z m
      omega
  · intro h
    rcases hp b (findA_mem hb).1 with h0 | h0
    · rw [← hbe]; exact h0
    · unfold parB at h0
      rw [hbe, h] at h0
      cases h0
theorem chart_both (l : List XAccount) (g : Bool) : chartB l g = chartR l g := by
  unfold chartB chartR
  rw [Bool.and_comm]
  congr 1
  have field : ∀ a, fieldB g a = true → 1 ≤ a.code := by
    intro a h
    unfold fieldB at h
    simp only [Bool.and_eq_true, decide_eq_true_eq] at h
    exact h.1.1
  rw [Bool.eq_iff_iff, List.all_eq_true, List.all_eq_true]
  constructor
  · intro h
    have h' : ∀ i (hi : i < l.length), (!(decide (0 < i) && decide ((l.getD (i - 1) {}).code ≥ l[i].code))) = true ∧ properP l g l[i] = true := by
      intro i hi
      have := h i (List.mem_range.2 hi)
      unfold rowP at this
      rw [List.getElem?_eq_getElem hi] at this
      simp only [Bool.and_eq_true] at this
      exact this
    have hf : ∀ a ∈ l, fieldB g a = true ∧ (a.parent = 0 ∨ parB l a = true ∧ (upP l (l.length + 1) [] a.code).2 = 0) := by
      intro a ha
      obtain ⟨i, hi, rfl⟩ := List.getElem_of_mem ha
      have := (h' i hi).2
      unfold properP at this
      simpa using this
    have hc : ∀ a ∈ l, 1 ≤ a.code := fun a ha => field a (hf a ha).1
    have hp : ∀ a ∈ l, a.parent = 0 ∨ parB l a = true := fun a ha => (hf a ha).2.imp id (·.1)
    intro i hi
    have hi' := List.mem_range.1 hi
    have hm : l[i] ∈ l := List.getElem_mem hi'
    unfold rowR
    rw [List.getElem?_eq_getElem hi']
    simp only [Bool.and_eq_true, decide_eq_true_eq]
    refine ⟨⟨?_, (h' i hi').1⟩, ?_⟩
    · unfold properR
      rw [(hf _ hm).1, Bool.true_and]
      simpa using hp _ hm
    · rw [← up_zero hc hp hm]
      rcases (hf _ hm).2 with h0 | h0
      · have hrise : ∀ (j : Nat) (i : Nat) (hi : i < l.length) (hj : j < i), (l[j]'(by omega)).code < l[i].code := by
          intro j i
          induction i with
          | zero => intro _ hj; omega
          | succ i ih =>
            intro hi hj
            have h1 := (h' (i + 1) hi).1
            simp only [Nat.add_sub_cancel, Nat.zero_lt_succ, decide_true, Bool.true_and, Bool.not_eq_true', decide_eq_false_iff_not] at h1
            rw [List.getD_eq_getElem?_getD, List.getElem?_eq_getElem (by omega), Option.getD_some] at h1
            rcases Nat.lt_or_ge j i with h2 | h2
            · have := ih (by omega) h2
              omega
            · have : j = i := by omega
              subst this
              omega
        have ha0 : findA l l[i].code = some l[i] := findA_some hi' rfl (fun j hj e => by have := hrise j i hi' hj; omega)
        have h00 : findA l 0 = none := findA_none (fun j hj e => by have := hc _ (List.getElem_mem hj); omega)
        unfold upP
        rw [ha0]
        simp only [List.contains_nil, Bool.false_eq_true, if_false]
        rw [h0]
        obtain ⟨m, hm2⟩ : ∃ m, l.length = m + 1 := ⟨l.length - 1, by omega⟩
        rw [hm2]
        unfold upP
        rw [h00]
      · exact h0.2
  · intro h
    have h' : ∀ i (hi : i < l.length), (properR l g l[i] = true ∧ (!(decide (0 < i) && decide (l[i].code ≤ (l.getD (i - 1) {}).code))) = true) ∧ (upR l (l.length + 1) [] l[i].code).length ≤ l.length := by
      intro i hi
      have := h i (List.mem_range.2 hi)
      unfold rowR at this
      rw [List.getElem?_eq_getElem hi] at this
      simp only [Bool.and_eq_true, decide_eq_true_eq] at this
      exact this
    have hf : ∀ a ∈ l, fieldB g a = true ∧ (a.parent = 0 ∨ parB l a = true) := by
      intro a ha
      obtain ⟨i, hi, rfl⟩ := List.getElem_of_mem ha
      have := (h' i hi).1.1
      unfold properR at this
      simpa using this
    have hc : ∀ a ∈ l, 1 ≤ a.code := fun a ha => field a (hf a ha).1
    have hp : ∀ a ∈ l, a.parent = 0 ∨ parB l a = true := fun a ha => (hf a ha).2
    intro i hi
    have hi' := List.mem_range.1 hi
    have hm : l[i] ∈ l := List.getElem_mem hi'
    unfold rowP
    rw [List.getElem?_eq_getElem hi']
    simp only [Bool.and_eq_true]
    refine ⟨(h' i hi').1.2, ?_⟩
    unfold properP
    rw [(hf _ hm).1, Bool.true_and, (up_zero hc hp hm).2 (h' i hi').2]
    rcases hp _ hm with h0 | h0
    · simp [h0]
    · simp [h0]
end Go.Proofs.Ytnigokmjehemaaa
