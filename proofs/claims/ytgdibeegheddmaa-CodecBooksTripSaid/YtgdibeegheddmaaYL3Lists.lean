/- Reading lists: what is read after k elements; the row that grows. -/
import Derived.Test.YtgdibeegheddmaaYL2TextFlag
namespace Go.Proofs.Ytgdibeegheddmaa
open Go Go.RowKit
set_option linter.unusedVariables false
set_option linter.unusedSimpArgs false
theorem decN_succ {α : Type} (d : List UInt8 → Option (α × List UInt8)) : ∀ (k : Nat) (l : List UInt8), decN d (k + 1) l = (decN d k l).bind fun p => (d p.2).map fun q => (p.1 ++ [q.1], q.2)
  | 0, l => by
    show ((d l).bind fun p => (some ([], p.2)).map fun q => (p.1 :: q.1, q.2)) = (some (([] : List α), l)).bind fun p => (d p.2).map fun q => (p.1 ++ [q.1], q.2)
    simp
    cases d l <;> rfl
  | k + 1, l => by
    show ((d l).bind fun p => (decN d (k + 1) p.2).map fun q => (p.1 :: q.1, q.2)) = (((d l).bind fun p => (decN d k p.2).map fun q => (p.1 :: q.1, q.2)).bind fun p => (d p.2).map fun q => (p.1 ++ [q.1], q.2))
    cases h : d l with
    | none => rfl
    | some p =>
      simp only [Option.bind_some]
      rw [decN_succ d k p.2]
      cases decN d k p.2 with
      | none => rfl
      | some q =>
        simp only [Option.bind_some, Option.map_some]
        cases d q.2 <;> rfl
/-- What is known after k elements. -/
def LP {α : Type} (c : Cod α) (st : Option (List UInt8)) (n : Int) (k : Nat) (oi : Option (List UInt8)) (xs : List α) : Prop :=
  (oi = none ∧ (cList c).st st = none ∧ (∀ ys, (cList c).vl st ys) ∧ xs = [] ∧ k = 0) ∨
  (∃ l, cInt.st st = some l ∧ cInt.vl st n ∧ 0 ≤ n ∧ (k : Int) ≤ n ∧ xs.length = k ∧ (∀ p, decN c.dec k l = some p → p.1 = xs) ∧ oi = (decN c.dec k l).map (·.2) ∧ l.length ≤ 100000000 ∧ k ≤ l.length + 1 ∧ (k = 0 → oi = some l))
theorem list_dead {α : Type} {c : Cod α} {st : Option (List UInt8)} (h : cInt.st st = none) : (cList c).st st = none ∧ ∀ ys, (cList c).vl st ys := by
  have e : st.bind (cList c).dec = none := by
    cases st with
    | none => rfl
    | some b =>
      have h' : Option.map (·.2) (decInt b) = none := h
      rw [Option.map_eq_none_iff] at h'
      show decL c.dec b = none
      simp [decL, h']
  exact ⟨by simp [Cod.st, e], fun s p hp => by rw [e] at hp; cases hp⟩
theorem list_eq {α : Type} {c : Cod α} {st : Option (List UInt8)} {l : List UInt8} {n : Int} (h : cInt.st st = some l) (hv : cInt.vl st n) : st.bind (cList c).dec = if n < 0 then none else decN c.dec n.toNat l := by
  cases st with
  | none => cases h
  | some b =>
    have h' : Option.map (·.2) (decInt b) = some l := h
    rw [Option.map_eq_some_iff] at h'
    obtain ⟨p, hp, rfl⟩ := h'
    have hn : p.1 = n := hv p hp
    subst hn
    show decL c.dec b = _
    simp [decL, hp]
theorem LP.dead {α : Type} {c : Cod α} {st : Option (List UInt8)} {n : Int} (h : cInt.st st = none) : LP c st n 0 none [] :=
  .inl ⟨rfl, (list_dead h).1, (list_dead h).2, rfl, rfl⟩
theorem LP.neg {α : Type} {c : Cod α} {st : Option (List UInt8)} {n : Int} {l : List UInt8} (h : cInt.st st = some l) (hv : cInt.vl st n) (hn : n < 0) : LP c st n 0 none [] := by
  have e := list_eq (c := c) h hv
  rw [if_pos hn] at e
  exact .inl ⟨rfl, by simp [Cod.st, e], (fun s p hp => by rw [e] at hp; cases hp), rfl, rfl⟩
theorem LP.start {α : Type} {c : Cod α} {st : Option (List UInt8)} {n : Int} {l : List UInt8} (h : cInt.st st = some l) (hv : cInt.vl st n) (hn : 0 ≤ n) (hl : l.length ≤ 100000000) : LP c st n 0 (some l) [] :=
  .inr ⟨l, h, hv, hn, by omega, rfl, fun p hp => by cases hp; rfl, rfl, hl, by omega, fun _ => rfl⟩
theorem decN_none {α : Type} {d : List UInt8 → Option (α × List UInt8)} {l : List UInt8} {k : Nat} (h : decN d k l = none) : ∀ j, decN d (k + j) l = none
  | 0 => h
  | j + 1 => by rw [← Nat.add_assoc, decN_succ, decN_none h j]; rfl
theorem LP.out {α : Type} {c : Cod α} {st : Option (List UInt8)} {n : Int} {k : Nat} {oi : Option (List UInt8)} {xs : List α} (h : LP c st n k oi xs) (he : oi = none ∨ n ≤ (k : Int)) : (cList c).st st = oi ∧ (cList c).vl st xs := by
  rcases h with ⟨rfl, h1, h2, _⟩ | ⟨l, h1, h2, h3, h4, h5, h6, h7, _⟩
  · exact ⟨h1, h2 _⟩
  · have e := list_eq (c := c) h1 h2
    rw [if_neg (by omega)] at e
    rcases he with he | he
    · rw [he] at h7
      have hnone : decN c.dec k l = none := by
        cases hd : decN c.dec k l with
        | none => rfl
        | some p => rw [hd] at h7; cases h7
      have := decN_none hnone (n.toNat - k)
      rw [show k + (n.toNat - k) = n.toNat from by omega] at this
      rw [this] at e
      exact ⟨by simp [Cod.st, e, he], fun p hp => by rw [e] at hp; cases hp⟩
    · have : n.toNat = k := by omega
      rw [this] at e
      refine ⟨by simp [Cod.st, e, h7], fun p hp => ?_⟩
      rw [e] at hp
      exact h6 p hp
theorem LP.step {α : Type} {c : Cod α} {st : Option (List UInt8)} {n : Int} {k : Nat} {r : List UInt8} {xs : List α} {x : α} (h : LP c st n k (some r) xs) (hk : (k : Int) < n) (hpos : ∀ y, 1 ≤ (c.enc y).length) (hx : c.vl (some r) x) : LP c st n (k + 1) (c.st (some r)) (xs ++ [x]) := by
  rcases h with ⟨h, _⟩ | ⟨l, h1, h2, h3, h4, h5, h6, h7, h8, h9, h10⟩
  · cases h
  · cases hd : decN c.dec k l with
    | none => rw [hd] at h7; cases h7
    | some p =>
      rw [hd] at h7
      injection h7 with h7
      have h7 : r = p.2 := h7
      have hp : p.1 = xs := h6 p hd
      have e := decN_succ c.dec k l
      rw [hd] at e
      simp only [Option.bind_some] at e
      rw [← h7] at e
      have hkl : k ≤ l.length := by
        obtain ⟨hb, hbl, _⟩ := decN_bwd c k l p.1 p.2 hd
        have h11 := flat_le c.enc hpos p.1
        have h12 := congrArg List.length hb
        rw [List.length_append] at h12
        omega
      refine .inr ⟨l, h1, h2, h3, by omega, by simp [h5], fun q hq => ?_, ?_, h8, by omega, fun h => by omega⟩
      · rw [e, Option.map_eq_some_iff] at hq
        obtain ⟨s, hs, rfl⟩ := hq
        have := hx s hs
        simp [hp, this]
      · rw [e]
        show Option.map (·.2) (c.dec r) = _
        cases c.dec r <;> rfl
theorem LP.len {α : Type} {c : Cod α} {st : Option (List UInt8)} {n : Int} {k : Nat} {oi : Option (List UInt8)} {xs : List α} (h : LP c st n k oi xs) : xs.length = k ∧ k ≤ 100000001 := by
  rcases h with ⟨_, _, _, rfl, rfl⟩ | ⟨l, _, _, _, _, h5, _, _, h8, h9, _⟩
  · exact ⟨rfl, by omega⟩
  · exact ⟨h5, by omega⟩
theorem LP.le {α : Type} {c : Cod α} {st : Option (List UInt8)} {n : Int} {k : Nat} {oi : Option (List UInt8)} {xs : List α} (h : LP c st n k oi xs) (ho : oi ≠ none) : (k : Int) ≤ n := by
  rcases h with ⟨rfl, _⟩ | ⟨l, _, _, _, h4, _⟩
  · exact absurd rfl ho
  · exact h4

theorem flat_get {size : Nat} : ∀ (ess : List (List Value)) (i j : Nat) (es : List Value), (∀ e ∈ ess, e.length = size) → ess[i]? = some es → j < size → ess.flatten[i * size + j]? = es[j]?
  | [], i, j, es, _, h, _ => by simp at h
  | e :: ess, 0, j, es, hl, h, hj => by
    simp at h
    subst h
    have := hl e List.mem_cons_self
    simp only [List.flatten_cons, Nat.zero_mul, Nat.zero_add]
    rw [List.getElem?_append_left (by omega)]
  | e :: ess, i + 1, j, es, hl, h, hj => by
    have h1 := hl e List.mem_cons_self
    simp only [List.flatten_cons]
    rw [List.getElem?_append_right (by rw [h1, Nat.succ_mul]; omega)]
    have e2 : (i + 1) * size + j - e.length = i * size + j := by rw [h1, Nat.succ_mul]; omega
    rw [e2]
    exact flat_get ess i j es (fun x hx => hl x (List.mem_cons_of_mem _ hx)) (by simpa using h) hj
theorem flat_size {size : Nat} : ∀ (ess : List (List Value)), (∀ e ∈ ess, e.length = size) → ess.flatten.length = ess.length * size
  | [], _ => by simp
  | e :: ess, hl => by
    have h1 := hl e List.mem_cons_self
    have h2 := flat_size ess (fun x hx => hl x (List.mem_cons_of_mem _ hx))
    simp only [List.flatten_cons, List.length_append, List.length_cons, h1, h2, Nat.succ_mul]
    omega
/-- The blocks in which what the elements lead to may lie. -/
def Qe (w0 wr : World) (v : Value) (k : Nat) : Prop := w0.heap.size ≤ k ∧ k < wr.heap.size ∧ v.ownBlock ≠ some k
/-- The row that is being read: v owns it. -/
structure LInv {α : Type} (El : World → (Nat → Prop) → List Value → α → Prop) (size : Nat) (E : TypeId) (w0 wr : World) (v : Value) (xs : List α) (ess : List (List Value)) : Prop where
  own : wr.ownsRow w0.heap.size E size v xs.length ess.flatten
  len : ess.length = xs.length
  sizes : ∀ e ∈ ess, e.length = size
  each : ∀ (i : Nat) (x : α) (es : List Value), xs[i]? = some x → ess[i]? = some es → El wr (Qe w0 wr v) es x
section
variable {α : Type} {El : World → (Nat → Prop) → List Value → α → Prop} {size : Nat} {E : TypeId} {w0 wr w2 : World} {v v' : Value} {xs : List α} {ess : List (List Value)}
theorem LInv.nil (w0 wr : World) : LInv El size E w0 wr (.slice none 0 0) ([] : List α) [] := ⟨World.ownsRow_nil _ _ _ _, rfl, (fun e h => by cases h), (fun i x es h => by simp at h)⟩
theorem LInv.keep (h : LInv El size E w0 wr v xs ess) (hf : Fr (fun k => w0.heap.size ≤ k ∧ k < wr.heap.size) wr w2)
    (hE : ∀ {Q : Nat → Prop} {a b : World} {es : List Value} {x : α}, El a Q es x → Fr Q a b → El b Q es x) (hM : ∀ {Q Q' : Nat → Prop} {a : World} {es : List Value} {x : α}, El a Q es x → (∀ k, Q k → Q' k) → El a Q' es x) : LInv El size E w0 w2 v xs ess := by
  refine ⟨?_, h.len, h.sizes, fun i x es hx he => hM (hE (h.each i x es hx he) (hf.mono (fun k hk => ⟨hk.1, hk.2.1⟩))) (fun k hk => ⟨hk.1, Nat.lt_of_lt_of_le hk.2.1 hf.size, hk.2.2⟩)⟩
  refine ⟨h.own.1, ?_⟩
  rcases h.own.2 with hn | ⟨g, cap, cur, rfl, hb, hg, rest⟩
  · exact .inl hn
  · have hl : g < wr.heap.size := by
      rcases Nat.lt_or_ge g wr.heap.size with h | h
      · exact h
      · rw [Array.getElem?_eq_none h] at hg; cases hg
    exact .inr ⟨g, cap, cur, rfl, hb, (hf.block g ⟨hb, hl⟩).trans hg, rest⟩
/-- One element more. -/
theorem LInv.app (h : LInv El size E w0 wr v xs ess) {es : List Value} {x : α} (hown : w2.ownsRow w0.heap.size E size v' (xs.length + 1) (ess.flatten ++ es)) (hes : es.length = size) (hg : wr.grownBy w2 v.ownBlock) (hat : v'.ownBlock = v.ownBlock ∨ v'.ownBlock = some wr.heap.size)
    (hx : El wr (Qe w0 wr v) es x)
    (hE : ∀ {Q : Nat → Prop} {a b : World} {es : List Value} {x : α}, El a Q es x → Fr Q a b → El b Q es x) (hM : ∀ {Q Q' : Nat → Prop} {a : World} {es : List Value} {x : α}, El a Q es x → (∀ k, Q k → Q' k) → El a Q' es x) : LInv El size E w0 w2 v' (xs ++ [x]) (ess ++ [es]) := by
  have hfr : Fr (Qe w0 wr v) wr w2 := ⟨hg.os, hg.tape, hg.output, hg.size, fun k hk => hg.block k hk.2.1 (fun e => hk.2.2 e.symm)⟩
  have hq : ∀ k, Qe w0 wr v k → Qe w0 w2 v' k := fun k hk => ⟨hk.1, Nat.lt_of_lt_of_le hk.2.1 hg.size, fun e => by
    rcases hat with h | h
    · exact hk.2.2 (h ▸ e)
    · rw [h] at e; injection e with e; have := hk.2.1; omega⟩
  refine ⟨by simpa using hown, by simp [h.len], fun e he => ?_, fun i y f hy hf => ?_⟩
  · rcases List.mem_append.1 he with he | he
    · exact h.sizes e he
    · rw [List.mem_singleton.1 he]; exact hes
  · by_cases hi : i < xs.length
    · rw [List.getElem?_append_left hi] at hy
      rw [List.getElem?_append_left (by rw [h.len]; exact hi)] at hf
      exact hM (hE (h.each i y f hy hf) hfr) hq
    · have hie : i - xs.length = 0 := by
        have := (List.getElem?_eq_some_iff.1 hy).1
        simp at this; omega
      rw [List.getElem?_append_right (by omega), hie] at hy
      rw [List.getElem?_append_right (by rw [h.len]; omega), h.len, hie] at hf
      simp at hy hf
      subst hy hf
      exact hM (hE hx hfr) hq
theorem LInv.out (h : LInv El size E w0 wr v xs ess) (hM : ∀ {Q Q' : Nat → Prop} {a : World} {es : List Value} {x : α}, El a Q es x → (∀ k, Q k → Q' k) → El a Q' es x) : ListC El size wr (Nw w0 wr) [v] xs := by
  rcases h.own.2 with ⟨rfl, h0⟩ | ⟨g, cap, cur, rfl, hb, hg, h1, h2, h3, h4⟩
  · have : xs = [] := List.eq_nil_of_length_eq_zero h0
    subst this
    exact ⟨none, 0, rfl, by simp, by simp [maxLen], fun h => absurd h (by simp)⟩
  · have hl : g < wr.heap.size := by
      rcases Nat.lt_or_ge g wr.heap.size with h | h
      · exact h
      · rw [Array.getElem?_eq_none h] at hg; cases hg
    refine ⟨some ⟨g, 0, none⟩, cap, rfl, h1, h2, fun hn => ⟨g, 0, rfl, ⟨hb, hl⟩, fun i x hx => ?_⟩⟩
    have hil : i < ess.length := by rw [h.len]; exact (List.getElem?_eq_some_iff.1 hx).1
    have hess : ess[i]? = some ess[i] := List.getElem?_eq_getElem hil
    refine ⟨ess[i], hM (h.each i x _ hx hess) (fun k hk => ⟨hk.1, hk.2.1⟩), ⟨hb, hl⟩, fun j u hu => ?_⟩
    have hj : j < size := by rw [← h.sizes _ (List.getElem_mem hil)]; exact (List.getElem?_eq_some_iff.1 hu).1
    have hf := flat_get ess i j ess[i] h.sizes hess hj
    have hc := h.own.cells (g := g) rfl (i * size + j) u (hf.trans hu)
    rw [Addr.add_lit] at hc ⊢
    rw [Nat.zero_add] at hc ⊢
    exact ⟨hc, blk_frozen hg _⟩
end
end Go.Proofs.Ytgdibeegheddmaa
