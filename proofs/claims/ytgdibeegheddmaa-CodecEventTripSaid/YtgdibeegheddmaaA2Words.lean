/- Words on memory: a frame over a set of blocks, slices that are read, bytes that are owned; no program in sight. -/
import Derived.WalkKit
import Derived.Laws.OwnMore
import Derived.Deep.AppendLies
import Derived.Deep.Draws
import Derived.Maps.AppendAt
import Derived.Test.YtgdibeegheddmaaA1Plain
namespace Go.Proofs.Ytgdibeegheddmaa
open Go Go.RowKit

/-- The blocks of which Q holds are as they were; the streams too; no block has gone. -/
structure Fr (Q : Nat → Prop) (w w' : World) : Prop where
  os : w'.os = w.os
  tape : w'.tape = w.tape
  output : w'.output = w.output
  size : w.heap.size ≤ w'.heap.size
  block : ∀ k, Q k → w'.heap[k]? = w.heap[k]?

section
variable {Q Q' : Nat → Prop} {w w' a b c : World}
theorem Fr.refl (Q : Nat → Prop) (w : World) : Fr Q w w := ⟨rfl, rfl, rfl, Nat.le_refl _, fun _ _ => rfl⟩
theorem Fr.trans (h : Fr Q a b) (k : Fr Q b c) : Fr Q a c :=
  ⟨k.os.trans h.os, k.tape.trans h.tape, k.output.trans h.output, Nat.le_trans h.size k.size, fun i hi => (k.block i hi).trans (h.block i hi)⟩
theorem Fr.mono (h : Fr Q w w') (hq : ∀ k, Q' k → Q k) : Fr Q' w w' := ⟨h.os, h.tape, h.output, h.size, fun k hk => h.block k (hq k hk)⟩
theorem Fr.drew (h : Fr Q a w) : Fr Q a w.drew := ⟨h.os, h.tape, h.output, h.size, h.block⟩
theorem Fr.drewN (h : Fr Q a w) (n : Nat) : Fr Q a (w.drewN n) := ⟨h.os, h.tape, h.output, h.size, h.block⟩
theorem Fr.alloc (h : Fr Q a w) (hq : ∀ k, Q k → k < a.heap.size) (o : Obj) : Fr Q a (w.alloc o) :=
  ⟨h.os, h.tape, h.output, Nat.le_trans h.size (by simp), fun k hk => (Below.heap_alloc w o k (Nat.lt_of_lt_of_le (hq k hk) h.size)).trans (h.block k hk)⟩
theorem Fr.setCell (h : Fr Q a w) {p : Addr} (hp : ¬ Q p.block) (u : Value) : Fr Q a (w.setCell p u) :=
  ⟨h.os, h.tape, h.output, by simpa [World.setCell] using h.size, fun k hk => (Below.heap_setCell w p u k (by rintro rfl; exact hp hk)).trans (h.block k hk)⟩
theorem Fr.grown {row : Option Nat} (h : Fr Q a w) (hg : w.grownBy w' row) (hq : ∀ k, Q k → k < a.heap.size) (hr : ∀ k, row = some k → ¬ Q k) : Fr Q a w' :=
  ⟨hg.os.trans h.os, hg.tape.trans h.tape, hg.output.trans h.output, Nat.le_trans h.size hg.size,
   fun k hk => (hg.block k (Nat.lt_of_lt_of_le (hq k hk) h.size) (fun e => hr k e.symm hk)).trans (h.block k hk)⟩
theorem Fr.below {B : Nat} (h : Fr (· < B) w w') : Below B w w' := ⟨h.os, h.tape, h.output, h.size, h.block⟩
theorem Fr.ofBelow {B : Nat} (h : Below B w w') : Fr (· < B) w w' := ⟨h.os, h.tape, h.output, h.size, h.block⟩
theorem Fr.cell (h : Fr Q w w') {p : Addr} (hp : Q p.block) : w'.cell? p = w.cell? p := World.cell?_of_block (w := w) (h.block _ hp)
theorem Fr.frozen (h : Fr Q w w') {p : Addr} (hp : Q p.block) : w'.frozen? p = w.frozen? p := World.frozen?_of_block (w := w) (h.block _ hp)
theorem Fr.cells (h : Fr Q w w') {b : Nat} (hp : Q b) : ∀ o, w'.cell? ⟨b, o, none⟩ = w.cell? ⟨b, o, none⟩ := fun o => h.cell (p := ⟨b, o, none⟩) hp
theorem Fr.frozens (h : Fr Q w w') {b : Nat} (hp : Q b) : ∀ o, w'.frozen? ⟨b, o, none⟩ = w.frozen? ⟨b, o, none⟩ := fun o => h.frozen (p := ⟨b, o, none⟩) hp
end

/-- From address a on lie the cells vs, in a block of which Q holds; they may be written. -/
def At (w : World) (Q : Nat → Prop) (a : Addr) (vs : List Value) : Prop := Q a.block ∧ ∀ j u, vs[j]? = some u → w.cell? (a.add j) = some u ∧ w.frozen? (a.add j) = false
/-- A slice of length n reads as the cells vs. -/
def Rd (w : World) (Q : Nat → Prop) (A : Option Addr) (n size : Nat) (vs : List Value) : Prop :=
  vs.length = n * size ∧ (0 < n → ∃ a, A = some a ∧ At w Q a vs)

theorem own_unfrozen {w : World} {base : Nat} {e : TypeId} {size n : Nat} {v : Value} {xs : List Value} (h : w.ownsRow base e size v n xs) {g : Nat} (hg : v.ownBlock = some g) (j : Nat) : w.frozen? ((⟨g, 0, none⟩ : Addr).add j) = false := by
  rcases h.2 with ⟨rfl, _⟩ | ⟨g', cap, cur, rfl, _, hgg, _⟩
  · simp [Value.ownBlock] at hg
  · simp [Value.ownBlock] at hg
    subst hg
    have hb : ((⟨g', 0, none⟩ : Addr).add j).block = g' := by unfold Addr.add; split <;> rfl
    simp [World.frozen?, hb, hgg]

theorem block_add (a : Addr) (n : Nat) : (a.add n).block = a.block := by unfold Addr.add; split <;> rfl
theorem add_add' (a : Addr) (i j : Nat) : (a.add i).add j = a.add (i + j) := by
  unfold Addr.add
  by_cases hi : i = 0 <;> by_cases hj : j = 0 <;> simp [hi, hj, Nat.add_assoc]

section
variable {Q Q' : Nat → Prop} {w w' : World} {a : Addr} {A : Option Addr} {vs : List Value} {n size : Nat}
theorem At.fr (h : At w Q a vs) (hf : Fr Q w w') : At w' Q a vs := ⟨h.1, fun j u hu => ⟨(hf.cell (by rw [block_add]; exact h.1)).trans (h.2 j u hu).1, (hf.frozen (by rw [block_add]; exact h.1)).trans (h.2 j u hu).2⟩⟩
theorem At.mono (h : At w Q a vs) (hq : ∀ k, Q k → Q' k) : At w Q' a vs := ⟨hq _ h.1, h.2⟩
theorem Rd.fr (h : Rd w Q A n size vs) (hf : Fr Q w w') : Rd w' Q A n size vs := ⟨h.1, fun hn => let ⟨a, e, ha⟩ := h.2 hn; ⟨a, e, ha.fr hf⟩⟩
theorem Rd.mono (h : Rd w Q A n size vs) (hq : ∀ k, Q k → Q' k) : Rd w Q' A n size vs := ⟨h.1, fun hn => let ⟨a, e, ha⟩ := h.2 hn; ⟨a, e, ha.mono hq⟩⟩
theorem Rd.nil (w : World) (Q : Nat → Prop) (size : Nat) : Rd w Q none 0 size [] := ⟨by simp, fun h => absurd h (by omega)⟩
theorem Rd.at_ {k : Nat} (h : Rd w Q A n 1 vs) (hk : k < n) : ∃ a u, A = some a ∧ Q a.block ∧ vs[k]? = some u ∧ w.cell? (a.add k) = some u := by
  obtain ⟨a, e, hq, hc⟩ := h.2 (by omega)
  have hl : k < vs.length := by have := h.1; omega
  exact ⟨a, vs[k], e, hq, List.getElem?_eq_getElem hl, (hc k _ (List.getElem?_eq_getElem hl)).1⟩
theorem At.drop (h : At w Q a vs) (k : Nat) : At w Q (a.add k) (vs.drop k) :=
  ⟨by rw [block_add]; exact h.1, fun j u hu => by rw [add_add']; exact h.2 _ u (by rw [← hu, List.getElem?_drop])⟩
theorem At.take (h : At w Q a vs) (k : Nat) : At w Q a (vs.take k) :=
  ⟨h.1, fun j u hu => h.2 j u (by rw [List.getElem?_take] at hu; split at hu; exact hu; cases hu)⟩
theorem Rd.cut {k cap : Nat} (h : Rd w Q A n size vs) (hk : k ≤ n) (hc : n ≤ cap) :
    Rd w Q (if cap = k then A else A.map (·.add (k * size))) (n - k) size (vs.drop (k * size)) := by
  refine ⟨by rw [List.length_drop, h.1, Nat.sub_mul], fun hn => ?_⟩
  obtain ⟨a, rfl, ha⟩ := h.2 (by omega)
  rw [if_neg (by omega)]
  exact ⟨a.add (k * size), rfl, ha.drop _⟩
theorem Rd.head {k : Nat} (h : Rd w Q A n size vs) (hk : k ≤ n) : Rd w Q A k size (vs.take (k * size)) := by
  refine ⟨by rw [List.length_take, h.1, Nat.min_eq_left (Nat.mul_le_mul_right _ hk)], fun hn => ?_⟩
  obtain ⟨a, rfl, ha⟩ := h.2 (by omega)
  exact ⟨a, rfl, ha.take _⟩
theorem Rd.own {base : Nat} {e : TypeId} {c : Nat} (h : w.ownsRow base e size (.slice A n c) n vs) (hq : ∀ k, Value.ownBlock (.slice A n c) = some k → Q k) : Rd w Q A n size vs := by
  refine ⟨h.1, fun hn => ?_⟩
  obtain ⟨g, cap, hv, _, hlt⟩ := h.form hn
  have hA : A = some ⟨g, 0, none⟩ := by injection hv
  subst hA
  exact ⟨_, rfl, hq g rfl, fun j u hu => ⟨h.cells (g := g) rfl j u hu, own_unfrozen h (g := g) rfl j⟩⟩
end

/-- The slice value v owns a row of the bytes L. -/
def Bytes (w : World) (v : Value) (L : List UInt8) : Prop := w.ownsRow 0 5 1 v L.length (bv L)
theorem Bytes.nil (w : World) : Bytes w (.slice none 0 0) [] := World.ownsRow_nil w 0 5 1
theorem Bytes.form {w : World} {v : Value} {L : List UInt8} (h : Bytes w v L) : ∃ A c, v = .slice A L.length c ∧ L.length ≤ c ∧ c ≤ maxLen := by
  rcases h.2 with ⟨rfl, h0⟩ | ⟨g, cap, cur, rfl, _, _, h1, h2, _⟩
  · exact ⟨none, 0, by rw [h0], by omega, by simp [maxLen]⟩
  · exact ⟨_, _, rfl, h1, h2⟩
theorem Bytes.lt {w : World} {v : Value} {L : List UInt8} (h : Bytes w v L) {k : Nat} (hk : v.ownBlock = some k) : k < w.heap.size := (World.ownsRow.lt h k hk).2
theorem Bytes.fr {Q : Nat → Prop} {w w' : World} {v : Value} {L : List UInt8} (h : Bytes w v L) (hf : Fr Q w w') (hq : ∀ k, v.ownBlock = some k → Q k) : Bytes w' v L := by
  refine ⟨h.1, ?_⟩
  rcases h.2 with hn | ⟨g, cap, cur, rfl, hb, hgg, rest⟩
  · exact .inl hn
  · exact .inr ⟨g, cap, cur, rfl, hb, (hf.block g (hq g rfl)).trans hgg, rest⟩
theorem Bytes.rd {Q : Nat → Prop} {w : World} {A : Option Addr} {n c : Nat} {L : List UInt8} (h : Bytes w (.slice A n c) L) (hq : ∀ k, Value.ownBlock (.slice A n c) = some k → Q k) : n = L.length ∧ Rd w Q A n 1 (bv L) := by
  have hn : n = L.length := by
    rcases h.2 with ⟨h1, h0⟩ | ⟨g, cap, cur, h1, _⟩
    · injection h1 with _ h2 _; omega
    · injection h1 with _ h2 _
  subst hn
  exact ⟨rfl, Rd.own h hq⟩
theorem Bytes.drew {w : World} {v : Value} {L : List UInt8} (h : Bytes w v L) : Bytes w.drew v L := h
end Go.Proofs.Ytgdibeegheddmaa
