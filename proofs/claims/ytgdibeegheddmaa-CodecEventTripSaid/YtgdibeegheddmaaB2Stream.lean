/- A stream in memory: what a step of it may turn. -/
import Derived.Test.YtgdibeegheddmaaB1Int
namespace Go.Proofs.Ytgdibeegheddmaa
open Go Go.RowKit

/-- A stream in block g: its bytes, whether it reads, whether it is bad. -/
def SS (w : World) (g : Nat) (v : Value) (L : List UInt8) (rd bad : Bool) : Prop :=
  w.heap[g]? = some (.cells #[v, .bool rd, .bool bad] 81 (0, 0)) ∧ Bytes w v L
/-- Other blocks than the stream's own. -/
def Oth (w : World) (g : Nat) (v : Value) (k : Nat) : Prop := k < w.heap.size ∧ k ≠ g ∧ v.ownBlock ≠ some k
structure Step (g : Nat) (w : World) (v : Value) (w' : World) (v' : Value) : Prop where
  fr : Fr (Oth w g v) w w'
  own : ∀ k, v'.ownBlock = some k → v.ownBlock = some k ∨ w.heap.size ≤ k
def intBd (n : Int) : Prop := -9223372036854775808 ≤ n ∧ n ≤ 9223372036854775807

theorem blk_cell {w : World} {g : Nat} {t : TypeId} {cs : Array Value} (h : w.heap[g]? = some (.cells cs t (0, 0))) (i : Nat) : w.cell? ⟨g, i, none⟩ = cs[i]? := cell_of_row w g i cs t (0, 0) h
theorem blk_frozen {w : World} {g : Nat} {t : TypeId} {cs : Array Value} (h : w.heap[g]? = some (.cells cs t (0, 0))) (i : Nat) : w.frozen? ⟨g, i, none⟩ = false := by
  simp [World.frozen?, h]
theorem blk_lt {w : World} {g : Nat} {o : Obj} (h : w.heap[g]? = some o) : g < w.heap.size := by
  rcases Nat.lt_or_ge g w.heap.size with hlt | hge
  · exact hlt
  · rw [Array.getElem?_eq_none hge] at h; cases h
theorem own_ne {w : World} {g : Nat} {t : TypeId} {cs : Array Value} {fr : Nat × Nat} {base : Nat} {e : TypeId} {size n : Nat} {v : Value} {xs : List Value} (h : w.ownsRow base e size v n xs) (hg : w.heap[g]? = some (.cells cs t fr)) (hne : e ≠ t) : v.ownBlock ≠ some g := by
  rcases h.2 with ⟨rfl, _⟩ | ⟨g', cap, cur, rfl, _, hh, _⟩
  · simp [Value.ownBlock]
  · intro he
    have : g' = g := by simpa [Value.ownBlock] using he
    subst this
    rw [hh] at hg
    injection hg with hg
    injection hg with _ ht
    exact hne ht
theorem SS.ne {w : World} {g : Nat} {v : Value} {L : List UInt8} {rd bad : Bool} (h : SS w g v L rd bad) : v.ownBlock ≠ some g := own_ne h.2 h.1 (by decide)

theorem Step.oth {g : Nat} {w w' : World} {v v' : Value} (h : Step g w v w' v') {k : Nat} (hk : Oth w g v k) : Oth w' g v' k :=
  ⟨Nat.lt_of_lt_of_le hk.1 h.fr.size, hk.2.1, fun e => by
    rcases h.own k e with h1 | h1
    · exact hk.2.2 h1
    · have := hk.1; omega⟩
theorem Step.trans {g : Nat} {a b c : World} {va vb vc : Value} (h : Step g a va b vb) (k : Step g b vb c vc) : Step g a va c vc :=
  ⟨h.fr.trans (k.fr.mono fun _ hk => h.oth hk), fun i hi => by
    rcases k.own i hi with h1 | h1
    · exact h.own i h1
    · exact .inr (Nat.le_trans h.fr.size h1)⟩
theorem Step.refl (g : Nat) (w : World) (v : Value) : Step g w v w v := ⟨Fr.refl _ _, fun _ h => .inl h⟩

theorem Bytes.shape {w : World} {v : Value} {L : List UInt8} (h : Bytes w v L) : ∃ A n c, v = .slice A n c := by
  obtain ⟨A, c, rfl, _⟩ := h.form
  exact ⟨A, _, c, rfl⟩
/-- A store into a block of another kind. -/
theorem Bytes.set81 {w : World} {v : Value} {L : List UInt8} (h : Bytes w v L) {g : Nat} {t : TypeId} {cs : Array Value} {fr : Nat × Nat} (hg : w.heap[g]? = some (.cells cs t fr)) (ht : 5 ≠ t) (i : Nat) (u : Value) : Bytes (w.setCell ⟨g, i, none⟩ u) v L := by
  have hne := own_ne h hg ht
  refine h.fr (Q := fun k => k ≠ g) (Fr.setCell (Fr.refl _ _) (fun h => h rfl) u) fun k hk e => hne (by rw [hk, e])

theorem flat_take_le {α : Type} (f : α → List UInt8) (l : List α) (k : Nat) : ((l.take k).flatMap f).length ≤ (l.flatMap f).length := by
  conv => rhs; rw [← List.take_append_drop k l, List.flatMap_append, List.length_append]
  omega

theorem Fr.ofDrew {Q : Nat → Prop} {w w' : World} (h : Fr Q w.drew w') : Fr Q w w' := ⟨h.os, h.tape, h.output, h.size, h.block⟩

end Go.Proofs.Ytgdibeegheddmaa
