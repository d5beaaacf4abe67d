/- Rows of cells that are written as a whole or in the middle: what a known block holds behind it. -/
import Derived.Deep.MidRow
import Derived.Test.YtgdibeegheddmaaB2Stream
namespace Go.Proofs.Ytgdibeegheddmaa
open Go Go.RowKit

def putAt : List Value → Nat → List Value → List Value
  | cs, _, [] => cs
  | cs, o, v :: r => putAt (cs.set o v) (o + 1) r

theorem heap_setCell_same {w : World} {b : Nat} {cs : Array Value} {t : TypeId} {fr : Nat × Nat} (h : w.heap[b]? = some (.cells cs t fr)) (i : Nat) (u : Value) :
    (w.setCell ⟨b, i, none⟩ u).heap[b]? = some (.cells (cs.setIfInBounds i u) t fr) := by
  simp [World.setCell, Array.getElem?_modify, h]
theorem heap_setCells {b : Nat} {t : TypeId} {fr : Nat × Nat} : ∀ (vs : List Value) (o : Nat) (w : World) (cs : List Value), w.heap[b]? = some (.cells cs.toArray t fr) →
    (w.setCells b o vs).heap[b]? = some (.cells (putAt cs o vs).toArray t fr)
  | [], _, _, _, h => h
  | v :: r, o, w, cs, h => by
    have h1 := heap_setCell_same h o v
    rw [show cs.toArray.setIfInBounds o v = (cs.set o v).toArray from by simp] at h1
    exact heap_setCells r (o + 1) _ _ h1
theorem fr_setCells {b : Nat} : ∀ (vs : List Value) (o : Nat) (w : World), Fr (fun k => k ≠ b) w (w.setCells b o vs)
  | [], _, w => Fr.refl _ w
  | v :: r, o, w => (Fr.setCell (p := ⟨b, o, none⟩) (Fr.refl _ w) (fun h => h rfl) v).trans (fr_setCells r (o + 1) _)
theorem heap_setRow {w : World} {g : Nat} {old : Array Value} {t : TypeId} {fr : Nat × Nat} (h : w.heap[g]? = some (.cells old t fr)) (cs : Array Value) : (w.setRow g cs).heap[g]? = some (.cells cs t fr) := by
  simp [World.setRow, Array.getElem?_modify, h]
theorem fr_setRow (w : World) (g : Nat) (cs : Array Value) : Fr (fun k => k ≠ g) w (w.setRow g cs) :=
  ⟨rfl, rfl, rfl, by simp [World.setRow], fun k hk => by
    simp only [World.setRow, Array.getElem?_modify]
    rw [if_neg (fun e => hk e.symm)]⟩
theorem range_of_block {w : World} {b : Nat} {cs : List Value} {t : TypeId} {fr : Nat × Nat} (h : w.heap[b]? = some (.cells cs.toArray t fr)) (o : Nat) (vs : List Value)
    (hv : ∀ j v, vs[j]? = some v → cs[o + j]? = some v) : w.rangeAt b o vs := fun j v hj => by
  simp [World.cell?, h, hv j v hj]
theorem there_of_block {w : World} {b : Nat} {cs : Array Value} {t : TypeId} (h : w.heap[b]? = some (.cells cs t (0, 0))) (o n : Nat) (hn : o + n ≤ cs.size) : w.there b o n := fun j hj => by
  refine ⟨?_, blk_frozen h _⟩
  rw [blk_cell h]
  simp; omega
theorem heap2 (w : World) (o1 o2 : Obj) : ((w.alloc o1).alloc o2).heap[w.heap.size]? = some o1 ∧ ((w.alloc o1).alloc o2).heap[w.heap.size + 1]? = some o2 ∧
    ((w.alloc o1).alloc o2).heap.size = w.heap.size + 2 ∧ Fr (· < w.heap.size) w ((w.alloc o1).alloc o2) := by
  have e1 : (w.alloc o1).heap.size = w.heap.size + 1 := by simp
  refine ⟨?_, ?_, by simp, ?_⟩
  · rw [Below.heap_alloc _ _ _ (by omega)]; exact heap_alloc_new w o1
  · rw [← e1]; exact heap_alloc_new _ o2
  · exact (((Fr.refl _ w).alloc (fun _ h => h) o1).alloc (fun _ h => h) o2)
end Go.Proofs.Ytgdibeegheddmaa
