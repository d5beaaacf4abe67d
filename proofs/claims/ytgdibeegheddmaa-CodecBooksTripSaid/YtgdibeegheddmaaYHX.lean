/- Helpers: three new blocks, what a parser hands back. -/
import Derived.Test.YtgdibeegheddmaaYH7Whole
namespace Go.Proofs.Ytgdibeegheddmaa
open Go Go.RowKit
theorem heap3 (w : World) (o1 o2 o3 : Obj) : (((w.alloc o1).alloc o2).alloc o3).heap[w.heap.size]? = some o1 ∧ (((w.alloc o1).alloc o2).alloc o3).heap[w.heap.size + 1]? = some o2 ∧
    (((w.alloc o1).alloc o2).alloc o3).heap[w.heap.size + 2]? = some o3 ∧
    (((w.alloc o1).alloc o2).alloc o3).heap.size = w.heap.size + 3 ∧ Fr (· < w.heap.size) w (((w.alloc o1).alloc o2).alloc o3) := by
  have e1 : (w.alloc o1).heap.size = w.heap.size + 1 := by simp
  have e2 : ((w.alloc o1).alloc o2).heap.size = w.heap.size + 2 := by simp
  refine ⟨?_, ?_, ?_, by simp, ?_⟩
  · rw [Below.heap_alloc _ _ _ (by omega), Below.heap_alloc _ _ _ (by omega)]; exact heap_alloc_new w o1
  · rw [Below.heap_alloc _ _ _ (by omega), ← e1]; exact heap_alloc_new _ o2
  · rw [← e2]; exact heap_alloc_new _ o3
  · exact ((((Fr.refl _ w).alloc (fun _ h => h) o1).alloc (fun _ h => h) o2).alloc (fun _ h => h) o3)
end Go.Proofs.Ytgdibeegheddmaa
