/- The sample's chart. Written by gen_s3.py. -/
import Derived.Test.YtekelchdbkjjjaaGreatG17xB0B2
import Derived.Test.YtekelchdbkjjjaaGreatG17xB3B8
import Derived.Test.YtekelchdbkjjjaaGreatG17xB9B13
import Derived.Test.YtekelchdbkjjjaaGreatG17xB14
import Derived.Test.YtekelchdbkjjjaaGreatG17xB16
import Derived.Test.YtekelchdbkjjjaaGreatG17xB17B24
import Derived.Test.YtekelchdbkjjjaaGreatG17xB29B32
import Derived.Test.YtekelchdbkjjjaaGreatG17xB33S2
import Derived.Test.YtekelchdbkjjjaaGreatProg
set_option linter.unusedVariables false
set_option linter.unusedSimpArgs false
set_option maxRecDepth 4000
attribute [local go_sem ↓] Go.wp_at_zero Go.wp_at_succ
namespace Go.Proofs.YtekelchdbkjjjaaGreat
open Go Go.RowKit
theorem list_step {f : Int → XAccount} {P : List XAccount} {l : List Int} {k : Nat} {c : Int} {x : XAccount} (h : l[k]? = some c) (hx : f c = x) : (P ++ (l.take (k + 1)).map f).flatMap accL = (P ++ (l.take k).map f).flatMap accL ++ accL x := by
 rw [List.take_add_one, h, ← hx, List.map_append, ← List.append_assoc, List.flatMap_append]; simp
def rowAccs (q : Int × Int × List Int) : List XAccount := q.2.2.map (accOf q.1 q.2.1)
def preS (i : Nat) : List XAccount := (rowsS.take i).flatMap rowAccs
theorem preS_succ {i : Nat} {q : Int × Int × List Int} (h : rowsS[i]? = some q) : preS (i + 1) = preS i ++ rowAccs q := by
 unfold preS
 rw [List.take_add_one, h, List.flatMap_append]; simp
theorem chartS_bd : ∀ x ∈ chartS, accB x := by
 show ∀ x ∈ chartS, intBd x.code ∧ intBd x.kind ∧ intBd x.basis ∧ intBd x.parent
 decide +kernel
theorem accOf_a {k b c : Int} (h : c = 1010 ∨ c = 1100 ∨ c = 1200) : accOf k b c = ⟨c, k, b, 1000⟩ := by unfold accOf; rw [if_pos h]
theorem accOf_b {k b c : Int} (h1 : ¬ (c = 1010 ∨ c = 1100 ∨ c = 1200)) (h : c = 2100 ∨ c = 4100) : accOf k b c = ⟨c, k, b, c - 100⟩ := by unfold accOf; rw [if_neg h1, if_pos h]
theorem accOf_c {k b c : Int} (h1 : ¬ (c = 1010 ∨ c = 1100 ∨ c = 1200)) (h : ¬ (c = 2100 ∨ c = 4100)) : accOf k b c = ⟨c, k, b, 0⟩ := by unfold accOf; rw [if_neg h1, if_neg h]
set_option maxHeartbeats 4000000 in
theorem sChart_c (w : World) : Calls Tryz.prog 47 #[] w (fun e w' => ∃ v, e = .returned v ∧ ListC AccountC 4 w' (fun k => w.heap.size ≤ k ∧ k < w'.heap.size) [v] chartS ∧ Below w.heap.size w w') := by
 obtain ⟨ia, hia, hzia, hsia, hbia⟩ := info_parts info_accA
 go_enter Tryz.func47, Tryz.ntmps47
 go_upto_region 2 with fail
 have HC0 := heap_alloc_new w (.cells #[.int .i64 1000, .int .i64 1010, .int .i64 1100, .int .i64 1200] 3)
 have eb0 := below1 w (.cells #[.int .i64 1000, .int .i64 1010, .int .i64 1100, .int .i64 1200] 3)
 have ez0 : (w.alloc (.cells #[.int .i64 1000, .int .i64 1010, .int .i64 1100, .int .i64 1200] 3)).heap.size = w.heap.size + 1 := by simp
 generalize w.alloc (Obj.cells #[.int .i64 1000, .int .i64 1010, .int .i64 1100, .int .i64 1200] 3) = W1 at *
 have HC1 := heap_alloc_new W1 (.cells #[.int .i64 1300, .int .i64 1500, .int .i64 1600, .int .i64 1700] 3)
 have eb1 := below1 W1 (.cells #[.int .i64 1300, .int .i64 1500, .int .i64 1600, .int .i64 1700] 3)
 have ez1 : (W1.alloc (.cells #[.int .i64 1300, .int .i64 1500, .int .i64 1600, .int .i64 1700] 3)).heap.size = W1.heap.size + 1 := by simp
 replace HC0 := alloc_keep HC0 (Obj.cells #[.int .i64 1300, .int .i64 1500, .int .i64 1600, .int .i64 1700] 3)
 generalize W1.alloc (Obj.cells #[.int .i64 1300, .int .i64 1500, .int .i64 1600, .int .i64 1700] 3) = W2 at *
 rw [ez0] at HC1
 have HC2 := heap_alloc_new W2 (.cells #[.int .i64 2000, .int .i64 2100] 3)
 have eb2 := below1 W2 (.cells #[.int .i64 2000, .int .i64 2100] 3)
 have ez2 : (W2.alloc (.cells #[.int .i64 2000, .int .i64 2100] 3)).heap.size = W2.heap.size + 1 := by simp
 replace HC0 := alloc_keep HC0 (Obj.cells #[.int .i64 2000, .int .i64 2100] 3)
 replace HC1 := alloc_keep HC1 (Obj.cells #[.int .i64 2000, .int .i64 2100] 3)
 generalize W2.alloc (Obj.cells #[.int .i64 2000, .int .i64 2100] 3) = W3 at *
 rw [ez1, ez0] at HC2
 have HC3 := heap_alloc_new W3 (.cells #[.int .i64 3000, .int .i64 3100, .int .i64 3200, .int .i64 3300, .int .i64 3400, .int .i64 3500] 3)
 have eb3 := below1 W3 (.cells #[.int .i64 3000, .int .i64 3100, .int .i64 3200, .int .i64 3300, .int .i64 3400, .int .i64 3500] 3)
 have ez3 : (W3.alloc (.cells #[.int .i64 3000, .int .i64 3100, .int .i64 3200, .int .i64 3300, .int .i64 3400, .int .i64 3500] 3)).heap.size = W3.heap.size + 1 := by simp
 replace HC0 := alloc_keep HC0 (Obj.cells #[.int .i64 3000, .int .i64 3100, .int .i64 3200, .int .i64 3300, .int .i64 3400, .int .i64 3500] 3)
 replace HC1 := alloc_keep HC1 (Obj.cells #[.int .i64 3000, .int .i64 3100, .int .i64 3200, .int .i64 3300, .int .i64 3400, .int .i64 3500] 3)
 replace HC2 := alloc_keep HC2 (Obj.cells #[.int .i64 3000, .int .i64 3100, .int .i64 3200, .int .i64 3300, .int .i64 3400, .int .i64 3500] 3)
 generalize W3.alloc (Obj.cells #[.int .i64 3000, .int .i64 3100, .int .i64 3200, .int .i64 3300, .int .i64 3400, .int .i64 3500] 3) = W4 at *
 rw [ez2, ez1, ez0] at HC3
 have HC4 := heap_alloc_new W4 (.cells #[.int .i64 4000, .int .i64 4100, .int .i64 4500, .int .i64 4600, .int .i64 4700] 3)
 have eb4 := below1 W4 (.cells #[.int .i64 4000, .int .i64 4100, .int .i64 4500, .int .i64 4600, .int .i64 4700] 3)
 have ez4 : (W4.alloc (.cells #[.int .i64 4000, .int .i64 4100, .int .i64 4500, .int .i64 4600, .int .i64 4700] 3)).heap.size = W4.heap.size + 1 := by simp
 replace HC0 := alloc_keep HC0 (Obj.cells #[.int .i64 4000, .int .i64 4100, .int .i64 4500, .int .i64 4600, .int .i64 4700] 3)
 replace HC1 := alloc_keep HC1 (Obj.cells #[.int .i64 4000, .int .i64 4100, .int .i64 4500, .int .i64 4600, .int .i64 4700] 3)
 replace HC2 := alloc_keep HC2 (Obj.cells #[.int .i64 4000, .int .i64 4100, .int .i64 4500, .int .i64 4600, .int .i64 4700] 3)
 replace HC3 := alloc_keep HC3 (Obj.cells #[.int .i64 4000, .int .i64 4100, .int .i64 4500, .int .i64 4600, .int .i64 4700] 3)
 generalize W4.alloc (Obj.cells #[.int .i64 4000, .int .i64 4100, .int .i64 4500, .int .i64 4600, .int .i64 4700] 3) = W5 at *
 rw [ez3, ez2, ez1, ez0] at HC4
 have HC5 := heap_alloc_new W5 (.cells #[.int .i64 5000, .int .i64 5100, .int .i64 5500, .int .i64 5600, .int .i64 5700] 3)
 have eb5 := below1 W5 (.cells #[.int .i64 5000, .int .i64 5100, .int .i64 5500, .int .i64 5600, .int .i64 5700] 3)
 have ez5 : (W5.alloc (.cells #[.int .i64 5000, .int .i64 5100, .int .i64 5500, .int .i64 5600, .int .i64 5700] 3)).heap.size = W5.heap.size + 1 := by simp
 replace HC0 := alloc_keep HC0 (Obj.cells #[.int .i64 5000, .int .i64 5100, .int .i64 5500, .int .i64 5600, .int .i64 5700] 3)
 replace HC1 := alloc_keep HC1 (Obj.cells #[.int .i64 5000, .int .i64 5100, .int .i64 5500, .int .i64 5600, .int .i64 5700] 3)
 replace HC2 := alloc_keep HC2 (Obj.cells #[.int .i64 5000, .int .i64 5100, .int .i64 5500, .int .i64 5600, .int .i64 5700] 3)
 replace HC3 := alloc_keep HC3 (Obj.cells #[.int .i64 5000, .int .i64 5100, .int .i64 5500, .int .i64 5600, .int .i64 5700] 3)
 replace HC4 := alloc_keep HC4 (Obj.cells #[.int .i64 5000, .int .i64 5100, .int .i64 5500, .int .i64 5600, .int .i64 5700] 3)
 generalize W5.alloc (Obj.cells #[.int .i64 5000, .int .i64 5100, .int .i64 5500, .int .i64 5600, .int .i64 5700] 3) = W6 at *
 rw [ez4, ez3, ez2, ez1, ez0] at HC5
 have HC6 := heap_alloc_new W6 (.cells #[.int .i64 1, .int .i64 1, .slice (some ⟨w.heap.size, 0, none⟩) 4 4, .int .i64 1, .int .i64 3, .slice (some ⟨w.heap.size + 1, 0, none⟩) 4 4, .int .i64 2, .int .i64 1, .slice (some ⟨w.heap.size + 1 + 1, 0, none⟩) 2 2, .int .i64 3, .int .i64 3, .slice (some ⟨w.heap.size + 1 + 1 + 1, 0, none⟩) 6 6, .int .i64 4, .int .i64 2, .slice (some ⟨w.heap.size + 1 + 1 + 1 + 1, 0, none⟩) 5 5, .int .i64 5, .int .i64 2, .slice (some ⟨w.heap.size + 1 + 1 + 1 + 1 + 1, 0, none⟩) 5 5] 132)
 have eb6 := below1 W6 (.cells #[.int .i64 1, .int .i64 1, .slice (some ⟨w.heap.size, 0, none⟩) 4 4, .int .i64 1, .int .i64 3, .slice (some ⟨w.heap.size + 1, 0, none⟩) 4 4, .int .i64 2, .int .i64 1, .slice (some ⟨w.heap.size + 1 + 1, 0, none⟩) 2 2, .int .i64 3, .int .i64 3, .slice (some ⟨w.heap.size + 1 + 1 + 1, 0, none⟩) 6 6, .int .i64 4, .int .i64 2, .slice (some ⟨w.heap.size + 1 + 1 + 1 + 1, 0, none⟩) 5 5, .int .i64 5, .int .i64 2, .slice (some ⟨w.heap.size + 1 + 1 + 1 + 1 + 1, 0, none⟩) 5 5] 132)
 have ez6 : (W6.alloc (.cells #[.int .i64 1, .int .i64 1, .slice (some ⟨w.heap.size, 0, none⟩) 4 4, .int .i64 1, .int .i64 3, .slice (some ⟨w.heap.size + 1, 0, none⟩) 4 4, .int .i64 2, .int .i64 1, .slice (some ⟨w.heap.size + 1 + 1, 0, none⟩) 2 2, .int .i64 3, .int .i64 3, .slice (some ⟨w.heap.size + 1 + 1 + 1, 0, none⟩) 6 6, .int .i64 4, .int .i64 2, .slice (some ⟨w.heap.size + 1 + 1 + 1 + 1, 0, none⟩) 5 5, .int .i64 5, .int .i64 2, .slice (some ⟨w.heap.size + 1 + 1 + 1 + 1 + 1, 0, none⟩) 5 5] 132)).heap.size = W6.heap.size + 1 := by simp
 replace HC0 := alloc_keep HC0 (Obj.cells #[.int .i64 1, .int .i64 1, .slice (some ⟨w.heap.size, 0, none⟩) 4 4, .int .i64 1, .int .i64 3, .slice (some ⟨w.heap.size + 1, 0, none⟩) 4 4, .int .i64 2, .int .i64 1, .slice (some ⟨w.heap.size + 1 + 1, 0, none⟩) 2 2, .int .i64 3, .int .i64 3, .slice (some ⟨w.heap.size + 1 + 1 + 1, 0, none⟩) 6 6, .int .i64 4, .int .i64 2, .slice (some ⟨w.heap.size + 1 + 1 + 1 + 1, 0, none⟩) 5 5, .int .i64 5, .int .i64 2, .slice (some ⟨w.heap.size + 1 + 1 + 1 + 1 + 1, 0, none⟩) 5 5] 132)
 replace HC1 := alloc_keep HC1 (Obj.cells #[.int .i64 1, .int .i64 1, .slice (some ⟨w.heap.size, 0, none⟩) 4 4, .int .i64 1, .int .i64 3, .slice (some ⟨w.heap.size + 1, 0, none⟩) 4 4, .int .i64 2, .int .i64 1, .slice (some ⟨w.heap.size + 1 + 1, 0, none⟩) 2 2, .int .i64 3, .int .i64 3, .slice (some ⟨w.heap.size + 1 + 1 + 1, 0, none⟩) 6 6, .int .i64 4, .int .i64 2, .slice (some ⟨w.heap.size + 1 + 1 + 1 + 1, 0, none⟩) 5 5, .int .i64 5, .int .i64 2, .slice (some ⟨w.heap.size + 1 + 1 + 1 + 1 + 1, 0, none⟩) 5 5] 132)
 replace HC2 := alloc_keep HC2 (Obj.cells #[.int .i64 1, .int .i64 1, .slice (some ⟨w.heap.size, 0, none⟩) 4 4, .int .i64 1, .int .i64 3, .slice (some ⟨w.heap.size + 1, 0, none⟩) 4 4, .int .i64 2, .int .i64 1, .slice (some ⟨w.heap.size + 1 + 1, 0, none⟩) 2 2, .int .i64 3, .int .i64 3, .slice (some ⟨w.heap.size + 1 + 1 + 1, 0, none⟩) 6 6, .int .i64 4, .int .i64 2, .slice (some ⟨w.heap.size + 1 + 1 + 1 + 1, 0, none⟩) 5 5, .int .i64 5, .int .i64 2, .slice (some ⟨w.heap.size + 1 + 1 + 1 + 1 + 1, 0, none⟩) 5 5] 132)
 replace HC3 := alloc_keep HC3 (Obj.cells #[.int .i64 1, .int .i64 1, .slice (some ⟨w.heap.size, 0, none⟩) 4 4, .int .i64 1, .int .i64 3, .slice (some ⟨w.heap.size + 1, 0, none⟩) 4 4, .int .i64 2, .int .i64 1, .slice (some ⟨w.heap.size + 1 + 1, 0, none⟩) 2 2, .int .i64 3, .int .i64 3, .slice (some ⟨w.heap.size + 1 + 1 + 1, 0, none⟩) 6 6, .int .i64 4, .int .i64 2, .slice (some ⟨w.heap.size + 1 + 1 + 1 + 1, 0, none⟩) 5 5, .int .i64 5, .int .i64 2, .slice (some ⟨w.heap.size + 1 + 1 + 1 + 1 + 1, 0, none⟩) 5 5] 132)
 replace HC4 := alloc_keep HC4 (Obj.cells #[.int .i64 1, .int .i64 1, .slice (some ⟨w.heap.size, 0, none⟩) 4 4, .int .i64 1, .int .i64 3, .slice (some ⟨w.heap.size + 1, 0, none⟩) 4 4, .int .i64 2, .int .i64 1, .slice (some ⟨w.heap.size + 1 + 1, 0, none⟩) 2 2, .int .i64 3, .int .i64 3, .slice (some ⟨w.heap.size + 1 + 1 + 1, 0, none⟩) 6 6, .int .i64 4, .int .i64 2, .slice (some ⟨w.heap.size + 1 + 1 + 1 + 1, 0, none⟩) 5 5, .int .i64 5, .int .i64 2, .slice (some ⟨w.heap.size + 1 + 1 + 1 + 1 + 1, 0, none⟩) 5 5] 132)
 replace HC5 := alloc_keep HC5 (Obj.cells #[.int .i64 1, .int .i64 1, .slice (some ⟨w.heap.size, 0, none⟩) 4 4, .int .i64 1, .int .i64 3, .slice (some ⟨w.heap.size + 1, 0, none⟩) 4 4, .int .i64 2, .int .i64 1, .slice (some ⟨w.heap.size + 1 + 1, 0, none⟩) 2 2, .int .i64 3, .int .i64 3, .slice (some ⟨w.heap.size + 1 + 1 + 1, 0, none⟩) 6 6, .int .i64 4, .int .i64 2, .slice (some ⟨w.heap.size + 1 + 1 + 1 + 1, 0, none⟩) 5 5, .int .i64 5, .int .i64 2, .slice (some ⟨w.heap.size + 1 + 1 + 1 + 1 + 1, 0, none⟩) 5 5] 132)
 generalize W6.alloc (Obj.cells #[.int .i64 1, .int .i64 1, .slice (some ⟨w.heap.size, 0, none⟩) 4 4, .int .i64 1, .int .i64 3, .slice (some ⟨w.heap.size + 1, 0, none⟩) 4 4, .int .i64 2, .int .i64 1, .slice (some ⟨w.heap.size + 1 + 1, 0, none⟩) 2 2, .int .i64 3, .int .i64 3, .slice (some ⟨w.heap.size + 1 + 1 + 1, 0, none⟩) 6 6, .int .i64 4, .int .i64 2, .slice (some ⟨w.heap.size + 1 + 1 + 1 + 1, 0, none⟩) 5 5, .int .i64 5, .int .i64 2, .slice (some ⟨w.heap.size + 1 + 1 + 1 + 1 + 1, 0, none⟩) 5 5] 132) = W at *
 rw [ez5, ez4, ez3, ez2, ez1, ez0] at HC6
 have hbW : Below w.heap.size w W := eb0.trans ((eb1.mono (by omega)).trans ((eb2.mono (by omega)).trans ((eb3.mono (by omega)).trans ((eb4.mono (by omega)).trans ((eb5.mono (by omega)).trans (eb6.mono (by omega)))))))
 have hzW : W.heap.size = w.heap.size + 7 := by omega
 have hrow : ∀ i : Nat, i < 6 → ∃ (q : Int × Int × List Int) (nn : Nat), rowsS[i]? = some q ∧ q.2.2.length = nn ∧ nn ≤ 6 ∧ W.cell? ⟨w.heap.size + 1 + 1 + 1 + 1 + 1 + 1, i * 3, none⟩ = some (.int .i64 q.1) ∧ W.cell? ⟨w.heap.size + 1 + 1 + 1 + 1 + 1 + 1, i * 3 + 1, none⟩ = some (.int .i64 q.2.1) ∧ W.cell? ⟨w.heap.size + 1 + 1 + 1 + 1 + 1 + 1, i * 3 + 2, none⟩ = some (.slice (some ⟨w.heap.size + i, 0, none⟩) nn nn) ∧ W.heap[w.heap.size + i]? = some (.cells (iv q.2.2).toArray 3 (0, 0)) := by
  intro i hi
  rcases i with _ | _ | _ | _ | _ | _ | i
  · exact ⟨_, _, rfl, rfl, by decide, blk_cell HC6 0, blk_cell HC6 1, blk_cell HC6 2, HC0⟩
  · exact ⟨_, _, rfl, rfl, by decide, blk_cell HC6 3, blk_cell HC6 4, blk_cell HC6 5, HC1⟩
  · exact ⟨_, _, rfl, rfl, by decide, blk_cell HC6 6, blk_cell HC6 7, blk_cell HC6 8, HC2⟩
  · exact ⟨_, _, rfl, rfl, by decide, blk_cell HC6 9, blk_cell HC6 10, blk_cell HC6 11, HC3⟩
  · exact ⟨_, _, rfl, rfl, by decide, blk_cell HC6 12, blk_cell HC6 13, blk_cell HC6 14, HC4⟩
  · exact ⟨_, _, rfl, rfl, by decide, blk_cell HC6 15, blk_cell HC6 16, blk_cell HC6 17, HC5⟩
  · omega
 have HROW := Lib.hid hrow
 have HZW := Lib.hid hzW
 clear hrow hzW HC0 HC1 HC2 HC3 HC4 HC5 HC6 ez0 eb0 ez1 eb1 ez2 eb2 ez3 eb3 ez4 eb4 ez5 eb5 ez6 eb6
 obtain ⟨rb, hrb⟩ : ∃ rb, w.heap.size + 1 + 1 + 1 + 1 + 1 + 1 = rb := ⟨_, rfl⟩
 rw [hrb] at HROW ⊢
 have HRB := Lib.hid hrb
 clear hrb
 go_wp2_with fail
 go_loopw [2, 3] (fun v i wr => ∃ j : Nat, j ≤ 6 ∧ i = .int .i64 (j : Int) ∧ Below W.heap.size W wr ∧ wr.ownsRow W.heap.size 87 4 v (preS j).length ((preS j).flatMap accL) ∧ (preS j).length ≤ 6 * j) (fun _ i _ => 6 - (intOf i).toNat)
 case atStart => exact ⟨0, by omega, rfl, Below.refl _ _, World.ownsRow_nil _ _ _ _, Nat.le_refl _⟩
 case round =>
  obtain ⟨j, hj, rfl, hb, hown, hlen⟩ := hrel
  have HOV := Lib.hid hown
  have hszr := hb.size
  clear hown
  by_cases hlt : j < 6
  case pos =>
   have hltI : (j : Int) < 6 := by omega
   obtain ⟨q, nn, hq, hnn, hnn6, m0, m1, m2, hcb⟩ := HROW.out j hlt
   obtain ⟨kd, bs, cds⟩ := q
   simp only at hnn m0 m1 hcb
   have hcbL := blk_lt hcb
   obtain ⟨cb, hcbe⟩ : ∃ cb, w.heap.size + j = cb := ⟨_, rfl⟩
   rw [hcbe] at m2 hcb hcbL
   have HQ := Lib.hid hq
   have HNN := Lib.hid hnn
   have X0 := Lib.hid m0
   have X1 := Lib.hid m1
   have X2 := Lib.hid m2
   have XC := Lib.hid hcb
   have LB := Lib.hid (show rb < W.heap.size by rw [← HRB.out]; have := HZW.out; omega)
   obtain ⟨N, hN⟩ : ∃ N, (preS j).length = N := ⟨_, rfl⟩
   rw [hN] at hlen
   have HNL := Lib.hid hN
   clear hq hnn m0 m1 hcb m2 hcbe hN
   go_wp2_with fail
   go_loopw [2, 4] (fun v i wi => ∃ k : Nat, k ≤ nn ∧ i = .int .i64 (k : Int) ∧ Below W.heap.size W wi ∧ wi.ownsRow W.heap.size 87 4 v (N + k) ((preS j ++ (cds.take k).map (accOf kd bs)).flatMap accL)) (fun _ i _ => nn - (intOf i).toNat)
   case atStart => exact ⟨0, by omega, rfl, hb, by rw [← HNL.out]; simpa using HOV.out⟩
   case round =>
    obtain ⟨k, hk, rfl, hbi, hown⟩ := hrel
    have HOW0 := Lib.hid hown
    have hsi := hbi.size
    have hnnI : nn ≤ 6 := hnn6
    clear hown
    by_cases hlt2 : k < nn
    case pos =>
     have hltI2 : (k : Int) < (nn : Int) := by omega
     have hkl : k < cds.length := by have := HNN.out; omega
     obtain ⟨cd, hcd⟩ : ∃ cd, cds[k] = cd := ⟨_, rfl⟩
     have HCD := Lib.hid (show cds[k]? = some cd by rw [List.getElem?_eq_getElem hkl, hcd])
     have LRB := Lib.hid (show rb < wr.heap.size by have := LB.out; omega)
     have LCB := Lib.hid (show cb < wr.heap.size by omega)
     have M0 := Lib.hid ((hbi.cell (p := ⟨rb, j * 3, none⟩) LB.out).trans X0.out)
     have M1 := Lib.hid ((hbi.cell (p := ⟨rb, j * 3 + 1, none⟩) LB.out).trans X1.out)
     have m2 := (hbi.cell (p := ⟨rb, j * 3 + 2, none⟩) LB.out).trans X2.out
     have M2 := Lib.hid m2
     have MC := Lib.hid (show wr.cell? ⟨cb, k, none⟩ = some (.int .i64 cd) from (hbi.cell (p := ⟨cb, k, none⟩) hcbL).trans ((blk_cell XC.out k).trans (by simpa using iv_get HCD.out)))
     obtain ⟨ROWL, hROWL⟩ : ∃ r, (preS j ++ (cds.take k).map (accOf kd bs)).flatMap accL = r := ⟨_, rfl⟩
     obtain ⟨NK, hNK⟩ : ∃ r, N + k = r := ⟨_, rfl⟩
     have hNKb : NK ≤ 100 := by omega
     have HROWL := Lib.hid hROWL
     have HNK := Lib.hid hNK
     have HOW := Lib.hid (show wr.ownsRow W.heap.size 87 4 u2 NK ROWL by rw [← hNK, ← hROWL]; exact HOW0.out)
     clear hcd hROWL hNK HOW0
     go_upto_region 9 with fail
     refine wp_region_inv3 20 (Ks wr [.val (.slice (some ⟨rb, 0, none⟩) 6 6), .val (.int .i64 (j : Int)), .val (.pointer (some ⟨rb, j * 3, none⟩)), .val (.pointer (some ⟨rb, j * 3 + 2, none⟩)), .val (.slice (some ⟨cb, 0, none⟩) nn nn), .val (.int .i64 (k : Int)), .val (.pointer (some ⟨cb, k, none⟩)), .val (.int .i64 cd), .val (.slice (some ⟨rb, 0, none⟩) 6 6), .val (.int .i64 (j : Int)), .val (.pointer (some ⟨rb, j * 3, none⟩)), .val (.pointer (some ⟨rb, j * 3, none⟩)), .val (.int .i64 kd), .val (.slice (some ⟨rb, 0, none⟩) 6 6), .val (.int .i64 (j : Int)), .val (.pointer (some ⟨rb, j * 3, none⟩)), .val (.pointer (some ⟨rb, j * 3 + 1, none⟩)), .val (.int .i64 bs), .val (.agg #[.int .i64 cd, .int .i64 kd, .int .i64 bs, .int .i64 0]), .own (IsNew wr #[.int .i64 0, .int .i64 0, .int .i64 0, .int .i64 0] 87) (IsNew.keep _ _ _)])
      (fun w' => Below wr.heap.size wr w') (by kernel_rfl) (by kernel_rfl) (by kernel_rfl) (by decide) (by kernel_rfl) (by kernel_rfl) (by kernel_rfl) (Below.refl _ _).drew ?_ ?_
     · refine ⟨?_, ?_, ?_, ?_, ?_, ?_, ?_, ?_, ?_, ?_, ?_, ?_, ?_, ?_, ?_, ?_, ?_, ?_, ?_, ?_, trivial⟩
       · intro _ A0 w2 hI hd hnd K hK; have e0 := hI.q hnd 1; exact hI.z hK
       · intro _ A0 w2 hI hd hnd K hK; have e0 := hI.q hnd 3; exact hI.z hK
       · intro _ A0 w2 hI hd hnd K hK; have e0 := hI.p hd 0 35; have e1 := hI.p hd 1 36; exact hI.z hK
       · intro _ A0 w2 hI hd hnd K hK; have e0 := hI.p hd 2 37; exact hI.z hK
       · intro _ A0 w2 hI hd hnd K hK; have e0 := hI.p hd 3 38; have hS := hI.world; have hcc : w2.cell? ⟨rb, j * 3 + 2, none⟩ = _ := (hS.cell (p := ⟨rb, j * 3 + 2, none⟩) LRB.out).trans M2.out; exact hI.z hK
       · intro _ A0 w2 hI hd hnd K hK; have e0 := hI.q hnd 4; exact hI.z hK
       · intro _ A0 w2 hI hd hnd K hK; have e0 := hI.p hd 4 39; have e1 := hI.p hd 5 40; exact hI.z hK
       · intro _ A0 w2 hI hd hnd K hK; have e0 := hI.p hd 6 41; have hS := hI.world; have hcc : w2.cell? ⟨cb, k, none⟩ = _ := (hS.cell (p := ⟨cb, k, none⟩) LCB.out).trans MC.out; exact hI.z hK
       · intro _ A0 w2 hI hd hnd K hK; have e0 := hI.q hnd 1; exact hI.z hK
       · intro _ A0 w2 hI hd hnd K hK; have e0 := hI.q hnd 3; exact hI.z hK
       · intro _ A0 w2 hI hd hnd K hK; have e0 := hI.p hd 8 43; have e1 := hI.p hd 9 44; exact hI.z hK
       · intro _ A0 w2 hI hd hnd K hK; have e0 := hI.p hd 10 45; exact hI.z hK
       · intro _ A0 w2 hI hd hnd K hK; have e0 := hI.p hd 11 46; have hS := hI.world; have hcc : w2.cell? ⟨rb, j * 3, none⟩ = _ := (hS.cell (p := ⟨rb, j * 3, none⟩) LRB.out).trans M0.out; exact hI.z hK
       · intro _ A0 w2 hI hd hnd K hK; have e0 := hI.q hnd 1; exact hI.z hK
       · intro _ A0 w2 hI hd hnd K hK; have e0 := hI.q hnd 3; exact hI.z hK
       · intro _ A0 w2 hI hd hnd K hK; have e0 := hI.p hd 13 48; have e1 := hI.p hd 14 49; exact hI.z hK
       · intro _ A0 w2 hI hd hnd K hK; have e0 := hI.p hd 15 50; exact hI.z hK
       · intro _ A0 w2 hI hd hnd K hK; have e0 := hI.p hd 16 51; have hS := hI.world; have hcc : w2.cell? ⟨rb, j * 3 + 1, none⟩ = _ := (hS.cell (p := ⟨rb, j * 3 + 1, none⟩) LRB.out).trans M1.out; exact hI.z hK
       · intro _ A0 w2 hI hd hnd K hK; have e0 := hI.p hd 7 42; have e1 := hI.p hd 12 47; have e2 := hI.p hd 17 52; exact hI.z hK
       · intro _ A0 w2 hI hd hnd K hK; have hS := hI.world; refine wanted_go rfl ?_; clear hI hd hnd; go_simp
         exact hK.out _ _ (hS.alloc hS.size _) (Ks.of rfl (IsNew.made hS.size _ _)) (Ks.keep (below1 w2 _))
     · intro A0 w2 hI
       obtain ⟨x0, g0, h0⟩ := hI.got 0 _ 35 rfl rfl rfl
       obtain ⟨x1, g1, h1⟩ := hI.got 1 _ 36 rfl rfl rfl
       obtain ⟨x2, g2, h2⟩ := hI.got 2 _ 37 rfl rfl rfl
       obtain ⟨x3, g3, h3⟩ := hI.got 3 _ 38 rfl rfl rfl
       obtain ⟨x4, g4, h4⟩ := hI.got 4 _ 39 rfl rfl rfl
       obtain ⟨x5, g5, h5⟩ := hI.got 5 _ 40 rfl rfl rfl
       obtain ⟨x6, g6, h6⟩ := hI.got 6 _ 41 rfl rfl rfl
       obtain ⟨x7, g7, h7⟩ := hI.got 7 _ 42 rfl rfl rfl
       obtain ⟨x8, g8, h8⟩ := hI.got 8 _ 43 rfl rfl rfl
       obtain ⟨x9, g9, h9⟩ := hI.got 9 _ 44 rfl rfl rfl
       obtain ⟨x10, g10, h10⟩ := hI.got 10 _ 45 rfl rfl rfl
       obtain ⟨x11, g11, h11⟩ := hI.got 11 _ 46 rfl rfl rfl
       obtain ⟨x12, g12, h12⟩ := hI.got 12 _ 47 rfl rfl rfl
       obtain ⟨x13, g13, h13⟩ := hI.got 13 _ 48 rfl rfl rfl
       obtain ⟨x14, g14, h14⟩ := hI.got 14 _ 49 rfl rfl rfl
       obtain ⟨x15, g15, h15⟩ := hI.got 15 _ 50 rfl rfl rfl
       obtain ⟨x16, g16, h16⟩ := hI.got 16 _ 51 rfl rfl rfl
       obtain ⟨x17, g17, h17⟩ := hI.got 17 _ 52 rfl rfl rfl
       obtain ⟨x18, g18, h18⟩ := hI.got 18 _ 53 rfl rfl rfl
       obtain ⟨x19, g19, h19⟩ := hI.got 19 _ 5 rfl rfl rfl
       have hS := hI.world
       have hA : A0 = _ := hI.tmps [(35, x0), (36, x1), (37, x2), (38, x3), (39, x4), (40, x5), (41, x6), (42, x7), (43, x8), (44, x9), (45, x10), (46, x11), (47, x12), (48, x13), (49, x14), (50, x15), (51, x16), (52, x17), (53, x18), (5, x19)] (by simp only [List.mem_cons, List.not_mem_nil, or_false, forall_eq_or_imp, forall_eq]; exact ⟨g0, g1, g2, g3, g4, g5, g6, g7, g8, g9, g10, g11, g12, g13, g14, g15, g16, g17, g18, g19⟩) (by kernel_rfl)
       obtain rfl : x18 = .agg #[.int .i64 cd, .int .i64 kd, .int .i64 bs, .int .i64 0] := h18 _ rfl
       have k19 : (IsNew wr #[.int .i64 0, .int .i64 0, .int .i64 0, .int .i64 0] 87) x19 w2 := h19 _ rfl
       clear h0 g0 h1 g1 h2 g2 h3 g3 h4 g4 h5 g5 h6 g6 h7 g7 h8 g8 h9 g9 h10 g10 h11 g11 h12 g12 h13 g13 h14 g14 h15 g15 h16 g16 h17 g17 h18 g18 h19 g19 hI
       simp only [setAll, List.foldl, List.setIfInBounds_toArray, List.set_cons_zero, List.set_cons_succ] at hA
       rw [hA]
       clear hA
       simp only [List.drop_succ_cons, List.drop_zero]
       obtain ⟨g, rfl, hg1, hg2⟩ := k19
       have HG2 := Lib.hid hg2
       clear m2
       go_upto_region 10 with (show wpList _ _ _ (Oper.mk none (Op.store _ (Operand.tmp 5) _) _ _ _ _ :: _) _ _; refine wpList_store_row rfl 87 (.tmp 5) (.tmp 53) rfl g #[.int .i64 cd, .int .i64 kd, .int .i64 bs, .int .i64 0] rfl rfl 87 #[.int .i64 0, .int .i64 0, .int .i64 0, .int .i64 0] HG2.out (info_accS ⟨cd, kd, bs, 0⟩) rfl (by simp [Value.oneCell']) ?_)
       have H5 := heap_setRow HG2.out #[.int .i64 cd, .int .i64 kd, .int .i64 bs, .int .i64 0]
       have HB5 := below_setRow hS hg1 #[.int .i64 cd, .int .i64 kd, .int .i64 bs, .int .i64 0]
       have hs5 := hS.size
       generalize w2.setRow g #[.int .i64 cd, .int .i64 kd, .int .i64 bs, .int .i64 0] = W5 at *
       clear hg2 hS
       have c0 := blk_cell H5 0
       have c3 := blk_cell H5 3
       have f3 := blk_frozen H5 3
       by_cases t1010 : cd = 1010
       case pos =>
        subst t1010
        go_upto_region 18 with fail
        have H6 := heap_setCell_same H5 3 (.int .i64 1000)
        have HB7 : Below wr.heap.size wr (W5.setCell ⟨g, 3, none⟩ (.int .i64 1000)) := HB5.setCell (p := ⟨g, 3, none⟩) hg1 _
        generalize W5.setCell ⟨g, 3, none⟩ (.int .i64 1000) = W6 at *
        clear H5 f3 c0
        have HOW6 := Lib.hid (own_below HOW.out HB7)
        have HLS := Lib.hid (list_step (f := accOf kd bs) (P := preS j) HCD.out (accOf_a (k := kd) (b := bs) (c := 1010) (by omega)))
        have HB6' := Lib.hid (hbi.trans (HB7.mono (by omega)))
        have hsz6 := (HB7).size
        have HH6 := Lib.hid H6
        clear H6
        go_wp2_with (first | (show wpList _ _ _ (Oper.mk (some 69) _ _ _ _ _ :: _) _ _; refine wpList_load_row_g rfl 87 (.tmp 5) rfl g rfl _ _ _ _ HH6.out Tryz.underlying87 rfl (info_accS ⟨1010, kd, bs, 1000⟩) ?_) | (at_builtin; go_loud (refine wpList_app _ rfl (.tmp 68) (.tmp 70) 24 rfl W.heap.size 87 ia _ 4 32 accs_uty hia hzia hsia hbia rfl (by decide) u2 NK (ROWL) rfl (HOW6.out.alloc _) (fun _ => True) (some ⟨W6.heap.size, 0, none⟩) 1 1 [.int .i64 1010, .int .i64 kd, .int .i64 bs, .int .i64 1000] rfl (rd_new (heap_alloc_new _ _) rfl) (by simp [Value.oneCell']) (by simp only [maxLen]; omega) (by omega) (by simp; omega) ?_); intro v9 w9 hown9 hg9 _))
        go_roundw
        case rel =>
         refine ⟨k + 1, by omega, by go_num, below_grown (HB6'.out.alloc (by omega) _) hg9 (fun q hq => (HOW6.out.lt _ hq).1) (Nat.le_refl _), ?_⟩
         rw [HLS.out, ← Nat.add_assoc, HNK.out, HROWL.out]
         exact hown9
        case measure => first | exact meas_v hlt2 | (simp only [intOf]; omega)
       case neg =>
       have n1010 : (cd == 1010) = false := by simpa using t1010
       by_cases t1100 : cd = 1100
       case pos =>
        subst t1100
        go_upto_region 18 with fail
        have H6 := heap_setCell_same H5 3 (.int .i64 1000)
        have HB7 : Below wr.heap.size wr (W5.setCell ⟨g, 3, none⟩ (.int .i64 1000)) := HB5.setCell (p := ⟨g, 3, none⟩) hg1 _
        generalize W5.setCell ⟨g, 3, none⟩ (.int .i64 1000) = W6 at *
        clear H5 f3 c0
        have HOW6 := Lib.hid (own_below HOW.out HB7)
        have HLS := Lib.hid (list_step (f := accOf kd bs) (P := preS j) HCD.out (accOf_a (k := kd) (b := bs) (c := 1100) (by omega)))
        have HB6' := Lib.hid (hbi.trans (HB7.mono (by omega)))
        have hsz6 := (HB7).size
        have HH6 := Lib.hid H6
        clear H6
        go_wp2_with (first | (show wpList _ _ _ (Oper.mk (some 69) _ _ _ _ _ :: _) _ _; refine wpList_load_row_g rfl 87 (.tmp 5) rfl g rfl _ _ _ _ HH6.out Tryz.underlying87 rfl (info_accS ⟨1100, kd, bs, 1000⟩) ?_) | (at_builtin; go_loud (refine wpList_app _ rfl (.tmp 68) (.tmp 70) 24 rfl W.heap.size 87 ia _ 4 32 accs_uty hia hzia hsia hbia rfl (by decide) u2 NK (ROWL) rfl (HOW6.out.alloc _) (fun _ => True) (some ⟨W6.heap.size, 0, none⟩) 1 1 [.int .i64 1100, .int .i64 kd, .int .i64 bs, .int .i64 1000] rfl (rd_new (heap_alloc_new _ _) rfl) (by simp [Value.oneCell']) (by simp only [maxLen]; omega) (by omega) (by simp; omega) ?_); intro v9 w9 hown9 hg9 _))
        go_roundw
        case rel =>
         refine ⟨k + 1, by omega, by go_num, below_grown (HB6'.out.alloc (by omega) _) hg9 (fun q hq => (HOW6.out.lt _ hq).1) (Nat.le_refl _), ?_⟩
         rw [HLS.out, ← Nat.add_assoc, HNK.out, HROWL.out]
         exact hown9
        case measure => first | exact meas_v hlt2 | (simp only [intOf]; omega)
       case neg =>
       have n1100 : (cd == 1100) = false := by simpa using t1100
       by_cases t1200 : cd = 1200
       case pos =>
        subst t1200
        go_upto_region 18 with fail
        have H6 := heap_setCell_same H5 3 (.int .i64 1000)
        have HB7 : Below wr.heap.size wr (W5.setCell ⟨g, 3, none⟩ (.int .i64 1000)) := HB5.setCell (p := ⟨g, 3, none⟩) hg1 _
        generalize W5.setCell ⟨g, 3, none⟩ (.int .i64 1000) = W6 at *
        clear H5 f3 c0
        have HOW6 := Lib.hid (own_below HOW.out HB7)
        have HLS := Lib.hid (list_step (f := accOf kd bs) (P := preS j) HCD.out (accOf_a (k := kd) (b := bs) (c := 1200) (by omega)))
        have HB6' := Lib.hid (hbi.trans (HB7.mono (by omega)))
        have hsz6 := (HB7).size
        have HH6 := Lib.hid H6
        clear H6
        go_wp2_with (first | (show wpList _ _ _ (Oper.mk (some 69) _ _ _ _ _ :: _) _ _; refine wpList_load_row_g rfl 87 (.tmp 5) rfl g rfl _ _ _ _ HH6.out Tryz.underlying87 rfl (info_accS ⟨1200, kd, bs, 1000⟩) ?_) | (at_builtin; go_loud (refine wpList_app _ rfl (.tmp 68) (.tmp 70) 24 rfl W.heap.size 87 ia _ 4 32 accs_uty hia hzia hsia hbia rfl (by decide) u2 NK (ROWL) rfl (HOW6.out.alloc _) (fun _ => True) (some ⟨W6.heap.size, 0, none⟩) 1 1 [.int .i64 1200, .int .i64 kd, .int .i64 bs, .int .i64 1000] rfl (rd_new (heap_alloc_new _ _) rfl) (by simp [Value.oneCell']) (by simp only [maxLen]; omega) (by omega) (by simp; omega) ?_); intro v9 w9 hown9 hg9 _))
        go_roundw
        case rel =>
         refine ⟨k + 1, by omega, by go_num, below_grown (HB6'.out.alloc (by omega) _) hg9 (fun q hq => (HOW6.out.lt _ hq).1) (Nat.le_refl _), ?_⟩
         rw [HLS.out, ← Nat.add_assoc, HNK.out, HROWL.out]
         exact hown9
        case measure => first | exact meas_v hlt2 | (simp only [intOf]; omega)
       case neg =>
       have n1200 : (cd == 1200) = false := by simpa using t1200
       by_cases t2100 : cd = 2100
       case pos =>
        subst t2100
        go_upto_region 18 with fail
        have H6 := heap_setCell_same H5 3 (.int .i64 2000)
        have HB7 : Below wr.heap.size wr (W5.setCell ⟨g, 3, none⟩ (.int .i64 2000)) := HB5.setCell (p := ⟨g, 3, none⟩) hg1 _
        generalize W5.setCell ⟨g, 3, none⟩ (.int .i64 2000) = W6 at *
        clear H5 f3 c0
        have HOW6 := Lib.hid (own_below HOW.out HB7)
        have HLS := Lib.hid (list_step (f := accOf kd bs) (P := preS j) HCD.out (show accOf kd bs 2100 = ⟨2100, kd, bs, 2000⟩ from accOf_b (by omega) (by omega)))
        have HB6' := Lib.hid (hbi.trans (HB7.mono (by omega)))
        have hsz6 := (HB7).size
        have HH6 := Lib.hid H6
        clear H6
        go_wp2_with (first | (show wpList _ _ _ (Oper.mk (some 69) _ _ _ _ _ :: _) _ _; refine wpList_load_row_g rfl 87 (.tmp 5) rfl g rfl _ _ _ _ HH6.out Tryz.underlying87 rfl (info_accS ⟨2100, kd, bs, 2000⟩) ?_) | (at_builtin; go_loud (refine wpList_app _ rfl (.tmp 68) (.tmp 70) 24 rfl W.heap.size 87 ia _ 4 32 accs_uty hia hzia hsia hbia rfl (by decide) u2 NK (ROWL) rfl (HOW6.out.alloc _) (fun _ => True) (some ⟨W6.heap.size, 0, none⟩) 1 1 [.int .i64 2100, .int .i64 kd, .int .i64 bs, .int .i64 2000] rfl (rd_new (heap_alloc_new _ _) rfl) (by simp [Value.oneCell']) (by simp only [maxLen]; omega) (by omega) (by simp; omega) ?_); intro v9 w9 hown9 hg9 _))
        go_roundw
        case rel =>
         refine ⟨k + 1, by omega, by go_num, below_grown (HB6'.out.alloc (by omega) _) hg9 (fun q hq => (HOW6.out.lt _ hq).1) (Nat.le_refl _), ?_⟩
         rw [HLS.out, ← Nat.add_assoc, HNK.out, HROWL.out]
         exact hown9
        case measure => first | exact meas_v hlt2 | (simp only [intOf]; omega)
       case neg =>
       have n2100 : (cd == 2100) = false := by simpa using t2100
       by_cases t4100 : cd = 4100
       case pos =>
        subst t4100
        go_upto_region 18 with fail
        have H6 := heap_setCell_same H5 3 (.int .i64 4000)
        have HB7 : Below wr.heap.size wr (W5.setCell ⟨g, 3, none⟩ (.int .i64 4000)) := HB5.setCell (p := ⟨g, 3, none⟩) hg1 _
        generalize W5.setCell ⟨g, 3, none⟩ (.int .i64 4000) = W6 at *
        clear H5 f3 c0
        have HOW6 := Lib.hid (own_below HOW.out HB7)
        have HLS := Lib.hid (list_step (f := accOf kd bs) (P := preS j) HCD.out (show accOf kd bs 4100 = ⟨4100, kd, bs, 4000⟩ from accOf_b (by omega) (by omega)))
        have HB6' := Lib.hid (hbi.trans (HB7.mono (by omega)))
        have hsz6 := (HB7).size
        have HH6 := Lib.hid H6
        clear H6
        go_wp2_with (first | (show wpList _ _ _ (Oper.mk (some 69) _ _ _ _ _ :: _) _ _; refine wpList_load_row_g rfl 87 (.tmp 5) rfl g rfl _ _ _ _ HH6.out Tryz.underlying87 rfl (info_accS ⟨4100, kd, bs, 4000⟩) ?_) | (at_builtin; go_loud (refine wpList_app _ rfl (.tmp 68) (.tmp 70) 24 rfl W.heap.size 87 ia _ 4 32 accs_uty hia hzia hsia hbia rfl (by decide) u2 NK (ROWL) rfl (HOW6.out.alloc _) (fun _ => True) (some ⟨W6.heap.size, 0, none⟩) 1 1 [.int .i64 4100, .int .i64 kd, .int .i64 bs, .int .i64 4000] rfl (rd_new (heap_alloc_new _ _) rfl) (by simp [Value.oneCell']) (by simp only [maxLen]; omega) (by omega) (by simp; omega) ?_); intro v9 w9 hown9 hg9 _))
        go_roundw
        case rel =>
         refine ⟨k + 1, by omega, by go_num, below_grown (HB6'.out.alloc (by omega) _) hg9 (fun q hq => (HOW6.out.lt _ hq).1) (Nat.le_refl _), ?_⟩
         rw [HLS.out, ← Nat.add_assoc, HNK.out, HROWL.out]
         exact hown9
        case measure => first | exact meas_v hlt2 | (simp only [intOf]; omega)
       case neg =>
       have n4100 : (cd == 4100) = false := by simpa using t4100
       have HOW6 := Lib.hid (own_below HOW.out HB5)
       have HLS := Lib.hid (list_step (f := accOf kd bs) (P := preS j) HCD.out (accOf_c (k := kd) (b := bs) (c := cd) (by omega) (by omega)))
       have HB6' := Lib.hid (hbi.trans (HB5.mono (by omega)))
       have hsz6 := (HB5).size
       have HH6 := Lib.hid H5
       clear H5
       go_wp2_with (first | (show wpList _ _ _ (Oper.mk (some 69) _ _ _ _ _ :: _) _ _; refine wpList_load_row_g rfl 87 (.tmp 5) rfl g rfl _ _ _ _ HH6.out Tryz.underlying87 rfl (info_accS ⟨cd, kd, bs, 0⟩) ?_) | (at_builtin; go_loud (refine wpList_app _ rfl (.tmp 68) (.tmp 70) 24 rfl W.heap.size 87 ia _ 4 32 accs_uty hia hzia hsia hbia rfl (by decide) u2 NK (ROWL) rfl (HOW6.out.alloc _) (fun _ => True) (some ⟨W5.heap.size, 0, none⟩) 1 1 [.int .i64 cd, .int .i64 kd, .int .i64 bs, .int .i64 0] rfl (rd_new (heap_alloc_new _ _) rfl) (by simp [Value.oneCell']) (by simp only [maxLen]; omega) (by omega) (by simp; omega) ?_); intro v9 w9 hown9 hg9 _))
       go_roundw
       case rel =>
        refine ⟨k + 1, by omega, by go_num, below_grown (HB6'.out.alloc (by omega) _) hg9 (fun q hq => (HOW6.out.lt _ hq).1) (Nat.le_refl _), ?_⟩
        rw [HLS.out, ← Nat.add_assoc, HNK.out, HROWL.out]
        exact hown9
       case measure => first | exact meas_v hlt2 | (simp only [intOf]; omega)
    case neg =>
     have hltI2 : ¬ (k : Int) < (nn : Int) := by omega
     have hkn : k = nn := by omega
     have m2 := (hbi.cell (p := ⟨rb, j * 3 + 2, none⟩) LB.out).trans X2.out
     have HOW := Lib.hid (show wr.ownsRow W.heap.size 87 4 u2 (preS (j + 1)).length ((preS (j + 1)).flatMap accL) by
      have h := HOW0.out
      rw [hkn, ← HNN.out, List.take_length] at h
      rw [preS_succ HQ.out]
      have e : (preS j ++ rowAccs (kd, bs, cds)).length = N + cds.length := by rw [List.length_append, HNL.out]; unfold rowAccs; simp
      rw [e]; exact h)
     have HLEN := Lib.hid (show (preS (j + 1)).length ≤ 6 * (j + 1) by
      rw [preS_succ HQ.out, List.length_append, HNL.out]
      have : (rowAccs (kd, bs, cds)).length = nn := by unfold rowAccs; simpa using HNN.out
      omega)
     clear hkn HOW0
     go_wp2_with fail
     go_roundw
     case rel => exact ⟨j + 1, by omega, by go_num, hbi, HOW.out, HLEN.out⟩
     case measure => first | exact meas_v hlt | (simp only [intOf]; omega)
  case neg =>
   have hltI : ¬ (j : Int) < 6 := by omega
   have hj6 : j = 6 := by omega
   have HOF := Lib.hid (show wr.ownsRow W.heap.size 87 4 u2 chartS.length (chartS.flatMap accL) by have h := HOV.out; rw [hj6] at h; exact h)
   clear hj6
   go_wp2_with fail
   go_ret
   exact ⟨_, rfl, own_listC (El := AccountC) (f := accL) (fun _ => rfl) HOF.out (fun x hx => accC_of (chartS_bd x hx)) (fun q hq => by have := HOF.out.lt _ hq; have := hbW.size; omega) (by decide), hbW.trans (hb.mono hbW.size)⟩
theorem wpList_built {P : Program} {ops : Array Oper} {rest : List Oper} {o : Oper} {a : Act} {w : World} {Q : Exit → Act → World → Prop} (hg : o.guard = none) (t : TypeId) (parts : Array (Nat × Operand)) (ho : o.op = .build t parts) (vals : List (Nat × Value)) (hv : (parts.map fun (i, x) => (i, a.eval x)).toList = vals) (cells : Array Value) (hc : P.built t vals = some cells)
 (h : wpList P ops Q rest (a.put o.dst (.agg cells)) w) : wpList P ops Q (o :: rest) a w :=
 wpList_build hg t parts ho (by rw [hv, hc]; rfl) (by rw [hv, hc]; exact h)
theorem built_group (s : ByteArray) (y m p : Int) (A : Option Addr) (n c : Nat) (r0 r1 r2 r3 r4 r5 r6 r7 r8 r9 r10 r11 r12 r13 r14 : Int) : Tryz.prog.built 29 [(0, .string s), (1, .agg #[.int .i64 y, .int .i64 m, .int .i64 p]), (2, .slice A n c), (3, .agg #[.int .i64 r0, .int .i64 r1, .int .i64 r2, .int .i64 r3, .int .i64 r4, .int .i64 r5, .int .i64 r6, .int .i64 r7, .int .i64 r8, .int .i64 r9, .int .i64 r10, .int .i64 r11, .int .i64 r12, .int .i64 r13, .int .i64 r14])] = some #[.string s, .int .i64 y, .int .i64 m, .int .i64 p, .slice A n c, .int .i64 r0, .int .i64 r1, .int .i64 r2, .int .i64 r3, .int .i64 r4, .int .i64 r5, .int .i64 r6, .int .i64 r7, .int .i64 r8, .int .i64 r9, .int .i64 r10, .int .i64 r11, .int .i64 r12, .int .i64 r13, .int .i64 r14, .slice none 0 0] := by kernel_rfl
theorem sChart_n (n : Nat) (hn : chartS.length = n) (w : World) : Calls Tryz.prog 47 #[] w (fun e w' => ∃ A c, e = .returned (.slice A n c) ∧ ListC AccountC 4 w' (fun k => w.heap.size ≤ k ∧ k < w'.heap.size) [.slice A chartS.length c] chartS ∧ Below w.heap.size w w') := by
 refine (sChart_c w).mono ?_
 rintro e w' ⟨v, rfl, hl, hb⟩
 obtain ⟨A, c, he, _⟩ := hl.form
 have hv : v = .slice A chartS.length c := by simpa using he
 subst hv
 exact ⟨A, c, by rw [hn], hl, hb⟩
theorem sEntity_n (nE nL : Nat) (hE : echartS.length = nE) (hL : elinksS.length = nL) (nm cu : ByteArray) (w : World) : Calls Tryz.prog 49 #[.string nm, .string cu] w (fun e w' => ∃ Ec c Al d, e = .returned (.agg #[.string nm, .string cu, .slice Ec nE c, .slice Al nL d, .bool false]) ∧ ListC AccountC 4 w' (fun k => w.heap.size ≤ k ∧ k < w'.heap.size) [.slice Ec echartS.length c] echartS ∧ ListC LinkC 3 w' (fun k => w.heap.size ≤ k ∧ k < w'.heap.size) [.slice Al elinksS.length d] elinksS ∧ Below w.heap.size w w') := by
 refine (sEntity_c nm cu w).mono ?_
 rintro e w' ⟨vs, rfl, he, hb⟩
 obtain ⟨Ec, c, Al, d, rfl, h1, h2⟩ := he.lit
 subst hE hL
 exact ⟨Ec, c, Al, d, rfl, h1, h2, hb⟩
theorem sample_fin {w W w2 w3 W4 v0 v1 v2 v3 WA : World} {n nE nL : Nat} {Ac Ec0 Al0 Ec1 Al1 Ec2 Al2 Ec3 Al3 : Option Addr} {cc c0 d0 c1 d1 c2 d2 c3 d3 : Nat} {T : TypeId} (hN : chartS.length = n) (hE : echartS.length = nE) (hL : elinksS.length = nL) (h1 : w.heap.size < W.heap.size) (h2 : W.heap.size ≤ w2.heap.size) (h3 : w2.heap.size ≤ w3.heap.size) (h4 : w3.heap.size < W4.heap.size) (s0 : W4.heap.size ≤ v0.heap.size) (s1 : v0.heap.size ≤ v1.heap.size) (s2 : v1.heap.size ≤ v2.heap.size) (s3 : v2.heap.size ≤ v3.heap.size) (HB : Below w.heap.size w W) (hb2 : Below W.heap.size W w2) (hb3 : Below w2.heap.size w2 w3) (hb4 : Below w3.heap.size w3 W4) (hbv0 : Below W4.heap.size W4 v0) (hbv1 : Below v0.heap.size v0 v1) (hbv2 : Below v1.heap.size v1 v2) (hbv3 : Below v2.heap.size v2 v3)
 (HF : Fr (fun k => W.heap.size ≤ k ∧ k < v3.heap.size ∧ k ≠ w3.heap.size) v3 WA) (HBA : Below w.heap.size v3 WA) (HSA : WA.heap.size = v3.heap.size + 1) (HEA : WA.heap[v3.heap.size]? = some (.cells #[.string ⟨#[112, 97, 114, 101, 110, 116]⟩, .string ⟨#[69, 85, 82]⟩, .slice Ec0 nE c0, .slice Al0 nL d0, .bool false, .string ⟨#[110, 111, 114, 116, 104]⟩, .string ⟨#[69, 85, 82]⟩, .slice Ec1 nE c1, .slice Al1 nL d1, .bool false, .string ⟨#[119, 101, 115, 116]⟩, .string ⟨#[85, 83, 68]⟩, .slice Ec2 nE c2, .slice Al2 nL d2, .bool false, .string ⟨#[106, 111, 105, 110, 116]⟩, .string ⟨#[85, 83, 68]⟩, .slice Ec3 nE c3, .slice Al3 nL d3, .bool true] T (0, 0)))
 (HCH : ListC AccountC 4 w2 (fun k => W.heap.size ≤ k ∧ k < w2.heap.size) [.slice Ac chartS.length cc] chartS) (HC0 : ListC AccountC 4 v0 (fun k => W4.heap.size ≤ k ∧ k < v0.heap.size) [.slice Ec0 echartS.length c0] echartS) (HL0 : ListC LinkC 3 v0 (fun k => W4.heap.size ≤ k ∧ k < v0.heap.size) [.slice Al0 elinksS.length d0] elinksS) (HC1 : ListC AccountC 4 v1 (fun k => v0.heap.size ≤ k ∧ k < v1.heap.size) [.slice Ec1 echartS.length c1] echartS) (HL1 : ListC LinkC 3 v1 (fun k => v0.heap.size ≤ k ∧ k < v1.heap.size) [.slice Al1 elinksS.length d1] elinksS) (HC2 : ListC AccountC 4 v2 (fun k => v1.heap.size ≤ k ∧ k < v2.heap.size) [.slice Ec2 echartS.length c2] echartS) (HL2 : ListC LinkC 3 v2 (fun k => v1.heap.size ≤ k ∧ k < v2.heap.size) [.slice Al2 elinksS.length d2] elinksS) (HC3 : ListC AccountC 4 v3 (fun k => v2.heap.size ≤ k ∧ k < v3.heap.size) [.slice Ec3 echartS.length c3] echartS) (HL3 : ListC LinkC 3 v3 (fun k => v2.heap.size ≤ k ∧ k < v3.heap.size) [.slice Al3 elinksS.length d3] elinksS) : GroupC (WA.setRow w.heap.size #[.string ⟨#[69, 85, 82]⟩, .int .i64 2026, .int .i64 1, .int .i64 36, .slice Ac n cc, .int .i64 1500, .int .i64 1600, .int .i64 1700, .int .i64 1200, .int .i64 3100, .int .i64 3200, .int .i64 3300, .int .i64 3400, .int .i64 3500, .int .i64 4500, .int .i64 4600, .int .i64 4700, .int .i64 5500, .int .i64 5600, .int .i64 5700, .slice (some ⟨v3.heap.size, 0, none⟩) 4 4]) (· < (WA.setRow w.heap.size #[.string ⟨#[69, 85, 82]⟩, .int .i64 2026, .int .i64 1, .int .i64 36, .slice Ac n cc, .int .i64 1500, .int .i64 1600, .int .i64 1700, .int .i64 1200, .int .i64 3100, .int .i64 3200, .int .i64 3300, .int .i64 3400, .int .i64 3500, .int .i64 4500, .int .i64 4600, .int .i64 4700, .int .i64 5500, .int .i64 5600, .int .i64 5700, .slice (some ⟨v3.heap.size, 0, none⟩) 4 4]).heap.size) [.string ⟨#[69, 85, 82]⟩, .int .i64 2026, .int .i64 1, .int .i64 36, .slice Ac n cc, .int .i64 1500, .int .i64 1600, .int .i64 1700, .int .i64 1200, .int .i64 3100, .int .i64 3200, .int .i64 3300, .int .i64 3400, .int .i64 3500, .int .i64 4500, .int .i64 4600, .int .i64 4700, .int .i64 5500, .int .i64 5600, .int .i64 5700, .slice (some ⟨v3.heap.size, 0, none⟩) 4 4] sampleG ∧ Below w.heap.size w (WA.setRow w.heap.size #[.string ⟨#[69, 85, 82]⟩, .int .i64 2026, .int .i64 1, .int .i64 36, .slice Ac n cc, .int .i64 1500, .int .i64 1600, .int .i64 1700, .int .i64 1200, .int .i64 3100, .int .i64 3200, .int .i64 3300, .int .i64 3400, .int .i64 3500, .int .i64 4500, .int .i64 4600, .int .i64 4700, .int .i64 5500, .int .i64 5600, .int .i64 5700, .slice (some ⟨v3.heap.size, 0, none⟩) 4 4]) := by
 have hX : Fr (fun k => W.heap.size ≤ k ∧ k < v3.heap.size ∧ k ≠ w3.heap.size) v3 (WA.setRow w.heap.size #[.string ⟨#[69, 85, 82]⟩, .int .i64 2026, .int .i64 1, .int .i64 36, .slice Ac n cc, .int .i64 1500, .int .i64 1600, .int .i64 1700, .int .i64 1200, .int .i64 3100, .int .i64 3200, .int .i64 3300, .int .i64 3400, .int .i64 3500, .int .i64 4500, .int .i64 4600, .int .i64 4700, .int .i64 5500, .int .i64 5600, .int .i64 5700, .slice (some ⟨v3.heap.size, 0, none⟩) 4 4]) := HF.trans ((fr_setRow WA w.heap.size #[.string ⟨#[69, 85, 82]⟩, .int .i64 2026, .int .i64 1, .int .i64 36, .slice Ac n cc, .int .i64 1500, .int .i64 1600, .int .i64 1700, .int .i64 1200, .int .i64 3100, .int .i64 3200, .int .i64 3300, .int .i64 3400, .int .i64 3500, .int .i64 4500, .int .i64 4600, .int .i64 4700, .int .i64 5500, .int .i64 5600, .int .i64 5700, .slice (some ⟨v3.heap.size, 0, none⟩) 4 4]).mono (fun k hk => by have := hk.1; omega))
 have hsz : (WA.setRow w.heap.size #[.string ⟨#[69, 85, 82]⟩, .int .i64 2026, .int .i64 1, .int .i64 36, .slice Ac n cc, .int .i64 1500, .int .i64 1600, .int .i64 1700, .int .i64 1200, .int .i64 3100, .int .i64 3200, .int .i64 3300, .int .i64 3400, .int .i64 3500, .int .i64 4500, .int .i64 4600, .int .i64 4700, .int .i64 5500, .int .i64 5600, .int .i64 5700, .slice (some ⟨v3.heap.size, 0, none⟩) 4 4]).heap.size = v3.heap.size + 1 := by rw [← HSA]; simp
 have HEF := setRow_keep (g := w.heap.size) (cs := #[.string ⟨#[69, 85, 82]⟩, .int .i64 2026, .int .i64 1, .int .i64 36, .slice Ac n cc, .int .i64 1500, .int .i64 1600, .int .i64 1700, .int .i64 1200, .int .i64 3100, .int .i64 3200, .int .i64 3300, .int .i64 3400, .int .i64 3500, .int .i64 4500, .int .i64 4600, .int .i64 4700, .int .i64 5500, .int .i64 5600, .int .i64 5700, .slice (some ⟨v3.heap.size, 0, none⟩) 4 4]) HEA (by omega)
 have FC : Fr (fun k => W.heap.size ≤ k ∧ k < w2.heap.size) w2 (WA.setRow w.heap.size #[.string ⟨#[69, 85, 82]⟩, .int .i64 2026, .int .i64 1, .int .i64 36, .slice Ac n cc, .int .i64 1500, .int .i64 1600, .int .i64 1700, .int .i64 1200, .int .i64 3100, .int .i64 3200, .int .i64 3300, .int .i64 3400, .int .i64 3500, .int .i64 4500, .int .i64 4600, .int .i64 4700, .int .i64 5500, .int .i64 5600, .int .i64 5700, .slice (some ⟨v3.heap.size, 0, none⟩) 4 4]) := ((Fr.ofBelow (hb3.trans ((hb4.mono h3).trans ((hbv0.mono (by omega)).trans ((hbv1.mono (by omega)).trans ((hbv2.mono (by omega)).trans (hbv3.mono (by omega)))))))).mono (fun k (hk : W.heap.size ≤ k ∧ k < w2.heap.size) => by omega)).trans (hX.mono (fun k hk => ⟨by omega, by omega, by omega⟩))
 have hbF : Below w.heap.size w (WA.setRow w.heap.size #[.string ⟨#[69, 85, 82]⟩, .int .i64 2026, .int .i64 1, .int .i64 36, .slice Ac n cc, .int .i64 1500, .int .i64 1600, .int .i64 1700, .int .i64 1200, .int .i64 3100, .int .i64 3200, .int .i64 3300, .int .i64 3400, .int .i64 3500, .int .i64 4500, .int .i64 4600, .int .i64 4700, .int .i64 5500, .int .i64 5600, .int .i64 5700, .slice (some ⟨v3.heap.size, 0, none⟩) 4 4]) := below_setRow (HB.trans ((hb2.mono (by omega)).trans ((hb3.mono (by omega)).trans ((hb4.mono (by omega)).trans ((hbv0.mono (by omega)).trans ((hbv1.mono (by omega)).trans ((hbv2.mono (by omega)).trans ((hbv3.mono (by omega)).trans HBA)))))))) (Nat.le_refl _) _
 generalize WA.setRow w.heap.size #[.string ⟨#[69, 85, 82]⟩, .int .i64 2026, .int .i64 1, .int .i64 36, .slice Ac n cc, .int .i64 1500, .int .i64 1600, .int .i64 1700, .int .i64 1200, .int .i64 3100, .int .i64 3200, .int .i64 3300, .int .i64 3400, .int .i64 3500, .int .i64 4500, .int .i64 4600, .int .i64 4700, .int .i64 5500, .int .i64 5600, .int .i64 5700, .slice (some ⟨v3.heap.size, 0, none⟩) 4 4] = wF at *
 have F0 : Fr (fun k => W4.heap.size ≤ k ∧ k < v0.heap.size) v0 wF := ((Fr.ofBelow (hbv1.trans ((hbv2.mono s1).trans (hbv3.mono (by omega))))).mono (fun k (hk : W4.heap.size ≤ k ∧ k < v0.heap.size) => by omega)).trans (hX.mono (fun k hk => ⟨by omega, by omega, by omega⟩))
 have E0 : EntityC wF (· < wF.heap.size) [.string ⟨#[112, 97, 114, 101, 110, 116]⟩, .string ⟨#[69, 85, 82]⟩, .slice Ec0 nE c0, .slice Al0 nL d0, .bool false] (entS ⟨#[112, 97, 114, 101, 110, 116]⟩ ⟨#[69, 85, 82]⟩ false) :=
  ⟨[_], [_], [_], [_], [_], rfl, rfl, rfl, by rw [← hE]; exact (HC0.fr (fun h => AccountC.fr h F0) F0).mono (fun h => AccountC.mono h (fun k hk => by omega)) (fun k hk => by omega), by rw [← hL]; exact (HL0.fr (fun h => LinkC.fr h F0) F0).mono (fun h => LinkC.mono h (fun k hk => by omega)) (fun k hk => by omega), rfl⟩
 have F1 : Fr (fun k => v0.heap.size ≤ k ∧ k < v1.heap.size) v1 wF := ((Fr.ofBelow (hbv2.trans (hbv3.mono s2))).mono (fun k (hk : v0.heap.size ≤ k ∧ k < v1.heap.size) => by omega)).trans (hX.mono (fun k hk => ⟨by omega, by omega, by omega⟩))
 have E1 : EntityC wF (· < wF.heap.size) [.string ⟨#[110, 111, 114, 116, 104]⟩, .string ⟨#[69, 85, 82]⟩, .slice Ec1 nE c1, .slice Al1 nL d1, .bool false] (entS ⟨#[110, 111, 114, 116, 104]⟩ ⟨#[69, 85, 82]⟩ false) :=
  ⟨[_], [_], [_], [_], [_], rfl, rfl, rfl, by rw [← hE]; exact (HC1.fr (fun h => AccountC.fr h F1) F1).mono (fun h => AccountC.mono h (fun k hk => by omega)) (fun k hk => by omega), by rw [← hL]; exact (HL1.fr (fun h => LinkC.fr h F1) F1).mono (fun h => LinkC.mono h (fun k hk => by omega)) (fun k hk => by omega), rfl⟩
 have F2 : Fr (fun k => v1.heap.size ≤ k ∧ k < v2.heap.size) v2 wF := ((Fr.ofBelow hbv3).mono (fun k (hk : v1.heap.size ≤ k ∧ k < v2.heap.size) => by omega)).trans (hX.mono (fun k hk => ⟨by omega, by omega, by omega⟩))
 have E2 : EntityC wF (· < wF.heap.size) [.string ⟨#[119, 101, 115, 116]⟩, .string ⟨#[85, 83, 68]⟩, .slice Ec2 nE c2, .slice Al2 nL d2, .bool false] (entS ⟨#[119, 101, 115, 116]⟩ ⟨#[85, 83, 68]⟩ false) :=
  ⟨[_], [_], [_], [_], [_], rfl, rfl, rfl, by rw [← hE]; exact (HC2.fr (fun h => AccountC.fr h F2) F2).mono (fun h => AccountC.mono h (fun k hk => by omega)) (fun k hk => by omega), by rw [← hL]; exact (HL2.fr (fun h => LinkC.fr h F2) F2).mono (fun h => LinkC.mono h (fun k hk => by omega)) (fun k hk => by omega), rfl⟩
 have F3 : Fr (fun k => v2.heap.size ≤ k ∧ k < v3.heap.size) v3 wF := ((Fr.ofBelow (Below.refl v3.heap.size v3)).mono (fun k (hk : v2.heap.size ≤ k ∧ k < v3.heap.size) => by omega)).trans (hX.mono (fun k hk => ⟨by omega, by omega, by omega⟩))
 have E3 : EntityC wF (· < wF.heap.size) [.string ⟨#[106, 111, 105, 110, 116]⟩, .string ⟨#[85, 83, 68]⟩, .slice Ec3 nE c3, .slice Al3 nL d3, .bool true] (entS ⟨#[106, 111, 105, 110, 116]⟩ ⟨#[85, 83, 68]⟩ true) :=
  ⟨[_], [_], [_], [_], [_], rfl, rfl, rfl, by rw [← hE]; exact (HC3.fr (fun h => AccountC.fr h F3) F3).mono (fun h => AccountC.mono h (fun k hk => by omega)) (fun k hk => by omega), by rw [← hL]; exact (HL3.fr (fun h => LinkC.fr h F3) F3).mono (fun h => LinkC.mono h (fun k hk => by omega)) (fun k hk => by omega), rfl⟩
 have hat := box_at (cs := [.string ⟨#[112, 97, 114, 101, 110, 116]⟩, .string ⟨#[69, 85, 82]⟩, .slice Ec0 nE c0, .slice Al0 nL d0, .bool false] ++ ([.string ⟨#[110, 111, 114, 116, 104]⟩, .string ⟨#[69, 85, 82]⟩, .slice Ec1 nE c1, .slice Al1 nL d1, .bool false] ++ ([.string ⟨#[119, 101, 115, 116]⟩, .string ⟨#[85, 83, 68]⟩, .slice Ec2 nE c2, .slice Al2 nL d2, .bool false] ++ [.string ⟨#[106, 111, 105, 110, 116]⟩, .string ⟨#[85, 83, 68]⟩, .slice Ec3 nE c3, .slice Al3 nL d3, .bool true]))) HEF
 obtain ⟨t0, r0⟩ := hat.split
 obtain ⟨t1, r1⟩ := r0.split
 obtain ⟨t2, t3⟩ := r1.split
 have hents : ListC EntityC 5 wF (· < wF.heap.size) [.slice (some ⟨v3.heap.size, 0, none⟩) 4 4] sampleG.entities := by
  refine ⟨_, _, rfl, Nat.le_refl _, by unfold maxLen; decide, fun _ => ⟨v3.heap.size, 0, rfl, by omega, fun i x hx => ?_⟩⟩
  rcases i with _ | _ | _ | _ | i
  · obtain rfl : _ = x := Option.some.inj hx
    exact ⟨_, E0, t0⟩
  · obtain rfl : _ = x := Option.some.inj hx
    exact ⟨_, E1, t1⟩
  · obtain rfl : _ = x := Option.some.inj hx
    exact ⟨_, E2, t2⟩
  · obtain rfl : _ = x := Option.some.inj hx
    exact ⟨_, E3, t3⟩
  · simp [sampleG] at hx
 refine ⟨⟨[_], [_, _, _], [_], [_, _, _, _, _, _, _, _, _, _, _, _, _, _, _], [_], rfl, rfl, ⟨[_], [_], [_], rfl, ⟨rfl, by decide⟩, ⟨rfl, by decide⟩, ⟨rfl, by decide⟩⟩, by rw [← hN]; exact (HCH.fr (fun h => AccountC.fr h FC) FC).mono (fun h => AccountC.mono h (fun k hk => by omega)) (fun k hk => by omega), ⟨[_], [_], [_], [_], [_], [_], [_], [_], [_], [_], [_], [_], [_], [_], [_], rfl, ⟨rfl, by decide⟩, ⟨rfl, by decide⟩, ⟨rfl, by decide⟩, ⟨rfl, by decide⟩, ⟨rfl, by decide⟩, ⟨rfl, by decide⟩, ⟨rfl, by decide⟩, ⟨rfl, by decide⟩, ⟨rfl, by decide⟩, ⟨rfl, by decide⟩, ⟨rfl, by decide⟩, ⟨rfl, by decide⟩, ⟨rfl, by decide⟩, ⟨rfl, by decide⟩, ⟨rfl, by decide⟩⟩, hents⟩, hbF⟩
set_option maxHeartbeats 4000000 in
theorem sample_c (w : World) : Calls Tryz.prog 26 #[] w (fun e w' => ∃ vs : List Value, e = .returned (.agg vs.toArray) ∧ GroupC w' (· < w'.heap.size) vs sampleG ∧ Below w.heap.size w w') := by
 obtain ⟨n, hn⟩ : ∃ n, chartS.length = n := ⟨_, rfl⟩
 obtain ⟨nE, hnE⟩ : ∃ n, echartS.length = n := ⟨_, rfl⟩
 obtain ⟨nL, hnL⟩ : ∃ n, elinksS.length = n := ⟨_, rfl⟩
 have HN := Lib.hid hn
 have HNE := Lib.hid hnE
 have HNL := Lib.hid hnL
 clear hn hnE hnL
 go_enter Tryz.func26, Tryz.ntmps26
 go_upto_region 1 with fail
 have H := heap_alloc_new w (.cells #[.string ⟨#[]⟩, .int .i64 0, .int .i64 0, .int .i64 0, .slice none 0 0, .int .i64 0, .int .i64 0, .int .i64 0, .int .i64 0, .int .i64 0, .int .i64 0, .int .i64 0, .int .i64 0, .int .i64 0, .int .i64 0, .int .i64 0, .int .i64 0, .int .i64 0, .int .i64 0, .int .i64 0, .slice none 0 0] 29)
 have HB := below1 w (.cells #[.string ⟨#[]⟩, .int .i64 0, .int .i64 0, .int .i64 0, .slice none 0 0, .int .i64 0, .int .i64 0, .int .i64 0, .int .i64 0, .int .i64 0, .int .i64 0, .int .i64 0, .int .i64 0, .int .i64 0, .int .i64 0, .int .i64 0, .int .i64 0, .int .i64 0, .int .i64 0, .int .i64 0, .slice none 0 0] 29)
 have HS := blk_lt H
 have ezW : (w.alloc (.cells #[.string ⟨#[]⟩, .int .i64 0, .int .i64 0, .int .i64 0, .slice none 0 0, .int .i64 0, .int .i64 0, .int .i64 0, .int .i64 0, .int .i64 0, .int .i64 0, .int .i64 0, .int .i64 0, .int .i64 0, .int .i64 0, .int .i64 0, .int .i64 0, .int .i64 0, .int .i64 0, .int .i64 0, .slice none 0 0] 29)).heap.size = w.heap.size + 1 := by simp
 generalize hW : w.alloc (Obj.cells #[.string ⟨#[]⟩, .int .i64 0, .int .i64 0, .int .i64 0, .slice none 0 0, .int .i64 0, .int .i64 0, .int .i64 0, .int .i64 0, .int .i64 0, .int .i64 0, .int .i64 0, .int .i64 0, .int .i64 0, .int .i64 0, .int .i64 0, .int .i64 0, .int .i64 0, .int .i64 0, .int .i64 0, .slice none 0 0] 29) = W at *
 clear hW
 have HZ := Lib.hid H
 have HEZ := Lib.hid ezW
 clear H ezW
 go_wp2_with fail
 refine (sChart_n n HN.out W).mono ?_
 rintro e w2 ⟨Ac, cc, rfl, hch, hb2⟩
 have HCH := Lib.hid hch
 have hs2 := hb2.size
 clear hch
 go_wp2_with fail
 refine (sRoles_c w2).mono ?_
 rintro e w3 ⟨rfl, hb3⟩
 have hs3 := hb3.size
 go_upto_region 2 with (first | (show wpList _ _ _ (Oper.mk none (Op.store _ (Operand.tmp 1) _) _ _ _ _ :: _) _ _; refine wpList_store_fresh3 rfl 29 (.tmp 1) (.tmp 5) rfl rfl w3 #[.string ⟨#[]⟩, .int .i64 0, .int .i64 0, .int .i64 0, .slice none 0 0, .int .i64 0, .int .i64 0, .int .i64 0, .int .i64 0, .int .i64 0, .int .i64 0, .int .i64 0, .int .i64 0, .int .i64 0, .int .i64 0, .int .i64 0, .int .i64 0, .int .i64 0, .int .i64 0, .int .i64 0, .slice none 0 0] 29 #[.string ⟨#[69, 85, 82]⟩, .int .i64 2026, .int .i64 1, .int .i64 36, .slice Ac n cc, .int .i64 1500, .int .i64 1600, .int .i64 1700, .int .i64 1200, .int .i64 3100, .int .i64 3200, .int .i64 3300, .int .i64 3400, .int .i64 3500, .int .i64 4500, .int .i64 4600, .int .i64 4700, .int .i64 5500, .int .i64 5600, .int .i64 5700, .slice none 0 0] rfl rfl rfl info_group rfl (by simp [Value.oneCell']) ?_; intro W4 H4 HB4 HS4) | (show wpList _ _ _ (Oper.mk (some 5) _ _ _ _ _ :: _) _ _; refine wpList_built rfl 29 _ rfl [(0, .string ⟨#[69, 85, 82]⟩), (1, .agg #[.int .i64 2026, .int .i64 1, .int .i64 36]), (2, .slice Ac n cc), (3, .agg #[.int .i64 1500, .int .i64 1600, .int .i64 1700, .int .i64 1200, .int .i64 3100, .int .i64 3200, .int .i64 3300, .int .i64 3400, .int .i64 3500, .int .i64 4500, .int .i64 4600, .int .i64 4700, .int .i64 5500, .int .i64 5600, .int .i64 5700])] (by simp [Act.eval]) #[.string ⟨#[69, 85, 82]⟩, .int .i64 2026, .int .i64 1, .int .i64 36, .slice Ac n cc, .int .i64 1500, .int .i64 1600, .int .i64 1700, .int .i64 1200, .int .i64 3100, .int .i64 3200, .int .i64 3300, .int .i64 3400, .int .i64 3500, .int .i64 4500, .int .i64 4600, .int .i64 4700, .int .i64 5500, .int .i64 5600, .int .i64 5700, .slice none 0 0] (built_group _ _ _ _ _ _ _ _ _ _ _ _ _ _ _ _ _ _ _ _ _ _) ?_))
 have HG4 := Lib.hid H4
 clear H4
 go_wp2_with fail
 refine (sEntity_n nE nL HNE.out HNL.out _ _ W4).mono ?_
 rintro e v0 ⟨Ec0, c0, Al0, d0, rfl, hc0, hl0, hbv0⟩
 have hsv0 := hbv0.size
 have HC0 := Lib.hid hc0
 have HL0 := Lib.hid hl0
 clear hc0 hl0
 go_wp2_with fail
 refine (sEntity_n nE nL HNE.out HNL.out _ _ v0).mono ?_
 rintro e v1 ⟨Ec1, c1, Al1, d1, rfl, hc1, hl1, hbv1⟩
 have hsv1 := hbv1.size
 have HC1 := Lib.hid hc1
 have HL1 := Lib.hid hl1
 clear hc1 hl1
 go_wp2_with fail
 refine (sEntity_n nE nL HNE.out HNL.out _ _ v1).mono ?_
 rintro e v2 ⟨Ec2, c2, Al2, d2, rfl, hc2, hl2, hbv2⟩
 have hsv2 := hbv2.size
 have HC2 := Lib.hid hc2
 have HL2 := Lib.hid hl2
 clear hc2 hl2
 go_wp2_with fail
 refine (sEntity_n nE nL HNE.out HNL.out _ _ v2).mono ?_
 rintro e v3 ⟨Ec3, c3, Al3, d3, rfl, hc3, hl3, hbv3⟩
 have hsv3 := hbv3.size
 have HC3 := Lib.hid hc3
 have HL3 := Lib.hid hl3
 clear hc3 hl3
 have a2 := Nat.lt_of_lt_of_le HS hs2
 have a3 := Nat.lt_of_lt_of_le a2 hs3
 have a4 := Nat.lt_trans a3 HS4
 have b0 := Nat.lt_of_lt_of_le HS4 hsv0
 have b1 := Nat.lt_of_lt_of_le b0 hsv1
 have b2 := Nat.lt_of_lt_of_le b1 hsv2
 have b3 := Nat.lt_of_lt_of_le b2 hsv3
 have HG8 := Lib.hid ((hbv3.block w3.heap.size b2).trans ((hbv2.block w3.heap.size b1).trans ((hbv1.block w3.heap.size b0).trans ((hbv0.block w3.heap.size HS4).trans HG4.out))))
 have g20 := blk_cell (alloc_keep HG8.out (Obj.cells #[.string ⟨#[112, 97, 114, 101, 110, 116]⟩, .string ⟨#[69, 85, 82]⟩, .slice Ec0 nE c0, .slice Al0 nL d0, .bool false, .string ⟨#[110, 111, 114, 116, 104]⟩, .string ⟨#[69, 85, 82]⟩, .slice Ec1 nE c1, .slice Al1 nL d1, .bool false, .string ⟨#[119, 101, 115, 116]⟩, .string ⟨#[85, 83, 68]⟩, .slice Ec2 nE c2, .slice Al2 nL d2, .bool false, .string ⟨#[106, 111, 105, 110, 116]⟩, .string ⟨#[85, 83, 68]⟩, .slice Ec3 nE c3, .slice Al3 nL d3, .bool false] 92)) 20
 have q20 := blk_frozen (alloc_keep HG8.out (Obj.cells #[.string ⟨#[112, 97, 114, 101, 110, 116]⟩, .string ⟨#[69, 85, 82]⟩, .slice Ec0 nE c0, .slice Al0 nL d0, .bool false, .string ⟨#[110, 111, 114, 116, 104]⟩, .string ⟨#[69, 85, 82]⟩, .slice Ec1 nE c1, .slice Al1 nL d1, .bool false, .string ⟨#[119, 101, 115, 116]⟩, .string ⟨#[85, 83, 68]⟩, .slice Ec2 nE c2, .slice Al2 nL d2, .bool false, .string ⟨#[106, 111, 105, 110, 116]⟩, .string ⟨#[85, 83, 68]⟩, .slice Ec3 nE c3, .slice Al3 nL d3, .bool false] 92)) 20
 have A3 := Lib.hid a3
 have A4 := Lib.hid a4
 have B0 := Lib.hid b0
 have B1 := Lib.hid b1
 have B2 := Lib.hid b2
 have B3 := Lib.hid b3
 clear a2 a3 a4 b0 b1 b2 b3
 go_upto_region 3 with fail
 have H9 := heap_setCell_same (alloc_keep HG8.out (Obj.cells #[.string ⟨#[112, 97, 114, 101, 110, 116]⟩, .string ⟨#[69, 85, 82]⟩, .slice Ec0 nE c0, .slice Al0 nL d0, .bool false, .string ⟨#[110, 111, 114, 116, 104]⟩, .string ⟨#[69, 85, 82]⟩, .slice Ec1 nE c1, .slice Al1 nL d1, .bool false, .string ⟨#[119, 101, 115, 116]⟩, .string ⟨#[85, 83, 68]⟩, .slice Ec2 nE c2, .slice Al2 nL d2, .bool false, .string ⟨#[106, 111, 105, 110, 116]⟩, .string ⟨#[85, 83, 68]⟩, .slice Ec3 nE c3, .slice Al3 nL d3, .bool false] 92)) 20 (.slice (some ⟨v3.heap.size, 0, none⟩) 4 4)
 have HE9 := (Below.heap_setCell (v3.alloc (Obj.cells #[.string ⟨#[112, 97, 114, 101, 110, 116]⟩, .string ⟨#[69, 85, 82]⟩, .slice Ec0 nE c0, .slice Al0 nL d0, .bool false, .string ⟨#[110, 111, 114, 116, 104]⟩, .string ⟨#[69, 85, 82]⟩, .slice Ec1 nE c1, .slice Al1 nL d1, .bool false, .string ⟨#[119, 101, 115, 116]⟩, .string ⟨#[85, 83, 68]⟩, .slice Ec2 nE c2, .slice Al2 nL d2, .bool false, .string ⟨#[106, 111, 105, 110, 116]⟩, .string ⟨#[85, 83, 68]⟩, .slice Ec3 nE c3, .slice Al3 nL d3, .bool false] 92)) ⟨w3.heap.size, 20, none⟩ (.slice (some ⟨v3.heap.size, 0, none⟩) 4 4) v3.heap.size (Nat.ne_of_gt B3.out)).trans (heap_alloc_new v3 _)
 have HF9 := Lib.hid (((Fr.refl (fun k => W.heap.size ≤ k ∧ k < v3.heap.size ∧ k ≠ w3.heap.size) v3).alloc (fun k hk => hk.2.1) (Obj.cells #[.string ⟨#[112, 97, 114, 101, 110, 116]⟩, .string ⟨#[69, 85, 82]⟩, .slice Ec0 nE c0, .slice Al0 nL d0, .bool false, .string ⟨#[110, 111, 114, 116, 104]⟩, .string ⟨#[69, 85, 82]⟩, .slice Ec1 nE c1, .slice Al1 nL d1, .bool false, .string ⟨#[119, 101, 115, 116]⟩, .string ⟨#[85, 83, 68]⟩, .slice Ec2 nE c2, .slice Al2 nL d2, .bool false, .string ⟨#[106, 111, 105, 110, 116]⟩, .string ⟨#[85, 83, 68]⟩, .slice Ec3 nE c3, .slice Al3 nL d3, .bool false] 92)).setCell (p := ⟨w3.heap.size, 20, none⟩) (fun h => h.2.2 rfl) (.slice (some ⟨v3.heap.size, 0, none⟩) 4 4))
 have HB9 := Lib.hid (((Below.refl w.heap.size v3).alloc (Nat.le_of_lt (Nat.lt_trans A3.out B3.out)) (Obj.cells #[.string ⟨#[112, 97, 114, 101, 110, 116]⟩, .string ⟨#[69, 85, 82]⟩, .slice Ec0 nE c0, .slice Al0 nL d0, .bool false, .string ⟨#[110, 111, 114, 116, 104]⟩, .string ⟨#[69, 85, 82]⟩, .slice Ec1 nE c1, .slice Al1 nL d1, .bool false, .string ⟨#[119, 101, 115, 116]⟩, .string ⟨#[85, 83, 68]⟩, .slice Ec2 nE c2, .slice Al2 nL d2, .bool false, .string ⟨#[106, 111, 105, 110, 116]⟩, .string ⟨#[85, 83, 68]⟩, .slice Ec3 nE c3, .slice Al3 nL d3, .bool false] 92)).setCell (p := ⟨w3.heap.size, 20, none⟩) (Nat.le_of_lt A3.out) (.slice (some ⟨v3.heap.size, 0, none⟩) 4 4))
 have HZ9 := (Below.heap_setCell (v3.alloc (Obj.cells #[.string ⟨#[112, 97, 114, 101, 110, 116]⟩, .string ⟨#[69, 85, 82]⟩, .slice Ec0 nE c0, .slice Al0 nL d0, .bool false, .string ⟨#[110, 111, 114, 116, 104]⟩, .string ⟨#[69, 85, 82]⟩, .slice Ec1 nE c1, .slice Al1 nL d1, .bool false, .string ⟨#[119, 101, 115, 116]⟩, .string ⟨#[85, 83, 68]⟩, .slice Ec2 nE c2, .slice Al2 nL d2, .bool false, .string ⟨#[106, 111, 105, 110, 116]⟩, .string ⟨#[85, 83, 68]⟩, .slice Ec3 nE c3, .slice Al3 nL d3, .bool false] 92)) ⟨w3.heap.size, 20, none⟩ (.slice (some ⟨v3.heap.size, 0, none⟩) 4 4) w.heap.size (Nat.ne_of_lt A3.out)).trans (alloc_keep ((hbv3.block w.heap.size (Nat.lt_trans A3.out B2.out)).trans ((hbv2.block w.heap.size (Nat.lt_trans A3.out B1.out)).trans ((hbv1.block w.heap.size (Nat.lt_trans A3.out B0.out)).trans ((hbv0.block w.heap.size A4.out).trans ((HB4.block w.heap.size A3.out).trans ((hb3.block w.heap.size (Nat.lt_of_lt_of_le HS hs2)).trans ((hb2.block w.heap.size HS).trans HZ.out))))))) (Obj.cells #[.string ⟨#[112, 97, 114, 101, 110, 116]⟩, .string ⟨#[69, 85, 82]⟩, .slice Ec0 nE c0, .slice Al0 nL d0, .bool false, .string ⟨#[110, 111, 114, 116, 104]⟩, .string ⟨#[69, 85, 82]⟩, .slice Ec1 nE c1, .slice Al1 nL d1, .bool false, .string ⟨#[119, 101, 115, 116]⟩, .string ⟨#[85, 83, 68]⟩, .slice Ec2 nE c2, .slice Al2 nL d2, .bool false, .string ⟨#[106, 111, 105, 110, 116]⟩, .string ⟨#[85, 83, 68]⟩, .slice Ec3 nE c3, .slice Al3 nL d3, .bool false] 92))
 have HS9 := Lib.hid (show ((v3.alloc (Obj.cells #[.string ⟨#[112, 97, 114, 101, 110, 116]⟩, .string ⟨#[69, 85, 82]⟩, .slice Ec0 nE c0, .slice Al0 nL d0, .bool false, .string ⟨#[110, 111, 114, 116, 104]⟩, .string ⟨#[69, 85, 82]⟩, .slice Ec1 nE c1, .slice Al1 nL d1, .bool false, .string ⟨#[119, 101, 115, 116]⟩, .string ⟨#[85, 83, 68]⟩, .slice Ec2 nE c2, .slice Al2 nL d2, .bool false, .string ⟨#[106, 111, 105, 110, 116]⟩, .string ⟨#[85, 83, 68]⟩, .slice Ec3 nE c3, .slice Al3 nL d3, .bool false] 92)).setCell ⟨w3.heap.size, 20, none⟩ (.slice (some ⟨v3.heap.size, 0, none⟩) 4 4)).heap.size = v3.heap.size + 1 by simp)
 generalize (v3.alloc (Obj.cells #[.string ⟨#[112, 97, 114, 101, 110, 116]⟩, .string ⟨#[69, 85, 82]⟩, .slice Ec0 nE c0, .slice Al0 nL d0, .bool false, .string ⟨#[110, 111, 114, 116, 104]⟩, .string ⟨#[69, 85, 82]⟩, .slice Ec1 nE c1, .slice Al1 nL d1, .bool false, .string ⟨#[119, 101, 115, 116]⟩, .string ⟨#[85, 83, 68]⟩, .slice Ec2 nE c2, .slice Al2 nL d2, .bool false, .string ⟨#[106, 111, 105, 110, 116]⟩, .string ⟨#[85, 83, 68]⟩, .slice Ec3 nE c3, .slice Al3 nL d3, .bool false] 92)).setCell ⟨w3.heap.size, 20, none⟩ (.slice (some ⟨v3.heap.size, 0, none⟩) 4 4) = W9 at *
 have HH9 := Lib.hid H9
 have HEE := Lib.hid HE9
 have HZZ := Lib.hid HZ9
 have g20 := blk_cell HH9.out 20
 have k19 := blk_cell HEE.out 19
 have z19 := blk_frozen HEE.out 19
 clear H9 HE9 HZ9 q20
 go_upto_region 4 with fail
 have HGA := Lib.hid ((Below.heap_setCell W9 ⟨v3.heap.size, 19, none⟩ (.bool true) w3.heap.size (Nat.ne_of_lt B3.out)).trans HH9.out)
 have HEA := Lib.hid (heap_setCell_same HEE.out 19 (.bool true))
 have HZA := Lib.hid ((Below.heap_setCell W9 ⟨v3.heap.size, 19, none⟩ (.bool true) w.heap.size (Nat.ne_of_lt (Nat.lt_trans A3.out B3.out))).trans HZZ.out)
 have HFA := Lib.hid (HF9.out.setCell (p := ⟨v3.heap.size, 19, none⟩) (fun h => Nat.lt_irrefl _ h.2.1) (.bool true))
 have HSA := Lib.hid (show (W9.setCell ⟨v3.heap.size, 19, none⟩ (.bool true)).heap.size = v3.heap.size + 1 by rw [← HS9.out]; simp)
 have HBA := Lib.hid (HB9.out.setCell (p := ⟨v3.heap.size, 19, none⟩) (Nat.le_of_lt (Nat.lt_trans A3.out B3.out)) (.bool true))
 clear g20 k19 z19
 generalize W9.setCell ⟨v3.heap.size, 19, none⟩ (.bool true) = WA at *
 go_wp2_with (first | (show wpList _ _ _ (Oper.mk (some 16) _ _ _ _ _ :: _) _ _; refine wpList_load_row_g rfl 29 (.tmp 1) rfl w3.heap.size rfl _ _ _ _ HGA.out Tryz.underlying29 rfl info_group ?_) | (show wpList _ _ _ (Oper.mk none (Op.store _ (Operand.tmp 0) _) _ _ _ _ :: _) _ _; refine wpList_store_row rfl 29 (.tmp 0) (.tmp 16) rfl w.heap.size #[.string ⟨#[69, 85, 82]⟩, .int .i64 2026, .int .i64 1, .int .i64 36, .slice Ac n cc, .int .i64 1500, .int .i64 1600, .int .i64 1700, .int .i64 1200, .int .i64 3100, .int .i64 3200, .int .i64 3300, .int .i64 3400, .int .i64 3500, .int .i64 4500, .int .i64 4600, .int .i64 4700, .int .i64 5500, .int .i64 5600, .int .i64 5700, .slice (some ⟨v3.heap.size, 0, none⟩) 4 4] rfl rfl 29 #[.string ⟨#[]⟩, .int .i64 0, .int .i64 0, .int .i64 0, .slice none 0 0, .int .i64 0, .int .i64 0, .int .i64 0, .int .i64 0, .int .i64 0, .int .i64 0, .int .i64 0, .int .i64 0, .int .i64 0, .int .i64 0, .int .i64 0, .int .i64 0, .int .i64 0, .int .i64 0, .int .i64 0, .slice none 0 0] HZA.out info_group rfl (by simp [Value.oneCell']) ?_))
 refine bodyPost_ret (v := _) (results_cell rfl _ _ w.heap.size 29 _ (0, 0) _ rfl (heap_setRow HZA.out _) Tryz.underlying29 rfl info_group) rfl ?_
 exact ⟨_, rfl, sample_fin HN.out HNE.out HNL.out HS hs2 hs3 HS4 hsv0 hsv1 hsv2 hsv3 HB hb2 hb3 HB4 hbv0 hbv1 hbv2 hbv3 HFA.out HBA.out HSA.out HEA.out HCH.out HC0.out HL0.out HC1.out HL1.out HC2.out HL2.out HC3.out HL3.out⟩
theorem sample_small : smallG sampleG := by
 refine ⟨by decide, by decide, by decide, ?_⟩
 unfold smallE
 decide
end Go.Proofs.YtekelchdbkjjjaaGreat
