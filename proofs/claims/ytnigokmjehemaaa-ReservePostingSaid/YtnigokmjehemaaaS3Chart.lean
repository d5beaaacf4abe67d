/- The sample's chart. Written by gen_s3.py. -/
import Derived.Test.YtnigokmjehemaaaProg
import Derived.Test.YtnigokmjehemaaaS2Entity
namespace Go.Proofs.Ytnigokmjehemaaa
open Go Go.RowKit
set_option linter.unusedVariables false
set_option linter.unusedSimpArgs false
set_option maxRecDepth 4000
attribute [local go_sem ↓] Go.wp_at_zero Go.wp_at_succ
theorem list_step {f : Int → XAccount} {P : List XAccount} {l : List Int} {k : Nat} {c : Int} {x : XAccount} (h : l[k]? = some c) (hx : f c = x) : (P ++ (l.take (k + 1)).map f).flatMap accL = (P ++ (l.take k).map f).flatMap accL ++ accL x := by
  rw [List.take_add_one, h, ← hx, List.map_append, ← List.append_assoc, List.flatMap_append]; simp
def rowAccs (q : Int × Int × List Int) : List XAccount := q.2.2.map (accOf q.1 q.2.1)
def preS (i : Nat) : List XAccount := (rowsS.take i).flatMap rowAccs
theorem preS_succ {i : Nat} {q : Int × Int × List Int} (h : rowsS[i]? = some q) : preS (i + 1) = preS i ++ rowAccs q := by
  unfold preS
  rw [List.take_add_one, h, List.flatMap_append]; simp
theorem chartS_bd : ∀ x ∈ chartS, accB x := by
  show ∀ x ∈ chartS, intBd x.code ∧ intBd x.kind ∧ intBd x.basis ∧ intBd x.parent
  decide +kernel
theorem accOf_a {k b c : Int} (h : c = 1010 ∨ c = 1100 ∨ c = 1200) : accOf k b c = ⟨c, k, b, 1000⟩ := by unfold accOf; rw [if_pos h]
theorem accOf_b {k b c : Int} (h1 : ¬ (c = 1010 ∨ c = 1100 ∨ c = 1200)) (h : c = 2100 ∨ c = 4100) : accOf k b c = ⟨c, k, b, c - 100⟩ := by unfold accOf; rw [if_neg h1, if_pos h]
theorem accOf_c {k b c : Int} (h1 : ¬ (c = 1010 ∨ c = 1100 ∨ c = 1200)) (h : ¬ (c = 2100 ∨ c = 4100)) : accOf k b c = ⟨c, k, b, 0⟩ := by unfold accOf; rw [if_neg h1, if_neg h]
set_option maxHeartbeats 4000000 in
theorem sChart_c (w : World) : Calls Try.prog 115 #[] w (fun e w' => ∃ v, e = .returned v ∧ ListC AccountC 4 w' (fun k => w.heap.size ≤ k ∧ k < w'.heap.size) [v] chartS ∧ Below w.heap.size w w') := by
  obtain ⟨ia, hia, hzia, hsia, hbia⟩ := info_parts info_accA
  go_enter Try.func115, Try.ntmps115
  go_upto_region 2 with fail
  have HC0 := heap_alloc_new w (.cells #[.int .i64 1000, .int .i64 1010, .int .i64 1100, .int .i64 1200] 3)
  have eb0 := below1 w (.cells #[.int .i64 1000, .int .i64 1010, .int .i64 1100, .int .i64 1200] 3)
  have ez0 : (w.alloc (.cells #[.int .i64 1000, .int .i64 1010, .int .i64 1100, .int .i64 1200] 3)).heap.size = w.heap.size + 1 := by simp
  generalize w.alloc (Obj.cells #[.int .i64 1000, .int .i64 1010, .int .i64 1100, .int .i64 1200] 3) = W1 at *
  have HC1 := heap_alloc_new W1 (.cells #[.int .i64 1300, .int .i64 1500, .int .i64 1600, .int .i64 1700] 3)
  have eb1 := below1 W1 (.cells #[.int .i64 1300, .int .i64 1500, .int .i64 1600, .int .i64 1700] 3)
  have ez1 : (W1.alloc (.cells #[.int .i64 1300, .int .i64 1500, .int .i64 1600, .int .i64 1700] 3)).heap.size = W1.heap.size + 1 := by simp
  replace HC0 := alloc_keep HC0 (Obj.cells #[.int .i64 1300, .int .i64 1500, .int .i64 1600, .int .i64 1700] 3)
  generalize W1.alloc (Obj.cells #[.int .i64 1300, .int .i64 1500, .int .i64 1600, .int .i64 1700] 3) = W2 at *
  rw [ez0] at HC1
  have HC2 := heap_alloc_new W2 (.cells #[.int .i64 2000, .int .i64 2100] 3)
  have eb2 := below1 W2 (.cells #[.int .i64 2000, .int .i64 2100] 3)
  have ez2 : (W2.alloc (.cells #[.int .i64 2000, .int .i64 2100] 3)).heap.size = W2.heap.size + 1 := by simp
  replace HC0 := alloc_keep HC0 (Obj.cells #[.int .i64 2000, .int .i64 2100] 3)
  replace HC1 := alloc_keep HC1 (Obj.cells #[.int .i64 2000, .int .i64 2100] 3)
  generalize W2.alloc (Obj.cells #[.int .i64 2000, .int .i64 2100] 3) = W3 at *
  rw [ez1, ez0] at HC2
  have HC3 := heap_alloc_new W3 (.cells #[.int .i64 3000, .int .i64 3100, .int .i64 3200, .int .i64 3300, .int .i64 3400, .int .i64 3500] 3)
  have eb3 := below1 W3 (.cells #[.int .i64 3000, .int .i64 3100, .int .i64 3200, .int .i64 3300, .int .i64 3400, .int .i64 3500] 3)
  have ez3 : (W3.alloc (.cells #[.int .i64 3000, .int .i64 3100, .int .i64 3200, .int .i64 3300, .int .i64 3400, .int .i64 3500] 3)).heap.size = W3.heap.size + 1 := by simp
  replace HC0 := alloc_keep HC0 (Obj.cells #[.int .i64 3000, .int .i64 3100, .int .i64 3200, .int .i64 3300, .int .i64 3400, .int .i64 3500] 3)
  replace HC1 := alloc_keep HC1 (Obj.cells #[.int .i64 3000, .int .i64 3100, .int .i64 3200, .int .i64 3300, .int .i64 3400, .int .i64 3500] 3)
  replace HC2 := alloc_keep HC2 (Obj.cells #[.int .i64 3000, .int .i64 3100, .int .i64 3200, .int .i64 3300, .int .i64 3400, .int .i64 3500] 3)
  generalize W3.alloc (Obj.cells #[.int .i64 3000, .int .i64 3100, .int .i64 3200, .int .i64 3300, .int .i64 3400, .int .i64 3500] 3) = W4 at *
  rw [ez2, ez1, ez0] at HC3
  have HC4 := heap_alloc_new W4 (.cells #[.int .i64 4000, .int .i64 4100, .int .i64 4500, .int .i64 4600, .int .i64 4700] 3)
  have eb4 := below1 W4 (.cells #[.int .i64 4000, .int .i64 4100, .int .i64 4500, .int .i64 4600, .int .i64 4700] 3)
  have ez4 : (W4.alloc (.cells #[.int .i64 4000, .int .i64 4100, .int .i64 4500, .int .i64 4600, .int .i64 4700] 3)).heap.size = W4.heap.size + 1 := by simp
  replace HC0 := alloc_keep HC0 (Obj.cells #[.int .i64 4000, .int .i64 4100, .int .i64 4500, .int .i64 4600, .int .i64 4700] 3)
  replace HC1 := alloc_keep HC1 (Obj.cells #[.int .i64 4000, .int .i64 4100, .int .i64 4500, .int .i64 4600, .int .i64 4700] 3)
  replace HC2 := alloc_keep HC2 (Obj.cells #[.int .i64 4000, .int .i64 4100, .int .i64 4500, .int .i64 4600, .int .i64 4700] 3)
  replace HC3 := alloc_keep HC3 (Obj.cells #[.int .i64 4000, .int .i64 4100, .int .i64 4500, .int .i64 4600, .int .i64 4700] 3)
  generalize W4.alloc (Obj.cells #[.int .i64 4000, .int .i64 4100, .int .i64 4500, .int .i64 4600, .int .i64 4700] 3) = W5 at *
  rw [ez3, ez2, ez1, ez0] at HC4
  have HC5 := heap_alloc_new W5 (.cells #[.int .i64 5000, .int .i64 5100, .int .i64 5500, .int .i64 5600, .int .i64 5700] 3)
  have eb5 := below1 W5 (.cells #[.int .i64 5000, .int .i64 5100, .int .i64 5500, .int .i64 5600, .int .i64 5700] 3)
  have ez5 : (W5.alloc (.cells #[.int .i64 5000, .int .i64 5100, .int .i64 5500, .int .i64 5600, .int .i64 5700] 3)).heap.size = W5.heap.size + 1 := by simp
  replace HC0 := alloc_keep HC0 (Obj.cells #[.int .i64 5000, .int .i64 5100, .int .i64 5500, .int .i64 5600, .int .i64 5700] 3)
  replace HC1 := alloc_keep HC1 (Obj.cells #[.int .i64 5000, .int .i64 5100, .int .i64 5500, .int .i64 5600, .int .i64 5700] 3)
  replace HC2 := alloc_keep HC2 (Obj.cells #[.int .i64 5000, .int .i64 5100, .int .i64 5500, .int .i64 5600, .int .i64 5700] 3)
  replace HC3 := alloc_keep HC3 (Obj.cells #[.int .i64 5000, .int .i64 5100, .int .i64 5500, .int .i64 5600, .int .i64 5700] 3)
  replace HC4 := alloc_keep HC4 (Obj.cells #[.int .i64 5000, .int .i64 5100, .int .i64 5500, .int .i64 5600, .int .i64 5700] 3)
  generalize W5.alloc (Obj.cells #[.int .i64 5000, .int .i64 5100, .int .i64 5500, .int .i64 5600, .int .i64 5700] 3) = W6 at *
  rw [ez4, ez3, ez2, ez1, ez0] at HC5
  have HC6 := heap_alloc_new W6 (.cells #[.int .i64 1, .int .i64 1, .slice (some ⟨w.heap.size, 0, none⟩) 4 4, .int .i64 1, .int .i64 3, .slice (some ⟨w.heap.size + 1, 0, none⟩) 4 4, .int .i64 2, .int .i64 1, .slice (some ⟨w.heap.size + 1 + 1, 0, none⟩) 2 2, .int .i64 3, .int .i64 3, .slice (some ⟨w.heap.size + 1 + 1 + 1, 0, none⟩) 6 6, .int .i64 4, .int .i64 2, .slice (some ⟨w.heap.size + 1 + 1 + 1 + 1, 0, none⟩) 5 5, .int .i64 5, .int .i64 2, .slice (some ⟨w.heap.size + 1 + 1 + 1 + 1 + 1, 0, none⟩) 5 5] 201)
  have eb6 := below1 W6 (.cells #[.int .i64 1, .int .i64 1, .slice (some ⟨w.heap.size, 0, none⟩) 4 4, .int .i64 1, .int .i64 3, .slice (some ⟨w.heap.size + 1, 0, none⟩) 4 4, .int .i64 2, .int .i64 1, .slice (some ⟨w.heap.size + 1 + 1, 0, none⟩) 2 2, .int .i64 3, .int .i64 3, .slice (some ⟨w.heap.size + 1 + 1 + 1, 0, none⟩) 6 6, .int .i64 4, .int .i64 2, .slice (some ⟨w.heap.size + 1 + 1 + 1 + 1, 0, none⟩) 5 5, .int .i64 5, .int .i64 2, .slice (some ⟨w.heap.size + 1 + 1 + 1 + 1 + 1, 0, none⟩) 5 5] 201)
  have ez6 : (W6.alloc (.cells #[.int .i64 1, .int .i64 1, .slice (some ⟨w.heap.size, 0, none⟩) 4 4, .int .i64 1, .int .i64 3, .slice (some ⟨w.heap.size + 1, 0, none⟩) 4 4, .int .i64 2, .int .i64 1, .slice (some ⟨w.heap.size + 1 + 1, 0, none⟩) 2 2, .int .i64 3, .int .i64 3, .slice (some ⟨w.heap.size + 1 + 1 + 1, 0, none⟩) 6 6, .int .i64 4, .int .i64 2, .slice (some ⟨w.heap.size + 1 + 1 + 1 + 1, 0, none⟩) 5 5, .int .i64 5, .int .i64 2, .slice (some ⟨w.heap.size + 1 + 1 + 1 + 1 + 1, 0, none⟩) 5 5] 201)).heap.size = W6.heap.size + 1 := by simp
  replace HC0 := alloc_keep HC0 (Obj.cells #[.int .i64 1, .int .i64 1, .slice (some ⟨w.heap.size, 0, none⟩) 4 4, .int .i64 1, .int .i64 3, .slice (some ⟨w.heap.size + 1, 0, none⟩) 4 4, .int .i64 2, .int .i64 1, .slice (some ⟨w.heap.size + 1 + 1, 0, none⟩) 2 2, .int .i64 3, .int .i64 3, .slice (some ⟨w.heap.size + 1 + 1 + 1, 0, none⟩) 6 6, .int .i64 4, .int .i64 2, .slice (some ⟨w.heap.size + 1 + 1 + 1 + 1, 0, none⟩) 5 5, .int .i64 5, .int .i64 2, .slice (some ⟨w.heap.size + 1 + 1 + 1 + 1 + 1, 0, none⟩) 5 5] 201)
  replace HC1 := alloc_keep HC1 (Obj.cells #[.int .i64 1, .int .i64 1, .slice (some ⟨w.heap.size, 0, none⟩) 4 4, .int .i64 1, .int .i64 3, .slice (some ⟨w.heap.size + 1, 0, none⟩) 4 4, .int .i64 2, .int .i64 1, .slice (some ⟨w.heap.size + 1 + 1, 0, none⟩) 2 2, .int .i64 3, .int .i64 3, .slice (some ⟨w.heap.size + 1 + 1 + 1, 0, none⟩) 6 6, .int .i64 4, .int .i64 2, .slice (some ⟨w.heap.size + 1 + 1 + 1 + 1, 0, none⟩) 5 5, .int .i64 5, .int .i64 2, .slice (some ⟨w.heap.size + 1 + 1 + 1 + 1 + 1, 0, none⟩) 5 5] 201)
  replace HC2 := alloc_keep HC2 (Obj.cells #[.int .i64 1, .int .i64 1, .slice (some ⟨w.heap.size, 0, none⟩) 4 4, .int .i64 1, .int .i64 3, .slice (some ⟨w.heap.size + 1, 0, none⟩) 4 4, .int .i64 2, .int .i64 1, .slice (some ⟨w.heap.size + 1 + 1, 0, none⟩) 2 2, .int .i64 3, .int .i64 3, .slice (some ⟨w.heap.size + 1 + 1 + 1, 0, none⟩) 6 6, .int .i64 4, .int .i64 2, .slice (some ⟨w.heap.size + 1 + 1 + 1 + 1, 0, none⟩) 5 5, .int .i64 5, .int .i64 2, .slice (some ⟨w.heap.size + 1 + 1 + 1 + 1 + 1, 0, none⟩) 5 5] 201)
  replace HC3 := alloc_keep HC3 (Obj.cells #[.int .i64 1, .int .i64 1, .slice (some ⟨w.heap.size, 0, none⟩) 4 4, .int .i64 1, .int .i64 3, .slice (some ⟨w.heap.size + 1, 0, none⟩) 4 4, .int .i64 2, .int .i64 1, .slice (some ⟨w.heap.size + 1 + 1, 0, none⟩) 2 2, .int .i64 3, .int .i64 3, .slice (some ⟨w.heap.size + 1 + 1 + 1, 0, none⟩) 6 6, .int .i64 4, .int .i64 2, .slice (some ⟨w.heap.size + 1 + 1 + 1 + 1, 0, none⟩) 5 5, .int .i64 5, .int .i64 2, .slice (some ⟨w.heap.size + 1 + 1 + 1 + 1 + 1, 0, none⟩) 5 5] 201)
  replace HC4 := alloc_keep HC4 (Obj.cells #[.int .i64 1, .int .i64 1, .slice (some ⟨w.heap.size, 0, none⟩) 4 4, .int .i64 1, .int .i64 3, .slice (some ⟨w.heap.size + 1, 0, none⟩) 4 4, .int .i64 2, .int .i64 1, .slice (some ⟨w.heap.size + 1 + 1, 0, none⟩) 2 2, .int .i64 3, .int .i64 3, .slice (some ⟨w.heap.size + 1 + 1 + 1, 0, none⟩) 6 6, .int .i64 4, .int .i64 2, .slice (some ⟨w.heap.size + 1 + 1 + 1 + 1, 0, none⟩) 5 5, .int .i64 5, .int .i64 2, .slice (some ⟨w.heap.size + 1 + 1 + 1 + 1 + 1, 0, none⟩) 5 5] 201)
  replace HC5 := alloc_keep HC5 (Obj.cells #[.int .i64 1, .int .i64 1, .slice (some ⟨w.heap.size, 0, none⟩) 4 4, .int .i64 1, .int .i64 3, .slice (some ⟨w.heap.size + 1, 0, none⟩) 4 4, .int .i64 2, .int .i64 1, .slice (some ⟨w.heap.size + 1 + 1, 0, none⟩) 2 2, .int .i64 3, .int .i64 3, .slice (some ⟨w.heap.size + 1 + 1 + 1, 0, none⟩) 6 6, .int .i64 4, .int .i64 2, .slice (some ⟨w.heap.size + 1 + 1 + 1 + 1, 0, none⟩) 5 5, .int .i64 5, .int .i64 2, .slice (some ⟨w.heap.size + 1 + 1 + 1 + 1 + 1, 0, none⟩) 5 5] 201)
  generalize W6.alloc (Obj.cells #[.int .i64 1, .int .i64 1, .slice (some ⟨w.heap.size, 0, none⟩) 4 4, .int .i64 1, .int .i64 3, .slice (some ⟨w.heap.size + 1, 0, none⟩) 4 4, .int .i64 2, .int .i64 1, .slice (some ⟨w.heap.size + 1 + 1, 0, none⟩) 2 2, .int .i64 3, .int .i64 3, .slice (some ⟨w.heap.size + 1 + 1 + 1, 0, none⟩) 6 6, .int .i64 4, .int .i64 2, .slice (some ⟨w.heap.size + 1 + 1 + 1 + 1, 0, none⟩) 5 5, .int .i64 5, .int .i64 2, .slice (some ⟨w.heap.size + 1 + 1 + 1 + 1 + 1, 0, none⟩) 5 5] 201) = W at *
  rw [ez5, ez4, ez3, ez2, ez1, ez0] at HC6
  have hbW : Below w.heap.size w W := eb0.trans ((eb1.mono (by omega)).trans ((eb2.mono (by omega)).trans ((eb3.mono (by omega)).trans ((eb4.mono (by omega)).trans ((eb5.mono (by omega)).trans (eb6.mono (by omega)))))))
  have hzW : W.heap.size = w.heap.size + 7 := by omega
  have hrow : ∀ i : Nat, i < 6 → ∃ (q : Int × Int × List Int) (nn : Nat), rowsS[i]? = some q ∧ q.2.2.length = nn ∧ nn ≤ 6 ∧ W.cell? ⟨w.heap.size + 1 + 1 + 1 + 1 + 1 + 1, i * 3, none⟩ = some (.int .i64 q.1) ∧ W.cell? ⟨w.heap.size + 1 + 1 + 1 + 1 + 1 + 1, i * 3 + 1, none⟩ = some (.int .i64 q.2.1) ∧ W.cell? ⟨w.heap.size + 1 + 1 + 1 + 1 + 1 + 1, i * 3 + 2, none⟩ = some (.slice (some ⟨w.heap.size + i, 0, none⟩) nn nn) ∧ W.heap[w.heap.size + i]? = some (.cells (iv q.2.2).toArray 3 (0, 0)) := by
    intro i hi
    rcases i with _ | _ | _ | _ | _ | _ | i
    · exact ⟨_, _, rfl, rfl, by decide, blk_cell HC6 0, blk_cell HC6 1, blk_cell HC6 2, HC0⟩
    · exact ⟨_, _, rfl, rfl, by decide, blk_cell HC6 3, blk_cell HC6 4, blk_cell HC6 5, HC1⟩
    · exact ⟨_, _, rfl, rfl, by decide, blk_cell HC6 6, blk_cell HC6 7, blk_cell HC6 8, HC2⟩
    · exact ⟨_, _, rfl, rfl, by decide, blk_cell HC6 9, blk_cell HC6 10, blk_cell HC6 11, HC3⟩
    · exact ⟨_, _, rfl, rfl, by decide, blk_cell HC6 12, blk_cell HC6 13, blk_cell HC6 14, HC4⟩
    · exact ⟨_, _, rfl, rfl, by decide, blk_cell HC6 15, blk_cell HC6 16, blk_cell HC6 17, HC5⟩
    · omega
  have HROW := Lib.hid hrow
  have HZW := Lib.hid hzW
  clear hrow hzW HC0 HC1 HC2 HC3 HC4 HC5 HC6 ez0 eb0 ez1 eb1 ez2 eb2 ez3 eb3 ez4 eb4 ez5 eb5 ez6 eb6
  obtain ⟨rb, hrb⟩ : ∃ rb, w.heap.size + 1 + 1 + 1 + 1 + 1 + 1 = rb := ⟨_, rfl⟩
  rw [hrb] at HROW ⊢
  have HRB := Lib.hid hrb
  clear hrb
  go_wp2_with fail
  go_loopw [2, 3] (fun v i wr => ∃ j : Nat, j ≤ 6 ∧ i = .int .i64 (j : Int) ∧ Below W.heap.size W wr ∧ wr.ownsRow W.heap.size 157 4 v (preS j).length ((preS j).flatMap accL) ∧ (preS j).length ≤ 6 * j) (fun _ i _ => 6 - (intOf i).toNat)
  case atStart => exact ⟨0, by omega, rfl, Below.refl _ _, World.ownsRow_nil _ _ _ _, Nat.le_refl _⟩
  case round =>
    obtain ⟨j, hj, rfl, hb, hown, hlen⟩ := hrel
    have HOV := Lib.hid hown
    have hszr := hb.size
    clear hown
    by_cases hlt : j < 6
    case pos =>
      have hltI : (j : Int) < 6 := by omega
      obtain ⟨q, nn, hq, hnn, hnn6, m0, m1, m2, hcb⟩ := HROW.out j hlt
      obtain ⟨kd, bs, cds⟩ := q
      simp only at hnn m0 m1 hcb
      have hcbL := blk_lt hcb
      obtain ⟨cb, hcbe⟩ : ∃ cb, w.heap.size + j = cb := ⟨_, rfl⟩
      rw [hcbe] at m2 hcb hcbL
      have HQ := Lib.hid hq
      have HNN := Lib.hid hnn
      have X0 := Lib.hid m0
      have X1 := Lib.hid m1
      have X2 := Lib.hid m2
      have XC := Lib.hid hcb
      have LB := Lib.hid (show rb < W.heap.size by rw [← HRB.out]; have := HZW.out; omega)
      obtain ⟨N, hN⟩ : ∃ N, (preS j).length = N := ⟨_, rfl⟩
      rw [hN] at hlen
      have HNL := Lib.hid hN
      clear hq hnn m0 m1 hcb m2 hcbe hN
      go_wp2_with fail
      go_loopw [2, 4] (fun v i wi => ∃ k : Nat, k ≤ nn ∧ i = .int .i64 (k : Int) ∧ Below W.heap.size W wi ∧ wi.ownsRow W.heap.size 157 4 v (N + k) ((preS j ++ (cds.take k).map (accOf kd bs)).flatMap accL)) (fun _ i _ => nn - (intOf i).toNat)
      case atStart => exact ⟨0, by omega, rfl, hb, by rw [← HNL.out]; simpa using HOV.out⟩
      case round =>
        obtain ⟨k, hk, rfl, hbi, hown⟩ := hrel
        have HOW0 := Lib.hid hown
        have hsi := hbi.size
        have hnnI : nn ≤ 6 := hnn6
        clear hown
        by_cases hlt2 : k < nn
        case pos =>
          have hltI2 : (k : Int) < (nn : Int) := by omega
          have hkl : k < cds.length := by have := HNN.out; omega
          obtain ⟨cd, hcd⟩ : ∃ cd, cds[k] = cd := ⟨_, rfl⟩
          have HCD := Lib.hid (show cds[k]? = some cd by rw [List.getElem?_eq_getElem hkl, hcd])
          have LRB := Lib.hid (show rb < wr.heap.size by have := LB.out; omega)
          have LCB := Lib.hid (show cb < wr.heap.size by omega)
          have M0 := Lib.hid ((hbi.cell (p := ⟨rb, j * 3, none⟩) LB.out).trans X0.out)
          have M1 := Lib.hid ((hbi.cell (p := ⟨rb, j * 3 + 1, none⟩) LB.out).trans X1.out)
          have m2 := (hbi.cell (p := ⟨rb, j * 3 + 2, none⟩) LB.out).trans X2.out
          have M2 := Lib.hid m2
          have MC := Lib.hid (show wr.cell? ⟨cb, k, none⟩ = some (.int .i64 cd) from (hbi.cell (p := ⟨cb, k, none⟩) hcbL).trans ((blk_cell XC.out k).trans (by simpa using iv_get HCD.out)))
          obtain ⟨ROWL, hROWL⟩ : ∃ r, (preS j ++ (cds.take k).map (accOf kd bs)).flatMap accL = r := ⟨_, rfl⟩
          obtain ⟨NK, hNK⟩ : ∃ r, N + k = r := ⟨_, rfl⟩
          have hNKb : NK ≤ 100 := by omega
          have HROWL := Lib.hid hROWL
          have HNK := Lib.hid hNK
          have HOW := Lib.hid (show wr.ownsRow W.heap.size 157 4 u2 NK ROWL by rw [← hNK, ← hROWL]; exact HOW0.out)
          clear hcd hROWL hNK HOW0
          go_upto_region 9 with fail
          refine wp_region_inv3 20 (Ks wr [.val (.slice (some ⟨rb, 0, none⟩) 6 6), .val (.int .i64 (j : Int)), .val (.pointer (some ⟨rb, j * 3, none⟩)), .val (.pointer (some ⟨rb, j * 3 + 2, none⟩)), .val (.slice (some ⟨cb, 0, none⟩) nn nn), .val (.int .i64 (k : Int)), .val (.pointer (some ⟨cb, k, none⟩)), .val (.int .i64 cd), .val (.slice (some ⟨rb, 0, none⟩) 6 6), .val (.int .i64 (j : Int)), .val (.pointer (some ⟨rb, j * 3, none⟩)), .val (.pointer (some ⟨rb, j * 3, none⟩)), .val (.int .i64 kd), .val (.slice (some ⟨rb, 0, none⟩) 6 6), .val (.int .i64 (j : Int)), .val (.pointer (some ⟨rb, j * 3, none⟩)), .val (.pointer (some ⟨rb, j * 3 + 1, none⟩)), .val (.int .i64 bs), .val (.agg #[.int .i64 cd, .int .i64 kd, .int .i64 bs, .int .i64 0]), .own (IsNew wr #[.int .i64 0, .int .i64 0, .int .i64 0, .int .i64 0] 157) (IsNew.keep _ _ _)])
            (fun w' => Below wr.heap.size wr w') (by kernel_rfl) (by kernel_rfl) (by kernel_rfl) (by decide) (by kernel_rfl) (by kernel_rfl) (by kernel_rfl) (Below.refl _ _).drew ?_ ?_
          · refine ⟨?_, ?_, ?_, ?_, ?_, ?_, ?_, ?_, ?_, ?_, ?_, ?_, ?_, ?_, ?_, ?_, ?_, ?_, ?_, ?_, trivial⟩
            · intro listed A0 w2 hI hd hnd K hK
              have e0 := hI.slot hnd 1 _ rfl (by kernel_rfl)
              have hS := hI.world
              refine wanted_go rfl ?_
              clear hI hd hnd
              go_simp
              exact hK.out _ _ hS (Ks.of rfl rfl) (fun _ _ h => h)
            · intro listed A0 w2 hI hd hnd K hK
              have e0 := hI.slot hnd 3 _ rfl (by kernel_rfl)
              have hS := hI.world
              refine wanted_go rfl ?_
              clear hI hd hnd
              go_simp
              exact hK.out _ _ hS (Ks.of rfl rfl) (fun _ _ h => h)
            · intro listed A0 w2 hI hd hnd K hK
              have e0 := hI.depv hd 0 35 _ rfl rfl rfl (by kernel_rfl)
              have e1 := hI.depv hd 1 36 _ rfl rfl rfl (by kernel_rfl)
              have hS := hI.world
              refine wanted_go rfl ?_
              clear hI hd hnd
              go_simp
              exact hK.out _ _ hS (Ks.of rfl rfl) (fun _ _ h => h)
            · intro listed A0 w2 hI hd hnd K hK
              have e0 := hI.depv hd 2 37 _ rfl rfl rfl (by kernel_rfl)
              have hS := hI.world
              refine wanted_go rfl ?_
              clear hI hd hnd
              go_simp
              exact hK.out _ _ hS (Ks.of rfl rfl) (fun _ _ h => h)
            · intro listed A0 w2 hI hd hnd K hK
              have e0 := hI.depv hd 3 38 _ rfl rfl rfl (by kernel_rfl)
              have hS := hI.world
              have hcc : w2.cell? ⟨rb, j * 3 + 2, none⟩ = _ := (hS.cell (p := ⟨rb, j * 3 + 2, none⟩) LRB.out).trans M2.out
              refine wanted_go rfl ?_
              clear hI hd hnd
              go_simp
              exact hK.out _ _ hS (Ks.of rfl rfl) (fun _ _ h => h)
            · intro listed A0 w2 hI hd hnd K hK
              have e0 := hI.slot hnd 4 _ rfl (by kernel_rfl)
              have hS := hI.world
              refine wanted_go rfl ?_
              clear hI hd hnd
              go_simp
              exact hK.out _ _ hS (Ks.of rfl rfl) (fun _ _ h => h)
            · intro listed A0 w2 hI hd hnd K hK
              have e0 := hI.depv hd 4 39 _ rfl rfl rfl (by kernel_rfl)
              have e1 := hI.depv hd 5 40 _ rfl rfl rfl (by kernel_rfl)
              have hS := hI.world
              refine wanted_go rfl ?_
              clear hI hd hnd
              go_simp
              exact hK.out _ _ hS (Ks.of rfl rfl) (fun _ _ h => h)
            · intro listed A0 w2 hI hd hnd K hK
              have e0 := hI.depv hd 6 41 _ rfl rfl rfl (by kernel_rfl)
              have hS := hI.world
              have hcc : w2.cell? ⟨cb, k, none⟩ = _ := (hS.cell (p := ⟨cb, k, none⟩) LCB.out).trans MC.out
              refine wanted_go rfl ?_
              clear hI hd hnd
              go_simp
              exact hK.out _ _ hS (Ks.of rfl rfl) (fun _ _ h => h)
            · intro listed A0 w2 hI hd hnd K hK
              have e0 := hI.slot hnd 1 _ rfl (by kernel_rfl)
              have hS := hI.world
              refine wanted_go rfl ?_
              clear hI hd hnd
              go_simp
              exact hK.out _ _ hS (Ks.of rfl rfl) (fun _ _ h => h)
            · intro listed A0 w2 hI hd hnd K hK
              have e0 := hI.slot hnd 3 _ rfl (by kernel_rfl)
              have hS := hI.world
              refine wanted_go rfl ?_
              clear hI hd hnd
              go_simp
              exact hK.out _ _ hS (Ks.of rfl rfl) (fun _ _ h => h)
            · intro listed A0 w2 hI hd hnd K hK
              have e0 := hI.depv hd 8 43 _ rfl rfl rfl (by kernel_rfl)
              have e1 := hI.depv hd 9 44 _ rfl rfl rfl (by kernel_rfl)
              have hS := hI.world
              refine wanted_go rfl ?_
              clear hI hd hnd
              go_simp
              exact hK.out _ _ hS (Ks.of rfl rfl) (fun _ _ h => h)
            · intro listed A0 w2 hI hd hnd K hK
              have e0 := hI.depv hd 10 45 _ rfl rfl rfl (by kernel_rfl)
              have hS := hI.world
              refine wanted_go rfl ?_
              clear hI hd hnd
              go_simp
              exact hK.out _ _ hS (Ks.of rfl rfl) (fun _ _ h => h)
            · intro listed A0 w2 hI hd hnd K hK
              have e0 := hI.depv hd 11 46 _ rfl rfl rfl (by kernel_rfl)
              have hS := hI.world
              have hcc : w2.cell? ⟨rb, j * 3, none⟩ = _ := (hS.cell (p := ⟨rb, j * 3, none⟩) LRB.out).trans M0.out
              refine wanted_go rfl ?_
              clear hI hd hnd
              go_simp
              exact hK.out _ _ hS (Ks.of rfl rfl) (fun _ _ h => h)
            · intro listed A0 w2 hI hd hnd K hK
              have e0 := hI.slot hnd 1 _ rfl (by kernel_rfl)
              have hS := hI.world
              refine wanted_go rfl ?_
              clear hI hd hnd
              go_simp
              exact hK.out _ _ hS (Ks.of rfl rfl) (fun _ _ h => h)
            · intro listed A0 w2 hI hd hnd K hK
              have e0 := hI.slot hnd 3 _ rfl (by kernel_rfl)
              have hS := hI.world
              refine wanted_go rfl ?_
              clear hI hd hnd
              go_simp
              exact hK.out _ _ hS (Ks.of rfl rfl) (fun _ _ h => h)
            · intro listed A0 w2 hI hd hnd K hK
              have e0 := hI.depv hd 13 48 _ rfl rfl rfl (by kernel_rfl)
              have e1 := hI.depv hd 14 49 _ rfl rfl rfl (by kernel_rfl)
              have hS := hI.world
              refine wanted_go rfl ?_
              clear hI hd hnd
              go_simp
              exact hK.out _ _ hS (Ks.of rfl rfl) (fun _ _ h => h)
            · intro listed A0 w2 hI hd hnd K hK
              have e0 := hI.depv hd 15 50 _ rfl rfl rfl (by kernel_rfl)
              have hS := hI.world
              refine wanted_go rfl ?_
              clear hI hd hnd
              go_simp
              exact hK.out _ _ hS (Ks.of rfl rfl) (fun _ _ h => h)
            · intro listed A0 w2 hI hd hnd K hK
              have e0 := hI.depv hd 16 51 _ rfl rfl rfl (by kernel_rfl)
              have hS := hI.world
              have hcc : w2.cell? ⟨rb, j * 3 + 1, none⟩ = _ := (hS.cell (p := ⟨rb, j * 3 + 1, none⟩) LRB.out).trans M1.out
              refine wanted_go rfl ?_
              clear hI hd hnd
              go_simp
              exact hK.out _ _ hS (Ks.of rfl rfl) (fun _ _ h => h)
            · intro listed A0 w2 hI hd hnd K hK
              have e0 := hI.depv hd 7 42 _ rfl rfl rfl (by kernel_rfl)
              have e1 := hI.depv hd 12 47 _ rfl rfl rfl (by kernel_rfl)
              have e2 := hI.depv hd 17 52 _ rfl rfl rfl (by kernel_rfl)
              have hS := hI.world
              refine wanted_go rfl ?_
              clear hI hd hnd
              go_simp
              exact hK.out _ _ hS (Ks.of rfl rfl) (fun _ _ h => h)
            · intro listed A0 w2 hI hd hnd K hK
              have hS := hI.world
              refine wanted_go rfl ?_
              clear hI hd hnd
              go_simp
              exact hK.out _ _ (hS.alloc hS.size _) (Ks.of rfl (IsNew.made hS.size _ _)) (Ks.keep (below1 w2 _))
          · intro A0 w2 hI
            obtain ⟨x0, g0, h0⟩ := hI.got 0 _ 35 rfl rfl rfl
            obtain ⟨x1, g1, h1⟩ := hI.got 1 _ 36 rfl rfl rfl
            obtain ⟨x2, g2, h2⟩ := hI.got 2 _ 37 rfl rfl rfl
            obtain ⟨x3, g3, h3⟩ := hI.got 3 _ 38 rfl rfl rfl
            obtain ⟨x4, g4, h4⟩ := hI.got 4 _ 39 rfl rfl rfl
            obtain ⟨x5, g5, h5⟩ := hI.got 5 _ 40 rfl rfl rfl
            obtain ⟨x6, g6, h6⟩ := hI.got 6 _ 41 rfl rfl rfl
            obtain ⟨x7, g7, h7⟩ := hI.got 7 _ 42 rfl rfl rfl
            obtain ⟨x8, g8, h8⟩ := hI.got 8 _ 43 rfl rfl rfl
            obtain ⟨x9, g9, h9⟩ := hI.got 9 _ 44 rfl rfl rfl
            obtain ⟨x10, g10, h10⟩ := hI.got 10 _ 45 rfl rfl rfl
            obtain ⟨x11, g11, h11⟩ := hI.got 11 _ 46 rfl rfl rfl
            obtain ⟨x12, g12, h12⟩ := hI.got 12 _ 47 rfl rfl rfl
            obtain ⟨x13, g13, h13⟩ := hI.got 13 _ 48 rfl rfl rfl
            obtain ⟨x14, g14, h14⟩ := hI.got 14 _ 49 rfl rfl rfl
            obtain ⟨x15, g15, h15⟩ := hI.got 15 _ 50 rfl rfl rfl
            obtain ⟨x16, g16, h16⟩ := hI.got 16 _ 51 rfl rfl rfl
            obtain ⟨x17, g17, h17⟩ := hI.got 17 _ 52 rfl rfl rfl
            obtain ⟨x18, g18, h18⟩ := hI.got 18 _ 53 rfl rfl rfl
            obtain ⟨x19, g19, h19⟩ := hI.got 19 _ 5 rfl rfl rfl
            have hS := hI.world
            have hA : A0 = _ := hI.tmps [(35, x0), (36, x1), (37, x2), (38, x3), (39, x4), (40, x5), (41, x6), (42, x7), (43, x8), (44, x9), (45, x10), (46, x11), (47, x12), (48, x13), (49, x14), (50, x15), (51, x16), (52, x17), (53, x18), (5, x19)] (by simp only [List.mem_cons, List.not_mem_nil, or_false, forall_eq_or_imp, forall_eq]; exact ⟨g0, g1, g2, g3, g4, g5, g6, g7, g8, g9, g10, g11, g12, g13, g14, g15, g16, g17, g18, g19⟩) (by kernel_rfl)
            obtain rfl : x18 = .agg #[.int .i64 cd, .int .i64 kd, .int .i64 bs, .int .i64 0] := h18 _ rfl
            have k19 : (IsNew wr #[.int .i64 0, .int .i64 0, .int .i64 0, .int .i64 0] 157) x19 w2 := h19 _ rfl
            clear h0 g0 h1 g1 h2 g2 h3 g3 h4 g4 h5 g5 h6 g6 h7 g7 h8 g8 h9 g9 h10 g10 h11 g11 h12 g12 h13 g13 h14 g14 h15 g15 h16 g16 h17 g17 h18 g18 h19 g19 hI
            simp only [setAll, List.foldl, List.setIfInBounds_toArray, List.set_cons_zero, List.set_cons_succ] at hA
            rw [hA]
            clear hA
            simp only [List.drop_succ_cons, List.drop_zero]
            obtain ⟨g, rfl, hg1, hg2⟩ := k19
            have HG2 := Lib.hid hg2
            clear m2
            go_upto_region 10 with (show wpList _ _ _ (Oper.mk none (Op.store _ (Operand.tmp 5) _) _ _ _ _ :: _) _ _; refine wpList_store_row rfl 157 (.tmp 5) (.tmp 53) rfl g #[.int .i64 cd, .int .i64 kd, .int .i64 bs, .int .i64 0] rfl rfl 157 #[.int .i64 0, .int .i64 0, .int .i64 0, .int .i64 0] HG2.out (info_accS ⟨cd, kd, bs, 0⟩) rfl (by simp [Value.oneCell']) ?_)
            have H5 := heap_setRow HG2.out #[.int .i64 cd, .int .i64 kd, .int .i64 bs, .int .i64 0]
            have HB5 := below_setRow hS hg1 #[.int .i64 cd, .int .i64 kd, .int .i64 bs, .int .i64 0]
            have hs5 := hS.size
            generalize w2.setRow g #[.int .i64 cd, .int .i64 kd, .int .i64 bs, .int .i64 0] = W5 at *
            clear hg2 hS
            have c0 := blk_cell H5 0
            have c3 := blk_cell H5 3
            have f3 := blk_frozen H5 3
            by_cases t1010 : cd = 1010
            case pos =>
              subst t1010
              go_upto_region 18 with fail
              have H6 := heap_setCell_same H5 3 (.int .i64 1000)
              have HB7 : Below wr.heap.size wr (W5.setCell ⟨g, 3, none⟩ (.int .i64 1000)) := HB5.setCell (p := ⟨g, 3, none⟩) hg1 _
              generalize W5.setCell ⟨g, 3, none⟩ (.int .i64 1000) = W6 at *
              clear H5 f3 c0
              have HOW6 := Lib.hid (own_below HOW.out HB7)
              have HLS := Lib.hid (list_step (f := accOf kd bs) (P := preS j) HCD.out (accOf_a (k := kd) (b := bs) (c := 1010) (by omega)))
              have HB6' := Lib.hid (hbi.trans (HB7.mono (by omega)))
              have hsz6 := (HB7).size
              have HH6 := Lib.hid H6
              clear H6
              go_wp2_with (first | (show wpList _ _ _ (Oper.mk (some 69) _ _ _ _ _ :: _) _ _; refine wpList_load_row_g rfl 157 (.tmp 5) rfl g rfl _ _ _ _ HH6.out Try.underlying157 rfl (info_accS ⟨1010, kd, bs, 1000⟩) ?_) | (at_builtin; go_loud (refine wpList_app _ rfl (.tmp 68) (.tmp 70) 24 rfl W.heap.size 157 ia _ 4 32 accs_uty hia hzia hsia hbia rfl (by decide) u2 NK (ROWL) rfl (HOW6.out.alloc _) (fun _ => True) (some ⟨W6.heap.size, 0, none⟩) 1 1 [.int .i64 1010, .int .i64 kd, .int .i64 bs, .int .i64 1000] rfl (rd_new (heap_alloc_new _ _) rfl) (by simp [Value.oneCell']) (by simp only [maxLen]; omega) (by omega) (by simp; omega) ?_); intro v9 w9 hown9 hg9 _))
              go_roundw
              case rel =>
                refine ⟨k + 1, by omega, by go_num, below_grown (HB6'.out.alloc (by omega) _) hg9 (fun q hq => (HOW6.out.lt _ hq).1) (Nat.le_refl _), ?_⟩
                rw [HLS.out, ← Nat.add_assoc, HNK.out, HROWL.out]
                exact hown9
              case measure => first | exact meas_v hlt2 | (simp only [intOf]; omega)
            case neg =>
            have n1010 : (cd == 1010) = false := by simpa using t1010
            by_cases t1100 : cd = 1100
            case pos =>
              subst t1100
              go_upto_region 18 with fail
              have H6 := heap_setCell_same H5 3 (.int .i64 1000)
              have HB7 : Below wr.heap.size wr (W5.setCell ⟨g, 3, none⟩ (.int .i64 1000)) := HB5.setCell (p := ⟨g, 3, none⟩) hg1 _
              generalize W5.setCell ⟨g, 3, none⟩ (.int .i64 1000) = W6 at *
              clear H5 f3 c0
              have HOW6 := Lib.hid (own_below HOW.out HB7)
              have HLS := Lib.hid (list_step (f := accOf kd bs) (P := preS j) HCD.out (accOf_a (k := kd) (b := bs) (c := 1100) (by omega)))
              have HB6' := Lib.hid (hbi.trans (HB7.mono (by omega)))
              have hsz6 := (HB7).size
              have HH6 := Lib.hid H6
              clear H6
              go_wp2_with (first | (show wpList _ _ _ (Oper.mk (some 69) _ _ _ _ _ :: _) _ _; refine wpList_load_row_g rfl 157 (.tmp 5) rfl g rfl _ _ _ _ HH6.out Try.underlying157 rfl (info_accS ⟨1100, kd, bs, 1000⟩) ?_) | (at_builtin; go_loud (refine wpList_app _ rfl (.tmp 68) (.tmp 70) 24 rfl W.heap.size 157 ia _ 4 32 accs_uty hia hzia hsia hbia rfl (by decide) u2 NK (ROWL) rfl (HOW6.out.alloc _) (fun _ => True) (some ⟨W6.heap.size, 0, none⟩) 1 1 [.int .i64 1100, .int .i64 kd, .int .i64 bs, .int .i64 1000] rfl (rd_new (heap_alloc_new _ _) rfl) (by simp [Value.oneCell']) (by simp only [maxLen]; omega) (by omega) (by simp; omega) ?_); intro v9 w9 hown9 hg9 _))
              go_roundw
              case rel =>
                refine ⟨k + 1, by omega, by go_num, below_grown (HB6'.out.alloc (by omega) _) hg9 (fun q hq => (HOW6.out.lt _ hq).1) (Nat.le_refl _), ?_⟩
                rw [HLS.out, ← Nat.add_assoc, HNK.out, HROWL.out]
                exact hown9
              case measure => first | exact meas_v hlt2 | (simp only [intOf]; omega)
            case neg =>
            have n1100 : (cd == 1100) = false := by simpa using t1100
            by_cases t1200 : cd = 1200
            case pos =>
              subst t1200
              go_upto_region 18 with fail
              have H6 := heap_setCell_same H5 3 (.int .i64 1000)
              have HB7 : Below wr.heap.size wr (W5.setCell ⟨g, 3, none⟩ (.int .i64 1000)) := HB5.setCell (p := ⟨g, 3, none⟩) hg1 _
              generalize W5.setCell ⟨g, 3, none⟩ (.int .i64 1000) = W6 at *
              clear H5 f3 c0
              have HOW6 := Lib.hid (own_below HOW.out HB7)
              have HLS := Lib.hid (list_step (f := accOf kd bs) (P := preS j) HCD.out (accOf_a (k := kd) (b := bs) (c := 1200) (by omega)))
              have HB6' := Lib.hid (hbi.trans (HB7.mono (by omega)))
              have hsz6 := (HB7).size
              have HH6 := Lib.hid H6
              clear H6
              go_wp2_with (first | (show wpList _ _ _ (Oper.mk (some 69) _ _ _ _ _ :: _) _ _; refine wpList_load_row_g rfl 157 (.tmp 5) rfl g rfl _ _ _ _ HH6.out Try.underlying157 rfl (info_accS ⟨1200, kd, bs, 1000⟩) ?_) | (at_builtin; go_loud (refine wpList_app _ rfl (.tmp 68) (.tmp 70) 24 rfl W.heap.size 157 ia _ 4 32 accs_uty hia hzia hsia hbia rfl (by decide) u2 NK (ROWL) rfl (HOW6.out.alloc _) (fun _ => True) (some ⟨W6.heap.size, 0, none⟩) 1 1 [.int .i64 1200, .int .i64 kd, .int .i64 bs, .int .i64 1000] rfl (rd_new (heap_alloc_new _ _) rfl) (by simp [Value.oneCell']) (by simp only [maxLen]; omega) (by omega) (by simp; omega) ?_); intro v9 w9 hown9 hg9 _))
              go_roundw
              case rel =>
                refine ⟨k + 1, by omega, by go_num, below_grown (HB6'.out.alloc (by omega) _) hg9 (fun q hq => (HOW6.out.lt _ hq).1) (Nat.le_refl _), ?_⟩
                rw [HLS.out, ← Nat.add_assoc, HNK.out, HROWL.out]
                exact hown9
              case measure => first | exact meas_v hlt2 | (simp only [intOf]; omega)
            case neg =>
            have n1200 : (cd == 1200) = false := by simpa using t1200
            by_cases t2100 : cd = 2100
            case pos =>
              subst t2100
              go_upto_region 18 with fail
              have H6 := heap_setCell_same H5 3 (.int .i64 2000)
              have HB7 : Below wr.heap.size wr (W5.setCell ⟨g, 3, none⟩ (.int .i64 2000)) := HB5.setCell (p := ⟨g, 3, none⟩) hg1 _
              generalize W5.setCell ⟨g, 3, none⟩ (.int .i64 2000) = W6 at *
              clear H5 f3 c0
              have HOW6 := Lib.hid (own_below HOW.out HB7)
              have HLS := Lib.hid (list_step (f := accOf kd bs) (P := preS j) HCD.out (show accOf kd bs 2100 = ⟨2100, kd, bs, 2000⟩ from accOf_b (by omega) (by omega)))
              have HB6' := Lib.hid (hbi.trans (HB7.mono (by omega)))
              have hsz6 := (HB7).size
              have HH6 := Lib.hid H6
              clear H6
              go_wp2_with (first | (show wpList _ _ _ (Oper.mk (some 69) _ _ _ _ _ :: _) _ _; refine wpList_load_row_g rfl 157 (.tmp 5) rfl g rfl _ _ _ _ HH6.out Try.underlying157 rfl (info_accS ⟨2100, kd, bs, 2000⟩) ?_) | (at_builtin; go_loud (refine wpList_app _ rfl (.tmp 68) (.tmp 70) 24 rfl W.heap.size 157 ia _ 4 32 accs_uty hia hzia hsia hbia rfl (by decide) u2 NK (ROWL) rfl (HOW6.out.alloc _) (fun _ => True) (some ⟨W6.heap.size, 0, none⟩) 1 1 [.int .i64 2100, .int .i64 kd, .int .i64 bs, .int .i64 2000] rfl (rd_new (heap_alloc_new _ _) rfl) (by simp [Value.oneCell']) (by simp only [maxLen]; omega) (by omega) (by simp; omega) ?_); intro v9 w9 hown9 hg9 _))
              go_roundw
              case rel =>
                refine ⟨k + 1, by omega, by go_num, below_grown (HB6'.out.alloc (by omega) _) hg9 (fun q hq => (HOW6.out.lt _ hq).1) (Nat.le_refl _), ?_⟩
                rw [HLS.out, ← Nat.add_assoc, HNK.out, HROWL.out]
                exact hown9
              case measure => first | exact meas_v hlt2 | (simp only [intOf]; omega)
            case neg =>
            have n2100 : (cd == 2100) = false := by simpa using t2100
            by_cases t4100 : cd = 4100
            case pos =>
              subst t4100
              go_upto_region 18 with fail
              have H6 := heap_setCell_same H5 3 (.int .i64 4000)
              have HB7 : Below wr.heap.size wr (W5.setCell ⟨g, 3, none⟩ (.int .i64 4000)) := HB5.setCell (p := ⟨g, 3, none⟩) hg1 _
              generalize W5.setCell ⟨g, 3, none⟩ (.int .i64 4000) = W6 at *
              clear H5 f3 c0
              have HOW6 := Lib.hid (own_below HOW.out HB7)
              have HLS := Lib.hid (list_step (f := accOf kd bs) (P := preS j) HCD.out (show accOf kd bs 4100 = ⟨4100, kd, bs, 4000⟩ from accOf_b (by omega) (by omega)))
              have HB6' := Lib.hid (hbi.trans (HB7.mono (by omega)))
              have hsz6 := (HB7).size
              have HH6 := Lib.hid H6
              clear H6
              go_wp2_with (first | (show wpList _ _ _ (Oper.mk (some 69) _ _ _ _ _ :: _) _ _; refine wpList_load_row_g rfl 157 (.tmp 5) rfl g rfl _ _ _ _ HH6.out Try.underlying157 rfl (info_accS ⟨4100, kd, bs, 4000⟩) ?_) | (at_builtin; go_loud (refine wpList_app _ rfl (.tmp 68) (.tmp 70) 24 rfl W.heap.size 157 ia _ 4 32 accs_uty hia hzia hsia hbia rfl (by decide) u2 NK (ROWL) rfl (HOW6.out.alloc _) (fun _ => True) (some ⟨W6.heap.size, 0, none⟩) 1 1 [.int .i64 4100, .int .i64 kd, .int .i64 bs, .int .i64 4000] rfl (rd_new (heap_alloc_new _ _) rfl) (by simp [Value.oneCell']) (by simp only [maxLen]; omega) (by omega) (by simp; omega) ?_); intro v9 w9 hown9 hg9 _))
              go_roundw
              case rel =>
                refine ⟨k + 1, by omega, by go_num, below_grown (HB6'.out.alloc (by omega) _) hg9 (fun q hq => (HOW6.out.lt _ hq).1) (Nat.le_refl _), ?_⟩
                rw [HLS.out, ← Nat.add_assoc, HNK.out, HROWL.out]
                exact hown9
              case measure => first | exact meas_v hlt2 | (simp only [intOf]; omega)
            case neg =>
            have n4100 : (cd == 4100) = false := by simpa using t4100
            have HOW6 := Lib.hid (own_below HOW.out HB5)
            have HLS := Lib.hid (list_step (f := accOf kd bs) (P := preS j) HCD.out (accOf_c (k := kd) (b := bs) (c := cd) (by omega) (by omega)))
            have HB6' := Lib.hid (hbi.trans (HB5.mono (by omega)))
            have hsz6 := (HB5).size
            have HH6 := Lib.hid H5
            clear H5
            go_wp2_with (first | (show wpList _ _ _ (Oper.mk (some 69) _ _ _ _ _ :: _) _ _; refine wpList_load_row_g rfl 157 (.tmp 5) rfl g rfl _ _ _ _ HH6.out Try.underlying157 rfl (info_accS ⟨cd, kd, bs, 0⟩) ?_) | (at_builtin; go_loud (refine wpList_app _ rfl (.tmp 68) (.tmp 70) 24 rfl W.heap.size 157 ia _ 4 32 accs_uty hia hzia hsia hbia rfl (by decide) u2 NK (ROWL) rfl (HOW6.out.alloc _) (fun _ => True) (some ⟨W5.heap.size, 0, none⟩) 1 1 [.int .i64 cd, .int .i64 kd, .int .i64 bs, .int .i64 0] rfl (rd_new (heap_alloc_new _ _) rfl) (by simp [Value.oneCell']) (by simp only [maxLen]; omega) (by omega) (by simp; omega) ?_); intro v9 w9 hown9 hg9 _))
            go_roundw
            case rel =>
              refine ⟨k + 1, by omega, by go_num, below_grown (HB6'.out.alloc (by omega) _) hg9 (fun q hq => (HOW6.out.lt _ hq).1) (Nat.le_refl _), ?_⟩
              rw [HLS.out, ← Nat.add_assoc, HNK.out, HROWL.out]
              exact hown9
            case measure => first | exact meas_v hlt2 | (simp only [intOf]; omega)
        case neg =>
          have hltI2 : ¬ (k : Int) < (nn : Int) := by omega
          have hkn : k = nn := by omega
          have m2 := (hbi.cell (p := ⟨rb, j * 3 + 2, none⟩) LB.out).trans X2.out
          have HOW := Lib.hid (show wr.ownsRow W.heap.size 157 4 u2 (preS (j + 1)).length ((preS (j + 1)).flatMap accL) by
            have h := HOW0.out
            rw [hkn, ← HNN.out, List.take_length] at h
            rw [preS_succ HQ.out]
            have e : (preS j ++ rowAccs (kd, bs, cds)).length = N + cds.length := by rw [List.length_append, HNL.out]; unfold rowAccs; simp
            rw [e]; exact h)
          have HLEN := Lib.hid (show (preS (j + 1)).length ≤ 6 * (j + 1) by
            rw [preS_succ HQ.out, List.length_append, HNL.out]
            have : (rowAccs (kd, bs, cds)).length = nn := by unfold rowAccs; simpa using HNN.out
            omega)
          clear hkn HOW0
          go_wp2_with fail
          go_roundw
          case rel => exact ⟨j + 1, by omega, by go_num, hbi, HOW.out, HLEN.out⟩
          case measure => first | exact meas_v hlt | (simp only [intOf]; omega)
    case neg =>
      have hltI : ¬ (j : Int) < 6 := by omega
      have hj6 : j = 6 := by omega
      have HOF := Lib.hid (show wr.ownsRow W.heap.size 157 4 u2 chartS.length (chartS.flatMap accL) by have h := HOV.out; rw [hj6] at h; exact h)
      clear hj6
      go_wp2_with fail
      go_ret
      exact ⟨_, rfl, own_listC (El := AccountC) (f := accL) (fun _ => rfl) HOF.out (fun x hx => accC_of (chartS_bd x hx)) (fun q hq => by have := HOF.out.lt _ hq; have := hbW.size; omega) (by decide), hbW.trans (hb.mono hbW.size)⟩
end Go.Proofs.Ytnigokmjehemaaa
