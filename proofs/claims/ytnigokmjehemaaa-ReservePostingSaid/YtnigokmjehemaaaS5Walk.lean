/- The sample group. Written by gen_s4.py (second text). -/
import Derived.Test.YtnigokmjehemaaaProg
import Derived.Test.YtnigokmjehemaaaS4Sample
namespace Go.Proofs.Ytnigokmjehemaaa
open Go Go.RowKit
set_option linter.unusedVariables false
set_option linter.unusedSimpArgs false
set_option maxRecDepth 4000
attribute [local go_sem ↓] Go.wp_at_zero Go.wp_at_succ
set_option maxHeartbeats 4000000 in
theorem sample_c (w : World) : Calls Try.prog 69 #[] w (fun e w' => ∃ vs : List Value, e = .returned (.agg vs.toArray) ∧ GroupC w' (· < w'.heap.size) vs sampleG ∧ Below w.heap.size w w') := by
  obtain ⟨n, hn⟩ : ∃ n, chartS.length = n := ⟨_, rfl⟩
  obtain ⟨nE, hnE⟩ : ∃ n, echartS.length = n := ⟨_, rfl⟩
  obtain ⟨nL, hnL⟩ : ∃ n, elinksS.length = n := ⟨_, rfl⟩
  have HN := Lib.hid hn
  have HNE := Lib.hid hnE
  have HNL := Lib.hid hnL
  clear hn hnE hnL
  go_enter Try.func69, Try.ntmps69
  go_upto_region 1 with fail
  have H := heap_alloc_new w (.cells #[.string ⟨#[]⟩, .int .i64 0, .int .i64 0, .int .i64 0, .slice none 0 0, .int .i64 0, .int .i64 0, .int .i64 0, .int .i64 0, .int .i64 0, .int .i64 0, .int .i64 0, .int .i64 0, .int .i64 0, .int .i64 0, .int .i64 0, .int .i64 0, .int .i64 0, .int .i64 0, .int .i64 0, .slice none 0 0] 29)
  have HB := below1 w (.cells #[.string ⟨#[]⟩, .int .i64 0, .int .i64 0, .int .i64 0, .slice none 0 0, .int .i64 0, .int .i64 0, .int .i64 0, .int .i64 0, .int .i64 0, .int .i64 0, .int .i64 0, .int .i64 0, .int .i64 0, .int .i64 0, .int .i64 0, .int .i64 0, .int .i64 0, .int .i64 0, .int .i64 0, .slice none 0 0] 29)
  have HS : w.heap.size < (w.alloc (.cells #[.string ⟨#[]⟩, .int .i64 0, .int .i64 0, .int .i64 0, .slice none 0 0, .int .i64 0, .int .i64 0, .int .i64 0, .int .i64 0, .int .i64 0, .int .i64 0, .int .i64 0, .int .i64 0, .int .i64 0, .int .i64 0, .int .i64 0, .int .i64 0, .int .i64 0, .int .i64 0, .int .i64 0, .slice none 0 0] 29)).heap.size := blk_lt H
  have ezW : (w.alloc (.cells #[.string ⟨#[]⟩, .int .i64 0, .int .i64 0, .int .i64 0, .slice none 0 0, .int .i64 0, .int .i64 0, .int .i64 0, .int .i64 0, .int .i64 0, .int .i64 0, .int .i64 0, .int .i64 0, .int .i64 0, .int .i64 0, .int .i64 0, .int .i64 0, .int .i64 0, .int .i64 0, .int .i64 0, .slice none 0 0] 29)).heap.size = w.heap.size + 1 := by simp
  generalize hW : w.alloc (Obj.cells #[.string ⟨#[]⟩, .int .i64 0, .int .i64 0, .int .i64 0, .slice none 0 0, .int .i64 0, .int .i64 0, .int .i64 0, .int .i64 0, .int .i64 0, .int .i64 0, .int .i64 0, .int .i64 0, .int .i64 0, .int .i64 0, .int .i64 0, .int .i64 0, .int .i64 0, .int .i64 0, .int .i64 0, .slice none 0 0] 29) = W at *
  clear hW
  have HZ := Lib.hid H
  have HEZ := Lib.hid ezW
  clear H ezW
  go_wp2_with fail
  refine (sChart_n n HN.out W).mono ?_
  rintro e w2 ⟨Ac, cc, rfl, hch, hb2⟩
  have HCH := Lib.hid hch
  have hs2 := hb2.size
  clear hch
  go_wp2_with fail
  refine (sRoles_c w2).mono ?_
  rintro e w3 ⟨rfl, hb3⟩
  have hs3 := hb3.size
  go_upto_region 2 with (first | (show wpList _ _ _ (Oper.mk none (Op.store _ (Operand.tmp 1) _) _ _ _ _ :: _) _ _; refine wpList_store_fresh3 rfl 29 (.tmp 1) (.tmp 5) rfl rfl w3 #[.string ⟨#[]⟩, .int .i64 0, .int .i64 0, .int .i64 0, .slice none 0 0, .int .i64 0, .int .i64 0, .int .i64 0, .int .i64 0, .int .i64 0, .int .i64 0, .int .i64 0, .int .i64 0, .int .i64 0, .int .i64 0, .int .i64 0, .int .i64 0, .int .i64 0, .int .i64 0, .int .i64 0, .slice none 0 0] 29 #[.string ⟨#[69, 85, 82]⟩, .int .i64 2026, .int .i64 1, .int .i64 36, .slice Ac n cc, .int .i64 1500, .int .i64 1600, .int .i64 1700, .int .i64 1200, .int .i64 3100, .int .i64 3200, .int .i64 3300, .int .i64 3400, .int .i64 3500, .int .i64 4500, .int .i64 4600, .int .i64 4700, .int .i64 5500, .int .i64 5600, .int .i64 5700, .slice none 0 0] rfl rfl rfl info_group rfl (by simp [Value.oneCell']) ?_; intro W4 H4 HB4 HS4) | (show wpList _ _ _ (Oper.mk (some 5) _ _ _ _ _ :: _) _ _; refine wpList_built rfl 29 _ rfl [(0, .string ⟨#[69, 85, 82]⟩), (1, .agg #[.int .i64 2026, .int .i64 1, .int .i64 36]), (2, .slice Ac n cc), (3, .agg #[.int .i64 1500, .int .i64 1600, .int .i64 1700, .int .i64 1200, .int .i64 3100, .int .i64 3200, .int .i64 3300, .int .i64 3400, .int .i64 3500, .int .i64 4500, .int .i64 4600, .int .i64 4700, .int .i64 5500, .int .i64 5600, .int .i64 5700])] (by simp [Act.eval]) #[.string ⟨#[69, 85, 82]⟩, .int .i64 2026, .int .i64 1, .int .i64 36, .slice Ac n cc, .int .i64 1500, .int .i64 1600, .int .i64 1700, .int .i64 1200, .int .i64 3100, .int .i64 3200, .int .i64 3300, .int .i64 3400, .int .i64 3500, .int .i64 4500, .int .i64 4600, .int .i64 4700, .int .i64 5500, .int .i64 5600, .int .i64 5700, .slice none 0 0] (built_group _ _ _ _ _ _ _ _ _ _ _ _ _ _ _ _ _ _ _ _ _ _) ?_))
  have HG4 := Lib.hid H4
  clear H4
  go_wp2_with fail
  refine (sEntity_n nE nL HNE.out HNL.out _ _ W4).mono ?_
  rintro e v0 ⟨Ec0, c0, Al0, d0, rfl, hc0, hl0, hbv0⟩
  have hsv0 := hbv0.size
  have HC0 := Lib.hid hc0
  have HL0 := Lib.hid hl0
  clear hc0 hl0
  go_wp2_with fail
  refine (sEntity_n nE nL HNE.out HNL.out _ _ v0).mono ?_
  rintro e v1 ⟨Ec1, c1, Al1, d1, rfl, hc1, hl1, hbv1⟩
  have hsv1 := hbv1.size
  have HC1 := Lib.hid hc1
  have HL1 := Lib.hid hl1
  clear hc1 hl1
  go_wp2_with fail
  refine (sEntity_n nE nL HNE.out HNL.out _ _ v1).mono ?_
  rintro e v2 ⟨Ec2, c2, Al2, d2, rfl, hc2, hl2, hbv2⟩
  have hsv2 := hbv2.size
  have HC2 := Lib.hid hc2
  have HL2 := Lib.hid hl2
  clear hc2 hl2
  go_wp2_with fail
  refine (sEntity_n nE nL HNE.out HNL.out _ _ v2).mono ?_
  rintro e v3 ⟨Ec3, c3, Al3, d3, rfl, hc3, hl3, hbv3⟩
  have hsv3 := hbv3.size
  have HC3 := Lib.hid hc3
  have HL3 := Lib.hid hl3
  clear hc3 hl3
  have a2 := Nat.lt_of_lt_of_le HS hs2
  have a3 := Nat.lt_of_lt_of_le a2 hs3
  have a4 := Nat.lt_trans a3 HS4
  have b0 := Nat.lt_of_lt_of_le HS4 hsv0
  have b1 := Nat.lt_of_lt_of_le b0 hsv1
  have b2 := Nat.lt_of_lt_of_le b1 hsv2
  have b3 := Nat.lt_of_lt_of_le b2 hsv3
  have HG8 := Lib.hid ((hbv3.block w3.heap.size b2).trans ((hbv2.block w3.heap.size b1).trans ((hbv1.block w3.heap.size b0).trans ((hbv0.block w3.heap.size HS4).trans HG4.out))))
  have g20 := blk_cell (alloc_keep HG8.out (Obj.cells #[.string ⟨#[112, 97, 114, 101, 110, 116]⟩, .string ⟨#[69, 85, 82]⟩, .slice Ec0 nE c0, .slice Al0 nL d0, .bool false, .string ⟨#[110, 111, 114, 116, 104]⟩, .string ⟨#[69, 85, 82]⟩, .slice Ec1 nE c1, .slice Al1 nL d1, .bool false, .string ⟨#[119, 101, 115, 116]⟩, .string ⟨#[85, 83, 68]⟩, .slice Ec2 nE c2, .slice Al2 nL d2, .bool false, .string ⟨#[106, 111, 105, 110, 116]⟩, .string ⟨#[85, 83, 68]⟩, .slice Ec3 nE c3, .slice Al3 nL d3, .bool false] 113)) 20
  have q20 := blk_frozen (alloc_keep HG8.out (Obj.cells #[.string ⟨#[112, 97, 114, 101, 110, 116]⟩, .string ⟨#[69, 85, 82]⟩, .slice Ec0 nE c0, .slice Al0 nL d0, .bool false, .string ⟨#[110, 111, 114, 116, 104]⟩, .string ⟨#[69, 85, 82]⟩, .slice Ec1 nE c1, .slice Al1 nL d1, .bool false, .string ⟨#[119, 101, 115, 116]⟩, .string ⟨#[85, 83, 68]⟩, .slice Ec2 nE c2, .slice Al2 nL d2, .bool false, .string ⟨#[106, 111, 105, 110, 116]⟩, .string ⟨#[85, 83, 68]⟩, .slice Ec3 nE c3, .slice Al3 nL d3, .bool false] 113)) 20
  have A3 := Lib.hid a3
  have A4 := Lib.hid a4
  have B0 := Lib.hid b0
  have B1 := Lib.hid b1
  have B2 := Lib.hid b2
  have B3 := Lib.hid b3
  clear a2 a3 a4 b0 b1 b2 b3
  go_upto_region 3 with fail
  have H9 := heap_setCell_same (alloc_keep HG8.out (Obj.cells #[.string ⟨#[112, 97, 114, 101, 110, 116]⟩, .string ⟨#[69, 85, 82]⟩, .slice Ec0 nE c0, .slice Al0 nL d0, .bool false, .string ⟨#[110, 111, 114, 116, 104]⟩, .string ⟨#[69, 85, 82]⟩, .slice Ec1 nE c1, .slice Al1 nL d1, .bool false, .string ⟨#[119, 101, 115, 116]⟩, .string ⟨#[85, 83, 68]⟩, .slice Ec2 nE c2, .slice Al2 nL d2, .bool false, .string ⟨#[106, 111, 105, 110, 116]⟩, .string ⟨#[85, 83, 68]⟩, .slice Ec3 nE c3, .slice Al3 nL d3, .bool false] 113)) 20 (.slice (some ⟨v3.heap.size, 0, none⟩) 4 4)
  have HE9 := (Below.heap_setCell (v3.alloc (Obj.cells #[.string ⟨#[112, 97, 114, 101, 110, 116]⟩, .string ⟨#[69, 85, 82]⟩, .slice Ec0 nE c0, .slice Al0 nL d0, .bool false, .string ⟨#[110, 111, 114, 116, 104]⟩, .string ⟨#[69, 85, 82]⟩, .slice Ec1 nE c1, .slice Al1 nL d1, .bool false, .string ⟨#[119, 101, 115, 116]⟩, .string ⟨#[85, 83, 68]⟩, .slice Ec2 nE c2, .slice Al2 nL d2, .bool false, .string ⟨#[106, 111, 105, 110, 116]⟩, .string ⟨#[85, 83, 68]⟩, .slice Ec3 nE c3, .slice Al3 nL d3, .bool false] 113)) ⟨w3.heap.size, 20, none⟩ (.slice (some ⟨v3.heap.size, 0, none⟩) 4 4) v3.heap.size (Nat.ne_of_gt B3.out)).trans (heap_alloc_new v3 _)
  have HF9 := Lib.hid (((Fr.refl (fun k => W.heap.size ≤ k ∧ k < v3.heap.size ∧ k ≠ w3.heap.size) v3).alloc (fun k hk => hk.2.1) (Obj.cells #[.string ⟨#[112, 97, 114, 101, 110, 116]⟩, .string ⟨#[69, 85, 82]⟩, .slice Ec0 nE c0, .slice Al0 nL d0, .bool false, .string ⟨#[110, 111, 114, 116, 104]⟩, .string ⟨#[69, 85, 82]⟩, .slice Ec1 nE c1, .slice Al1 nL d1, .bool false, .string ⟨#[119, 101, 115, 116]⟩, .string ⟨#[85, 83, 68]⟩, .slice Ec2 nE c2, .slice Al2 nL d2, .bool false, .string ⟨#[106, 111, 105, 110, 116]⟩, .string ⟨#[85, 83, 68]⟩, .slice Ec3 nE c3, .slice Al3 nL d3, .bool false] 113)).setCell (p := ⟨w3.heap.size, 20, none⟩) (fun h => h.2.2 rfl) (.slice (some ⟨v3.heap.size, 0, none⟩) 4 4))
  have HB9 := Lib.hid (((Below.refl w.heap.size v3).alloc (Nat.le_of_lt (Nat.lt_trans A3.out B3.out)) (Obj.cells #[.string ⟨#[112, 97, 114, 101, 110, 116]⟩, .string ⟨#[69, 85, 82]⟩, .slice Ec0 nE c0, .slice Al0 nL d0, .bool false, .string ⟨#[110, 111, 114, 116, 104]⟩, .string ⟨#[69, 85, 82]⟩, .slice Ec1 nE c1, .slice Al1 nL d1, .bool false, .string ⟨#[119, 101, 115, 116]⟩, .string ⟨#[85, 83, 68]⟩, .slice Ec2 nE c2, .slice Al2 nL d2, .bool false, .string ⟨#[106, 111, 105, 110, 116]⟩, .string ⟨#[85, 83, 68]⟩, .slice Ec3 nE c3, .slice Al3 nL d3, .bool false] 113)).setCell (p := ⟨w3.heap.size, 20, none⟩) (Nat.le_of_lt A3.out) (.slice (some ⟨v3.heap.size, 0, none⟩) 4 4))
  have HZ9 := (Below.heap_setCell (v3.alloc (Obj.cells #[.string ⟨#[112, 97, 114, 101, 110, 116]⟩, .string ⟨#[69, 85, 82]⟩, .slice Ec0 nE c0, .slice Al0 nL d0, .bool false, .string ⟨#[110, 111, 114, 116, 104]⟩, .string ⟨#[69, 85, 82]⟩, .slice Ec1 nE c1, .slice Al1 nL d1, .bool false, .string ⟨#[119, 101, 115, 116]⟩, .string ⟨#[85, 83, 68]⟩, .slice Ec2 nE c2, .slice Al2 nL d2, .bool false, .string ⟨#[106, 111, 105, 110, 116]⟩, .string ⟨#[85, 83, 68]⟩, .slice Ec3 nE c3, .slice Al3 nL d3, .bool false] 113)) ⟨w3.heap.size, 20, none⟩ (.slice (some ⟨v3.heap.size, 0, none⟩) 4 4) w.heap.size (Nat.ne_of_lt A3.out)).trans (alloc_keep ((hbv3.block w.heap.size (Nat.lt_trans A3.out B2.out)).trans ((hbv2.block w.heap.size (Nat.lt_trans A3.out B1.out)).trans ((hbv1.block w.heap.size (Nat.lt_trans A3.out B0.out)).trans ((hbv0.block w.heap.size A4.out).trans ((HB4.block w.heap.size A3.out).trans ((hb3.block w.heap.size (Nat.lt_of_lt_of_le HS hs2)).trans ((hb2.block w.heap.size HS).trans HZ.out))))))) (Obj.cells #[.string ⟨#[112, 97, 114, 101, 110, 116]⟩, .string ⟨#[69, 85, 82]⟩, .slice Ec0 nE c0, .slice Al0 nL d0, .bool false, .string ⟨#[110, 111, 114, 116, 104]⟩, .string ⟨#[69, 85, 82]⟩, .slice Ec1 nE c1, .slice Al1 nL d1, .bool false, .string ⟨#[119, 101, 115, 116]⟩, .string ⟨#[85, 83, 68]⟩, .slice Ec2 nE c2, .slice Al2 nL d2, .bool false, .string ⟨#[106, 111, 105, 110, 116]⟩, .string ⟨#[85, 83, 68]⟩, .slice Ec3 nE c3, .slice Al3 nL d3, .bool false] 113))
  have HS9 := Lib.hid (show ((v3.alloc (Obj.cells #[.string ⟨#[112, 97, 114, 101, 110, 116]⟩, .string ⟨#[69, 85, 82]⟩, .slice Ec0 nE c0, .slice Al0 nL d0, .bool false, .string ⟨#[110, 111, 114, 116, 104]⟩, .string ⟨#[69, 85, 82]⟩, .slice Ec1 nE c1, .slice Al1 nL d1, .bool false, .string ⟨#[119, 101, 115, 116]⟩, .string ⟨#[85, 83, 68]⟩, .slice Ec2 nE c2, .slice Al2 nL d2, .bool false, .string ⟨#[106, 111, 105, 110, 116]⟩, .string ⟨#[85, 83, 68]⟩, .slice Ec3 nE c3, .slice Al3 nL d3, .bool false] 113)).setCell ⟨w3.heap.size, 20, none⟩ (.slice (some ⟨v3.heap.size, 0, none⟩) 4 4)).heap.size = v3.heap.size + 1 by simp)
  generalize (v3.alloc (Obj.cells #[.string ⟨#[112, 97, 114, 101, 110, 116]⟩, .string ⟨#[69, 85, 82]⟩, .slice Ec0 nE c0, .slice Al0 nL d0, .bool false, .string ⟨#[110, 111, 114, 116, 104]⟩, .string ⟨#[69, 85, 82]⟩, .slice Ec1 nE c1, .slice Al1 nL d1, .bool false, .string ⟨#[119, 101, 115, 116]⟩, .string ⟨#[85, 83, 68]⟩, .slice Ec2 nE c2, .slice Al2 nL d2, .bool false, .string ⟨#[106, 111, 105, 110, 116]⟩, .string ⟨#[85, 83, 68]⟩, .slice Ec3 nE c3, .slice Al3 nL d3, .bool false] 113)).setCell ⟨w3.heap.size, 20, none⟩ (.slice (some ⟨v3.heap.size, 0, none⟩) 4 4) = W9 at *
  have HH9 := Lib.hid H9
  have HEE := Lib.hid HE9
  have HZZ := Lib.hid HZ9
  have g20 := blk_cell HH9.out 20
  have k19 := blk_cell HEE.out 19
  have z19 := blk_frozen HEE.out 19
  clear H9 HE9 HZ9 q20
  go_upto_region 4 with fail
  have HGA := Lib.hid ((Below.heap_setCell W9 ⟨v3.heap.size, 19, none⟩ (.bool true) w3.heap.size (Nat.ne_of_lt B3.out)).trans HH9.out)
  have HEA := Lib.hid (heap_setCell_same HEE.out 19 (.bool true))
  have HZA := Lib.hid ((Below.heap_setCell W9 ⟨v3.heap.size, 19, none⟩ (.bool true) w.heap.size (Nat.ne_of_lt (Nat.lt_trans A3.out B3.out))).trans HZZ.out)
  have HFA := Lib.hid (HF9.out.setCell (p := ⟨v3.heap.size, 19, none⟩) (fun h => Nat.lt_irrefl _ h.2.1) (.bool true))
  have HSA := Lib.hid (show (W9.setCell ⟨v3.heap.size, 19, none⟩ (.bool true)).heap.size = v3.heap.size + 1 by rw [← HS9.out]; simp)
  have HBA := Lib.hid (HB9.out.setCell (p := ⟨v3.heap.size, 19, none⟩) (Nat.le_of_lt (Nat.lt_trans A3.out B3.out)) (.bool true))
  clear g20 k19 z19
  generalize W9.setCell ⟨v3.heap.size, 19, none⟩ (.bool true) = WA at *
  go_wp2_with (first | (show wpList _ _ _ (Oper.mk (some 16) _ _ _ _ _ :: _) _ _; refine wpList_load_row_g rfl 29 (.tmp 1) rfl w3.heap.size rfl _ _ _ _ HGA.out Try.underlying29 rfl info_group ?_) | (show wpList _ _ _ (Oper.mk none (Op.store _ (Operand.tmp 0) _) _ _ _ _ :: _) _ _; refine wpList_store_row rfl 29 (.tmp 0) (.tmp 16) rfl w.heap.size #[.string ⟨#[69, 85, 82]⟩, .int .i64 2026, .int .i64 1, .int .i64 36, .slice Ac n cc, .int .i64 1500, .int .i64 1600, .int .i64 1700, .int .i64 1200, .int .i64 3100, .int .i64 3200, .int .i64 3300, .int .i64 3400, .int .i64 3500, .int .i64 4500, .int .i64 4600, .int .i64 4700, .int .i64 5500, .int .i64 5600, .int .i64 5700, .slice (some ⟨v3.heap.size, 0, none⟩) 4 4] rfl rfl 29 #[.string ⟨#[]⟩, .int .i64 0, .int .i64 0, .int .i64 0, .slice none 0 0, .int .i64 0, .int .i64 0, .int .i64 0, .int .i64 0, .int .i64 0, .int .i64 0, .int .i64 0, .int .i64 0, .int .i64 0, .int .i64 0, .int .i64 0, .int .i64 0, .int .i64 0, .int .i64 0, .int .i64 0, .slice none 0 0] HZA.out info_group rfl (by simp [Value.oneCell']) ?_))
  refine bodyPost_ret (v := _) (results_cell rfl _ _ w.heap.size 29 _ (0, 0) _ rfl (heap_setRow HZA.out _) Try.underlying29 rfl info_group) rfl ?_
  exact ⟨_, rfl, sample_fin HN.out HNE.out HNL.out HS hs2 hs3 HS4 hsv0 hsv1 hsv2 hsv3 HB hb2 hb3 HB4 hbv0 hbv1 hbv2 hbv3 HFA.out HBA.out HSA.out HEA.out HCH.out HC0.out HL0.out HC1.out HL1.out HC2.out HL2.out HC3.out HL3.out⟩
end Go.Proofs.Ytnigokmjehemaaa
