/- The example of the document for journals; a nil journal. Written by gen_i17.py. -/
import Derived.Test.YtebdajkknkapcaaG4xB0B6
import Derived.Test.YtebdajkknkapcaaG4xB7B13
import Derived.Test.YtebdajkknkapcaaG4xB14
import Derived.Test.YtebdajkknkapcaaG4xB15S0
import Derived.Test.YtebdajkknkapcaaG4xB21B27
import Derived.Test.YtebdajkknkapcaaG4xB28S2
import Derived.Test.YtebdajkknkapcaaG4xS3C3
import Derived.Test.YtebdajkknkapcaaG4xC4E5
import Derived.Test.YtebdajkknkapcaaG4xE6I5
import Derived.Test.YtebdajkknkapcaaG4xI6I12
import Derived.Test.YtebdajkknkapcaaG4xI13I15
import Derived.Test.YtebdajkknkapcaaG4xI16
import Derived.Test.YtebdajkknkapcaaProg
namespace Go.Proofs.Ytebdajkknkapcaa
open Go Go.RowKit
set_option linter.unusedVariables false
set_option linter.unusedSimpArgs false
set_option maxRecDepth 4000
attribute [local go_sem ↓] Go.wp_at_zero Go.wp_at_succ
theorem len_c (D O : Nat → Prop) (J : Nat) (g : XGroup) (es : List XEntry) (gl : List Value) (css : List (List Value)) (v : Value) (bi br : Nat) (w : World) (hj : JAt w D O J g es gl css v bi br) : Calls Try.prog 37 #[.pointer (some ⟨J, 0, none⟩)] w (Quiet w (.int .i64 (es.length : Int))) := by
  obtain ⟨Av, nv, cv, rfl⟩ := own_shape hj.row
  obtain rfl := own_val hj.row
  have c21 := hj.cell.1
  obtain ⟨n, hn⟩ : ∃ n, es.length = n := ⟨_, rfl⟩
  rw [hn] at c21 ⊢
  clear hj hn
  go_enter Try.func37, Try.ntmps37
  go_wp2_with fail
  go_ret
  exact ⟨rfl, Below.refl _ _⟩
theorem len_nil_c (w : World) : Calls Try.prog 37 #[.pointer none] w (Quiet w (.int .i64 0)) := by
  go_enter Try.func37, Try.ntmps37
  go_wp2_with fail
  go_ret
  exact ⟨rfl, Below.refl _ _⟩
theorem clone_nil_c (w : World) : Calls Try.prog 36 #[.pointer none] w (Quiet w (.pointer none)) := by
  go_enter Try.func36, Try.ntmps36
  go_wp2_with fail
  go_ret
  exact ⟨rfl, Below.refl _ _⟩
theorem entries_nil_c (w : World) : Calls Try.prog 38 #[.pointer none] w (Quiet w (.slice none 0 0)) := by
  go_enter Try.func38, Try.ntmps38
  go_wp2_with fail
  go_ret
  exact ⟨rfl, Below.refl _ _⟩
theorem reversal_nil_c (id : Int) (w : World) : Calls Try.prog 21 #[.pointer none, .int .i64 id] w (Quiet w (.tuple #[.int .i64 0, .bool false])) := by
  go_enter Try.func21, Try.ntmps21
  go_wp2_with fail
  go_ret2
  exact ⟨rfl, Below.refl _ _⟩
theorem post_nil_c (ex : Array Value) (w : World) : Calls Try.prog 23 #[.pointer none, .agg ex] w (Quiet w (.int .i64 7)) := by
  go_enter Try.func23, Try.ntmps23
  go_wp2_with fail
  go_ret
  exact ⟨rfl, below1 w _⟩
theorem get_nil_c (id : Int) (w : World) : Calls Try.prog 34 #[.pointer none, .int .i64 id] w (Quiet w (.tuple #[.agg #[.int .i64 0, .int .i64 0, .int .i64 0, .int .i64 0, .int .i64 0, .string ⟨#[]⟩, .slice none 0 0], .bool false])) := by
  go_enter Try.func34, Try.ntmps34
  go_upto_region 1 with fail
  have H := heap_alloc_new w (.cells #[.int .i64 0, .int .i64 0, .int .i64 0, .int .i64 0, .int .i64 0, .string ⟨#[]⟩, .slice none 0 0] 42)
  have HB := below1 w (.cells #[.int .i64 0, .int .i64 0, .int .i64 0, .int .i64 0, .int .i64 0, .string ⟨#[]⟩, .slice none 0 0] 42)
  generalize w.alloc (.cells #[.int .i64 0, .int .i64 0, .int .i64 0, .int .i64 0, .int .i64 0, .string ⟨#[]⟩, .slice none 0 0] 42) = W at *
  have HZ := Lib.hid H
  clear H
  go_wp2_with (show wpList _ _ _ (Oper.mk none (Op.store _ (Operand.tmp 4) _) _ _ _ _ :: _) _ _; refine wpList_store_row rfl 42 (.tmp 4) (.tmp 10) rfl w.heap.size #[.int .i64 0, .int .i64 0, .int .i64 0, .int .i64 0, .int .i64 0, .string ⟨#[]⟩, .slice none 0 0] rfl rfl 42 #[.int .i64 0, .int .i64 0, .int .i64 0, .int .i64 0, .int .i64 0, .string ⟨#[]⟩, .slice none 0 0] HZ.out (by rw [info_entry]; rfl) rfl (by simp [Value.oneCell']) ?_)
  refine bodyPost_ret (v := _) (results_cell_tmp rfl _ _ w.heap.size 42 #[.int .i64 0, .int .i64 0, .int .i64 0, .int .i64 0, .int .i64 0, .string ⟨#[]⟩, .slice none 0 0] (0, 0) _ rfl (heap_setRow HZ.out _) Try.underlying42 rfl info_entry _ rfl) rfl ⟨rfl, below_setRow HB (Nat.le_refl _) _⟩
theorem line_nil_c (a b : Int) (w : World) : Calls Try.prog 35 #[.pointer none, .agg #[.int .i64 a, .int .i64 b]] w (Quiet w (.tuple #[.agg #[.int .i64 0, .int .i64 0, .int .i64 0], .bool false])) := by
  go_enter Try.func35, Try.ntmps35
  go_upto_region 1 with fail
  have H := heap_alloc_new w (.cells #[.int .i64 a, .int .i64 b] 60)
  have HB := below1 w (.cells #[.int .i64 a, .int .i64 b] 60)
  have HS := blk_lt H
  have eW : (w.alloc (.cells #[.int .i64 a, .int .i64 b] 60)).heap.size = w.heap.size + 1 := by simp
  generalize w.alloc (.cells #[.int .i64 a, .int .i64 b] 60) = W at *
  have H2 := heap_alloc_new W (.cells #[.int .i64 0, .int .i64 0, .int .i64 0] 64)
  have HB2 := below1 W (.cells #[.int .i64 0, .int .i64 0, .int .i64 0] 64)
  replace H := alloc_keep H (Obj.cells #[.int .i64 0, .int .i64 0, .int .i64 0] 64)
  generalize W.alloc (.cells #[.int .i64 0, .int .i64 0, .int .i64 0] 64) = W2 at *
  rw [eW] at H2
  have hb2 := HB.trans (HB2.mono HB.size)
  have HH := Lib.hid H
  have HZ := Lib.hid H2
  have LT2 := blk_lt H2
  have EW := Lib.hid eW
  clear H H2 eW
  have c0 := blk_cell HH.out 0
  go_wp2_with fail
  refine (get_nil_c a W2).mono ?_
  rintro e w3 ⟨rfl, hb3⟩
  have hb03 := hb2.trans (hb3.mono hb2.size)
  have HZ3 := Lib.hid ((hb3.block _ LT2).trans HZ.out)
  clear c0
  go_upto_region 2 with (show wpList _ _ _ (Oper.mk none (Op.store _ (Operand.tmp 6) _) _ _ _ _ :: _) _ _; refine wpList_store_fresh3 rfl 42 (.tmp 6) (.tmp 13) rfl rfl w3 #[.int .i64 0, .int .i64 0, .int .i64 0, .int .i64 0, .int .i64 0, .string ⟨#[]⟩, .slice none 0 0] 42 #[.int .i64 0, .int .i64 0, .int .i64 0, .int .i64 0, .int .i64 0, .string ⟨#[]⟩, .slice none 0 0] rfl rfl rfl info_entry rfl (by simp [Value.oneCell']) ?_; intro w4 H4 HB4 HS4)
  have hb04 := hb03.trans (HB4.mono hb03.size)
  have HZ4 := Lib.hid ((HB4.block _ (Nat.lt_of_lt_of_le LT2 hb3.size)).trans HZ3.out)
  clear H4
  go_wp2_with (show wpList _ _ _ (Oper.mk none (Op.store _ (Operand.tmp 4) _) _ _ _ _ :: _) _ _; refine wpList_store_row rfl 64 (.tmp 4) (.tmp 30) rfl (w.heap.size + 1) #[.int .i64 0, .int .i64 0, .int .i64 0] rfl rfl 64 #[.int .i64 0, .int .i64 0, .int .i64 0] HZ4.out (by rw [info_line]; rfl) rfl (by simp [Value.oneCell']) ?_)
  refine bodyPost_ret (v := _) (results_cell_tmp rfl _ _ (w.heap.size + 1) 64 #[.int .i64 0, .int .i64 0, .int .i64 0] (0, 0) _ rfl (heap_setRow HZ4.out _) Try.underlying64 rfl info_line _ rfl) rfl ⟨rfl, below_setRow hb04 (by omega) _⟩
set_option maxHeartbeats 1000000 in
theorem indexfunc_nil_c (f : Value) (w : World) : Calls Try.prog 118 #[.slice none 0 0, f] w (Quiet w (.int .i64 (-1))) := by
  go_enter Try.func118, Try.ntmps118
  go_wp2_with fail
  go_loopw [8] (fun i wr => i = .int .i64 0 ∧ Below w.heap.size w wr) (fun i _ => 0)
  case atStart => exact ⟨rfl, Below.refl _ _⟩
  case round =>
    obtain ⟨rfl, hb⟩ := hrel
    go_wp2_with fail
    go_ret
    exact ⟨rfl, hb⟩
theorem deletefunc_nil_c (f : Value) (w : World) : Calls Try.prog 75 #[.slice none 0 0, f] w (Quiet w (.slice none 0 0)) := by
  go_enter Try.func75, Try.ntmps75
  go_wp2_with fail
  refine (indexfunc_nil_c f w).mono ?_
  rintro e w2 ⟨rfl, hb2⟩
  go_wp2_with fail
  go_ret
  exact ⟨rfl, hb2⟩
theorem of_nil_c (k : Int) (w : World) : Calls Try.prog 39 #[.pointer none, .int .i64 k] w (Quiet w (.slice none 0 0)) := by
  go_enter Try.func39, Try.ntmps39
  go_upto_region 1 with fail
  have HB := below1 w (.cells #[.int .i64 k] 3)
  generalize w.alloc (.cells #[.int .i64 k] 3) = W at *
  go_wp2_with fail
  refine (entries_nil_c W).mono ?_
  rintro e w2 ⟨rfl, hb2⟩
  have hb02 := HB.trans (hb2.mono HB.size)
  go_wp2_with fail
  refine (deletefunc_nil_c _ w2).mono ?_
  rintro e w3 ⟨rfl, hb3⟩
  go_wp2_with fail
  go_ret
  exact ⟨rfl, hb02.trans (hb3.mono hb02.size)⟩
theorem awakeE : postE sampleG [] ⟨1, 0, 0, 0, 0, ByteArray.empty, []⟩ = 1 := by decide +kernel
set_option maxHeartbeats 2000000 in
theorem awake12_c (w : World) : Calls Try.prog 17 #[] w (Quiet w (.bool true)) := by
  go_enter Try.func17, Try.ntmps17
  go_wp2_with fail
  refine (sample_c w).mono ?_
  rintro e w2 ⟨vs, rfl, hg, hb2⟩
  have hone : vs.toArray.all (·.oneCell') = true := by rw [List.all_toArray, List.all_eq_true]; exact grp_one hg
  have HGS := Lib.hid (show vs.toArray.size = 21 by simpa using hg.len)
  have HONE := Lib.hid hone
  have HG := Lib.hid hg
  clear hg hone
  go_upto_region 2 with (show wpList _ _ _ (Oper.mk none (Op.store _ (Operand.tmp 1) _) _ _ _ _ :: _) _ _; refine wpList_store_fresh3 rfl 29 (.tmp 1) (.tmp 4) rfl rfl w2 #[.string ⟨#[]⟩, .int .i64 0, .int .i64 0, .int .i64 0, .slice none 0 0, .int .i64 0, .int .i64 0, .int .i64 0, .int .i64 0, .int .i64 0, .int .i64 0, .int .i64 0, .int .i64 0, .int .i64 0, .int .i64 0, .int .i64 0, .int .i64 0, .int .i64 0, .int .i64 0, .int .i64 0, .slice none 0 0] 29 vs.toArray rfl rfl rfl (by rw [info_group]; exact congrArg some HGS.out.symm) HGS.out.symm HONE.out ?_; intro w3 H3 HB3 HS3)
  have HK3 := Lib.hid H3
  have hb3 := hb2.trans (HB3.mono hb2.size)
  clear H3
  go_wp2_with (show wpList _ _ _ (Oper.mk (some 6) _ _ _ _ _ :: _) _ _; refine wpList_load_row_g rfl 29 (.tmp 1) rfl (w2.heap.size) rfl _ _ _ _ HK3.out Try.underlying29 rfl (by rw [info_group]; exact congrArg some HGS.out.symm) ?_)
  have hnew := new_c sampleG vs w3 (HG.out.keep HB3) sample_small
  refine hnew.mono ?_
  rintro e w4 ⟨hb4, hcase⟩
  have hb04 := hb3.trans (hb4.mono hb3.size)
  rcases hcase with ⟨hF, _⟩ | ⟨_, J, D, O, rfl, hJC, hDO⟩
  · exact absurd sample_valid (by rw [hF]; decide)
  obtain ⟨gl, css, v, bi, br, hJ⟩ := hJC
  have HJ := Lib.hid hJ
  clear hJ hnew
  go_wp2_with fail
  have hx : EntryC w4 (fun q => q < w4.heap.size ∧ ¬ O q) [.int .i64 1, .int .i64 0, .int .i64 0, .int .i64 0, .int .i64 0, .string ⟨#[]⟩, .slice none 0 0] ⟨1, 0, 0, 0, 0, ByteArray.empty, []⟩ := EntryC.mk (x := ⟨1, 0, 0, 0, 0, ByteArray.empty, []⟩) ⟨show intBd 1 by unfold intBd; omega, bd0, bd0, bd0, bd0⟩ (listC0 _ _ _ _)
  have hpost := post_c D O J sampleG [] gl css v bi br ⟨1, 0, 0, 0, 0, ByteArray.empty, []⟩ _ w4 HJ.out sample_small hx (by decide) (by decide) (by decide)
  rw [awakeE] at hpost
  rw [if_neg (by decide)] at hpost
  have HPOST := Lib.hid hpost
  clear hpost hx
  refine HPOST.out.mono ?_
  rintro e w5 ⟨rfl, m, hm1, hm2, ⟨gl5, css5, v5, bi5, br5, hJ5⟩, hf5⟩
  have HLN := Lib.hid (fun (w2 : World) (hb : Below w5.heap.size w5 w2) => len_c _ _ J sampleG [] gl5 css5 v5 bi5 br5 w2 (hJ5.below hb))
  have hb05 : Below w.heap.size w w5 := ((Fr.ofBelow hb04).trans (hf5.mono (fun q hq => ⟨by have := hb04.size; omega, fun ho => by have := hDO q (.inr ho); have := hb3.size; omega⟩))).below
  clear hJ5 hf5
  go_wp2_with fail
  refine (HLN.out w5 (Below.refl _ _)).mono ?_
  rintro e w6 ⟨rfl, hb6⟩
  go_wp2_with fail
  go_ret
  exact ⟨rfl, hb05.trans (hb6.mono hb05.size)⟩
end Go.Proofs.Ytebdajkknkapcaa
/- The walk of the law JournalNil. Written by gen_i18.py. -/
namespace Go.Proofs.Ytebdajkknkapcaa
open Go Go.RowKit
set_option linter.unusedVariables false
set_option linter.unusedSimpArgs false
set_option maxRecDepth 4000
attribute [local go_sem ↓] Go.wp_at_zero Go.wp_at_succ
theorem info_ref : (Try.prog.info? 60).map (·.size) = some 2 := by kernel_rfl
set_option maxHeartbeats 4000000 in
theorem law_journalNil (ex : List Value) (hel : ex.length = 7) (ra rb : Int) (w : World) : Calls Try.prog 6 #[.agg ex.toArray, .agg #[.int .i64 ra, .int .i64 rb]] w (Quiet w (.bool true)) := by
  have HES := Lib.hid (show ex.toArray.size = 7 by simpa using hel)
  clear hel
  go_enter Try.func6, Try.ntmps6
  go_upto_region 1 with fail
  have H := heap_alloc_new w (.cells ex.toArray 42)
  have HB := below1 w (.cells ex.toArray 42)
  have HS : w.heap.size < (w.alloc (.cells ex.toArray 42)).heap.size := blk_lt H
  generalize hW : w.alloc (Obj.cells ex.toArray 42) = W at *
  have H2 := heap_alloc_new W (.cells #[.int .i64 ra, .int .i64 rb] 60)
  have HB2 := below1 W (.cells #[.int .i64 ra, .int .i64 rb] 60)
  have HS2 : W.heap.size < (W.alloc (.cells #[.int .i64 ra, .int .i64 rb] 60)).heap.size := blk_lt H2
  replace H := alloc_keep H (Obj.cells #[.int .i64 ra, .int .i64 rb] 60)
  generalize hW2 : W.alloc (Obj.cells #[.int .i64 ra, .int .i64 rb] 60) = W2 at *
  clear hW2
  have eW : W.heap.size = w.heap.size + 1 := by rw [← hW]; simp
  rw [eW] at H2
  clear hW
  have hb2 := HB.trans (HB2.mono HB.size)
  have hs2 := HB2.size
  have LT1 := blk_lt H2
  have LT0 : w.heap.size < W2.heap.size := by omega
  have HH := Lib.hid H
  have HZ := Lib.hid H2
  have EW := Lib.hid eW
  clear H H2 eW
  have hb02 := hb2
  have LT02 := LT0
  have LT12 := LT1
  have HH2 := HH
  have HZ2 := HZ
  go_wp2_with fail
  refine (awake12_c W2).mono ?_
  rintro e w3 ⟨rfl, hb3⟩
  have hb03 := hb02.trans (hb3.mono hb02.size)
  have hs3 := hb3.size
  have LT03 := Nat.lt_of_lt_of_le LT02 hs3
  have LT13 := Nat.lt_of_lt_of_le LT12 hs3
  have HH3 := Lib.hid ((hb3.block _ LT02).trans HH2.out)
  have HZ3 := Lib.hid ((hb3.block _ LT12).trans HZ2.out)
  have c0 := blk_cell HZ3.out 0
  go_wp2_with fail
  refine (get_nil_c ra w3).mono ?_
  rintro e w4 ⟨rfl, hb4⟩
  have hb04 := hb03.trans (hb4.mono hb03.size)
  have hs4 := hb4.size
  have LT04 := Nat.lt_of_lt_of_le LT03 hs4
  have LT14 := Nat.lt_of_lt_of_le LT13 hs4
  have HH4 := Lib.hid ((hb4.block _ LT03).trans HH3.out)
  have HZ4 := Lib.hid ((hb4.block _ LT13).trans HZ3.out)
  go_upto_region 5 with (show wpList _ _ _ (Oper.mk none (Op.store _ (Operand.tmp 6) _) _ _ _ _ :: _) _ _; refine wpList_store_fresh3 rfl 42 (.tmp 6) (.tmp 19) rfl rfl w4 #[.int .i64 0, .int .i64 0, .int .i64 0, .int .i64 0, .int .i64 0, .string ⟨#[]⟩, .slice none 0 0] 42 #[.int .i64 0, .int .i64 0, .int .i64 0, .int .i64 0, .int .i64 0, .string ⟨#[]⟩, .slice none 0 0] rfl rfl rfl info_entry rfl (by simp [Value.oneCell']) ?_; intro w5 H5 hb5 HS5)
  have hb05 := hb04.trans (hb5.mono hb04.size)
  have hs5 := hb5.size
  have LT05 := Nat.lt_of_lt_of_le LT04 hs5
  have LT15 := Nat.lt_of_lt_of_le LT14 hs5
  have HH5 := Lib.hid ((hb5.block _ LT04).trans HH4.out)
  have HZ5 := Lib.hid ((hb5.block _ LT14).trans HZ4.out)
  clear H5 c0
  go_wp2_with (show wpList _ _ _ (Oper.mk (some 23) _ _ _ _ _ :: _) _ _; refine wpList_load_row_g rfl 60 (.tmp 3) rfl (w.heap.size + 1) rfl _ _ _ _ HZ5.out Try.underlying60 rfl info_ref ?_)
  refine (line_nil_c ra rb w5).mono ?_
  rintro e w6 ⟨rfl, hb6⟩
  have hb06 := hb05.trans (hb6.mono hb05.size)
  have hs6 := hb6.size
  have LT06 := Nat.lt_of_lt_of_le LT05 hs6
  have LT16 := Nat.lt_of_lt_of_le LT15 hs6
  have HH6 := Lib.hid ((hb6.block _ LT05).trans HH5.out)
  have HZ6 := Lib.hid ((hb6.block _ LT15).trans HZ5.out)
  go_upto_region 6 with (show wpList _ _ _ (Oper.mk none (Op.store _ (Operand.tmp 8) _) _ _ _ _ :: _) _ _; refine wpList_store_fresh3 rfl 64 (.tmp 8) (.tmp 25) rfl rfl w6 #[.int .i64 0, .int .i64 0, .int .i64 0] 64 #[.int .i64 0, .int .i64 0, .int .i64 0] rfl rfl rfl info_line rfl (by simp [Value.oneCell']) ?_; intro w7 H7 hb7 HS7)
  have hb07 := hb06.trans (hb7.mono hb06.size)
  have hs7 := hb7.size
  have LT07 := Nat.lt_of_lt_of_le LT06 hs7
  have LT17 := Nat.lt_of_lt_of_le LT16 hs7
  have HH7 := Lib.hid ((hb7.block _ LT06).trans HH6.out)
  have HZ7 := Lib.hid ((hb7.block _ LT16).trans HZ6.out)
  clear H7
  have c0 := blk_cell HZ7.out 0
  go_wp2_with fail
  refine (reversal_nil_c ra w7).mono ?_
  rintro e w8 ⟨rfl, hb8⟩
  have hb08 := hb07.trans (hb8.mono hb07.size)
  have hs8 := hb8.size
  have LT08 := Nat.lt_of_lt_of_le LT07 hs8
  have LT18 := Nat.lt_of_lt_of_le LT17 hs8
  have HH8 := Lib.hid ((hb8.block _ LT07).trans HH7.out)
  have HZ8 := Lib.hid ((hb8.block _ LT17).trans HZ7.out)
  clear c0
  go_wp2_with (show wpList _ _ _ (Oper.mk (some 35) _ _ _ _ _ :: _) _ _; refine wpList_load_row_g rfl 42 (.tmp 2) rfl (w.heap.size) rfl _ _ _ _ HH8.out Try.underlying42 rfl (by rw [info_entry]; exact congrArg some HES.out.symm) ?_)
  refine (post_nil_c _ w8).mono ?_
  rintro e w9 ⟨rfl, hb9⟩
  have hb09 := hb08.trans (hb9.mono hb08.size)
  have hs9 := hb9.size
  have LT09 := Nat.lt_of_lt_of_le LT08 hs9
  have LT19 := Nat.lt_of_lt_of_le LT18 hs9
  have HH9 := Lib.hid ((hb9.block _ LT08).trans HH8.out)
  have HZ9 := Lib.hid ((hb9.block _ LT18).trans HZ8.out)
  go_wp2_with fail
  refine (clone_nil_c w9).mono ?_
  rintro e w10 ⟨rfl, hb10⟩
  have hb010 := hb09.trans (hb10.mono hb09.size)
  have hs10 := hb10.size
  have LT010 := Nat.lt_of_lt_of_le LT09 hs10
  have LT110 := Nat.lt_of_lt_of_le LT19 hs10
  have HH10 := Lib.hid ((hb10.block _ LT09).trans HH9.out)
  have HZ10 := Lib.hid ((hb10.block _ LT19).trans HZ9.out)
  go_wp2_with fail
  refine (len_nil_c w10).mono ?_
  rintro e w11 ⟨rfl, hb11⟩
  have hb011 := hb010.trans (hb11.mono hb010.size)
  have hs11 := hb11.size
  have LT011 := Nat.lt_of_lt_of_le LT010 hs11
  have LT111 := Nat.lt_of_lt_of_le LT110 hs11
  have HH11 := Lib.hid ((hb11.block _ LT010).trans HH10.out)
  have HZ11 := Lib.hid ((hb11.block _ LT110).trans HZ10.out)
  go_wp2_with fail
  refine (entries_nil_c w11).mono ?_
  rintro e w12 ⟨rfl, hb12⟩
  have hb012 := hb011.trans (hb12.mono hb011.size)
  have hs12 := hb12.size
  have LT012 := Nat.lt_of_lt_of_le LT011 hs12
  have LT112 := Nat.lt_of_lt_of_le LT111 hs12
  have HH12 := Lib.hid ((hb12.block _ LT011).trans HH11.out)
  have HZ12 := Lib.hid ((hb12.block _ LT111).trans HZ11.out)
  have c1 := blk_cell HZ12.out 1
  go_wp2_with fail
  refine (of_nil_c rb w12).mono ?_
  rintro e w13 ⟨rfl, hb13⟩
  have hb013 := hb012.trans (hb13.mono hb012.size)
  have hs13 := hb13.size
  have LT013 := Nat.lt_of_lt_of_le LT012 hs13
  have LT113 := Nat.lt_of_lt_of_le LT112 hs13
  have HH13 := Lib.hid ((hb13.block _ LT012).trans HH12.out)
  have HZ13 := Lib.hid ((hb13.block _ LT112).trans HZ12.out)
  go_wp2_with fail
  go_ret
  exact ⟨rfl, hb013⟩
end Go.Proofs.Ytebdajkknkapcaa
