/- Books and SameBooks, of the program and of the reference. Written by gen_k5.py. -/
import Derived.Test.YtgdibeegheddmaaYK4Few
import Derived.Test.YtgdibeegheddmaaYDb
namespace Go.Proofs.Ytgdibeegheddmaa
open Go Go.RowKit
set_option linter.unusedVariables false
set_option linter.unusedSimpArgs false
attribute [local go_sem ↓] Go.wp_at_zero Go.wp_at_succ
theorem size67 {cs : List Value} (h : cs.length = 27) : (Try.prog.info? 67).map (·.size) = some cs.toArray.size := by rw [info67, List.size_toArray, h]
def booksR (x : XBooks) : List UInt8 × Int := if 8388608 < (encBooks x).length then ([], 6) else (encBooks x, 0)
theorem FewBks.r {x : XBooks} (h : FewBks x) : booksR x = (encBooks x, 0) := if_neg (by have := h.len; omega)
set_option maxHeartbeats 1000000 in
set_option maxRecDepth 100000 in
theorem rBooksR_c (x : XBooks) (cx : List Value) (w : World) (hx : BooksC w (· < w.heap.size) cx x) (hf : FewBks x) :
    Calls Try.prog 27 #[.agg cx.toArray] w (BytesErr w (encBooks x, 0)) := by
  have hl := hf.len
  have HX := Lib.hid hx
  have HC := Lib.hid (size67 hx.len)
  clear hx
  go_enter Try.func27, Try.ntmps27
  go_upto_region 1 with fail
  have hbox : (w.alloc (Obj.cells cx.toArray 67)).heap[w.heap.size]? = some (Obj.cells cx.toArray 67) := heap_alloc_new w _
  generalize hW : w.alloc (Obj.cells cx.toArray 67) = W at *
  have hbW : Below w.heap.size w W := by rw [← hW]; exact below1 w _
  clear hW
  have HB := Lib.hid hbox
  clear hbox
  go_wp2_with (refine wpList_load_row rfl 67 (.tmp 1) rfl w.heap.size rfl 67 cx.toArray (0, 0) _ HB.out Try.underlying67 rfl HC.out ?_)
  refine (rBooks_c x cx W (HX.out.keep hbW) hf).mono ?_
  generalize encBooks x = L at *
  rintro e w1 ⟨v1, rfl, hn1⟩
  obtain ⟨A1, c1, rfl, _, _⟩ := hn1.1.form
  have hbig : ¬ (8388608 : Int) < (L.length : Int) := by omega
  have hn2 : NewBytes w w1 (.slice A1 L.length c1) L := ⟨hn1.1, fun k hk => Nat.le_trans hbW.size (hn1.2.1 k hk), hbW.trans (hn1.2.2.mono hbW.size)⟩
  go_wp2_with fail
  go_ret2
  exact ⟨_, rfl, hn2⟩
set_option maxHeartbeats 1000000 in
set_option maxRecDepth 100000 in
theorem books_c (x : XBooks) (cx : List Value) (w : World) (hx : BooksC w (· < w.heap.size) cx x) (hL : (encBooks x).length ≤ 8000000) :
    Calls Try.prog 26 #[.agg cx.toArray] w (BytesErr w (encBooks x, 0)) := by
  have HX := Lib.hid hx
  clear hx
  go_enter Try.func26, Try.ntmps26
  go_upto_region 2 with fail
  have h2 := heap2 w (.cells cx.toArray 67) (.cells #[.slice none 0 0, .bool false, .bool false] 81)
  generalize hW : (w.alloc (.cells cx.toArray 67)).alloc (.cells #[.slice none 0 0, .bool false, .bool false] 81) = W at *
  obtain ⟨H0, H1, HS, HF⟩ := h2
  have hbW : Below w.heap.size w W := HF.below
  have hsz : W.heap.size = w.heap.size + 2 := by omega
  clear hW HF HS
  have hs : SS W (w.heap.size + 1) (.slice none 0 0) [] false false := ⟨H1, Bytes.nil W⟩
  have hq : ∀ k, k < w.heap.size + 1 → Oth W (w.heap.size + 1) (.slice none 0 0) k := fun k hk => ⟨by omega, by omega, by simp [Value.ownBlock]⟩
  have hxW : BooksC W (· < w.heap.size + 1) cx x := (HX.out.fr (Fr.ofBelow hbW)).mono (fun k hk => by omega)
  have haW : At W (· < w.heap.size + 1) ⟨w.heap.size, 0, none⟩ cx := ⟨by show w.heap.size < w.heap.size + 1; omega, (box_at H0).2⟩
  have HSZ := Lib.hid hsz
  clear H0 H1 hsz
  go_wp2_with fail
  refine (Books_w (w.heap.size + 1) (.slice none 0 0) [] false w.heap.size 0 x W (· < w.heap.size + 1) cx hs hq hxW haW (by unfold Lim; simp; omega)).mono ?_
  generalize encBooks x = L at *
  rintro e w1 ⟨rfl, v1, hs1, hst1⟩
  rw [List.nil_append] at hs1
  obtain ⟨A1, c1, rfl, _, _⟩ := hs1.2.form
  have c0 := blk_cell hs1.1 0
  have hb1 : Below w.heap.size w w1 := hbW.trans ((hst1.fr.mono (fun k hk => hq k (by omega))).below)
  have hown : ∀ k, Value.ownBlock (.slice A1 L.length c1) = some k → w.heap.size ≤ k := fun k hk => by
    have := HSZ.out
    rcases hst1.own k hk with h | h
    · simp [Value.ownBlock] at h
    · omega
  have hbig : ¬ (8388608 : Int) < (L.length : Int) := by omega
  have H1 := Lib.hid hs1
  clear hs hs1
  go_wp2_with fail
  go_ret2
  exact ⟨_, rfl, H1.out.2, hown, hb1⟩
set_option maxHeartbeats 1000000 in
set_option maxRecDepth 100000 in
theorem sameBooks_c (x y : XBooks) (cx cy : List Value) (w : World) (hx : BooksC w (· < w.heap.size) cx x) (hy : BooksC w (· < w.heap.size) cy y)
    (hLx : (encBooks x).length ≤ 8000000) (hLy : (encBooks y).length ≤ 8000000) :
    Calls Try.prog 28 #[.agg cx.toArray, .agg cy.toArray] w fun e w' => e = .returned (.bool (decide (encBooks x = encBooks y))) ∧ Below w.heap.size w w' := by
  have HX := Lib.hid hx
  have HY := Lib.hid hy
  clear hx hy
  go_enter Try.func28, Try.ntmps28
  go_upto_region 2 with fail
  have h4 := heap4 w (.cells cx.toArray 67) (.cells cy.toArray 67) (.cells #[.slice none 0 0, .bool false, .bool false] 81) (.cells #[.slice none 0 0, .bool false, .bool false] 81)
  generalize hW : (((w.alloc (.cells cx.toArray 67)).alloc (.cells cy.toArray 67)).alloc (.cells #[.slice none 0 0, .bool false, .bool false] 81)).alloc (.cells #[.slice none 0 0, .bool false, .bool false] 81) = W at *
  clear hW
  obtain ⟨H0, H1, H2, H3, HS, HF⟩ := h4
  have hsz : w.heap.size + 4 ≤ W.heap.size := by omega
  clear HS
  have q0 : ∀ k, k < w.heap.size + 2 → Oth W (w.heap.size + 2) (.slice none 0 0) k := fun k hk => ⟨by omega, by omega, by simp [Value.ownBlock]⟩
  have hxW : BooksC W (· < w.heap.size + 2) cx x := (HX.out.fr HF).mono (fun k hk => by omega)
  have haW : At W (· < w.heap.size + 2) ⟨w.heap.size, 0, none⟩ cx := ⟨by show w.heap.size < w.heap.size + 2; omega, (box_at H0).2⟩
  have hyW : BooksC W (· < w.heap.size + 2) cy y := (HY.out.fr HF).mono (fun k hk => by omega)
  have hbW : At W (· < w.heap.size + 2) ⟨w.heap.size + 1, 0, none⟩ cy := ⟨by show w.heap.size + 1 < w.heap.size + 2; omega, (box_at H1).2⟩
  have hs : SS W (w.heap.size + 2) (.slice none 0 0) [] false false := ⟨H2, Bytes.nil W⟩
  clear H0 H1
  go_wp2_with fail
  refine (Books_w (w.heap.size + 2) (.slice none 0 0) [] false w.heap.size 0 x W (· < w.heap.size + 2) cx hs q0 hxW haW (by unfold Lim; simp; omega)).mono ?_
  rintro e w1 ⟨rfl, v1, hs1, hst1⟩
  have o3 : Oth W (w.heap.size + 2) (.slice none 0 0) (w.heap.size + 3) := ⟨by omega, by omega, by simp [Value.ownBlock]⟩
  have K3 := (hst1.fr.block _ o3).trans H3
  have hz1 := hst1.fr.size
  have F1 := hst1.fr.mono q0
  have q1 : ∀ k, k < w.heap.size + 2 → Oth w1 (w.heap.size + 3) (.slice none 0 0) k := fun k hk => ⟨by omega, by omega, by simp [Value.ownBlock]⟩
  have f1 : Fr (· < w.heap.size) w w1 := HF.trans (F1.mono (fun k hk => by show k < w.heap.size + 2; omega))
  have hs3 : SS w1 (w.heap.size + 3) (.slice none 0 0) [] false false := ⟨K3, Bytes.nil w1⟩
  clear hs
  go_wp2_with fail
  refine (Books_w (w.heap.size + 3) (.slice none 0 0) [] false (w.heap.size + 1) 0 y w1 (· < w.heap.size + 2) cy hs3 q1 (hyW.fr F1) (hbW.fr F1) (by unfold Lim; simp; omega)).mono ?_
  rintro e w2 ⟨rfl, v2, hs2, hst2⟩
  have f2 : Fr (· < w.heap.size) w w2 := f1.trans ((hst2.fr.mono q1).mono (fun k hk => by show k < w.heap.size + 2; omega))
  have hs1' := hs1.fr hst2.fr ⟨hs1.lt, by omega, by simp [Value.ownBlock]⟩ (fun k hk => ⟨hs1.2.lt hk, fun e => own_ne hs1.2 K3 (by decide) (by rw [hk, e]), by simp [Value.ownBlock]⟩)
  have c1 : w2.cell? ⟨w.heap.size + 1 + 1, 0, none⟩ = _ := blk_cell hs1'.1 0
  have c2 : w2.cell? ⟨w.heap.size + 1 + 1 + 1, 0, none⟩ = _ := blk_cell hs2.1 0
  rw [List.nil_append] at hs1' hs2
  obtain ⟨A1, d1, rfl, _, _⟩ := hs1'.2.form
  obtain ⟨A2, d2, rfl, _, _⟩ := hs2.2.form
  have r1 := (hs1'.2.rd (Q := fun _ => True) (fun _ _ => trivial)).2
  have r2 := (hs2.2.rd (Q := fun _ => True) (fun _ _ => trivial)).2
  have R1 := Lib.hid r1
  have R2 := Lib.hid r2
  clear r1 r2 hs1 hs1' hs2 hs3 H2 H3 K3
  go_wp2_with fail
  go_quiet ((go_at_call 44; exact Calls.quiet_of (equal_c A1 A2 d1 d2 (encBooks x) (encBooks y) _ _ (Rd.drewN R1.out _) (Rd.drewN R2.out _) (by omega) (by omega))))
  go_wp2_with fail
  go_ret
  exact ⟨rfl, (f2.drewN nq).below⟩
set_option maxHeartbeats 2000000 in
set_option maxRecDepth 100000 in
theorem rSameBooks_c (x y : XBooks) (cx cy : List Value) (w : World) (hx : BooksC w (· < w.heap.size) cx x) (hy : BooksC w (· < w.heap.size) cy y) (hfx : FewBks x) (hfy : FewBks y) :
    Calls Try.prog 29 #[.agg cx.toArray, .agg cy.toArray] w fun e w' => e = .returned (.bool (decide (encBooks x = encBooks y))) ∧ Below w.heap.size w w' := by
  have HX := Lib.hid hx
  have HY := Lib.hid hy
  clear hx hy
  go_enter Try.func29, Try.ntmps29
  go_wp2_with fail
  have h2 := heap2 w (.cells cx.toArray 67) (.cells cy.toArray 67)
  generalize hW : (w.alloc (Obj.cells cx.toArray 67)).alloc (Obj.cells cy.toArray 67) = W at *
  obtain ⟨H0, H1, HS, HF⟩ := h2
  have hbW : Below w.heap.size w W := HF.below
  have hWs : w.heap.size + 1 < W.heap.size := by omega
  clear hW HF
  have EX := Lib.hid (HX.out.keep hbW)
  have EY := Lib.hid (HY.out.keep hbW)
  have RX := Lib.hid (box_at H0)
  have RY := Lib.hid (box_at H1)
  clear H0 H1 HS
  refine wp_region_inv (Ks W [.val (.agg cx.toArray), .row (encBooks x), .val (.string (bstr (encBooks x))), .val (.agg cy.toArray), .row (encBooks y), .val (.string (bstr (encBooks y))), .val (.bool (decide (encBooks x = encBooks y))), .val (.bool (decide (encBooks x = encBooks y)))])
    (fun w' => Below W.heap.size W w') (by kernel_rfl) (by kernel_rfl) (by kernel_rfl) (Below.refl _ _).drew ?_ ?_
  · refine ⟨?_, ?_, ?_, ?_, ?_, ?_, ?_, ?_, trivial⟩
    · intro listed A0 w2 hI hd hnd K hK
      have e0 := hI.slot hnd 2 _ rfl (by kernel_rfl)
      have hS := hI.world
      have hrange := (RX.out.fr (Fr.ofBelow hS)).range
      have hisize : (Try.prog.info? 67).map (·.size) = some cx.length := by rw [info67, (EX.out).len]
      refine wanted_go rfl ?_
      clear hI hd hnd
      refine wp_load_mid 67 (.tmp 2) rfl _ _ (by simpa [Act.eval, Array.getD_eq_getD_getElem?] using e0) _ _ hrange Try.underlying67 rfl hisize ?_
      exact hK.out _ _ hS (Ks.of rfl rfl) (fun _ _ h => h)
    · intro listed A0 w2 hI hd hnd K hK
      have e0 := hI.depv hd 0 5 _ rfl rfl rfl (by kernel_rfl)
      have hS := hI.world
      refine wanted_go rfl ?_
      clear hI hd hnd
      go_simp
      go_at_call 55
      refine (rBooks_c x cx w2 (EX.out.keep hS) hfx).mono ?_
      rintro e w3 hP
      obtain ⟨v, rfl, h1, h2, h3⟩ := NewP.from hP hS
      exact hK.out _ _ h1 (Ks.of rfl h2) (Ks.keep h3)
    · intro listed A0 w2 hI hd hnd K hK
      obtain ⟨x0, e0, h0⟩ := hI.dep hd 1 6 rfl rfl rfl (by kernel_rfl)
      have hS := hI.world
      obtain ⟨Ab, cb, rfl, _, _⟩ := h0.1.form
      have hcv : (convert 22 9 (.slice Ab (encBooks x).length cb)).run Try.prog w2 = .ok (.string (bstr (encBooks x))) w2 := run_str (h0.1.rd (fun k hk => h0.1.lt hk)).2
      clear h0
      refine wanted_go rfl ?_
      clear hI hd hnd
      go_simp
      exact hK.out _ _ hS (Ks.of rfl rfl) (fun _ _ h => h)
    · intro listed A0 w2 hI hd hnd K hK
      have e0 := hI.slot hnd 3 _ rfl (by kernel_rfl)
      have hS := hI.world
      have hrange := (RY.out.fr (Fr.ofBelow hS)).range
      have hisize : (Try.prog.info? 67).map (·.size) = some cy.length := by rw [info67, (EY.out).len]
      refine wanted_go rfl ?_
      clear hI hd hnd
      refine wp_load_mid 67 (.tmp 3) rfl _ _ (by simpa [Act.eval, Array.getD_eq_getD_getElem?] using e0) _ _ hrange Try.underlying67 rfl hisize ?_
      exact hK.out _ _ hS (Ks.of rfl rfl) (fun _ _ h => h)
    · intro listed A0 w2 hI hd hnd K hK
      have e0 := hI.depv hd 3 8 _ rfl rfl rfl (by kernel_rfl)
      have hS := hI.world
      refine wanted_go rfl ?_
      clear hI hd hnd
      go_simp
      go_at_call 55
      refine (rBooks_c y cy w2 (EY.out.keep hS) hfy).mono ?_
      rintro e w3 hP
      obtain ⟨v, rfl, h1, h2, h3⟩ := NewP.from hP hS
      exact hK.out _ _ h1 (Ks.of rfl h2) (Ks.keep h3)
    · intro listed A0 w2 hI hd hnd K hK
      obtain ⟨x0, e0, h0⟩ := hI.dep hd 4 9 rfl rfl rfl (by kernel_rfl)
      have hS := hI.world
      obtain ⟨Ab, cb, rfl, _, _⟩ := h0.1.form
      have hcv : (convert 22 9 (.slice Ab (encBooks y).length cb)).run Try.prog w2 = .ok (.string (bstr (encBooks y))) w2 := run_str (h0.1.rd (fun k hk => h0.1.lt hk)).2
      clear h0
      refine wanted_go rfl ?_
      clear hI hd hnd
      go_simp
      exact hK.out _ _ hS (Ks.of rfl rfl) (fun _ _ h => h)
    · intro listed A0 w2 hI hd hnd K hK
      have e0 := hI.depv hd 2 7 _ rfl rfl rfl (by kernel_rfl)
      have e1 := hI.depv hd 5 10 _ rfl rfl rfl (by kernel_rfl)
      have hS := hI.world
      have hbe : ((bstr (encBooks x)).toList == (bstr (encBooks y)).toList) = decide (encBooks x = encBooks y) := bstr_beq _ _
      refine wanted_go rfl ?_
      clear hI hd hnd
      go_simp
      exact hK.out _ _ hS (Ks.of rfl rfl) (fun _ _ h => h)
    · intro listed A0 w2 hI hd hnd K hK
      have e0 := hI.depv hd 6 11 _ rfl rfl rfl (by kernel_rfl)
      have hS := hI.world
      refine wanted_go rfl ?_
      clear hI hd hnd
      go_simp
      exact hK.out _ _ hS (Ks.of rfl rfl) (fun _ _ h => h)
  · intro listed A0 w2 hI hall
    obtain ⟨x0, g0, h0⟩ := hI.got 0 _ 5 rfl rfl (hall 0 (by decide))
    obtain ⟨x1, g1, h1⟩ := hI.got 1 _ 6 rfl rfl (hall 1 (by decide))
    obtain ⟨x2, g2, h2⟩ := hI.got 2 _ 7 rfl rfl (hall 2 (by decide))
    obtain ⟨x3, g3, h3⟩ := hI.got 3 _ 8 rfl rfl (hall 3 (by decide))
    obtain ⟨x4, g4, h4⟩ := hI.got 4 _ 9 rfl rfl (hall 4 (by decide))
    obtain ⟨x5, g5, h5⟩ := hI.got 5 _ 10 rfl rfl (hall 5 (by decide))
    obtain ⟨x6, g6, h6⟩ := hI.got 6 _ 11 rfl rfl (hall 6 (by decide))
    obtain ⟨x7, g7, h7⟩ := hI.got 7 _ 4 rfl rfl (hall 7 (by decide))
    have hS := hI.world
    have hA : A0 = _ := hI.tmps [(5, x0), (6, x1), (7, x2), (8, x3), (9, x4), (10, x5), (11, x6), (4, x7)] (by simp only [List.mem_cons, List.not_mem_nil, or_false, forall_eq_or_imp, forall_eq]; exact ⟨g0, g1, g2, g3, g4, g5, g6, g7⟩) (by kernel_rfl)
    obtain rfl : x7 = .bool (decide (encBooks x = encBooks y)) := h7 _ rfl
    clear h0 g0 h1 g1 h2 g2 h3 g3 h4 g4 h5 g5 h6 g6 h7 g7 hI hall
    simp only [setAll, List.foldl, List.setIfInBounds_toArray, List.set_cons_zero, List.set_cons_succ] at hA
    rw [hA]
    clear hA
    go_wp2_with fail
    go_ret
    exact ⟨rfl, hbW.trans (hS.mono hbW.size)⟩
end Go.Proofs.Ytgdibeegheddmaa
