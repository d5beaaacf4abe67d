/- The reference's Proper and Event. Written by gen_h9.py. -/
import Derived.Test.YtgdibeegheddmaaH8RefOwn
import Derived.Test.YtgdibeegheddmaaI2Events
namespace Go.Proofs.Ytgdibeegheddmaa
open Go Go.RowKit
set_option linter.unusedVariables false
set_option linter.unusedSimpArgs false
attribute [local go_sem ↓] Go.wp_at_zero Go.wp_at_succ
def NewEv (x : XEvent) (v : Value) (w : World) : Prop := ∃ cy, v = .agg cy.toArray ∧ EventC w (· < w.heap.size) cy x
theorem NewEv.keep (x : XEvent) : ∀ v w w', Below w.heap.size w w' → NewEv x v w → NewEv x v w' := fun v w w' hb ⟨cy, e, h⟩ => ⟨cy, e, h.keep hb⟩
set_option maxHeartbeats 2000000 in
set_option maxRecDepth 100000 in
theorem rProper_lo (x : XEvent) (cx : List Value) (w : World) (hx : EventC w (· < w.heap.size) cx x) (hf : Few x) (hk : ¬ (1 : Int) ≤ x.kind) :
    Calls Try.prog 20 #[.agg cx.toArray] w fun e w' => e = .returned (.bool false) ∧ Below w.heap.size w w' := by
  have HX := Lib.hid hx
  clear hx
  go_enter Try.func20, Try.ntmps20
  go_upto_region 1 with fail
  have hbox : (w.alloc (Obj.cells cx.toArray 45)).heap[w.heap.size]? = some (Obj.cells cx.toArray 45) := heap_alloc_new w _
  generalize hW : w.alloc (Obj.cells cx.toArray 45) = W at *
  have hbW : Below w.heap.size w W := by rw [← hW]; exact below1 w _
  have hWs : w.heap.size < W.heap.size := by rw [← hW]; simp
  clear hW
  have EX := Lib.hid (HX.out.keep hbW)
  have RX := Lib.hid (box_at hbox)
  obtain ⟨⟨C0, i0⟩, _⟩ := EventC.at_ EX.out RX.out
  clear hbox
  refine wp_region_inv (Ks W [.val (.pointer (some ⟨w.heap.size, 0, none⟩)), .val (.int .i64 x.kind), .val (.bool false), .val (.bool false), .val (undef), .val (undef), .val (undef), .val (.bool false), .val (.bool false), .val (undef), .val (undef), .val (undef), .val (undef), .val (.bool false), .val (.bool false)])
    (fun w' => Below W.heap.size W w') (by kernel_rfl) (by kernel_rfl) (by kernel_rfl) (Below.refl _ _).drew ?_ ?_
  · refine ⟨?_, ?_, ?_, ?_, ?_, ?_, ?_, ?_, ?_, ?_, ?_, ?_, ?_, ?_, ?_, trivial⟩
    · intro listed A0 w2 hI hd hnd K hK
      have e0 := hI.slot hnd 1 _ rfl (by kernel_rfl)
      have hS := hI.world
      refine wanted_go rfl ?_
      clear hI hd hnd
      go_simp
      exact hK.out _ _ hS (Ks.of rfl rfl) (fun _ _ h => h)
    · intro listed A0 w2 hI hd hnd K hK
      have e0 := hI.depv hd 0 3 _ rfl rfl rfl (by kernel_rfl)
      have hS := hI.world
      have hcc : w2.cell? ⟨w.heap.size, 0, none⟩ = _ := (hS.cell (p := ⟨w.heap.size, 0, none⟩) hWs).trans C0
      refine wanted_go rfl ?_
      clear hI hd hnd
      go_simp
      exact hK.out _ _ hS (Ks.of rfl rfl) (fun _ _ h => h)
    · intro listed A0 w2 hI hd hnd K hK
      have e0 := hI.depv hd 1 4 _ rfl rfl rfl (by kernel_rfl)
      have hS := hI.world
      refine wanted_go rfl ?_
      clear hI hd hnd
      go_simp
      exact hK.out _ _ hS (Ks.of rfl rfl) (fun _ _ h => h)
    · intro listed A0 w2 hI hd hnd K hK
      have e0 := hI.depv hd 2 5 _ rfl rfl rfl (by kernel_rfl)
      have hS := hI.world
      refine wanted_go rfl ?_
      clear hI hd hnd
      go_simp
      exact hK.out _ _ hS (Ks.of rfl rfl) (fun _ _ h => h)
    · intro listed A0 w2 hI hd hnd K hK
      have hS := hI.world
      refine wanted_no rfl (hI.yield hd 3 6 false rfl rfl rfl (by kernel_rfl)) rfl ?_
      exact hK.out _ _ hS (Ks.of rfl rfl) (fun _ _ h => h)
    · intro listed A0 w2 hI hd hnd K hK
      have hS := hI.world
      refine wanted_no rfl (hI.yield hd 3 6 false rfl rfl rfl (by kernel_rfl)) rfl ?_
      exact hK.out _ _ hS (Ks.of rfl rfl) (fun _ _ h => h)
    · intro listed A0 w2 hI hd hnd K hK
      have hS := hI.world
      refine wanted_no rfl (hI.yield hd 3 6 false rfl rfl rfl (by kernel_rfl)) rfl ?_
      exact hK.out _ _ hS (Ks.of rfl rfl) (fun _ _ h => h)
    · intro listed A0 w2 hI hd hnd K hK
      have e0 := hI.depv hd 3 6 _ rfl rfl rfl (by kernel_rfl)
      have e1 := hI.depv hd 6 9 _ rfl rfl rfl (by kernel_rfl)
      have hS := hI.world
      refine wanted_go rfl ?_
      clear hI hd hnd
      go_simp
      exact hK.out _ _ hS (Ks.of rfl rfl) (fun _ _ h => h)
    · intro listed A0 w2 hI hd hnd K hK
      have e0 := hI.depv hd 7 10 _ rfl rfl rfl (by kernel_rfl)
      have hS := hI.world
      refine wanted_go rfl ?_
      clear hI hd hnd
      go_simp
      exact hK.out _ _ hS (Ks.of rfl rfl) (fun _ _ h => h)
    · intro listed A0 w2 hI hd hnd K hK
      have hS := hI.world
      refine wanted_no rfl (hI.yield hd 8 11 false rfl rfl rfl (by kernel_rfl)) rfl ?_
      exact hK.out _ _ hS (Ks.of rfl rfl) (fun _ _ h => h)
    · intro listed A0 w2 hI hd hnd K hK
      have hS := hI.world
      refine wanted_no rfl (hI.yield hd 8 11 false rfl rfl rfl (by kernel_rfl)) rfl ?_
      exact hK.out _ _ hS (Ks.of rfl rfl) (fun _ _ h => h)
    · intro listed A0 w2 hI hd hnd K hK
      have hS := hI.world
      refine wanted_no rfl (hI.yield hd 8 11 false rfl rfl rfl (by kernel_rfl)) rfl ?_
      exact hK.out _ _ hS (Ks.of rfl rfl) (fun _ _ h => h)
    · intro listed A0 w2 hI hd hnd K hK
      have hS := hI.world
      refine wanted_no rfl (hI.yield hd 8 11 false rfl rfl rfl (by kernel_rfl)) rfl ?_
      exact hK.out _ _ hS (Ks.of rfl rfl) (fun _ _ h => h)
    · intro listed A0 w2 hI hd hnd K hK
      have e0 := hI.depv hd 8 11 _ rfl rfl rfl (by kernel_rfl)
      have e1 := hI.depv hd 12 15 _ rfl rfl rfl (by kernel_rfl)
      have hS := hI.world
      refine wanted_go rfl ?_
      clear hI hd hnd
      go_simp
      exact hK.out _ _ hS (Ks.of rfl rfl) (fun _ _ h => h)
    · intro listed A0 w2 hI hd hnd K hK
      have e0 := hI.depv hd 13 16 _ rfl rfl rfl (by kernel_rfl)
      have hS := hI.world
      refine wanted_go rfl ?_
      clear hI hd hnd
      go_simp
      exact hK.out _ _ hS (Ks.of rfl rfl) (fun _ _ h => h)
  · intro listed A0 w2 hI hall
    obtain ⟨x0, g0, h0⟩ := hI.got 0 _ 3 rfl rfl (hall 0 (by decide))
    obtain ⟨x1, g1, h1⟩ := hI.got 1 _ 4 rfl rfl (hall 1 (by decide))
    obtain ⟨x2, g2, h2⟩ := hI.got 2 _ 5 rfl rfl (hall 2 (by decide))
    obtain ⟨x3, g3, h3⟩ := hI.got 3 _ 6 rfl rfl (hall 3 (by decide))
    obtain ⟨x4, g4, h4⟩ := hI.got 4 _ 7 rfl rfl (hall 4 (by decide))
    obtain ⟨x5, g5, h5⟩ := hI.got 5 _ 8 rfl rfl (hall 5 (by decide))
    obtain ⟨x6, g6, h6⟩ := hI.got 6 _ 9 rfl rfl (hall 6 (by decide))
    obtain ⟨x7, g7, h7⟩ := hI.got 7 _ 10 rfl rfl (hall 7 (by decide))
    obtain ⟨x8, g8, h8⟩ := hI.got 8 _ 11 rfl rfl (hall 8 (by decide))
    obtain ⟨x9, g9, h9⟩ := hI.got 9 _ 12 rfl rfl (hall 9 (by decide))
    obtain ⟨x10, g10, h10⟩ := hI.got 10 _ 13 rfl rfl (hall 10 (by decide))
    obtain ⟨x11, g11, h11⟩ := hI.got 11 _ 14 rfl rfl (hall 11 (by decide))
    obtain ⟨x12, g12, h12⟩ := hI.got 12 _ 15 rfl rfl (hall 12 (by decide))
    obtain ⟨x13, g13, h13⟩ := hI.got 13 _ 16 rfl rfl (hall 13 (by decide))
    obtain ⟨x14, g14, h14⟩ := hI.got 14 _ 2 rfl rfl (hall 14 (by decide))
    have hS := hI.world
    have hA : A0 = _ := hI.tmps [(3, x0), (4, x1), (5, x2), (6, x3), (7, x4), (8, x5), (9, x6), (10, x7), (11, x8), (12, x9), (13, x10), (14, x11), (15, x12), (16, x13), (2, x14)] (by simp only [List.mem_cons, List.not_mem_nil, or_false, forall_eq_or_imp, forall_eq]; exact ⟨g0, g1, g2, g3, g4, g5, g6, g7, g8, g9, g10, g11, g12, g13, g14⟩) (by kernel_rfl)
    obtain rfl : x14 = .bool false := h14 _ rfl
    clear h0 g0 h1 g1 h2 g2 h3 g3 h4 g4 h5 g5 h6 g6 h7 g7 h8 g8 h9 g9 h10 g10 h11 g11 h12 g12 h13 g13 h14 g14 hI hall
    simp only [setAll, List.foldl, List.setIfInBounds_toArray, List.set_cons_zero, List.set_cons_succ] at hA
    rw [hA]
    clear hA
    go_wp2_with fail
    go_ret
    exact ⟨rfl, hbW.trans (hS.mono hbW.size)⟩
set_option maxHeartbeats 2000000 in
set_option maxRecDepth 100000 in
theorem rProper_hi (x : XEvent) (cx : List Value) (w : World) (hx : EventC w (· < w.heap.size) cx x) (hf : Few x) (hk1 : (1 : Int) ≤ x.kind) (hk : ¬ x.kind ≤ 10) :
    Calls Try.prog 20 #[.agg cx.toArray] w fun e w' => e = .returned (.bool false) ∧ Below w.heap.size w w' := by
  have HX := Lib.hid hx
  clear hx
  go_enter Try.func20, Try.ntmps20
  go_upto_region 1 with fail
  have hbox : (w.alloc (Obj.cells cx.toArray 45)).heap[w.heap.size]? = some (Obj.cells cx.toArray 45) := heap_alloc_new w _
  generalize hW : w.alloc (Obj.cells cx.toArray 45) = W at *
  have hbW : Below w.heap.size w W := by rw [← hW]; exact below1 w _
  have hWs : w.heap.size < W.heap.size := by rw [← hW]; simp
  clear hW
  have EX := Lib.hid (HX.out.keep hbW)
  have RX := Lib.hid (box_at hbox)
  obtain ⟨⟨C0, i0⟩, _⟩ := EventC.at_ EX.out RX.out
  clear hbox
  refine wp_region_inv (Ks W [.val (.pointer (some ⟨w.heap.size, 0, none⟩)), .val (.int .i64 x.kind), .val (.bool true), .val (.bool true), .val (.pointer (some ⟨w.heap.size, 0, none⟩)), .val (.int .i64 x.kind), .val (.bool false), .val (.bool false), .val (.bool false), .val (undef), .val (undef), .val (undef), .val (undef), .val (.bool false), .val (.bool false)])
    (fun w' => Below W.heap.size W w') (by kernel_rfl) (by kernel_rfl) (by kernel_rfl) (Below.refl _ _).drew ?_ ?_
  · refine ⟨?_, ?_, ?_, ?_, ?_, ?_, ?_, ?_, ?_, ?_, ?_, ?_, ?_, ?_, ?_, trivial⟩
    · intro listed A0 w2 hI hd hnd K hK
      have e0 := hI.slot hnd 1 _ rfl (by kernel_rfl)
      have hS := hI.world
      refine wanted_go rfl ?_
      clear hI hd hnd
      go_simp
      exact hK.out _ _ hS (Ks.of rfl rfl) (fun _ _ h => h)
    · intro listed A0 w2 hI hd hnd K hK
      have e0 := hI.depv hd 0 3 _ rfl rfl rfl (by kernel_rfl)
      have hS := hI.world
      have hcc : w2.cell? ⟨w.heap.size, 0, none⟩ = _ := (hS.cell (p := ⟨w.heap.size, 0, none⟩) hWs).trans C0
      refine wanted_go rfl ?_
      clear hI hd hnd
      go_simp
      exact hK.out _ _ hS (Ks.of rfl rfl) (fun _ _ h => h)
    · intro listed A0 w2 hI hd hnd K hK
      have e0 := hI.depv hd 1 4 _ rfl rfl rfl (by kernel_rfl)
      have hS := hI.world
      refine wanted_go rfl ?_
      clear hI hd hnd
      go_simp
      exact hK.out _ _ hS (Ks.of rfl rfl) (fun _ _ h => h)
    · intro listed A0 w2 hI hd hnd K hK
      have e0 := hI.depv hd 2 5 _ rfl rfl rfl (by kernel_rfl)
      have hS := hI.world
      refine wanted_go rfl ?_
      clear hI hd hnd
      go_simp
      exact hK.out _ _ hS (Ks.of rfl rfl) (fun _ _ h => h)
    · intro listed A0 w2 hI hd hnd K hK
      have e0 := hI.slot hnd 1 _ rfl (by kernel_rfl)
      have hS := hI.world
      refine wanted_yes rfl (hI.yield hd 3 6 true rfl rfl rfl (by kernel_rfl)) ?_
      clear hI hd hnd
      go_simp
      exact hK.out _ _ hS (Ks.of rfl rfl) (fun _ _ h => h)
    · intro listed A0 w2 hI hd hnd K hK
      have e0 := hI.depv hd 4 7 _ rfl rfl rfl (by kernel_rfl)
      have hS := hI.world
      have hcc : w2.cell? ⟨w.heap.size, 0, none⟩ = _ := (hS.cell (p := ⟨w.heap.size, 0, none⟩) hWs).trans C0
      refine wanted_yes rfl (hI.yield hd 3 6 true rfl rfl rfl (by kernel_rfl)) ?_
      clear hI hd hnd
      go_simp
      exact hK.out _ _ hS (Ks.of rfl rfl) (fun _ _ h => h)
    · intro listed A0 w2 hI hd hnd K hK
      have e0 := hI.depv hd 5 8 _ rfl rfl rfl (by kernel_rfl)
      have hS := hI.world
      refine wanted_yes rfl (hI.yield hd 3 6 true rfl rfl rfl (by kernel_rfl)) ?_
      clear hI hd hnd
      go_simp
      exact hK.out _ _ hS (Ks.of rfl rfl) (fun _ _ h => h)
    · intro listed A0 w2 hI hd hnd K hK
      have e0 := hI.depv hd 3 6 _ rfl rfl rfl (by kernel_rfl)
      have e1 := hI.depv hd 6 9 _ rfl rfl rfl (by kernel_rfl)
      have hS := hI.world
      refine wanted_go rfl ?_
      clear hI hd hnd
      go_simp
      exact hK.out _ _ hS (Ks.of rfl rfl) (fun _ _ h => h)
    · intro listed A0 w2 hI hd hnd K hK
      have e0 := hI.depv hd 7 10 _ rfl rfl rfl (by kernel_rfl)
      have hS := hI.world
      refine wanted_go rfl ?_
      clear hI hd hnd
      go_simp
      exact hK.out _ _ hS (Ks.of rfl rfl) (fun _ _ h => h)
    · intro listed A0 w2 hI hd hnd K hK
      have hS := hI.world
      refine wanted_no rfl (hI.yield hd 8 11 false rfl rfl rfl (by kernel_rfl)) rfl ?_
      exact hK.out _ _ hS (Ks.of rfl rfl) (fun _ _ h => h)
    · intro listed A0 w2 hI hd hnd K hK
      have hS := hI.world
      refine wanted_no rfl (hI.yield hd 8 11 false rfl rfl rfl (by kernel_rfl)) rfl ?_
      exact hK.out _ _ hS (Ks.of rfl rfl) (fun _ _ h => h)
    · intro listed A0 w2 hI hd hnd K hK
      have hS := hI.world
      refine wanted_no rfl (hI.yield hd 8 11 false rfl rfl rfl (by kernel_rfl)) rfl ?_
      exact hK.out _ _ hS (Ks.of rfl rfl) (fun _ _ h => h)
    · intro listed A0 w2 hI hd hnd K hK
      have hS := hI.world
      refine wanted_no rfl (hI.yield hd 8 11 false rfl rfl rfl (by kernel_rfl)) rfl ?_
      exact hK.out _ _ hS (Ks.of rfl rfl) (fun _ _ h => h)
    · intro listed A0 w2 hI hd hnd K hK
      have e0 := hI.depv hd 8 11 _ rfl rfl rfl (by kernel_rfl)
      have e1 := hI.depv hd 12 15 _ rfl rfl rfl (by kernel_rfl)
      have hS := hI.world
      refine wanted_go rfl ?_
      clear hI hd hnd
      go_simp
      exact hK.out _ _ hS (Ks.of rfl rfl) (fun _ _ h => h)
    · intro listed A0 w2 hI hd hnd K hK
      have e0 := hI.depv hd 13 16 _ rfl rfl rfl (by kernel_rfl)
      have hS := hI.world
      refine wanted_go rfl ?_
      clear hI hd hnd
      go_simp
      exact hK.out _ _ hS (Ks.of rfl rfl) (fun _ _ h => h)
  · intro listed A0 w2 hI hall
    obtain ⟨x0, g0, h0⟩ := hI.got 0 _ 3 rfl rfl (hall 0 (by decide))
    obtain ⟨x1, g1, h1⟩ := hI.got 1 _ 4 rfl rfl (hall 1 (by decide))
    obtain ⟨x2, g2, h2⟩ := hI.got 2 _ 5 rfl rfl (hall 2 (by decide))
    obtain ⟨x3, g3, h3⟩ := hI.got 3 _ 6 rfl rfl (hall 3 (by decide))
    obtain ⟨x4, g4, h4⟩ := hI.got 4 _ 7 rfl rfl (hall 4 (by decide))
    obtain ⟨x5, g5, h5⟩ := hI.got 5 _ 8 rfl rfl (hall 5 (by decide))
    obtain ⟨x6, g6, h6⟩ := hI.got 6 _ 9 rfl rfl (hall 6 (by decide))
    obtain ⟨x7, g7, h7⟩ := hI.got 7 _ 10 rfl rfl (hall 7 (by decide))
    obtain ⟨x8, g8, h8⟩ := hI.got 8 _ 11 rfl rfl (hall 8 (by decide))
    obtain ⟨x9, g9, h9⟩ := hI.got 9 _ 12 rfl rfl (hall 9 (by decide))
    obtain ⟨x10, g10, h10⟩ := hI.got 10 _ 13 rfl rfl (hall 10 (by decide))
    obtain ⟨x11, g11, h11⟩ := hI.got 11 _ 14 rfl rfl (hall 11 (by decide))
    obtain ⟨x12, g12, h12⟩ := hI.got 12 _ 15 rfl rfl (hall 12 (by decide))
    obtain ⟨x13, g13, h13⟩ := hI.got 13 _ 16 rfl rfl (hall 13 (by decide))
    obtain ⟨x14, g14, h14⟩ := hI.got 14 _ 2 rfl rfl (hall 14 (by decide))
    have hS := hI.world
    have hA : A0 = _ := hI.tmps [(3, x0), (4, x1), (5, x2), (6, x3), (7, x4), (8, x5), (9, x6), (10, x7), (11, x8), (12, x9), (13, x10), (14, x11), (15, x12), (16, x13), (2, x14)] (by simp only [List.mem_cons, List.not_mem_nil, or_false, forall_eq_or_imp, forall_eq]; exact ⟨g0, g1, g2, g3, g4, g5, g6, g7, g8, g9, g10, g11, g12, g13, g14⟩) (by kernel_rfl)
    obtain rfl : x14 = .bool false := h14 _ rfl
    clear h0 g0 h1 g1 h2 g2 h3 g3 h4 g4 h5 g5 h6 g6 h7 g7 h8 g8 h9 g9 h10 g10 h11 g11 h12 g12 h13 g13 h14 g14 hI hall
    simp only [setAll, List.foldl, List.setIfInBounds_toArray, List.set_cons_zero, List.set_cons_succ] at hA
    rw [hA]
    clear hA
    go_wp2_with fail
    go_ret
    exact ⟨rfl, hbW.trans (hS.mono hbW.size)⟩
set_option maxHeartbeats 2000000 in
set_option maxRecDepth 100000 in
theorem rProper_in (x : XEvent) (cx : List Value) (w : World) (hx : EventC w (· < w.heap.size) cx x) (hf : Few x) (hk1 : (1 : Int) ≤ x.kind) (hk : x.kind ≤ 10) :
    Calls Try.prog 20 #[.agg cx.toArray] w fun e w' => e = .returned (.bool (decide (encEvent x = encEvent (ownEv x)))) ∧ Below w.heap.size w w' := by
  have HX := Lib.hid hx
  have hkn : known x.kind = true := by simp [known]; omega
  obtain ⟨r, hr⟩ : ∃ r, decide (encEvent x = encEvent (ownEv x)) = r := ⟨_, rfl⟩
  rw [hr]
  have HR := Lib.hid hr
  clear hr
  clear hx
  go_enter Try.func20, Try.ntmps20
  go_upto_region 1 with fail
  have hbox : (w.alloc (Obj.cells cx.toArray 45)).heap[w.heap.size]? = some (Obj.cells cx.toArray 45) := heap_alloc_new w _
  generalize hW : w.alloc (Obj.cells cx.toArray 45) = W at *
  have hbW : Below w.heap.size w W := by rw [← hW]; exact below1 w _
  have hWs : w.heap.size < W.heap.size := by rw [← hW]; simp
  clear hW
  have EX := Lib.hid (HX.out.keep hbW)
  have RX := Lib.hid (box_at hbox)
  obtain ⟨⟨C0, i0⟩, _⟩ := EventC.at_ EX.out RX.out
  clear hbox
  refine wp_region_inv (Ks W [.val (.pointer (some ⟨w.heap.size, 0, none⟩)), .val (.int .i64 x.kind), .val (.bool true), .val (.bool true), .val (.pointer (some ⟨w.heap.size, 0, none⟩)), .val (.int .i64 x.kind), .val (.bool true), .val (.bool true), .val (.bool true), .val (.agg cx.toArray), .val (.agg cx.toArray), .own (NewEv (ownEv x)) (NewEv.keep _), .val (.bool r), .val (.bool r), .val (.bool r)])
    (fun w' => Below W.heap.size W w') (by kernel_rfl) (by kernel_rfl) (by kernel_rfl) (Below.refl _ _).drew ?_ ?_
  · refine ⟨?_, ?_, ?_, ?_, ?_, ?_, ?_, ?_, ?_, ?_, ?_, ?_, ?_, ?_, ?_, trivial⟩
    · intro listed A0 w2 hI hd hnd K hK
      have e0 := hI.slot hnd 1 _ rfl (by kernel_rfl)
      have hS := hI.world
      refine wanted_go rfl ?_
      clear hI hd hnd
      go_simp
      exact hK.out _ _ hS (Ks.of rfl rfl) (fun _ _ h => h)
    · intro listed A0 w2 hI hd hnd K hK
      have e0 := hI.depv hd 0 3 _ rfl rfl rfl (by kernel_rfl)
      have hS := hI.world
      have hcc : w2.cell? ⟨w.heap.size, 0, none⟩ = _ := (hS.cell (p := ⟨w.heap.size, 0, none⟩) hWs).trans C0
      refine wanted_go rfl ?_
      clear hI hd hnd
      go_simp
      exact hK.out _ _ hS (Ks.of rfl rfl) (fun _ _ h => h)
    · intro listed A0 w2 hI hd hnd K hK
      have e0 := hI.depv hd 1 4 _ rfl rfl rfl (by kernel_rfl)
      have hS := hI.world
      refine wanted_go rfl ?_
      clear hI hd hnd
      go_simp
      exact hK.out _ _ hS (Ks.of rfl rfl) (fun _ _ h => h)
    · intro listed A0 w2 hI hd hnd K hK
      have e0 := hI.depv hd 2 5 _ rfl rfl rfl (by kernel_rfl)
      have hS := hI.world
      refine wanted_go rfl ?_
      clear hI hd hnd
      go_simp
      exact hK.out _ _ hS (Ks.of rfl rfl) (fun _ _ h => h)
    · intro listed A0 w2 hI hd hnd K hK
      have e0 := hI.slot hnd 1 _ rfl (by kernel_rfl)
      have hS := hI.world
      refine wanted_yes rfl (hI.yield hd 3 6 true rfl rfl rfl (by kernel_rfl)) ?_
      clear hI hd hnd
      go_simp
      exact hK.out _ _ hS (Ks.of rfl rfl) (fun _ _ h => h)
    · intro listed A0 w2 hI hd hnd K hK
      have e0 := hI.depv hd 4 7 _ rfl rfl rfl (by kernel_rfl)
      have hS := hI.world
      have hcc : w2.cell? ⟨w.heap.size, 0, none⟩ = _ := (hS.cell (p := ⟨w.heap.size, 0, none⟩) hWs).trans C0
      refine wanted_yes rfl (hI.yield hd 3 6 true rfl rfl rfl (by kernel_rfl)) ?_
      clear hI hd hnd
      go_simp
      exact hK.out _ _ hS (Ks.of rfl rfl) (fun _ _ h => h)
    · intro listed A0 w2 hI hd hnd K hK
      have e0 := hI.depv hd 5 8 _ rfl rfl rfl (by kernel_rfl)
      have hS := hI.world
      refine wanted_yes rfl (hI.yield hd 3 6 true rfl rfl rfl (by kernel_rfl)) ?_
      clear hI hd hnd
      go_simp
      exact hK.out _ _ hS (Ks.of rfl rfl) (fun _ _ h => h)
    · intro listed A0 w2 hI hd hnd K hK
      have e0 := hI.depv hd 3 6 _ rfl rfl rfl (by kernel_rfl)
      have e1 := hI.depv hd 6 9 _ rfl rfl rfl (by kernel_rfl)
      have hS := hI.world
      refine wanted_go rfl ?_
      clear hI hd hnd
      go_simp
      exact hK.out _ _ hS (Ks.of rfl rfl) (fun _ _ h => h)
    · intro listed A0 w2 hI hd hnd K hK
      have e0 := hI.depv hd 7 10 _ rfl rfl rfl (by kernel_rfl)
      have hS := hI.world
      refine wanted_go rfl ?_
      clear hI hd hnd
      go_simp
      exact hK.out _ _ hS (Ks.of rfl rfl) (fun _ _ h => h)
    · intro listed A0 w2 hI hd hnd K hK
      have e0 := hI.slot hnd 1 _ rfl (by kernel_rfl)
      have hS := hI.world
      have hrange := (RX.out.fr (Fr.ofBelow hS)).range
      have hisize : (Try.prog.info? 45).map (·.size) = some cx.length := by rw [info45, (EX.out).len]
      refine wanted_yes rfl (hI.yield hd 8 11 true rfl rfl rfl (by kernel_rfl)) ?_
      clear hI hd hnd
      refine wp_load_mid 45 (.tmp 1) rfl _ _ (by simpa [Act.eval, Array.getD_eq_getD_getElem?] using e0) _ _ hrange Try.underlying45 rfl hisize ?_
      exact hK.out _ _ hS (Ks.of rfl rfl) (fun _ _ h => h)
    · intro listed A0 w2 hI hd hnd K hK
      have e0 := hI.slot hnd 1 _ rfl (by kernel_rfl)
      have hS := hI.world
      have hrange := (RX.out.fr (Fr.ofBelow hS)).range
      have hisize : (Try.prog.info? 45).map (·.size) = some cx.length := by rw [info45, (EX.out).len]
      refine wanted_yes rfl (hI.yield hd 8 11 true rfl rfl rfl (by kernel_rfl)) ?_
      clear hI hd hnd
      refine wp_load_mid 45 (.tmp 1) rfl _ _ (by simpa [Act.eval, Array.getD_eq_getD_getElem?] using e0) _ _ hrange Try.underlying45 rfl hisize ?_
      exact hK.out _ _ hS (Ks.of rfl rfl) (fun _ _ h => h)
    · intro listed A0 w2 hI hd hnd K hK
      have e0 := hI.depv hd 10 13 _ rfl rfl rfl (by kernel_rfl)
      have hS := hI.world
      refine wanted_yes rfl (hI.yield hd 8 11 true rfl rfl rfl (by kernel_rfl)) ?_
      clear hI hd hnd
      go_simp
      go_at_call 42
      refine (rOwn_c x cx w2 (EX.out.keep hS) hkn).mono ?_
      rintro e w3 ⟨cy, rfl, hE, h3⟩
      exact hK.out _ _ (hS.trans (h3.mono hS.size)) (Ks.of rfl ⟨cy, rfl, hE.mono (fun k hk => by have := h3.size; omega)⟩) (Ks.keep h3)
    · intro listed A0 w2 hI hd hnd K hK
      have e0 := hI.depv hd 9 12 _ rfl rfl rfl (by kernel_rfl)
      obtain ⟨x1, e1, h1⟩ := hI.dep hd 11 14 rfl rfl rfl (by kernel_rfl)
      have hS := hI.world
      obtain ⟨cy, rfl, hE⟩ := h1
      refine wanted_yes rfl (hI.yield hd 8 11 true rfl rfl rfl (by kernel_rfl)) ?_
      clear hI hd hnd
      go_simp
      go_at_call 22
      refine (rSame_c x (ownEv x) cx cy w2 (EX.out.keep hS) hE hf hf.own).mono ?_
      rintro e w3 ⟨rfl, h3⟩
      exact hK.out _ _ (hS.trans (h3.mono hS.size)) (Ks.of rfl (congrArg Value.bool HR.out)) (Ks.keep h3)
    · intro listed A0 w2 hI hd hnd K hK
      have e0 := hI.depv hd 8 11 _ rfl rfl rfl (by kernel_rfl)
      have e1 := hI.depv hd 12 15 _ rfl rfl rfl (by kernel_rfl)
      have hS := hI.world
      refine wanted_go rfl ?_
      clear hI hd hnd
      go_simp
      exact hK.out _ _ hS (Ks.of rfl rfl) (fun _ _ h => h)
    · intro listed A0 w2 hI hd hnd K hK
      have e0 := hI.depv hd 13 16 _ rfl rfl rfl (by kernel_rfl)
      have hS := hI.world
      refine wanted_go rfl ?_
      clear hI hd hnd
      go_simp
      exact hK.out _ _ hS (Ks.of rfl rfl) (fun _ _ h => h)
  · intro listed A0 w2 hI hall
    obtain ⟨x0, g0, h0⟩ := hI.got 0 _ 3 rfl rfl (hall 0 (by decide))
    obtain ⟨x1, g1, h1⟩ := hI.got 1 _ 4 rfl rfl (hall 1 (by decide))
    obtain ⟨x2, g2, h2⟩ := hI.got 2 _ 5 rfl rfl (hall 2 (by decide))
    obtain ⟨x3, g3, h3⟩ := hI.got 3 _ 6 rfl rfl (hall 3 (by decide))
    obtain ⟨x4, g4, h4⟩ := hI.got 4 _ 7 rfl rfl (hall 4 (by decide))
    obtain ⟨x5, g5, h5⟩ := hI.got 5 _ 8 rfl rfl (hall 5 (by decide))
    obtain ⟨x6, g6, h6⟩ := hI.got 6 _ 9 rfl rfl (hall 6 (by decide))
    obtain ⟨x7, g7, h7⟩ := hI.got 7 _ 10 rfl rfl (hall 7 (by decide))
    obtain ⟨x8, g8, h8⟩ := hI.got 8 _ 11 rfl rfl (hall 8 (by decide))
    obtain ⟨x9, g9, h9⟩ := hI.got 9 _ 12 rfl rfl (hall 9 (by decide))
    obtain ⟨x10, g10, h10⟩ := hI.got 10 _ 13 rfl rfl (hall 10 (by decide))
    obtain ⟨x11, g11, h11⟩ := hI.got 11 _ 14 rfl rfl (hall 11 (by decide))
    obtain ⟨x12, g12, h12⟩ := hI.got 12 _ 15 rfl rfl (hall 12 (by decide))
    obtain ⟨x13, g13, h13⟩ := hI.got 13 _ 16 rfl rfl (hall 13 (by decide))
    obtain ⟨x14, g14, h14⟩ := hI.got 14 _ 2 rfl rfl (hall 14 (by decide))
    have hS := hI.world
    have hA : A0 = _ := hI.tmps [(3, x0), (4, x1), (5, x2), (6, x3), (7, x4), (8, x5), (9, x6), (10, x7), (11, x8), (12, x9), (13, x10), (14, x11), (15, x12), (16, x13), (2, x14)] (by simp only [List.mem_cons, List.not_mem_nil, or_false, forall_eq_or_imp, forall_eq]; exact ⟨g0, g1, g2, g3, g4, g5, g6, g7, g8, g9, g10, g11, g12, g13, g14⟩) (by kernel_rfl)
    obtain rfl : x14 = .bool r := h14 _ rfl
    clear h0 g0 h1 g1 h2 g2 h3 g3 h4 g4 h5 g5 h6 g6 h7 g7 h8 g8 h9 g9 h10 g10 h11 g11 h12 g12 h13 g13 h14 g14 hI hall
    simp only [setAll, List.foldl, List.setIfInBounds_toArray, List.set_cons_zero, List.set_cons_succ] at hA
    rw [hA]
    clear hA
    go_wp2_with fail
    go_ret
    exact ⟨rfl, hbW.trans (hS.mono hbW.size)⟩
theorem rProper_c (x : XEvent) (cx : List Value) (w : World) (hx : EventC w (· < w.heap.size) cx x) (hf : Few x) :
    Calls Try.prog 20 #[.agg cx.toArray] w fun e w' => e = .returned (.bool (properB x)) ∧ Below w.heap.size w w' := by
  rw [← proper_eq (hx.ok hf)]
  by_cases h1 : (1 : Int) ≤ x.kind
  · by_cases h2 : x.kind ≤ 10
    · have e : known x.kind = true := by simp [known]; omega
      rw [e, Bool.true_and]
      exact rProper_in x cx w hx hf h1 h2
    · have e : known x.kind = false := by simp [known]; omega
      rw [e, Bool.false_and]
      exact rProper_hi x cx w hx hf h1 h2
  · have e : known x.kind = false := by simp [known]; omega
    rw [e, Bool.false_and]
    exact rProper_lo x cx w hx hf h1

end Go.Proofs.Ytgdibeegheddmaa
