/- The walk of CodecEvents. Written by gen_j1.py. -/
import Derived.Test.YtgdibeegheddmaaH10RefEvent
import Derived.Test.YtgdibeegheddmaaI3Open
namespace Go.Proofs.Ytgdibeegheddmaa
open Go Go.RowKit
set_option linter.unusedVariables false
set_option linter.unusedSimpArgs false
attribute [local go_sem ↓] Go.wp_at_zero Go.wp_at_succ
/-- v is a slice that reads as the bytes L. -/
def IsRow (L : List UInt8) (v : Value) (w : World) : Prop := ∃ A c, v = .slice A L.length c ∧ Rd w (· < w.heap.size) A L.length 1 (bv L)
theorem IsRow.keep (L : List UInt8) : ∀ v w w', Below w.heap.size w w' → IsRow L v w → IsRow L v w' := fun v w w' hb ⟨A, c, e, h⟩ => ⟨A, c, e, h.keep hb⟩
theorem At.keep {w w' : World} {a : Addr} {vs : List Value} (h : At w (· < w.heap.size) a vs) (hb : Below w.heap.size w w') : At w' (· < w'.heap.size) a vs :=
  (h.fr (Fr.ofBelow hb)).mono (fun k hk => by have := hb.size; omega)
theorem wpList_load_row_g {P : Program} {ops : Array Oper} {rest : List Oper} {o : Oper} {a : Act} {w : World} {Q : Exit → Act → World → Prop} (hw : Region.wanted o (yielded ops a.tmps) = true) (ty : TypeId) (x : Operand) (ho : o.op = .load ty x)
    (g : Nat) (hx : a.eval x = .pointer (some ⟨g, 0, none⟩)) (t : TypeId) (cs : Array Value) (fr : Nat × Nat) (d : TypeDesc) (hg : w.heap[g]? = some (.cells cs t fr))
    (hu : P.underlying ty = some d) (hd : (match d with | .struct _ | .array _ _ => true | _ => false) = true) (hi : (P.info? ty).map (·.size) = some cs.size)
    (h : wpList P ops Q rest (a.put o.dst (.agg cs)) w) : wpList P ops Q (o :: rest) a w :=
  wpList_step fun K hK => by rw [if_pos hw]; exact wp_load_row ty x ho g hx t cs fr d hg hu hd hi (hK _ _ h)
set_option maxHeartbeats 4000000 in
set_option maxRecDepth 100000 in
theorem events_big (x y : XEvent) (cx cy : List Value) (w : World) (hx : EventC w (· < w.heap.size) cx x) (hy : EventC w (· < w.heap.size) cy y) (hfx : fewB x = false) :
    Calls Try.prog 5 #[.agg cx.toArray, .agg cy.toArray] w fun e w' => e = .returned (.bool true) ∧ Below w.heap.size w w' := by
  have HFX := Lib.hid hfx
  clear hfx
  have HX := Lib.hid hx
  have HY := Lib.hid hy
  have HCX := Lib.hid (size45 hx.len)
  have HCY := Lib.hid (size45 hy.len)
  clear hx hy
  go_enter Try.func5, Try.ntmps5
  go_upto_region 1 with fail
  have h2 := heap2 w (.cells cx.toArray 45) (.cells cy.toArray 45)
  generalize hW : (w.alloc (Obj.cells cx.toArray 45)).alloc (Obj.cells cy.toArray 45) = V at *
  obtain ⟨H0, H1, HS, HF⟩ := h2
  have hbV : Below w.heap.size w V := HF.below
  have hVs : w.heap.size + 1 < V.heap.size := by omega
  clear hW HF HS
  have HH0 := Lib.hid H0
  have HH1 := Lib.hid H1
  have VX := Lib.hid (HX.out.keep hbV)
  have VY := Lib.hid (HY.out.keep hbV)
  clear H0 H1
  go_wp2_with fail
  refine (awake_c V).mono ?_
  rintro e V1 ⟨rfl, hb1⟩
  have G0 := Lib.hid ((hb1.block w.heap.size (by omega)).trans HH0.out)
  have G1 := Lib.hid ((hb1.block (w.heap.size + 1) (by omega)).trans HH1.out)
  go_wp2_with (refine wpList_load_row rfl 45 (.tmp 2) rfl (w.heap.size) rfl 45 cx.toArray (0, 0) _ G0.out Try.underlying45 rfl HCX.out ?_)
  refine (rFew_c x cx V1 (VX.out.keep hb1)).mono ?_
  rintro e V2 ⟨rfl, hb2⟩
  rw [HFX.out]
  go_wp2_with fail
  go_ret
  exact ⟨rfl, hbV.trans ((hb1.trans (hb2.mono hb1.size)).mono hbV.size)⟩
set_option maxHeartbeats 4000000 in
set_option maxRecDepth 100000 in
theorem events_big2 (x y : XEvent) (cx cy : List Value) (w : World) (hx : EventC w (· < w.heap.size) cx x) (hy : EventC w (· < w.heap.size) cy y) (hfx : fewB x = true) (hfy : fewB y = false) :
    Calls Try.prog 5 #[.agg cx.toArray, .agg cy.toArray] w fun e w' => e = .returned (.bool true) ∧ Below w.heap.size w w' := by
  have HFX := Lib.hid hfx
  have HFY := Lib.hid hfy
  clear hfx hfy
  have HX := Lib.hid hx
  have HY := Lib.hid hy
  have HCX := Lib.hid (size45 hx.len)
  have HCY := Lib.hid (size45 hy.len)
  clear hx hy
  go_enter Try.func5, Try.ntmps5
  go_upto_region 1 with fail
  have h2 := heap2 w (.cells cx.toArray 45) (.cells cy.toArray 45)
  generalize hW : (w.alloc (Obj.cells cx.toArray 45)).alloc (Obj.cells cy.toArray 45) = V at *
  obtain ⟨H0, H1, HS, HF⟩ := h2
  have hbV : Below w.heap.size w V := HF.below
  have hVs : w.heap.size + 1 < V.heap.size := by omega
  clear hW HF HS
  have HH0 := Lib.hid H0
  have HH1 := Lib.hid H1
  have VX := Lib.hid (HX.out.keep hbV)
  have VY := Lib.hid (HY.out.keep hbV)
  clear H0 H1
  go_wp2_with fail
  refine (awake_c V).mono ?_
  rintro e V1 ⟨rfl, hb1⟩
  have G0 := Lib.hid ((hb1.block w.heap.size (by omega)).trans HH0.out)
  have G1 := Lib.hid ((hb1.block (w.heap.size + 1) (by omega)).trans HH1.out)
  go_wp2_with (refine wpList_load_row rfl 45 (.tmp 2) rfl (w.heap.size) rfl 45 cx.toArray (0, 0) _ G0.out Try.underlying45 rfl HCX.out ?_)
  refine (rFew_c x cx V1 (VX.out.keep hb1)).mono ?_
  rintro e V2 ⟨rfl, hb2⟩
  rw [HFX.out]
  have G3 := Lib.hid ((hb2.block (w.heap.size + 1) (by have := hb1.size; omega)).trans G1.out)
  go_wp2_with (refine wpList_load_row_g rfl 45 (.tmp 3) rfl (w.heap.size + 1) rfl 45 cy.toArray (0, 0) _ G3.out Try.underlying45 rfl HCY.out ?_)
  refine (rFew_c y cy V2 ((VY.out.keep hb1).keep hb2)).mono ?_
  rintro e V3 ⟨rfl, hb3⟩
  rw [HFY.out]
  go_wp2_with fail
  go_ret
  exact ⟨rfl, hbV.trans ((hb1.trans ((hb2.trans (hb3.mono hb2.size)).mono hb1.size)).mono hbV.size)⟩
set_option maxHeartbeats 4000000 in
set_option maxRecDepth 100000 in
theorem events_small (x y : XEvent) (cx cy : List Value) (w : World) (hx : EventC w (· < w.heap.size) cx x) (hy : EventC w (· < w.heap.size) cy y) (hfx0 : fewB x = true) (hfy0 : fewB y = true) (R1 : List UInt8) (n1 : Int) (hr : eventR x = (R1, n1)) :
    Calls Try.prog 5 #[.agg cx.toArray, .agg cy.toArray] w fun e w' => e = .returned (.bool true) ∧ Below w.heap.size w w' := by
  have HFX := Lib.hid hfx0
  have HFY := Lib.hid hfy0
  have HR := Lib.hid hr
  have hfx := fewB_few hfx0
  have hfy := fewB_few hfy0
  have hLx : (encAll x).length ≤ Lim := by have := hfx.lenAll; unfold Lim; omega
  have hLy : (encAll y).length ≤ Lim := by have := hfy.lenAll; unfold Lim; omega
  have hLx1 : (encAll x).length + 100 ≤ Lim := by have := hfx.lenAll; unfold Lim; omega
  have hLe : (encEv x).length ≤ Lim := by have := hfx.lenEv; unfold Lim; omega
  have okx := Lib.hid (hx.ok hfx)
  have oky := Lib.hid (hy.ok hfy)
  clear hfx0 hfy0 hr
  have HX := Lib.hid hx
  have HY := Lib.hid hy
  have HCX := Lib.hid (size45 hx.len)
  have HCY := Lib.hid (size45 hy.len)
  clear hx hy
  go_enter Try.func5, Try.ntmps5
  go_upto_region 1 with fail
  have h2 := heap2 w (.cells cx.toArray 45) (.cells cy.toArray 45)
  generalize hW : (w.alloc (Obj.cells cx.toArray 45)).alloc (Obj.cells cy.toArray 45) = V at *
  obtain ⟨H0, H1, HS, HF⟩ := h2
  have hbV : Below w.heap.size w V := HF.below
  have hVs : w.heap.size + 1 < V.heap.size := by omega
  clear hW HF HS
  have HH0 := Lib.hid H0
  have HH1 := Lib.hid H1
  have VX := Lib.hid (HX.out.keep hbV)
  have VY := Lib.hid (HY.out.keep hbV)
  clear H0 H1
  go_wp2_with fail
  refine (awake_c V).mono ?_
  rintro e V1 ⟨rfl, hb1⟩
  have G0 := Lib.hid ((hb1.block w.heap.size (by omega)).trans HH0.out)
  have G1 := Lib.hid ((hb1.block (w.heap.size + 1) (by omega)).trans HH1.out)
  go_wp2_with (refine wpList_load_row rfl 45 (.tmp 2) rfl (w.heap.size) rfl 45 cx.toArray (0, 0) _ G0.out Try.underlying45 rfl HCX.out ?_)
  refine (rFew_c x cx V1 (VX.out.keep hb1)).mono ?_
  rintro e V2 ⟨rfl, hb2⟩
  rw [HFX.out]
  have G3 := Lib.hid ((hb2.block (w.heap.size + 1) (by have := hb1.size; omega)).trans G1.out)
  go_wp2_with (refine wpList_load_row_g rfl 45 (.tmp 3) rfl (w.heap.size + 1) rfl 45 cy.toArray (0, 0) _ G3.out Try.underlying45 rfl HCY.out ?_)
  refine (rFew_c y cy V2 ((VY.out.keep hb1).keep hb2)).mono ?_
  rintro e V3 ⟨rfl, hb3⟩
  rw [HFY.out]
  have G4 := Lib.hid ((hb3.block w.heap.size (by have := hb1.size; have := hb2.size; omega)).trans ((hb2.block w.heap.size (by have := hb1.size; omega)).trans G0.out))
  have hb13 := hb1.trans ((hb2.trans (hb3.mono hb2.size)).mono hb1.size)
  have X3 := Lib.hid (VX.out.keep hb13)
  clear hb1 hb2 hb3 G0 G1 G3
  go_wp2_with (refine wpList_load_row rfl 45 (.tmp 2) rfl (w.heap.size) rfl 45 cx.toArray (0, 0) _ G4.out Try.underlying45 rfl HCX.out ?_)
  refine (event_c x cx V3 X3.out hLx1 hLe).mono ?_
  rw [HR.out]
  rintro e V4 ⟨v4, rfl, hn4⟩
  obtain ⟨A1, c1, rfl, _, _⟩ := hn4.1.form
  have N4 := Lib.hid hn4
  have G5 := Lib.hid ((hn4.2.2.block w.heap.size (by have := hb13.size; omega)).trans G4.out)
  have hb4 := hb13.trans (hn4.2.2.mono hb13.size)
  have X4 := Lib.hid (VX.out.keep hb4)
  clear hn4 G4 hb13
  go_wp2_with (refine wpList_load_row rfl 45 (.tmp 2) rfl (w.heap.size) rfl 45 cx.toArray (0, 0) _ G5.out Try.underlying45 rfl HCX.out ?_)
  refine (rEvent_c x cx V4 X4.out hfx).mono ?_
  rw [HR.out]
  rintro e W ⟨v5, rfl, hn5⟩
  obtain ⟨A2, c2, rfl, _, _⟩ := hn5.1.form
  have hb5 := hb4.trans (hn5.2.2.mono hb4.size)
  have EX := Lib.hid (VX.out.keep hb5)
  have EY := Lib.hid (VY.out.keep hb5)
  have RX := Lib.hid ((box_at HH0.out).keep hb5)
  have RY := Lib.hid ((box_at HH1.out).keep hb5)
  have RD1 := Lib.hid (((N4.out.1.rd (Q := (· < V4.heap.size)) (fun k hk => N4.out.1.lt hk)).2).keep hn5.2.2)
  have RD2 := Lib.hid ((hn5.1.rd (Q := (· < W.heap.size)) (fun k hk => hn5.1.lt hk)).2)
  have hbW := hbV.trans (hb5.mono hbV.size)
  clear N4 G5 hn5 hb4 hb5 X3 X4
  go_wp2_with fail
  refine wp_region_inv (Ks W [.val (.int .i64 n1), .val (.int .i64 n1), .val (.bool true), .val (.bool true), .own (IsRow R1) (IsRow.keep _), .val (.string (bstr R1)), .own (IsRow R1) (IsRow.keep _), .val (.string (bstr R1)), .val (.bool true), .val (.bool true), .val (.bool true), .val (.agg cx.toArray), .val (.bool (properB x)), .val (.agg cx.toArray), .val (.bool (properB x)), .val (.bool true), .val (.bool true), .val (.bool true), .val (.agg cx.toArray), .val (.agg cy.toArray), .val (.bool (decide (encAll x = encAll y))), .val (.agg cx.toArray), .val (.agg cy.toArray), .val (.bool (decide (encAll x = encAll y))), .val (.bool true), .val (.bool true), .val (.bool true), .val (.agg cx.toArray), .val (.agg cx.toArray), .val (.bool (true)), .val (.bool (true)), .val (.bool (true))])
    (fun w' => Below W.heap.size W w') (by kernel_rfl) (by kernel_rfl) (by kernel_rfl) (Below.refl _ _).drew ?_ ?_
  · refine ⟨?_, ?_, ?_, ?_, ?_, ?_, ?_, ?_, ?_, ?_, ?_, ?_, ?_, ?_, ?_, ?_, ?_, ?_, ?_, ?_, ?_, ?_, ?_, ?_, ?_, ?_, ?_, ?_, ?_, ?_, ?_, ?_, trivial⟩
    · intro listed A0 w2 hI hd hnd K hK
      have e0 := hI.slot hnd 6 _ rfl (by kernel_rfl)
      have hS := hI.world
      refine wanted_go rfl ?_
      clear hI hd hnd
      go_simp
      exact hK.out _ _ hS (Ks.of rfl rfl) (fun _ _ h => h)
    · intro listed A0 w2 hI hd hnd K hK
      have e0 := hI.slot hnd 8 _ rfl (by kernel_rfl)
      have hS := hI.world
      refine wanted_go rfl ?_
      clear hI hd hnd
      go_simp
      exact hK.out _ _ hS (Ks.of rfl rfl) (fun _ _ h => h)
    · intro listed A0 w2 hI hd hnd K hK
      have e0 := hI.depv hd 0 29 _ rfl rfl rfl (by kernel_rfl)
      have e1 := hI.depv hd 1 30 _ rfl rfl rfl (by kernel_rfl)
      have hS := hI.world
      refine wanted_go rfl ?_
      clear hI hd hnd
      go_simp
      exact hK.out _ _ hS (Ks.of rfl rfl) (fun _ _ h => h)
    · intro listed A0 w2 hI hd hnd K hK
      have e0 := hI.depv hd 2 31 _ rfl rfl rfl (by kernel_rfl)
      have hS := hI.world
      refine wanted_go rfl ?_
      clear hI hd hnd
      go_simp
      exact hK.out _ _ hS (Ks.of rfl rfl) (fun _ _ h => h)
    · intro listed A0 w2 hI hd hnd K hK
      have e0 := hI.slot hnd 5 _ rfl (by kernel_rfl)
      have hS := hI.world
      refine wanted_yes rfl (hI.yield hd 3 32 true rfl rfl rfl (by kernel_rfl)) ?_
      clear hI hd hnd
      go_simp
      exact hK.out _ _ hS (Ks.of rfl ⟨_, _, rfl, RD1.out.keep hS⟩) (fun _ _ h => h)
    · intro listed A0 w2 hI hd hnd K hK
      obtain ⟨x0, e0, h0⟩ := hI.dep hd 4 33 rfl rfl rfl (by kernel_rfl)
      have hS := hI.world
      obtain ⟨Ab, cb, rfl, hr⟩ := h0
      have hcv : (convert 22 9 (.slice Ab R1.length cb)).run Try.prog w2 = .ok (.string (bstr R1)) w2 := run_str hr
      clear hr
      refine wanted_yes rfl (hI.yield hd 3 32 true rfl rfl rfl (by kernel_rfl)) ?_
      clear hI hd hnd
      go_simp
      exact hK.out _ _ hS (Ks.of rfl rfl) (fun _ _ h => h)
    · intro listed A0 w2 hI hd hnd K hK
      have e0 := hI.slot hnd 7 _ rfl (by kernel_rfl)
      have hS := hI.world
      refine wanted_yes rfl (hI.yield hd 3 32 true rfl rfl rfl (by kernel_rfl)) ?_
      clear hI hd hnd
      go_simp
      exact hK.out _ _ hS (Ks.of rfl ⟨_, _, rfl, RD2.out.keep hS⟩) (fun _ _ h => h)
    · intro listed A0 w2 hI hd hnd K hK
      obtain ⟨x0, e0, h0⟩ := hI.dep hd 6 35 rfl rfl rfl (by kernel_rfl)
      have hS := hI.world
      obtain ⟨Ab, cb, rfl, hr⟩ := h0
      have hcv : (convert 22 9 (.slice Ab R1.length cb)).run Try.prog w2 = .ok (.string (bstr R1)) w2 := run_str hr
      clear hr
      refine wanted_yes rfl (hI.yield hd 3 32 true rfl rfl rfl (by kernel_rfl)) ?_
      clear hI hd hnd
      go_simp
      exact hK.out _ _ hS (Ks.of rfl rfl) (fun _ _ h => h)
    · intro listed A0 w2 hI hd hnd K hK
      have e0 := hI.depv hd 5 34 _ rfl rfl rfl (by kernel_rfl)
      have e1 := hI.depv hd 7 36 _ rfl rfl rfl (by kernel_rfl)
      have hS := hI.world
      refine wanted_yes rfl (hI.yield hd 3 32 true rfl rfl rfl (by kernel_rfl)) ?_
      clear hI hd hnd
      go_simp
      exact hK.out _ _ hS (Ks.of rfl rfl) (fun _ _ h => h)
    · intro listed A0 w2 hI hd hnd K hK
      have e0 := hI.depv hd 3 32 _ rfl rfl rfl (by kernel_rfl)
      have e1 := hI.depv hd 8 37 _ rfl rfl rfl (by kernel_rfl)
      have hS := hI.world
      refine wanted_go rfl ?_
      clear hI hd hnd
      go_simp
      exact hK.out _ _ hS (Ks.of rfl rfl) (fun _ _ h => h)
    · intro listed A0 w2 hI hd hnd K hK
      have e0 := hI.depv hd 9 38 _ rfl rfl rfl (by kernel_rfl)
      have hS := hI.world
      refine wanted_go rfl ?_
      clear hI hd hnd
      go_simp
      exact hK.out _ _ hS (Ks.of rfl rfl) (fun _ _ h => h)
    · intro listed A0 w2 hI hd hnd K hK
      have e0 := hI.slot hnd 2 _ rfl (by kernel_rfl)
      have hS := hI.world
      have hrange := (RX.out.fr (Fr.ofBelow hS)).range
      have hisize : (Try.prog.info? 45).map (·.size) = some cx.length := by rw [info45, (EX.out).len]
      refine wanted_yes rfl (hI.yield hd 10 39 true rfl rfl rfl (by kernel_rfl)) ?_
      clear hI hd hnd
      refine wp_load_mid 45 (.tmp 2) rfl _ _ (by simpa [Act.eval, Array.getD_eq_getD_getElem?] using e0) _ _ hrange Try.underlying45 rfl hisize ?_
      exact hK.out _ _ hS (Ks.of rfl rfl) (fun _ _ h => h)
    · intro listed A0 w2 hI hd hnd K hK
      have e0 := hI.depv hd 11 40 _ rfl rfl rfl (by kernel_rfl)
      have hS := hI.world
      refine wanted_yes rfl (hI.yield hd 10 39 true rfl rfl rfl (by kernel_rfl)) ?_
      clear hI hd hnd
      go_simp
      go_at_call 19
      refine (proper_c x cx w2 (EX.out.keep hS) hLx1).mono ?_
      rintro e w3 ⟨rfl, h3⟩
      exact hK.out _ _ (hS.trans (h3.mono hS.size)) (Ks.of rfl (rfl)) (Ks.keep h3)
    · intro listed A0 w2 hI hd hnd K hK
      have e0 := hI.slot hnd 2 _ rfl (by kernel_rfl)
      have hS := hI.world
      have hrange := (RX.out.fr (Fr.ofBelow hS)).range
      have hisize : (Try.prog.info? 45).map (·.size) = some cx.length := by rw [info45, (EX.out).len]
      refine wanted_yes rfl (hI.yield hd 10 39 true rfl rfl rfl (by kernel_rfl)) ?_
      clear hI hd hnd
      refine wp_load_mid 45 (.tmp 2) rfl _ _ (by simpa [Act.eval, Array.getD_eq_getD_getElem?] using e0) _ _ hrange Try.underlying45 rfl hisize ?_
      exact hK.out _ _ hS (Ks.of rfl rfl) (fun _ _ h => h)
    · intro listed A0 w2 hI hd hnd K hK
      have e0 := hI.depv hd 13 42 _ rfl rfl rfl (by kernel_rfl)
      have hS := hI.world
      refine wanted_yes rfl (hI.yield hd 10 39 true rfl rfl rfl (by kernel_rfl)) ?_
      clear hI hd hnd
      go_simp
      go_at_call 20
      refine (rProper_c x cx w2 (EX.out.keep hS) hfx).mono ?_
      rintro e w3 ⟨rfl, h3⟩
      exact hK.out _ _ (hS.trans (h3.mono hS.size)) (Ks.of rfl (rfl)) (Ks.keep h3)
    · intro listed A0 w2 hI hd hnd K hK
      have e0 := hI.depv hd 12 41 _ rfl rfl rfl (by kernel_rfl)
      have e1 := hI.depv hd 14 43 _ rfl rfl rfl (by kernel_rfl)
      have hS := hI.world
      refine wanted_yes rfl (hI.yield hd 10 39 true rfl rfl rfl (by kernel_rfl)) ?_
      clear hI hd hnd
      go_simp
      exact hK.out _ _ hS (Ks.of rfl rfl) (fun _ _ h => h)
    · intro listed A0 w2 hI hd hnd K hK
      have e0 := hI.depv hd 10 39 _ rfl rfl rfl (by kernel_rfl)
      have e1 := hI.depv hd 15 44 _ rfl rfl rfl (by kernel_rfl)
      have hS := hI.world
      refine wanted_go rfl ?_
      clear hI hd hnd
      go_simp
      exact hK.out _ _ hS (Ks.of rfl rfl) (fun _ _ h => h)
    · intro listed A0 w2 hI hd hnd K hK
      have e0 := hI.depv hd 16 45 _ rfl rfl rfl (by kernel_rfl)
      have hS := hI.world
      refine wanted_go rfl ?_
      clear hI hd hnd
      go_simp
      exact hK.out _ _ hS (Ks.of rfl rfl) (fun _ _ h => h)
    · intro listed A0 w2 hI hd hnd K hK
      have e0 := hI.slot hnd 2 _ rfl (by kernel_rfl)
      have hS := hI.world
      have hrange := (RX.out.fr (Fr.ofBelow hS)).range
      have hisize : (Try.prog.info? 45).map (·.size) = some cx.length := by rw [info45, (EX.out).len]
      refine wanted_yes rfl (hI.yield hd 17 46 true rfl rfl rfl (by kernel_rfl)) ?_
      clear hI hd hnd
      refine wp_load_mid 45 (.tmp 2) rfl _ _ (by simpa [Act.eval, Array.getD_eq_getD_getElem?] using e0) _ _ hrange Try.underlying45 rfl hisize ?_
      exact hK.out _ _ hS (Ks.of rfl rfl) (fun _ _ h => h)
    · intro listed A0 w2 hI hd hnd K hK
      have e0 := hI.slot hnd 3 _ rfl (by kernel_rfl)
      have hS := hI.world
      have hrange := (RY.out.fr (Fr.ofBelow hS)).range
      have hisize : (Try.prog.info? 45).map (·.size) = some cy.length := by rw [info45, (EY.out).len]
      refine wanted_yes rfl (hI.yield hd 17 46 true rfl rfl rfl (by kernel_rfl)) ?_
      clear hI hd hnd
      refine wp_load_mid 45 (.tmp 3) rfl _ _ (by simpa [Act.eval, Array.getD_eq_getD_getElem?] using e0) _ _ hrange Try.underlying45 rfl hisize ?_
      exact hK.out _ _ hS (Ks.of rfl rfl) (fun _ _ h => h)
    · intro listed A0 w2 hI hd hnd K hK
      have e0 := hI.depv hd 18 47 _ rfl rfl rfl (by kernel_rfl)
      have e1 := hI.depv hd 19 48 _ rfl rfl rfl (by kernel_rfl)
      have hS := hI.world
      refine wanted_yes rfl (hI.yield hd 17 46 true rfl rfl rfl (by kernel_rfl)) ?_
      clear hI hd hnd
      go_simp
      go_at_call 21
      refine (sameEvent_c x y cx cy w2 (EX.out.keep hS) (EY.out.keep hS) hLx hLy).mono ?_
      rintro e w3 ⟨rfl, h3⟩
      exact hK.out _ _ (hS.trans (h3.mono hS.size)) (Ks.of rfl (rfl)) (Ks.keep h3)
    · intro listed A0 w2 hI hd hnd K hK
      have e0 := hI.slot hnd 2 _ rfl (by kernel_rfl)
      have hS := hI.world
      have hrange := (RX.out.fr (Fr.ofBelow hS)).range
      have hisize : (Try.prog.info? 45).map (·.size) = some cx.length := by rw [info45, (EX.out).len]
      refine wanted_yes rfl (hI.yield hd 17 46 true rfl rfl rfl (by kernel_rfl)) ?_
      clear hI hd hnd
      refine wp_load_mid 45 (.tmp 2) rfl _ _ (by simpa [Act.eval, Array.getD_eq_getD_getElem?] using e0) _ _ hrange Try.underlying45 rfl hisize ?_
      exact hK.out _ _ hS (Ks.of rfl rfl) (fun _ _ h => h)
    · intro listed A0 w2 hI hd hnd K hK
      have e0 := hI.slot hnd 3 _ rfl (by kernel_rfl)
      have hS := hI.world
      have hrange := (RY.out.fr (Fr.ofBelow hS)).range
      have hisize : (Try.prog.info? 45).map (·.size) = some cy.length := by rw [info45, (EY.out).len]
      refine wanted_yes rfl (hI.yield hd 17 46 true rfl rfl rfl (by kernel_rfl)) ?_
      clear hI hd hnd
      refine wp_load_mid 45 (.tmp 3) rfl _ _ (by simpa [Act.eval, Array.getD_eq_getD_getElem?] using e0) _ _ hrange Try.underlying45 rfl hisize ?_
      exact hK.out _ _ hS (Ks.of rfl rfl) (fun _ _ h => h)
    · intro listed A0 w2 hI hd hnd K hK
      have e0 := hI.depv hd 21 50 _ rfl rfl rfl (by kernel_rfl)
      have e1 := hI.depv hd 22 51 _ rfl rfl rfl (by kernel_rfl)
      have hS := hI.world
      refine wanted_yes rfl (hI.yield hd 17 46 true rfl rfl rfl (by kernel_rfl)) ?_
      clear hI hd hnd
      go_simp
      go_at_call 22
      refine (rSame_c x y cx cy w2 (EX.out.keep hS) (EY.out.keep hS) hfx hfy).mono ?_
      rintro e w3 ⟨rfl, h3⟩
      exact hK.out _ _ (hS.trans (h3.mono hS.size)) (Ks.of rfl (congrArg Value.bool (same_eq okx.out oky.out))) (Ks.keep h3)
    · intro listed A0 w2 hI hd hnd K hK
      have e0 := hI.depv hd 20 49 _ rfl rfl rfl (by kernel_rfl)
      have e1 := hI.depv hd 23 52 _ rfl rfl rfl (by kernel_rfl)
      have hS := hI.world
      refine wanted_yes rfl (hI.yield hd 17 46 true rfl rfl rfl (by kernel_rfl)) ?_
      clear hI hd hnd
      go_simp
      exact hK.out _ _ hS (Ks.of rfl rfl) (fun _ _ h => h)
    · intro listed A0 w2 hI hd hnd K hK
      have e0 := hI.depv hd 17 46 _ rfl rfl rfl (by kernel_rfl)
      have e1 := hI.depv hd 24 53 _ rfl rfl rfl (by kernel_rfl)
      have hS := hI.world
      refine wanted_go rfl ?_
      clear hI hd hnd
      go_simp
      exact hK.out _ _ hS (Ks.of rfl rfl) (fun _ _ h => h)
    · intro listed A0 w2 hI hd hnd K hK
      have e0 := hI.depv hd 25 54 _ rfl rfl rfl (by kernel_rfl)
      have hS := hI.world
      refine wanted_go rfl ?_
      clear hI hd hnd
      go_simp
      exact hK.out _ _ hS (Ks.of rfl rfl) (fun _ _ h => h)
    · intro listed A0 w2 hI hd hnd K hK
      have e0 := hI.slot hnd 2 _ rfl (by kernel_rfl)
      have hS := hI.world
      have hrange := (RX.out.fr (Fr.ofBelow hS)).range
      have hisize : (Try.prog.info? 45).map (·.size) = some cx.length := by rw [info45, (EX.out).len]
      refine wanted_yes rfl (hI.yield hd 26 55 true rfl rfl rfl (by kernel_rfl)) ?_
      clear hI hd hnd
      refine wp_load_mid 45 (.tmp 2) rfl _ _ (by simpa [Act.eval, Array.getD_eq_getD_getElem?] using e0) _ _ hrange Try.underlying45 rfl hisize ?_
      exact hK.out _ _ hS (Ks.of rfl rfl) (fun _ _ h => h)
    · intro listed A0 w2 hI hd hnd K hK
      have e0 := hI.slot hnd 2 _ rfl (by kernel_rfl)
      have hS := hI.world
      have hrange := (RX.out.fr (Fr.ofBelow hS)).range
      have hisize : (Try.prog.info? 45).map (·.size) = some cx.length := by rw [info45, (EX.out).len]
      refine wanted_yes rfl (hI.yield hd 26 55 true rfl rfl rfl (by kernel_rfl)) ?_
      clear hI hd hnd
      refine wp_load_mid 45 (.tmp 2) rfl _ _ (by simpa [Act.eval, Array.getD_eq_getD_getElem?] using e0) _ _ hrange Try.underlying45 rfl hisize ?_
      exact hK.out _ _ hS (Ks.of rfl rfl) (fun _ _ h => h)
    · intro listed A0 w2 hI hd hnd K hK
      have e0 := hI.depv hd 27 56 _ rfl rfl rfl (by kernel_rfl)
      have e1 := hI.depv hd 28 57 _ rfl rfl rfl (by kernel_rfl)
      have hS := hI.world
      refine wanted_yes rfl (hI.yield hd 26 55 true rfl rfl rfl (by kernel_rfl)) ?_
      clear hI hd hnd
      go_simp
      go_at_call 21
      refine (sameEvent_c x x cx cx w2 (EX.out.keep hS) (EX.out.keep hS) hLx hLx).mono ?_
      rintro e w3 ⟨rfl, h3⟩
      exact hK.out _ _ (hS.trans (h3.mono hS.size)) (Ks.of rfl (by simp [Kind.holds])) (Ks.keep h3)
    · intro listed A0 w2 hI hd hnd K hK
      have e0 := hI.depv hd 26 55 _ rfl rfl rfl (by kernel_rfl)
      have e1 := hI.depv hd 29 58 _ rfl rfl rfl (by kernel_rfl)
      have hS := hI.world
      refine wanted_go rfl ?_
      clear hI hd hnd
      go_simp
      exact hK.out _ _ hS (Ks.of rfl rfl) (fun _ _ h => h)
    · intro listed A0 w2 hI hd hnd K hK
      have e0 := hI.depv hd 30 59 _ rfl rfl rfl (by kernel_rfl)
      have hS := hI.world
      refine wanted_go rfl ?_
      clear hI hd hnd
      go_simp
      exact hK.out _ _ hS (Ks.of rfl rfl) (fun _ _ h => h)
  · intro listed A0 w2 hI hall
    obtain ⟨x0, g0, h0⟩ := hI.got 0 _ 29 rfl rfl (hall 0 (by decide))
    obtain ⟨x1, g1, h1⟩ := hI.got 1 _ 30 rfl rfl (hall 1 (by decide))
    obtain ⟨x2, g2, h2⟩ := hI.got 2 _ 31 rfl rfl (hall 2 (by decide))
    obtain ⟨x3, g3, h3⟩ := hI.got 3 _ 32 rfl rfl (hall 3 (by decide))
    obtain ⟨x4, g4, h4⟩ := hI.got 4 _ 33 rfl rfl (hall 4 (by decide))
    obtain ⟨x5, g5, h5⟩ := hI.got 5 _ 34 rfl rfl (hall 5 (by decide))
    obtain ⟨x6, g6, h6⟩ := hI.got 6 _ 35 rfl rfl (hall 6 (by decide))
    obtain ⟨x7, g7, h7⟩ := hI.got 7 _ 36 rfl rfl (hall 7 (by decide))
    obtain ⟨x8, g8, h8⟩ := hI.got 8 _ 37 rfl rfl (hall 8 (by decide))
    obtain ⟨x9, g9, h9⟩ := hI.got 9 _ 38 rfl rfl (hall 9 (by decide))
    obtain ⟨x10, g10, h10⟩ := hI.got 10 _ 39 rfl rfl (hall 10 (by decide))
    obtain ⟨x11, g11, h11⟩ := hI.got 11 _ 40 rfl rfl (hall 11 (by decide))
    obtain ⟨x12, g12, h12⟩ := hI.got 12 _ 41 rfl rfl (hall 12 (by decide))
    obtain ⟨x13, g13, h13⟩ := hI.got 13 _ 42 rfl rfl (hall 13 (by decide))
    obtain ⟨x14, g14, h14⟩ := hI.got 14 _ 43 rfl rfl (hall 14 (by decide))
    obtain ⟨x15, g15, h15⟩ := hI.got 15 _ 44 rfl rfl (hall 15 (by decide))
    obtain ⟨x16, g16, h16⟩ := hI.got 16 _ 45 rfl rfl (hall 16 (by decide))
    obtain ⟨x17, g17, h17⟩ := hI.got 17 _ 46 rfl rfl (hall 17 (by decide))
    obtain ⟨x18, g18, h18⟩ := hI.got 18 _ 47 rfl rfl (hall 18 (by decide))
    obtain ⟨x19, g19, h19⟩ := hI.got 19 _ 48 rfl rfl (hall 19 (by decide))
    obtain ⟨x20, g20, h20⟩ := hI.got 20 _ 49 rfl rfl (hall 20 (by decide))
    obtain ⟨x21, g21, h21⟩ := hI.got 21 _ 50 rfl rfl (hall 21 (by decide))
    obtain ⟨x22, g22, h22⟩ := hI.got 22 _ 51 rfl rfl (hall 22 (by decide))
    obtain ⟨x23, g23, h23⟩ := hI.got 23 _ 52 rfl rfl (hall 23 (by decide))
    obtain ⟨x24, g24, h24⟩ := hI.got 24 _ 53 rfl rfl (hall 24 (by decide))
    obtain ⟨x25, g25, h25⟩ := hI.got 25 _ 54 rfl rfl (hall 25 (by decide))
    obtain ⟨x26, g26, h26⟩ := hI.got 26 _ 55 rfl rfl (hall 26 (by decide))
    obtain ⟨x27, g27, h27⟩ := hI.got 27 _ 56 rfl rfl (hall 27 (by decide))
    obtain ⟨x28, g28, h28⟩ := hI.got 28 _ 57 rfl rfl (hall 28 (by decide))
    obtain ⟨x29, g29, h29⟩ := hI.got 29 _ 58 rfl rfl (hall 29 (by decide))
    obtain ⟨x30, g30, h30⟩ := hI.got 30 _ 59 rfl rfl (hall 30 (by decide))
    obtain ⟨x31, g31, h31⟩ := hI.got 31 _ 4 rfl rfl (hall 31 (by decide))
    have hS := hI.world
    have hA : A0 = _ := hI.tmps [(29, x0), (30, x1), (31, x2), (32, x3), (33, x4), (34, x5), (35, x6), (36, x7), (37, x8), (38, x9), (39, x10), (40, x11), (41, x12), (42, x13), (43, x14), (44, x15), (45, x16), (46, x17), (47, x18), (48, x19), (49, x20), (50, x21), (51, x22), (52, x23), (53, x24), (54, x25), (55, x26), (56, x27), (57, x28), (58, x29), (59, x30), (4, x31)] (by simp only [List.mem_cons, List.not_mem_nil, or_false, forall_eq_or_imp, forall_eq]; exact ⟨g0, g1, g2, g3, g4, g5, g6, g7, g8, g9, g10, g11, g12, g13, g14, g15, g16, g17, g18, g19, g20, g21, g22, g23, g24, g25, g26, g27, g28, g29, g30, g31⟩) (by kernel_rfl)
    obtain rfl : x31 = .bool (true) := h31 _ rfl
    clear h0 g0 h1 g1 h2 g2 h3 g3 h4 g4 h5 g5 h6 g6 h7 g7 h8 g8 h9 g9 h10 g10 h11 g11 h12 g12 h13 g13 h14 g14 h15 g15 h16 g16 h17 g17 h18 g18 h19 g19 h20 g20 h21 g21 h22 g22 h23 g23 h24 g24 h25 g25 h26 g26 h27 g27 h28 g28 h29 g29 h30 g30 h31 g31 hI hall
    simp only [setAll, List.foldl, List.setIfInBounds_toArray, List.set_cons_zero, List.set_cons_succ] at hA
    rw [hA]
    clear hA
    go_wp2_with fail
    go_ret
    exact ⟨rfl, hbW.trans (hS.mono hbW.size)⟩
theorem events_c (x y : XEvent) (cx cy : List Value) (w : World) (hx : EventC w (· < w.heap.size) cx x) (hy : EventC w (· < w.heap.size) cy y) :
    Calls Try.prog 5 #[.agg cx.toArray, .agg cy.toArray] w fun e w' => e = .returned (.bool true) ∧ Below w.heap.size w w' := by
  by_cases h1 : fewB x = true
  · by_cases h2 : fewB y = true
    · exact events_small x y cx cy w hx hy h1 h2 _ _ rfl
    · exact events_big2 x y cx cy w hx hy h1 (by simpa using h2)
  · exact events_big x y cx cy w hx hy (by simpa using h1)
end Go.Proofs.Ytgdibeegheddmaa
