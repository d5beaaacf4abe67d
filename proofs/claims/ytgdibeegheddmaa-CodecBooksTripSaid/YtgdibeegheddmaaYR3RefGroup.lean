/- The reference reads: groups. Written by gen_r3.py. -/
import Derived.Test.YtgdibeegheddmaaYRa
import Derived.Test.YtgdibeegheddmaaYN5RefEntry
namespace Go.Proofs.Ytgdibeegheddmaa
open Go Go.RowKit
set_option linter.unusedVariables false
set_option linter.unusedSimpArgs false
attribute [local go_sem ↓] Go.wp_at_zero Go.wp_at_succ
/-- Data that stay where the world stays. -/
structure Dat (D : World → (Nat → Prop) → Prop) : Prop where
  fr : ∀ {Q : Nat → Prop} {a b : World}, D a Q → Fr Q a b → D b Q
  mono : ∀ {Q Q' : Nat → Prop} {a : World}, D a Q → (∀ k, Q k → Q' k) → D a Q'
theorem Dat.nil : Dat (fun _ _ => True) := ⟨fun _ _ => trivial, fun _ _ => trivial⟩
theorem Dat.and {D E : World → (Nat → Prop) → Prop} (h : Dat D) (k : Dat E) : Dat (fun w Q => D w Q ∧ E w Q) := ⟨fun d f => ⟨h.fr d.1 f, k.fr d.2 f⟩, fun d q => ⟨h.mono d.1 q, k.mono d.2 q⟩⟩
theorem Dat.list {α : Type} {El : World → (Nat → Prop) → List Value → α → Prop} {n : Nat} {cs : List Value} {xs : List α} (hE : ∀ {Q : Nat → Prop} {a b : World} {es : List Value} {x : α}, El a Q es x → Fr Q a b → El b Q es x) (hM : ∀ {Q Q' : Nat → Prop} {a : World} {es : List Value} {x : α}, El a Q es x → (∀ k, Q k → Q' k) → El a Q' es x) :
    Dat (fun w Q => ListC El n w Q cs xs) := ⟨fun d f => d.fr (fun h => hE h f) f, fun d q => d.mono (fun h => hM h q) q⟩
/-- A reader that fills the struct in block X and will hand it back in block r; D: the data that are read so far. -/
structure GS (D : World → (Nat → Prop) → Prop) (z : Array Value) (zt : TypeId) (w W : World) (r g X : Nat) (t : TypeId) (row : Array Value) (st : Option (List UInt8)) : Prop where
  rq : RQ W g st
  x : W.heap[X]? = some (.cells row t (0, 0))
  res : W.heap[r]? = some (.cells z zt (0, 0))
  fr : Ro g w W
  dat : D W (fun k => r < k ∧ k ≠ g ∧ k ≠ X ∧ k < W.heap.size)
  wX : w.heap.size ≤ X
  rX : r < X
  gX : g < X
  rg : r ≠ g
theorem GS.lt {D : World → (Nat → Prop) → Prop} {z : Array Value} {zt : TypeId} {w W : World} {r g X : Nat} {t : TypeId} {row : Array Value} {st : Option (List UInt8)} (h : GS D z zt w W r g X t row st) : X < W.heap.size := blk_lt h.x
theorem GS.step {D : World → (Nat → Prop) → Prop} (hD : Dat D) {z : Array Value} {zt : TypeId} {w W W' : World} {r g X : Nat} {t : TypeId} {row : Array Value} {st st' : Option (List UInt8)} (h : GS D z zt w W r g X t row st) (f : Ro g W W') (hr : RQ W' g st') : GS D z zt w W' r g X t row st' := by
  have hl := h.lt
  have h1 := h.rX
  have h2 := h.gX
  have h3 := h.rg
  exact ⟨hr, (f.block X ⟨hl, by omega⟩).trans h.x, (f.block r ⟨by omega, h3⟩).trans h.res, Ro.trans h.fr f, hD.mono (hD.fr h.dat (f.mono (fun k hk => ⟨hk.2.2.2, hk.2.1⟩))) (fun k hk => ⟨hk.1, hk.2.1, hk.2.2.1, Nat.lt_of_lt_of_le hk.2.2.2 f.size⟩), h.wX, h1, h2, h3⟩
theorem GS.loop {D : World → (Nat → Prop) → Prop} (hD : Dat D) {z : Array Value} {zt : TypeId} {w W W' : World} {r g X : Nat} {t : TypeId} {row row2 : Array Value} {st st' : Option (List UInt8)} (h : GS D z zt w W r g X t row st) (f : Fr (fun k => k < W.heap.size ∧ k ≠ g ∧ k ≠ X) W W') (hr : RQ W' g st') (hx : W'.heap[X]? = some (.cells row2 t (0, 0))) : GS D z zt w W' r g X t row2 st' := by
  have hl := h.lt
  have h1 := h.rX
  have h2 := h.gX
  have h3 := h.rg
  have h4 := h.wX
  exact ⟨hr, hx, (f.block r ⟨by omega, h3, by omega⟩).trans h.res, Fr.trans h.fr (f.mono (fun k hk => ⟨by have := hk.1; omega, hk.2, by have := hk.1; omega⟩)), hD.mono (hD.fr h.dat (f.mono (fun k hk => ⟨hk.2.2.2, hk.2.1, hk.2.2.1⟩))) (fun k hk => ⟨hk.1, hk.2.1, hk.2.2.1, Nat.lt_of_lt_of_le hk.2.2.2 f.size⟩), h4, h1, h2, h3⟩
theorem GS.store {D : World → (Nat → Prop) → Prop} (hD : Dat D) {z : Array Value} {zt : TypeId} {w W W' : World} {r g X : Nat} {t : TypeId} {row row2 : Array Value} {st : Option (List UInt8)} (h : GS D z zt w W r g X t row st) (f : Fr (fun k => k ≠ X) W W') (hx : W'.heap[X]? = some (.cells row2 t (0, 0))) : GS D z zt w W' r g X t row2 st :=
  h.loop hD (f.mono (fun k hk => hk.2.2)) (h.rq.fr f (fun k hk => by show k ≠ X; have := h.gX; omega)) hx
theorem GS.more {D E : World → (Nat → Prop) → Prop} {z : Array Value} {zt : TypeId} {w W : World} {r g X : Nat} {t : TypeId} {row : Array Value} {st : Option (List UInt8)} (hE : Dat E) (h : GS D z zt w W r g X t row st) (e : E W (fun k => X < k ∧ k < W.heap.size)) : GS (fun w Q => D w Q ∧ E w Q) z zt w W r g X t row st :=
  ⟨h.rq, h.x, h.res, h.fr, ⟨h.dat, hE.mono e (fun k hk => ⟨by have := hk.1; have := h.rX; omega, by have := hk.1; have := h.gX; omega, by have := hk.1; omega, hk.2⟩)⟩, h.wX, h.rX, h.gX, h.rg⟩
theorem wpList_store_midF {P : Program} {ops : Array Oper} {rest : List Oper} {o : Oper} {a : Act} {Q : Exit → Act → World → Prop} (hgd : o.guard = none) (ty : TypeId) (x y : Operand) (ho : o.op = .store ty x y) (hd : o.dst = none)
    (w : World) (b off : Nat) (vs row row2 : List Value) (t : TypeId) (hx : a.eval x = .pointer (some ⟨b, off, none⟩)) (hy : a.eval y = .agg vs.toArray) (hg : w.heap[b]? = some (.cells row.toArray t (0, 0)))
    (hput : putAt row off vs = row2) (hlen : off + vs.length ≤ row.length) (hi : (P.info? ty).map (·.size) = some vs.toArray.size) (h1 : vs.toArray.all (·.oneCell') = true)
    (h : ∀ w2 : World, w2.heap[b]? = some (.cells row2.toArray t (0, 0)) → Fr (fun k => k ≠ b) w w2 → wpList P ops Q rest a w2) : wpList P ops Q (o :: rest) a w := by
  refine wpList_store_mid hgd ty x y ho b off vs.toArray hx hy (there_of_block hg off _ (by simpa using hlen)) hi h1 ?_
  rw [hd]
  have g2 := heap_setCells vs off w row hg
  rw [hput] at g2
  exact h _ (by simpa using g2) (by simpa using fr_setCells (b := b) vs off w)
theorem EntityC.lit {w : World} {Q : Nat → Prop} {cs : List Value} {x : XEntity} (h : EntityC w Q cs x) : ∃ s1 s2 a1 m1 k1 a2 m2 k2 b1, cs = [.string s1, .string s2, .slice a1 m1 k1, .slice a2 m2 k2, .bool b1] := by
  obtain ⟨_, _, _, _, _, e, h0, h1, ⟨_, _, e2, _⟩, ⟨_, _, e3, _⟩, h4⟩ := h
  have e0 : _ = _ := h0
  have e1 : _ = _ := h1
  have e4 : _ = _ := h4
  rw [e, e0, e1, e2, e3, e4]
  exact ⟨_, _, _, _, _, _, _, _, _, rfl⟩
theorem EntryC.lit {w : World} {Q : Nat → Prop} {cs : List Value} {x : XEntry} (h : EntryC w Q cs x) : ∃ i1 i2 i3 i4 i5 s1 a1 m1 k1, cs = [.int .i64 i1, .int .i64 i2, .int .i64 i3, .int .i64 i4, .int .i64 i5, .string s1, .slice a1 m1 k1] := by
  obtain ⟨_, _, _, _, _, _, _, e, ⟨e0, _⟩, ⟨e1, _⟩, ⟨e2, _⟩, ⟨e3, _⟩, ⟨e4, _⟩, h5, ⟨_, _, e6, _⟩⟩ := h
  have e5 : _ = _ := h5
  rw [e, e0, e1, e2, e3, e4, e5, e6]
  exact ⟨_, _, _, _, _, _, _, _, _, rfl⟩
theorem RateC.lit {w : World} {Q : Nat → Prop} {cs : List Value} {x : XRate} (h : RateC w Q cs x) : ∃ s1 i1 i2 i3, cs = [.string s1, .int .i64 i1, .int .i64 i2, .int .i64 i3] := by
  obtain ⟨_, _, _, _, e, h0, ⟨e1, _⟩, ⟨e2, _⟩, ⟨e3, _⟩⟩ := h
  have e0 : _ = _ := h0
  rw [e, e0, e1, e2, e3]
  exact ⟨_, _, _, _, rfl⟩
theorem HoldingC.lit {w : World} {Q : Nat → Prop} {cs : List Value} {x : XHolding} (h : HoldingC w Q cs x) : ∃ i1 i2 i3 i4, cs = [.int .i64 i1, .int .i64 i2, .int .i64 i3, .int .i64 i4] := by
  obtain ⟨_, _, _, _, e, ⟨e0, _⟩, ⟨e1, _⟩, ⟨e2, _⟩, ⟨e3, _⟩⟩ := h
  rw [e, e0, e1, e2, e3]
  exact ⟨_, _, _, _, rfl⟩
theorem MatchC.lit {w : World} {Q : Nat → Prop} {cs : List Value} {x : XMatch} (h : MatchC w Q cs x) : ∃ i1 a1 m1 k1 a2 m2 k2 i2, cs = [.int .i64 i1, .slice a1 m1 k1, .slice a2 m2 k2, .int .i64 i2] := by
  obtain ⟨_, _, _, _, e, ⟨e0, _⟩, ⟨_, _, e1, _⟩, ⟨_, _, e2, _⟩, ⟨e3, _⟩⟩ := h
  rw [e, e0, e1, e2, e3]
  exact ⟨_, _, _, _, _, _, _, _, rfl⟩
theorem StockC.lit {w : World} {Q : Nat → Prop} {cs : List Value} {x : XStock} (h : StockC w Q cs x) : ∃ i1 i2 i3 i4 i5, cs = [.int .i64 i1, .int .i64 i2, .int .i64 i3, .int .i64 i4, .int .i64 i5] := by
  obtain ⟨_, _, _, _, _, e, ⟨e0, _⟩, ⟨e1, _⟩, ⟨e2, _⟩, ⟨e3, _⟩, ⟨e4, _⟩⟩ := h
  rw [e, e0, e1, e2, e3, e4]
  exact ⟨_, _, _, _, _, rfl⟩
theorem dAcc (v : Value) (xs : List XAccount) : Dat (fun w Q => True ∧ ListC AccountC 4 w Q [v] xs) := ⟨fun d f => ⟨trivial, accs_fr d.2 f⟩, fun d q => ⟨trivial, accs_mono d.2 q⟩⟩
theorem dAc1 (v : Value) (xs : List XAccount) : Dat (fun w Q => ListC AccountC 4 w Q [v] xs) := ⟨fun d f => accs_fr d f, fun d q => accs_mono d q⟩
theorem dEn1 (v : Value) (xs : List XEntity) : Dat (fun w Q => ListC EntityC 5 w Q [v] xs) := ⟨fun d f => d.fr (fun h => EntityC.fr h f) f, fun d q => d.mono (fun h => EntityC.mono h q) q⟩
theorem info54 : (Try.prog.info? 54).map (·.size) = some 3 := by kernel_rfl
set_option maxHeartbeats 8000000 in
set_option maxRecDepth 100000 in
theorem Group_rr (g : Nat) (st : Option (List UInt8)) (w : World) (hs : RQ w g st) : Calls Try.prog 56 #[.pointer (some ⟨g, 0, none⟩)] w (RXPost GroupC cGroup g st w) := by
  have hg := hs.lt
  have R0 := hs.alloc (.cells #[.string ⟨#[]⟩, .int .i64 0, .int .i64 0, .int .i64 0, .slice none 0 0, .int .i64 0, .int .i64 0, .int .i64 0, .int .i64 0, .int .i64 0, .int .i64 0, .int .i64 0, .int .i64 0, .int .i64 0, .int .i64 0, .int .i64 0, .int .i64 0, .int .i64 0, .int .i64 0, .int .i64 0, .slice none 0 0] 60)
  have F0 : Ro g w (w.alloc (.cells #[.string ⟨#[]⟩, .int .i64 0, .int .i64 0, .int .i64 0, .slice none 0 0, .int .i64 0, .int .i64 0, .int .i64 0, .int .i64 0, .int .i64 0, .int .i64 0, .int .i64 0, .int .i64 0, .int .i64 0, .int .i64 0, .int .i64 0, .int .i64 0, .int .i64 0, .int .i64 0, .int .i64 0, .slice none 0 0] 60)) := (Fr.refl _ w).alloc (fun _ h => h.1) _
  have B0 := heap_alloc_new w (.cells #[.string ⟨#[]⟩, .int .i64 0, .int .i64 0, .int .i64 0, .slice none 0 0, .int .i64 0, .int .i64 0, .int .i64 0, .int .i64 0, .int .i64 0, .int .i64 0, .int .i64 0, .int .i64 0, .int .i64 0, .int .i64 0, .int .i64 0, .int .i64 0, .int .i64 0, .int .i64 0, .int .i64 0, .slice none 0 0] 60)
  clear hs
  go_enter Try.func56, Try.ntmps56
  go_upto_region 1 with fail
  generalize hW : w.alloc (Obj.cells #[.string ⟨#[]⟩, .int .i64 0, .int .i64 0, .int .i64 0, .slice none 0 0, .int .i64 0, .int .i64 0, .int .i64 0, .int .i64 0, .int .i64 0, .int .i64 0, .int .i64 0, .int .i64 0, .int .i64 0, .int .i64 0, .int .i64 0, .int .i64 0, .int .i64 0, .int .i64 0, .int .i64 0, .slice none 0 0] 60) = W0 at *
  clear hW
  have hb0 : w.heap.size < W0.heap.size := blk_lt B0
  have H0 := Lib.hid R0
  clear R0
  go_wp2_with fail
  refine (rtext_r g _ W0 H0.out).mono ?_
  rintro e W1 ⟨n1, rfl, v1, R1, f1⟩
  have V1 := Lib.hid v1
  have F1 := Lib.hid (F0.trans (f1.mono (fun k hk => ⟨by have := hk.1; omega, hk.2⟩)))
  have B1 := Lib.hid ((f1.block w.heap.size ⟨hb0, by omega⟩).trans B0)
  have HR1 := Lib.hid R1
  have hs1 := f1.size
  clear v1 f1 F0 B0 R1
  go_upto_region 2 with (refine wpList_store_fresh2 rfl 60 (.tmp 3) (.tmp 7) rfl rfl W1 _ 60 #[.string n1, .int .i64 0, .int .i64 0, .int .i64 0, .slice none 0 0, .int .i64 0, .int .i64 0, .int .i64 0, .int .i64 0, .int .i64 0, .int .i64 0, .int .i64 0, .int .i64 0, .int .i64 0, .int .i64 0, .int .i64 0, .int .i64 0, .int .i64 0, .int .i64 0, .int .i64 0, .slice none 0 0] rfl rfl info60 rfl (by simp only [List.all_toArray, List.all_cons, List.all_nil, Value.oneCell', Bool.and_true]) ?_; intro U S1 S2 S3; replace S1 := Lib.hid S1)
  have hb1 : w.heap.size < W1.heap.size := by omega
  have hGS : GS (fun _ _ => True) #[.string ⟨#[]⟩, .int .i64 0, .int .i64 0, .int .i64 0, .slice none 0 0, .int .i64 0, .int .i64 0, .int .i64 0, .int .i64 0, .int .i64 0, .int .i64 0, .int .i64 0, .int .i64 0, .int .i64 0, .int .i64 0, .int .i64 0, .int .i64 0, .int .i64 0, .int .i64 0, .int .i64 0, .slice none 0 0] 60 w U w.heap.size g W1.heap.size 60 #[.string n1, .int .i64 0, .int .i64 0, .int .i64 0, .slice none 0 0, .int .i64 0, .int .i64 0, .int .i64 0, .int .i64 0, .int .i64 0, .int .i64 0, .int .i64 0, .int .i64 0, .int .i64 0, .int .i64 0, .int .i64 0, .int .i64 0, .int .i64 0, .int .i64 0, .int .i64 0, .slice none 0 0] (cStr.st st) := ⟨HR1.out.fr (Fr.ofBelow S2) (fun k hk => by have := F1.out.size; omega), S1.out, (S2.block w.heap.size hb1).trans B1.out, Fr.trans F1.out ((Fr.ofBelow S2).mono (fun k hk => by have : k < w.heap.size := hk.1; show k < W1.heap.size; omega)), trivial, by omega, hb1, by omega, by omega⟩
  obtain ⟨X, hX⟩ : ∃ X, W1.heap.size = X := ⟨_, rfl⟩
  rw [hX] at hGS
  rw [hX]
  have G := Lib.hid hGS
  clear hGS hX S1 S2 S3 HR1 B1 F1 H0
  go_wp2_with fail
  refine (rint_r g _ U G.out.rq).mono ?_
  rintro e Uc1 ⟨c1, rfl, bc1, vc1, hR, hF, -⟩
  have Vc1 := Lib.hid vc1
  replace G := Lib.hid (G.out.step Dat.nil hF hR)
  clear hR hF vc1
  go_wp2_with fail
  refine (rint_r g _ Uc1 G.out.rq).mono ?_
  rintro e Uc2 ⟨c2, rfl, bc2, vc2, hR, hF, -⟩
  have Vc2 := Lib.hid vc2
  replace G := Lib.hid (G.out.step Dat.nil hF hR)
  clear hR hF vc2
  go_wp2_with fail
  refine (rint_r g _ Uc2 G.out.rq).mono ?_
  rintro e Uc3 ⟨c3, rfl, bc3, vc3, hR, hF, -⟩
  have Vc3 := Lib.hid vc3
  replace G := Lib.hid (G.out.step Dat.nil hF hR)
  clear hR hF vc3
  have hgx := G.out.x
  go_upto_region 3 with (refine wpList_store_midF rfl 54 (.tmp 15) (.tmp 14) rfl rfl Uc3 X 1 [.int .i64 c1, .int .i64 c2, .int .i64 c3] [.string n1, .int .i64 0, .int .i64 0, .int .i64 0, .slice none 0 0, .int .i64 0, .int .i64 0, .int .i64 0, .int .i64 0, .int .i64 0, .int .i64 0, .int .i64 0, .int .i64 0, .int .i64 0, .int .i64 0, .int .i64 0, .int .i64 0, .int .i64 0, .int .i64 0, .int .i64 0, .slice none 0 0] [.string n1, .int .i64 c1, .int .i64 c2, .int .i64 c3, .slice none 0 0, .int .i64 0, .int .i64 0, .int .i64 0, .int .i64 0, .int .i64 0, .int .i64 0, .int .i64 0, .int .i64 0, .int .i64 0, .int .i64 0, .int .i64 0, .int .i64 0, .int .i64 0, .int .i64 0, .int .i64 0, .slice none 0 0] 60 rfl rfl hgx rfl (by simp) info54 (by simp only [List.all_toArray, List.all_cons, List.all_nil, Value.oneCell', Bool.and_true]) ?_; intro Uc3s S1 S2; replace S1 := Lib.hid S1; clear hgx)
  replace G := Lib.hid (G.out.store Dat.nil S2 S1.out)
  clear S1 S2
  go_wp2_with fail
  refine (listAccount_rr g _ Uc3s G.out.rq).mono ?_
  rintro e Ua ⟨q4, x4, rfl, l4, v4, hR, hF⟩
  have V4 := Lib.hid v4
  obtain ⟨A4, k4, rfl⟩ := l4.slice
  have hXlt := G.out.lt
  have hG1 := GS.more (E := fun w Q => ListC AccountC 4 w Q [.slice A4 x4.length k4] x4) (dAc1 _ _) (G.out.step Dat.nil hF hR) (accs_mono l4 (fun k hk => ⟨by have := hk.1; omega, hk.2⟩))
  have cX := blk_cell hG1.x 4
  have fX : Ua.frozen? ⟨X, 4, none⟩ = false := blk_frozen hG1.x 4
  have S1 : Hid ((Ua.setCell ⟨X, 4, none⟩ (.slice A4 x4.length k4)).heap[X]? = some (.cells #[.string n1, .int .i64 c1, .int .i64 c2, .int .i64 c3, .slice A4 x4.length k4, .int .i64 0, .int .i64 0, .int .i64 0, .int .i64 0, .int .i64 0, .int .i64 0, .int .i64 0, .int .i64 0, .int .i64 0, .int .i64 0, .int .i64 0, .int .i64 0, .int .i64 0, .int .i64 0, .int .i64 0, .slice none 0 0] 60 (0, 0))) := Lib.hid (heap_setCell_same hG1.x 4 (.slice A4 x4.length k4))
  have S2 : Fr (fun k => k ≠ X) Ua (Ua.setCell ⟨X, 4, none⟩ (.slice A4 x4.length k4)) := (Fr.refl _ Ua).setCell (p := ⟨X, 4, none⟩) (fun h => h rfl) _
  have hG2 : GS (fun w Q => True ∧ ListC AccountC 4 w Q [.slice A4 x4.length k4] x4) #[.string ⟨#[]⟩, .int .i64 0, .int .i64 0, .int .i64 0, .slice none 0 0, .int .i64 0, .int .i64 0, .int .i64 0, .int .i64 0, .int .i64 0, .int .i64 0, .int .i64 0, .int .i64 0, .int .i64 0, .int .i64 0, .int .i64 0, .int .i64 0, .int .i64 0, .int .i64 0, .int .i64 0, .slice none 0 0] 60 w (Ua.setCell ⟨X, 4, none⟩ (.slice A4 x4.length k4)) w.heap.size g X 60 #[.string n1, .int .i64 c1, .int .i64 c2, .int .i64 c3, .slice A4 x4.length k4, .int .i64 0, .int .i64 0, .int .i64 0, .int .i64 0, .int .i64 0, .int .i64 0, .int .i64 0, .int .i64 0, .int .i64 0, .int .i64 0, .int .i64 0, .int .i64 0, .int .i64 0, .int .i64 0, .int .i64 0, .slice none 0 0] ((cList cAccount).st (cInt.st (cInt.st (cInt.st (cStr.st st))))) := hG1.store (dAcc (.slice A4 x4.length k4) x4) S2 S1.out
  have HG2 := Lib.hid hG2
  clear hR hF l4 v4 hG1 hG2 S1 S2 G
  go_upto_region 4 with fail
  obtain ⟨Ub, hUb⟩ : ∃ Ub, Ub = Ua.setCell ⟨X, 4, none⟩ (.slice A4 x4.length k4) := ⟨_, rfl⟩
  have G := HG2
  rw [← hUb] at G
  rw [← hUb]
  clear hUb HG2 cX fX
  go_wp2_with fail
  refine (rint_r g _ Ub G.out.rq).mono ?_
  rintro e Ur1 ⟨r1, rfl, br1, vr1, hR, hF, -⟩
  have Vr1 := Lib.hid vr1
  replace G := Lib.hid (G.out.step (dAcc (.slice A4 x4.length k4) x4) hF hR)
  clear hR hF vr1
  go_wp2_with fail
  refine (rint_r g _ Ur1 G.out.rq).mono ?_
  rintro e Ur2 ⟨r2, rfl, br2, vr2, hR, hF, -⟩
  have Vr2 := Lib.hid vr2
  replace G := Lib.hid (G.out.step (dAcc (.slice A4 x4.length k4) x4) hF hR)
  clear hR hF vr2
  go_wp2_with fail
  refine (rint_r g _ Ur2 G.out.rq).mono ?_
  rintro e Ur3 ⟨r3, rfl, br3, vr3, hR, hF, -⟩
  have Vr3 := Lib.hid vr3
  replace G := Lib.hid (G.out.step (dAcc (.slice A4 x4.length k4) x4) hF hR)
  clear hR hF vr3
  go_wp2_with fail
  refine (rint_r g _ Ur3 G.out.rq).mono ?_
  rintro e Ur4 ⟨r4, rfl, br4, vr4, hR, hF, -⟩
  have Vr4 := Lib.hid vr4
  replace G := Lib.hid (G.out.step (dAcc (.slice A4 x4.length k4) x4) hF hR)
  clear hR hF vr4
  go_wp2_with fail
  refine (rint_r g _ Ur4 G.out.rq).mono ?_
  rintro e Ur5 ⟨r5, rfl, br5, vr5, hR, hF, -⟩
  have Vr5 := Lib.hid vr5
  replace G := Lib.hid (G.out.step (dAcc (.slice A4 x4.length k4) x4) hF hR)
  clear hR hF vr5
  go_wp2_with fail
  refine (rint_r g _ Ur5 G.out.rq).mono ?_
  rintro e Ur6 ⟨r6, rfl, br6, vr6, hR, hF, -⟩
  have Vr6 := Lib.hid vr6
  replace G := Lib.hid (G.out.step (dAcc (.slice A4 x4.length k4) x4) hF hR)
  clear hR hF vr6
  go_wp2_with fail
  refine (rint_r g _ Ur6 G.out.rq).mono ?_
  rintro e Ur7 ⟨r7, rfl, br7, vr7, hR, hF, -⟩
  have Vr7 := Lib.hid vr7
  replace G := Lib.hid (G.out.step (dAcc (.slice A4 x4.length k4) x4) hF hR)
  clear hR hF vr7
  go_wp2_with fail
  refine (rint_r g _ Ur7 G.out.rq).mono ?_
  rintro e Ur8 ⟨r8, rfl, br8, vr8, hR, hF, -⟩
  have Vr8 := Lib.hid vr8
  replace G := Lib.hid (G.out.step (dAcc (.slice A4 x4.length k4) x4) hF hR)
  clear hR hF vr8
  go_wp2_with fail
  refine (rint_r g _ Ur8 G.out.rq).mono ?_
  rintro e Ur9 ⟨r9, rfl, br9, vr9, hR, hF, -⟩
  have Vr9 := Lib.hid vr9
  replace G := Lib.hid (G.out.step (dAcc (.slice A4 x4.length k4) x4) hF hR)
  clear hR hF vr9
  go_wp2_with fail
  refine (rint_r g _ Ur9 G.out.rq).mono ?_
  rintro e Ur10 ⟨r10, rfl, br10, vr10, hR, hF, -⟩
  have Vr10 := Lib.hid vr10
  replace G := Lib.hid (G.out.step (dAcc (.slice A4 x4.length k4) x4) hF hR)
  clear hR hF vr10
  go_wp2_with fail
  refine (rint_r g _ Ur10 G.out.rq).mono ?_
  rintro e Ur11 ⟨r11, rfl, br11, vr11, hR, hF, -⟩
  have Vr11 := Lib.hid vr11
  replace G := Lib.hid (G.out.step (dAcc (.slice A4 x4.length k4) x4) hF hR)
  clear hR hF vr11
  go_wp2_with fail
  refine (rint_r g _ Ur11 G.out.rq).mono ?_
  rintro e Ur12 ⟨r12, rfl, br12, vr12, hR, hF, -⟩
  have Vr12 := Lib.hid vr12
  replace G := Lib.hid (G.out.step (dAcc (.slice A4 x4.length k4) x4) hF hR)
  clear hR hF vr12
  go_wp2_with fail
  refine (rint_r g _ Ur12 G.out.rq).mono ?_
  rintro e Ur13 ⟨r13, rfl, br13, vr13, hR, hF, -⟩
  have Vr13 := Lib.hid vr13
  replace G := Lib.hid (G.out.step (dAcc (.slice A4 x4.length k4) x4) hF hR)
  clear hR hF vr13
  go_wp2_with fail
  refine (rint_r g _ Ur13 G.out.rq).mono ?_
  rintro e Ur14 ⟨r14, rfl, br14, vr14, hR, hF, -⟩
  have Vr14 := Lib.hid vr14
  replace G := Lib.hid (G.out.step (dAcc (.slice A4 x4.length k4) x4) hF hR)
  clear hR hF vr14
  go_wp2_with fail
  refine (rint_r g _ Ur14 G.out.rq).mono ?_
  rintro e Ur15 ⟨r15, rfl, br15, vr15, hR, hF, -⟩
  have Vr15 := Lib.hid vr15
  replace G := Lib.hid (G.out.step (dAcc (.slice A4 x4.length k4) x4) hF hR)
  clear hR hF vr15
  have hgx := G.out.x
  go_upto_region 5 with (refine wpList_store_midF rfl 57 (.tmp 50) (.tmp 49) rfl rfl Ur15 X 5 [.int .i64 r1, .int .i64 r2, .int .i64 r3, .int .i64 r4, .int .i64 r5, .int .i64 r6, .int .i64 r7, .int .i64 r8, .int .i64 r9, .int .i64 r10, .int .i64 r11, .int .i64 r12, .int .i64 r13, .int .i64 r14, .int .i64 r15] [.string n1, .int .i64 c1, .int .i64 c2, .int .i64 c3, .slice A4 x4.length k4, .int .i64 0, .int .i64 0, .int .i64 0, .int .i64 0, .int .i64 0, .int .i64 0, .int .i64 0, .int .i64 0, .int .i64 0, .int .i64 0, .int .i64 0, .int .i64 0, .int .i64 0, .int .i64 0, .int .i64 0, .slice none 0 0] [.string n1, .int .i64 c1, .int .i64 c2, .int .i64 c3, .slice A4 x4.length k4, .int .i64 r1, .int .i64 r2, .int .i64 r3, .int .i64 r4, .int .i64 r5, .int .i64 r6, .int .i64 r7, .int .i64 r8, .int .i64 r9, .int .i64 r10, .int .i64 r11, .int .i64 r12, .int .i64 r13, .int .i64 r14, .int .i64 r15, .slice none 0 0] 60 rfl rfl hgx rfl (by simp) info57 (by simp only [List.all_toArray, List.all_cons, List.all_nil, Value.oneCell', Bool.and_true]) ?_; intro Ur15s S1 S2; replace S1 := Lib.hid S1; clear hgx)
  replace G := Lib.hid (G.out.store (dAcc (.slice A4 x4.length k4) x4) S2 S1.out)
  clear S1 S2
  have hXU := G.out.lt
  have hgX := G.out.gX
  have hrX := G.out.rX
  obtain ⟨st4, hst4⟩ : ∃ s, cInt.st (cInt.st (cInt.st (cInt.st (cInt.st (cInt.st (cInt.st (cInt.st (cInt.st (cInt.st (cInt.st (cInt.st (cInt.st (cInt.st (cInt.st ((cList cAccount).st (cInt.st (cInt.st (cInt.st (cStr.st st))))))))))))))))))) = s := ⟨_, rfl⟩
  rw [hst4] at G
  have HST := Lib.hid hst4
  clear hst4
  go_wp2_with fail
  refine (count_r g _ Ur15s G.out.rq).mono ?_
  rintro e W ⟨n, rfl, hn8, hcnt, hRW, hFW⟩
  obtain ⟨oi0, hoi, hLP0⟩ := cnt_list cEntity encEntity_pos hcnt hRW.len
  rw [← hoi] at hRW
  have HLP := Lib.hid hLP0
  have HRW := Lib.hid hRW
  have HFW := Lib.hid hFW
  clear hcnt hRW hFW hoi hLP0
  go_wp2_with fail
  have SW := Lib.hid ((HFW.out.block X ⟨hXU, by omega⟩).trans G.out.x)
  obtain ⟨i0, hi0, hz0, hz1, hz2⟩ := info_parts info133z
  go_loopw [4] (fun m wr => ∃ (j k : Nat) (oi : Option (List UInt8)) (xs : List XEntity) (ess : List (List Value)) (v : Value), m = .int .i64 (j : Int) ∧ j + k = n ∧ LP cEntity st4 (n : Int) k oi xs ∧ RQ wr g oi ∧ LInv EntityC 5 133 Ur15s wr v xs ess ∧ Fr (fun k => k < Ur15s.heap.size ∧ k ≠ g ∧ k ≠ X) Ur15s wr ∧ wr.heap[X]? = some (.cells #[.string n1, .int .i64 c1, .int .i64 c2, .int .i64 c3, .slice A4 x4.length k4, .int .i64 r1, .int .i64 r2, .int .i64 r3, .int .i64 r4, .int .i64 r5, .int .i64 r6, .int .i64 r7, .int .i64 r8, .int .i64 r9, .int .i64 r10, .int .i64 r11, .int .i64 r12, .int .i64 r13, .int .i64 r14, .int .i64 r15, v] 60 (0, 0))) (fun m _ => (intOf m).toNat)
  case atStart => exact ⟨n, 0, oi0, [], [], _, rfl, rfl, HLP.out, HRW.out, LInv.nil _ _, HFW.out.mono (fun k hk => ⟨hk.1, hk.2.1⟩), SW.out⟩
  case round =>
    obtain ⟨j, k, oi, xs, ess, v, rfl, hjk, hLP, hRR, hLI, hFF, hX0⟩ := hrel
    obtain ⟨bad, p1, hp1, hp2⟩ := hRR.open
    have hvo := fun k (e : Value.ownBlock _ = some k) => (hLI.own.lt k e).1
    have hwr : Ur15s.heap.size ≤ wr.heap.size := hFF.size
    obtain ⟨vA, vn, vc, rfl⟩ := own_shape hLI.own
    have cX := blk_cell hX0 20
    have fX : wr.frozen? ⟨X, 20, none⟩ = false := blk_frozen hX0 20
    have HX0 := Lib.hid hX0
    have HL := Lib.hid hLP
    have HRR := Lib.hid hRR
    have HLI := Lib.hid hLI
    have HFF := Lib.hid hFF
    have HVO := Lib.hid hvo
    have HB1 := Lib.hid hp1
    have HB2 := Lib.hid hp2
    have HJK := Lib.hid hjk
    clear hLP hRR hLI hFF hvo hp1 hp2 hjk hX0
    rcases Nat.eq_zero_or_pos j with hj | hj
    · subst hj
      have hout := HL.out.out (.inr (by have := HJK.out; omega))
      have HST2 := Lib.hid hout.1
      have HVL := Lib.hid hout.2
      clear hout
      have G2 := Lib.hid (GS.more (E := fun w Q => ListC EntityC 5 w Q [.slice vA vn vc] xs) (dEn1 _ _) (G.out.loop (dAcc (.slice A4 x4.length k4) x4) HFF.out HRR.out HX0.out) ((HLI.out.out (fun h hq => EntityC.mono h hq)).mono (fun h => EntityC.mono h (fun k (hk : Nw Ur15s wr k) => ⟨by have := hk.1; omega, hk.2⟩)) (fun k (hk : Nw Ur15s wr k) => ⟨by have := hk.1; omega, hk.2⟩)))
      have HXr := Lib.hid G2.out.x
      have HBr := Lib.hid G2.out.res
      go_wp2_with (first | refine wpList_load_row rfl 60 (.tmp 3) rfl X rfl 60 #[.string n1, .int .i64 c1, .int .i64 c2, .int .i64 c3, .slice A4 x4.length k4, .int .i64 r1, .int .i64 r2, .int .i64 r3, .int .i64 r4, .int .i64 r5, .int .i64 r6, .int .i64 r7, .int .i64 r8, .int .i64 r9, .int .i64 r10, .int .i64 r11, .int .i64 r12, .int .i64 r13, .int .i64 r14, .int .i64 r15, .slice vA vn vc] (0, 0) _ HXr.out Try.underlying60 rfl info60 ?_ | refine wpList_store_row rfl 60 (.tmp 2) (.tmp 71) rfl w.heap.size #[.string n1, .int .i64 c1, .int .i64 c2, .int .i64 c3, .slice A4 x4.length k4, .int .i64 r1, .int .i64 r2, .int .i64 r3, .int .i64 r4, .int .i64 r5, .int .i64 r6, .int .i64 r7, .int .i64 r8, .int .i64 r9, .int .i64 r10, .int .i64 r11, .int .i64 r12, .int .i64 r13, .int .i64 r14, .int .i64 r15, .slice vA vn vc] rfl rfl 60 _ HBr.out info60 rfl (by simp only [List.all_toArray, List.all_cons, List.all_nil, Value.oneCell', Bool.and_true]) ?_)
      have hfr := fr_setRow wr w.heap.size #[.string n1, .int .i64 c1, .int .i64 c2, .int .i64 c3, .slice A4 x4.length k4, .int .i64 r1, .int .i64 r2, .int .i64 r3, .int .i64 r4, .int .i64 r5, .int .i64 r6, .int .i64 r7, .int .i64 r8, .int .i64 r9, .int .i64 r10, .int .i64 r11, .int .i64 r12, .int .i64 r13, .int .i64 r14, .int .i64 r15, .slice vA vn vc]
      have hsz := hfr.size
      (try simp only [Exit.inBlock, Exit.then])
      have hA := accs_fr G2.out.dat.1.2 (hfr.mono (fun k hk => by show k ≠ w.heap.size; have := hk.1; omega))
      have hB := G2.out.dat.2.fr (fun h => EntityC.fr h (hfr.mono (fun k hk => by show k ≠ w.heap.size; have := hk.1; omega))) (hfr.mono (fun k hk => by show k ≠ w.heap.size; have := hk.1; omega))
      refine bodyPost_ret (v := .agg #[.string n1, .int .i64 c1, .int .i64 c2, .int .i64 c3, .slice A4 x4.length k4, .int .i64 r1, .int .i64 r2, .int .i64 r3, .int .i64 r4, .int .i64 r5, .int .i64 r6, .int .i64 r7, .int .i64 r8, .int .i64 r9, .int .i64 r10, .int .i64 r11, .int .i64 r12, .int .i64 r13, .int .i64 r14, .int .i64 r15, .slice vA vn vc]) (results_cell_row rfl _ _ w.heap.size 60 _ (0, 0) _ rfl (heap_setRow HBr.out _) Try.underlying60 rfl info60) rfl ⟨_, { currency := n1, calendar := ⟨c1, c2, c3⟩, chart := x4, roles := ⟨r1, r2, r3, r4, r5, r6, r7, r8, r9, r10, r11, r12, r13, r14, r15⟩, entities := xs }, rfl, ⟨[.string n1], [.int .i64 c1, .int .i64 c2, .int .i64 c3], [.slice A4 x4.length k4], [.int .i64 r1, .int .i64 r2, .int .i64 r3, .int .i64 r4, .int .i64 r5, .int .i64 r6, .int .i64 r7, .int .i64 r8, .int .i64 r9, .int .i64 r10, .int .i64 r11, .int .i64 r12, .int .i64 r13, .int .i64 r14, .int .i64 r15], [.slice vA vn vc], rfl, rfl, ⟨_, _, _, rfl, ⟨rfl, bc1⟩, ⟨rfl, bc2⟩, ⟨rfl, bc3⟩⟩, accs_mono hA (fun k hk => ⟨by have := hk.1; omega, by have := hk.2; omega⟩), ⟨_, _, _, _, _, _, _, _, _, _, _, _, _, _, _, rfl, ⟨rfl, br1⟩, ⟨rfl, br2⟩, ⟨rfl, br3⟩, ⟨rfl, br4⟩, ⟨rfl, br5⟩, ⟨rfl, br6⟩, ⟨rfl, br7⟩, ⟨rfl, br8⟩, ⟨rfl, br9⟩, ⟨rfl, br10⟩, ⟨rfl, br11⟩, ⟨rfl, br12⟩, ⟨rfl, br13⟩, ⟨rfl, br14⟩, ⟨rfl, br15⟩⟩, hB.mono (fun h => EntityC.mono h (fun k hk => ⟨by have := hk.1; omega, by have := hk.2; omega⟩)) (fun k hk => ⟨by have := hk.1; omega, by have := hk.2; omega⟩)⟩, Cod.vl_iso (Cod.vl_pair V1.out (Cod.vl_pair (Cod.vl_iso (Cod.vl_pair Vc1.out (Cod.vl_pair Vc2.out Vc3.out))) (by rw [show cCal.st (cStr.st st) = cInt.st (cInt.st (cInt.st (cStr.st st))) from by simp only [cCal, Cod.st_iso, Cod.st_pair]]; exact Cod.vl_pair V4.out (Cod.vl_pair (Cod.vl_iso (Cod.vl_pair Vr1.out (Cod.vl_pair Vr2.out (Cod.vl_pair Vr3.out (Cod.vl_pair Vr4.out (Cod.vl_pair Vr5.out (Cod.vl_pair Vr6.out (Cod.vl_pair Vr7.out (Cod.vl_pair Vr8.out (Cod.vl_pair Vr9.out (Cod.vl_pair Vr10.out (Cod.vl_pair Vr11.out (Cod.vl_pair Vr12.out (Cod.vl_pair Vr13.out (Cod.vl_pair Vr14.out (Vr15.out)))))))))))))))) (by rw [show cRoles.st ((cList cAccount).st (cInt.st (cInt.st (cInt.st (cStr.st st))))) = st4 from by rw [← HST.out]; simp only [cRoles, Cod.st_iso, Cod.st_pair]]; exact HVL.out))))), ?_, Fr.trans G2.out.fr (hfr.mono (fun k hk => by show k ≠ w.heap.size; have := hk.1; omega))⟩
      have e : cGroup.st st = (cList cEntity).st st4 := by rw [← HST.out]; simp only [cGroup, cCal, cRoles, Cod.st_iso, Cod.st_pair]
      rw [e, HST2.out]
      exact G2.out.rq.fr (Q := fun k => k ≠ w.heap.size) hfr (fun k hk => by show k ≠ w.heap.size; omega)
    · have hj8 : j ≤ 100000000 := by have := HJK.out; omega
      have hd : decide ((0 : Int) < (j : Int)) = true := decide_eq_true (by omega)
      cases oi with
      | none =>
        have hbad := HB1.out rfl
        subst hbad
        have hout := HL.out.out (.inl (by first | rfl | trivial))
        have HST2 := Lib.hid hout.1
        have HVL := Lib.hid hout.2
        clear hout
        have G2 := Lib.hid (GS.more (E := fun w Q => ListC EntityC 5 w Q [.slice vA vn vc] xs) (dEn1 _ _) (G.out.loop (dAcc (.slice A4 x4.length k4) x4) HFF.out HRR.out HX0.out) ((HLI.out.out (fun h hq => EntityC.mono h hq)).mono (fun h => EntityC.mono h (fun k (hk : Nw Ur15s wr k) => ⟨by have := hk.1; omega, hk.2⟩)) (fun k (hk : Nw Ur15s wr k) => ⟨by have := hk.1; omega, hk.2⟩)))
        have HXr := Lib.hid G2.out.x
        have HBr := Lib.hid G2.out.res
        go_wp2_with (first | refine wpList_load_row rfl 60 (.tmp 3) rfl X rfl 60 #[.string n1, .int .i64 c1, .int .i64 c2, .int .i64 c3, .slice A4 x4.length k4, .int .i64 r1, .int .i64 r2, .int .i64 r3, .int .i64 r4, .int .i64 r5, .int .i64 r6, .int .i64 r7, .int .i64 r8, .int .i64 r9, .int .i64 r10, .int .i64 r11, .int .i64 r12, .int .i64 r13, .int .i64 r14, .int .i64 r15, .slice vA vn vc] (0, 0) _ HXr.out Try.underlying60 rfl info60 ?_ | refine wpList_store_row rfl 60 (.tmp 2) (.tmp 71) rfl w.heap.size #[.string n1, .int .i64 c1, .int .i64 c2, .int .i64 c3, .slice A4 x4.length k4, .int .i64 r1, .int .i64 r2, .int .i64 r3, .int .i64 r4, .int .i64 r5, .int .i64 r6, .int .i64 r7, .int .i64 r8, .int .i64 r9, .int .i64 r10, .int .i64 r11, .int .i64 r12, .int .i64 r13, .int .i64 r14, .int .i64 r15, .slice vA vn vc] rfl rfl 60 _ HBr.out info60 rfl (by simp only [List.all_toArray, List.all_cons, List.all_nil, Value.oneCell', Bool.and_true]) ?_)
        have hfr := fr_setRow wr w.heap.size #[.string n1, .int .i64 c1, .int .i64 c2, .int .i64 c3, .slice A4 x4.length k4, .int .i64 r1, .int .i64 r2, .int .i64 r3, .int .i64 r4, .int .i64 r5, .int .i64 r6, .int .i64 r7, .int .i64 r8, .int .i64 r9, .int .i64 r10, .int .i64 r11, .int .i64 r12, .int .i64 r13, .int .i64 r14, .int .i64 r15, .slice vA vn vc]
        have hsz := hfr.size
        (try simp only [Exit.inBlock, Exit.then])
        have hA := accs_fr G2.out.dat.1.2 (hfr.mono (fun k hk => by show k ≠ w.heap.size; have := hk.1; omega))
        have hB := G2.out.dat.2.fr (fun h => EntityC.fr h (hfr.mono (fun k hk => by show k ≠ w.heap.size; have := hk.1; omega))) (hfr.mono (fun k hk => by show k ≠ w.heap.size; have := hk.1; omega))
        refine bodyPost_ret (v := .agg #[.string n1, .int .i64 c1, .int .i64 c2, .int .i64 c3, .slice A4 x4.length k4, .int .i64 r1, .int .i64 r2, .int .i64 r3, .int .i64 r4, .int .i64 r5, .int .i64 r6, .int .i64 r7, .int .i64 r8, .int .i64 r9, .int .i64 r10, .int .i64 r11, .int .i64 r12, .int .i64 r13, .int .i64 r14, .int .i64 r15, .slice vA vn vc]) (results_cell_row rfl _ _ w.heap.size 60 _ (0, 0) _ rfl (heap_setRow HBr.out _) Try.underlying60 rfl info60) rfl ⟨_, { currency := n1, calendar := ⟨c1, c2, c3⟩, chart := x4, roles := ⟨r1, r2, r3, r4, r5, r6, r7, r8, r9, r10, r11, r12, r13, r14, r15⟩, entities := xs }, rfl, ⟨[.string n1], [.int .i64 c1, .int .i64 c2, .int .i64 c3], [.slice A4 x4.length k4], [.int .i64 r1, .int .i64 r2, .int .i64 r3, .int .i64 r4, .int .i64 r5, .int .i64 r6, .int .i64 r7, .int .i64 r8, .int .i64 r9, .int .i64 r10, .int .i64 r11, .int .i64 r12, .int .i64 r13, .int .i64 r14, .int .i64 r15], [.slice vA vn vc], rfl, rfl, ⟨_, _, _, rfl, ⟨rfl, bc1⟩, ⟨rfl, bc2⟩, ⟨rfl, bc3⟩⟩, accs_mono hA (fun k hk => ⟨by have := hk.1; omega, by have := hk.2; omega⟩), ⟨_, _, _, _, _, _, _, _, _, _, _, _, _, _, _, rfl, ⟨rfl, br1⟩, ⟨rfl, br2⟩, ⟨rfl, br3⟩, ⟨rfl, br4⟩, ⟨rfl, br5⟩, ⟨rfl, br6⟩, ⟨rfl, br7⟩, ⟨rfl, br8⟩, ⟨rfl, br9⟩, ⟨rfl, br10⟩, ⟨rfl, br11⟩, ⟨rfl, br12⟩, ⟨rfl, br13⟩, ⟨rfl, br14⟩, ⟨rfl, br15⟩⟩, hB.mono (fun h => EntityC.mono h (fun k hk => ⟨by have := hk.1; omega, by have := hk.2; omega⟩)) (fun k hk => ⟨by have := hk.1; omega, by have := hk.2; omega⟩)⟩, Cod.vl_iso (Cod.vl_pair V1.out (Cod.vl_pair (Cod.vl_iso (Cod.vl_pair Vc1.out (Cod.vl_pair Vc2.out Vc3.out))) (by rw [show cCal.st (cStr.st st) = cInt.st (cInt.st (cInt.st (cStr.st st))) from by simp only [cCal, Cod.st_iso, Cod.st_pair]]; exact Cod.vl_pair V4.out (Cod.vl_pair (Cod.vl_iso (Cod.vl_pair Vr1.out (Cod.vl_pair Vr2.out (Cod.vl_pair Vr3.out (Cod.vl_pair Vr4.out (Cod.vl_pair Vr5.out (Cod.vl_pair Vr6.out (Cod.vl_pair Vr7.out (Cod.vl_pair Vr8.out (Cod.vl_pair Vr9.out (Cod.vl_pair Vr10.out (Cod.vl_pair Vr11.out (Cod.vl_pair Vr12.out (Cod.vl_pair Vr13.out (Cod.vl_pair Vr14.out (Vr15.out)))))))))))))))) (by rw [show cRoles.st ((cList cAccount).st (cInt.st (cInt.st (cInt.st (cStr.st st))))) = st4 from by rw [← HST.out]; simp only [cRoles, Cod.st_iso, Cod.st_pair]]; exact HVL.out))))), ?_, Fr.trans G2.out.fr (hfr.mono (fun k hk => by show k ≠ w.heap.size; have := hk.1; omega))⟩
        have e : cGroup.st st = (cList cEntity).st st4 := by rw [← HST.out]; simp only [cGroup, cCal, cRoles, Cod.st_iso, Cod.st_pair]
        rw [e, HST2.out]
        exact G2.out.rq.fr (Q := fun k => k ≠ w.heap.size) hfr (fun k hk => by show k ≠ w.heap.size; omega)
      | some r =>
        have hbad := HB2.out r rfl
        subst hbad
        have hRd := HRR.out.drew
        go_wp2_with fail
        have hk8 := HL.out.len
        go_region_law (first | (go_simp; go_at_call 75; refine (Entity_rr g _ _ hRd).mono ?_; rintro e w3 ⟨es, x3, rfl, c3, z3, r3, f3⟩; obtain ⟨s1, s2, a1, m1, k1, a2, m2, k2, b1, rfl⟩ := EntityC.lit c3; have hF3 : Ro g wr w3 := Ro.trans (show Ro g wr wr.drew from ⟨rfl, rfl, rfl, Nat.le_refl _, fun _ _ => rfl⟩) f3; have LI3 := Lib.hid (HLI.out.keep (w2 := w3) (hF3.mono (fun k hk => ⟨hk.2, by have := hk.1; omega⟩)) (fun h hf => EntityC.fr h hf) (fun h hq => EntityC.mono h hq)); have HX3 := Lib.hid ((hF3.block X ⟨by omega, by omega⟩).trans HX0.out); have cX3 := blk_cell HX3.out 20; have hXlt : X < w3.heap.size := blk_lt HX3.out; have hXne : ¬ X = w3.heap.size := (by omega); have HF3 := Lib.hid hF3; have hs3 := hF3.size; have hs4 : wr.heap.size ≤ w3.heap.size := hF3.size; have R3 := Lib.hid r3; have Z3 := Lib.hid z3; have C3 := Lib.hid (EntityC.mono (Q' := fun k => wr.heap.size ≤ k ∧ k < w3.heap.size) c3 (fun k hk => hk)); clear hF3 r3 f3 z3 c3) | (refine step_app _ (by rfl) _ _ 58 (by rfl) Ur15s.heap.size 133 i0 _ 5 88 Try.underlying58 hi0 hz0 hz1 hz2 (by rfl) (by decide) (.slice vA vn vc) xs.length ess.flatten (by rfl) (by exact (LI3.out.own.alloc _)) (fun _ => True) (some ⟨w3.heap.size, 0, none⟩) 1 1 [.string s1, .string s2, .slice a1 m1 k1, .slice a2 m2 k2, .bool b1] (by rfl) (by exact (row1 w3 [.string s1, .string s2, .slice a1 m1 k1, .slice a2 m2 k2, .bool b1] 133 5 rfl)) (by simp [Value.oneCell']) (by simp only [maxLen]; omega) (by omega) (by simp; omega) ?_; intro v4 w4 hown4 hg4 hat4; obtain ⟨vA2, vn2, vc2, rfl⟩ := own_shape hown4; have hX4 : w4.heap[X]? = _ := (hg4.block X (by simp; omega) (fun e => by have := HVO.out X e.symm; omega)).trans ((Below.heap_alloc w3 _ X (by omega)).trans HX3.out); have cX4 := blk_cell hX4 20; have fX4 : w4.frozen? ⟨X, 20, none⟩ = false := blk_frozen hX4 20))
        all_goals
          have HO4 := Lib.hid hown4
          have HG4 := Lib.hid hg4
          have HA4 := Lib.hid hat4
          have HX4 := Lib.hid hX4
          clear hown4 hg4 hat4 hX4
          go_wp2_with fail
          go_roundw
          case rel =>
            have hUw3 : Ur15s.heap.size ≤ w3.heap.size := by omega
            have hfr := rfr (w := Ur15s) HG4.out HVO.out hUw3
            have hfs : Fr (fun k => k ≠ X) w4 (w4.setCell ⟨X, 20, none⟩ (.slice vA2 vn2 vc2)) := (Fr.refl _ w4).setCell (p := ⟨X, 20, none⟩) (fun h => h rfl) _
            have hal : Fr (fun k => k < w3.heap.size) w3 (w3.alloc (.cells #[.string s1, .string s2, .slice a1 m1 k1, .slice a2 m2 k2, .bool b1] 133)) := (Fr.refl _ w3).alloc (fun k hk => hk) _
            have hLIa := LI3.out.keep (w2 := w3.alloc (.cells #[.string s1, .string s2, .slice a1 m1 k1, .slice a2 m2 k2, .bool b1] 133)) (hal.mono (fun k hk => hk.2)) (fun h hf => EntityC.fr h hf) (fun h hq => EntityC.mono h hq)
            have hown3 : ∀ k, (Value.slice vA vn vc).ownBlock = some k → k < wr.heap.size := fun k e => (HLI.out.own.lt k e).2
            have hES : EntityC (w3.alloc (.cells #[.string s1, .string s2, .slice a1 m1 k1, .slice a2 m2 k2, .bool b1] 133)) (Qe Ur15s (w3.alloc (.cells #[.string s1, .string s2, .slice a1 m1 k1, .slice a2 m2 k2, .bool b1] 133)) (.slice vA vn vc)) [.string s1, .string s2, .slice a1 m1 k1, .slice a2 m2 k2, .bool b1] x3 := EntityC.mono (EntityC.fr C3.out (hal.mono (fun k hk => hk.2))) (fun k hk => ⟨by have := hk.1; omega, by have := hk.2; have := hal.size; omega, fun e => by have := hown3 k e; have := hk.1; omega⟩)
            have hLIb := hLIa.app (es := [.string s1, .string s2, .slice a1 m1 k1, .slice a2 m2 k2, .bool b1]) (x := x3) HO4.out rfl HG4.out HA4.out hES (fun h hf => EntityC.fr h hf) (fun h hq => EntityC.mono h hq)
            refine ⟨j - 1, k + 1, Cod.st cEntity (some r), _, _, .slice vA2 vn2 vc2, by go_num, by have := HJK.out; omega, HL.out.step (by have := HJK.out; omega) encEntity_pos (x := x3) Z3.out, ?_, hLIb.keep (hfs.mono (fun k hk => by show k ≠ X; have := hk.1; omega)) (fun h hf => EntityC.fr h hf) (fun h hq => EntityC.mono h hq), ?_, heap_setCell_same HX4.out 20 _⟩
            · exact R3.out.fr (Q := fun k => k < X) (Fr.trans (hfr.mono (fun k hk => Nat.lt_trans hk hXU)) (hfs.mono (fun k hk => Nat.ne_of_lt hk))) (fun k hk => by show k < X; omega)
            · exact Fr.trans HFF.out (Fr.trans (HF3.out.mono (fun k hk => ⟨by have := hk.1; omega, hk.2.1⟩)) (Fr.trans (hfr.mono (fun k hk => hk.1)) (hfs.mono (fun k hk => hk.2.2))))
          case measure =>
            have e : wrap64 ((j : Int) - 1) = ((j - 1 : Nat) : Int) := by unfold wrap64; omega
            simp only [intOf, e]
            omega
end Go.Proofs.Ytgdibeegheddmaa
