/- The stream reads lists of integers. Written by gen_l4.py. -/
import Derived.Test.YtgdibeegheddmaaYL3Lists
import Derived.Deep.DrawnRows
import Derived.Deep.RegionLaw
namespace Go.Proofs.Ytgdibeegheddmaa
open Go Go.RowKit
set_option linter.unusedVariables false
set_option linter.unusedSimpArgs false
attribute [local go_sem ↓] Go.wp_at_zero Go.wp_at_succ
theorem row1 (w : World) (es : List Value) (t : TypeId) (size : Nat) (h : es.length = size) : Rd (w.alloc (.cells es.toArray t)) (fun _ => True) (some ⟨w.heap.size, 0, none⟩) 1 size es := by
  refine ⟨by omega, fun _ => ⟨_, rfl, trivial, fun j x hx => ?_⟩⟩
  rw [Addr.add_lit, Nat.zero_add, blk_cell (heap_alloc_new w _) j, blk_frozen (heap_alloc_new w _) j]
  exact ⟨by simpa using hx, rfl⟩
theorem own_shape {w : World} {base : Nat} {e : TypeId} {size : Nat} {v : Value} {n : Nat} {xs : List Value} (h : w.ownsRow base e size v n xs) : ∃ A n c, v = .slice A n c := by
  rcases h.2 with ⟨h, _⟩ | ⟨_, _, _, h, _⟩
  · exact ⟨_, _, _, h⟩
  · exact ⟨_, _, _, h⟩
theorem three {α : Type} {l : List α} (h : l.length = 3) : ∃ a b c, l = [a, b, c] := by
  match l, h with
  | [a, b, c], _ => exact ⟨a, b, c, rfl⟩
theorem two {α : Type} {l : List α} (h : l.length = 2) : ∃ a b, l = [a, b] := by
  match l, h with
  | [a, b], _ => exact ⟨a, b, rfl⟩
theorem four {α : Type} {l : List α} (h : l.length = 4) : ∃ a b c d, l = [a, b, c, d] := by
  match l, h with
  | [a, b, c, d], _ => exact ⟨a, b, c, d, rfl⟩
theorem five {α : Type} {l : List α} (h : l.length = 5) : ∃ a b c d e, l = [a, b, c, d, e] := by
  match l, h with
  | [a, b, c, d, e], _ => exact ⟨a, b, c, d, e, rfl⟩
theorem one_ {α : Type} {l : List α} (h : l.length = 1) : ∃ a, l = [a] := by
  match l, h with
  | [a], _ => exact ⟨a, rfl⟩
theorem list_round {α : Type} {El : World → (Nat → Prop) → List Value → α → Prop} {size : Nat} {E : TypeId} {w w3 w4 : World} {g tb o : Nat} {n : Int} {oi : Option (List UInt8)} {xs : List α} {ess : List (List Value)} {es : List Value} {x : α} {v v2 : Value} {pre post : List Value} {t : TypeId} {ob : Obj}
    (hLI : LInv El size E w w3 v xs ess) (hES : El w3 (Qe w w3 v) es x) (hesl : es.length = size) (hRS : RS w3 g oi) (hF : Fr (Kp w g tb) w w3) (ho : pre.length = o) (hT : w3.heap[tb]? = some (.cells (pre ++ [v] ++ post).toArray t (0, 0)))
    (hN : w3.heap[w.heap.size]? = some (.cells #[.int .i64 n] 3 (0, 0))) (hvn : v.ownBlock ≠ some w.heap.size) (htl : tb < w.heap.size) (hgt : g < tb)
    (hown : w4.ownsRow w.heap.size E size v2 (xs.length + 1) (ess.flatten ++ es)) (hgd : (w3.alloc ob).drew.grownBy w4 v.ownBlock) (hat : v2.ownBlock = v.ownBlock ∨ v2.ownBlock = some (w3.alloc ob).heap.size)
    (hE : ∀ {Q : Nat → Prop} {a b : World} {es : List Value} {x : α}, El a Q es x → Fr Q a b → El b Q es x) (hM : ∀ {Q Q' : Nat → Prop} {a : World} {es : List Value} {x : α}, El a Q es x → (∀ k, Q k → Q' k) → El a Q' es x) :
    RS (w4.setCell ⟨tb, o, none⟩ v2) g oi ∧ LInv El size E w (w4.setCell ⟨tb, o, none⟩ v2) v2 (xs ++ [x]) (ess ++ [es]) ∧ (w4.setCell ⟨tb, o, none⟩ v2).heap[tb]? = some (.cells (pre ++ [v2] ++ post).toArray t (0, 0)) ∧
      (w4.setCell ⟨tb, o, none⟩ v2).heap[w.heap.size]? = some (.cells #[.int .i64 n] 3 (0, 0)) ∧ Fr (Kp w g tb) w (w4.setCell ⟨tb, o, none⟩ v2) ∧ v2.ownBlock ≠ some w.heap.size := by
  have hg : (w3.alloc ob).grownBy w4 v.ownBlock := ⟨hgd.os, hgd.tape, hgd.output, hgd.size, hgd.block⟩
  have hn3 : w.heap.size < w3.heap.size := blk_lt hN
  have hfa : Fr (· < w3.heap.size) w3 (w3.alloc ob) := (Fr.refl _ w3).alloc (fun _ h => h) _
  have hfg : Fr (fun k => k < w3.heap.size ∧ v.ownBlock ≠ some k) (w3.alloc ob) w4 := ⟨hg.os, hg.tape, hg.output, hg.size, fun k hk => hg.block k (by simp; have := hk.1; omega) (fun e => hk.2 e.symm)⟩
  have hfs : Fr (fun k => k ≠ tb) w4 (w4.setCell ⟨tb, o, none⟩ v2) := (Fr.refl _ w4).setCell (p := ⟨tb, o, none⟩) (fun h => h rfl) _
  have hlow : ∀ k, k < w.heap.size → v.ownBlock ≠ some k := fun k hk e => by have := (hLI.own.lt k e).1; omega
  have hf34 : Fr (fun k => k < w3.heap.size ∧ v.ownBlock ≠ some k) w3 w4 := (hfa.mono (fun k hk => hk.1)).trans hfg
  have hT4 := (hf34.block tb ⟨by omega, hlow tb htl⟩).trans hT
  have hLI1 := hLI.keep (hfa.mono (fun k hk => hk.2)) hE hM
  have hES1 : El (w3.alloc ob) (Qe w (w3.alloc ob) v) es x := hM (hE hES (hfa.mono (fun k hk => hk.2.1))) (fun k hk => ⟨hk.1, by simp; have := hk.2.1; omega, hk.2.2⟩)
  have hLI2 := hLI1.app hown hesl hg hat hES1 hE hM
  refine ⟨?_, hLI2.keep (hfs.mono (fun k hk => by have := hk.1; omega)) hE hM, ?_, ?_, ?_, ?_⟩
  · exact (hRS.fr (Q := fun k => k < w3.heap.size ∧ v.ownBlock ≠ some k) hf34 (fun k hk => ⟨by omega, hlow k (by omega)⟩)).fr (Q := fun k => k ≠ tb) hfs (fun k hk => by omega)
  · have h := blk_set (w := w4) (j := 0) hT4 ho (by simp) v2
    rw [Nat.add_zero] at h
    exact h
  · exact (hfs.block w.heap.size (by omega)).trans ((hf34.block w.heap.size ⟨hn3, hvn⟩).trans hN)
  · exact hF.trans ((hf34.mono (fun k hk => ⟨by have := hk.1; omega, hlow k hk.1⟩)).trans (hfs.mono (fun k hk => hk.2.2)))
  · rcases hat with e | e
    · rw [e]; exact hvn
    · rw [e]; intro h; injection h with h; simp at h; omega
theorem Kp.size {w w' : World} {g tb k : Nat} (hk : Kp w g tb k) (h : w.heap.size ≤ w'.heap.size) : Kp w' g tb k := ⟨Nat.lt_of_lt_of_le hk.1 h, hk.2⟩
set_option maxHeartbeats 2000000 in
set_option maxRecDepth 100000 in
theorem Line_r (g tb o : Nat) (pre post : List Value) (t : TypeId) (st : Option (List UInt8)) (w : World)
    (hs : RS w g st) (hgt : g < tb) (ho : pre.length = o) (hT : w.heap[tb]? = some (.cells (pre ++ [Value.int .i64 0, .int .i64 0, .int .i64 0] ++ post).toArray t (0, 0))) :
    Calls Try.prog 77 #[.pointer (some ⟨g, 0, none⟩), .pointer (some ⟨tb, o, none⟩)] w (RPost LineC cLine g tb pre post t st w) := by
  have HS := Lib.hid hs
  have HO := Lib.hid ho
  have HT := Lib.hid hT
  clear hs ho hT
  go_enter Try.func77, Try.ntmps77
  go_wp2_with fail
  go_region_law (go_simp; go_at_call 33; refine (num_rd g tb o pre post [0, 0, 0] t st (by rfl) (by rfl) (by rfl) HS.out hgt HO.out HT.out (by simp [intBd]) (by simp)).mono ?_; rintro e w1 ⟨rfl, ns', hl, hb, hv, hT1, hR1, hf1⟩)
  go_wp2_with fail
  go_end0
  obtain ⟨a0, a1, a2, rfl⟩ := three hl
  simp only [List.mem_cons, List.not_mem_nil, or_false, forall_eq_or_imp, forall_eq] at hb
  obtain ⟨b0, b1, b2⟩ := hb
  obtain ⟨v0, v1, v2, _⟩ := hv
  refine ⟨rfl, iv [a0, a1, a2], ⟨a0, a1, a2⟩, ⟨_, _, _, rfl, ⟨rfl, b0⟩, ⟨rfl, b1⟩, ⟨rfl, b2⟩⟩, Cod.vl_iso (Cod.vl_pair v0 (Cod.vl_pair v1 (v2))), hT1, ?_, hf1⟩
  rw [show cLine.st st = stI 3 st from by simp only [cLine, Cod.st_iso, Cod.st_pair]; rfl]
  exact hR1

set_option maxHeartbeats 2000000 in
set_option maxRecDepth 100000 in
theorem Ref_r (g tb o : Nat) (pre post : List Value) (t : TypeId) (st : Option (List UInt8)) (w : World)
    (hs : RS w g st) (hgt : g < tb) (ho : pre.length = o) (hT : w.heap[tb]? = some (.cells (pre ++ [Value.int .i64 0, .int .i64 0] ++ post).toArray t (0, 0))) :
    Calls Try.prog 79 #[.pointer (some ⟨g, 0, none⟩), .pointer (some ⟨tb, o, none⟩)] w (RPost RefC cRef g tb pre post t st w) := by
  have HS := Lib.hid hs
  have HO := Lib.hid ho
  have HT := Lib.hid hT
  clear hs ho hT
  go_enter Try.func79, Try.ntmps79
  go_wp2_with fail
  go_region_law (go_simp; go_at_call 33; refine (num_rd g tb o pre post [0, 0] t st (by rfl) (by rfl) (by rfl) HS.out hgt HO.out HT.out (by simp [intBd]) (by simp)).mono ?_; rintro e w1 ⟨rfl, ns', hl, hb, hv, hT1, hR1, hf1⟩)
  go_wp2_with fail
  go_end0
  obtain ⟨a0, a1, rfl⟩ := two hl
  simp only [List.mem_cons, List.not_mem_nil, or_false, forall_eq_or_imp, forall_eq] at hb
  obtain ⟨b0, b1⟩ := hb
  obtain ⟨v0, v1, _⟩ := hv
  refine ⟨rfl, iv [a0, a1], ⟨a0, a1⟩, ⟨_, _, rfl, ⟨rfl, b0⟩, ⟨rfl, b1⟩⟩, Cod.vl_iso (Cod.vl_pair v0 (v1)), hT1, ?_, hf1⟩
  rw [show cRef.st st = stI 2 st from by simp only [cRef, Cod.st_iso, Cod.st_pair]; rfl]
  exact hR1

set_option maxHeartbeats 2000000 in
set_option maxRecDepth 100000 in
theorem Account_r (g tb o : Nat) (pre post : List Value) (t : TypeId) (st : Option (List UInt8)) (w : World)
    (hs : RS w g st) (hgt : g < tb) (ho : pre.length = o) (hT : w.heap[tb]? = some (.cells (pre ++ [Value.int .i64 0, .int .i64 0, .int .i64 0, .int .i64 0] ++ post).toArray t (0, 0))) :
    Calls Try.prog 81 #[.pointer (some ⟨g, 0, none⟩), .pointer (some ⟨tb, o, none⟩)] w (RPost AccountC cAccount g tb pre post t st w) := by
  have HS := Lib.hid hs
  have HO := Lib.hid ho
  have HT := Lib.hid hT
  clear hs ho hT
  go_enter Try.func81, Try.ntmps81
  go_wp2_with fail
  go_region_law (go_simp; go_at_call 33; refine (num_rd g tb o pre post [0, 0, 0, 0] t st (by rfl) (by rfl) (by rfl) HS.out hgt HO.out HT.out (by simp [intBd]) (by simp)).mono ?_; rintro e w1 ⟨rfl, ns', hl, hb, hv, hT1, hR1, hf1⟩)
  go_wp2_with fail
  go_end0
  obtain ⟨a0, a1, a2, a3, rfl⟩ := four hl
  simp only [List.mem_cons, List.not_mem_nil, or_false, forall_eq_or_imp, forall_eq] at hb
  obtain ⟨b0, b1, b2, b3⟩ := hb
  obtain ⟨v0, v1, v2, v3, _⟩ := hv
  refine ⟨rfl, iv [a0, a1, a2, a3], ⟨a0, a1, a2, a3⟩, ⟨_, _, _, _, rfl, ⟨rfl, b0⟩, ⟨rfl, b1⟩, ⟨rfl, b2⟩, ⟨rfl, b3⟩⟩, Cod.vl_iso (Cod.vl_pair v0 (Cod.vl_pair v1 (Cod.vl_pair v2 (v3)))), hT1, ?_, hf1⟩
  rw [show cAccount.st st = stI 4 st from by simp only [cAccount, Cod.st_iso, Cod.st_pair]; rfl]
  exact hR1

set_option maxHeartbeats 2000000 in
set_option maxRecDepth 100000 in
theorem Link_r (g tb o : Nat) (pre post : List Value) (t : TypeId) (st : Option (List UInt8)) (w : World)
    (hs : RS w g st) (hgt : g < tb) (ho : pre.length = o) (hT : w.heap[tb]? = some (.cells (pre ++ [Value.int .i64 0, .int .i64 0, .int .i64 0] ++ post).toArray t (0, 0))) :
    Calls Try.prog 88 #[.pointer (some ⟨g, 0, none⟩), .pointer (some ⟨tb, o, none⟩)] w (RPost LinkC cLink g tb pre post t st w) := by
  have HS := Lib.hid hs
  have HO := Lib.hid ho
  have HT := Lib.hid hT
  clear hs ho hT
  go_enter Try.func88, Try.ntmps88
  go_wp2_with fail
  go_region_law (go_simp; go_at_call 33; refine (num_rd g tb o pre post [0, 0, 0] t st (by rfl) (by rfl) (by rfl) HS.out hgt HO.out HT.out (by simp [intBd]) (by simp)).mono ?_; rintro e w1 ⟨rfl, ns', hl, hb, hv, hT1, hR1, hf1⟩)
  go_wp2_with fail
  go_end0
  obtain ⟨a0, a1, a2, rfl⟩ := three hl
  simp only [List.mem_cons, List.not_mem_nil, or_false, forall_eq_or_imp, forall_eq] at hb
  obtain ⟨b0, b1, b2⟩ := hb
  obtain ⟨v0, v1, v2, _⟩ := hv
  refine ⟨rfl, iv [a0, a1, a2], ⟨a0, a1, a2⟩, ⟨_, _, _, rfl, ⟨rfl, b0⟩, ⟨rfl, b1⟩, ⟨rfl, b2⟩⟩, Cod.vl_iso (Cod.vl_pair v0 (Cod.vl_pair v1 (v2))), hT1, ?_, hf1⟩
  rw [show cLink.st st = stI 3 st from by simp only [cLink, Cod.st_iso, Cod.st_pair]; rfl]
  exact hR1

set_option maxHeartbeats 2000000 in
set_option maxRecDepth 100000 in
theorem Holding_r (g tb o : Nat) (pre post : List Value) (t : TypeId) (st : Option (List UInt8)) (w : World)
    (hs : RS w g st) (hgt : g < tb) (ho : pre.length = o) (hT : w.heap[tb]? = some (.cells (pre ++ [Value.int .i64 0, .int .i64 0, .int .i64 0, .int .i64 0] ++ post).toArray t (0, 0))) :
    Calls Try.prog 60 #[.pointer (some ⟨g, 0, none⟩), .pointer (some ⟨tb, o, none⟩)] w (RPost HoldingC cHolding g tb pre post t st w) := by
  have HS := Lib.hid hs
  have HO := Lib.hid ho
  have HT := Lib.hid hT
  clear hs ho hT
  go_enter Try.func60, Try.ntmps60
  go_wp2_with fail
  go_region_law (go_simp; go_at_call 33; refine (num_rd g tb o pre post [0, 0, 0, 0] t st (by rfl) (by rfl) (by rfl) HS.out hgt HO.out HT.out (by simp [intBd]) (by simp)).mono ?_; rintro e w1 ⟨rfl, ns', hl, hb, hv, hT1, hR1, hf1⟩)
  go_wp2_with fail
  go_end0
  obtain ⟨a0, a1, a2, a3, rfl⟩ := four hl
  simp only [List.mem_cons, List.not_mem_nil, or_false, forall_eq_or_imp, forall_eq] at hb
  obtain ⟨b0, b1, b2, b3⟩ := hb
  obtain ⟨v0, v1, v2, v3, _⟩ := hv
  refine ⟨rfl, iv [a0, a1, a2, a3], ⟨a0, a1, a2, a3⟩, ⟨_, _, _, _, rfl, ⟨rfl, b0⟩, ⟨rfl, b1⟩, ⟨rfl, b2⟩, ⟨rfl, b3⟩⟩, Cod.vl_iso (Cod.vl_pair v0 (Cod.vl_pair v1 (Cod.vl_pair v2 (v3)))), hT1, ?_, hf1⟩
  rw [show cHolding.st st = stI 4 st from by simp only [cHolding, Cod.st_iso, Cod.st_pair]; rfl]
  exact hR1

set_option maxHeartbeats 2000000 in
set_option maxRecDepth 100000 in
theorem Stock_r (g tb o : Nat) (pre post : List Value) (t : TypeId) (st : Option (List UInt8)) (w : World)
    (hs : RS w g st) (hgt : g < tb) (ho : pre.length = o) (hT : w.heap[tb]? = some (.cells (pre ++ [Value.int .i64 0, .int .i64 0, .int .i64 0, .int .i64 0, .int .i64 0] ++ post).toArray t (0, 0))) :
    Calls Try.prog 62 #[.pointer (some ⟨g, 0, none⟩), .pointer (some ⟨tb, o, none⟩)] w (RPost StockC cStock g tb pre post t st w) := by
  have HS := Lib.hid hs
  have HO := Lib.hid ho
  have HT := Lib.hid hT
  clear hs ho hT
  go_enter Try.func62, Try.ntmps62
  go_wp2_with fail
  go_region_law (go_simp; go_at_call 33; refine (num_rd g tb o pre post [0, 0, 0, 0, 0] t st (by rfl) (by rfl) (by rfl) HS.out hgt HO.out HT.out (by simp [intBd]) (by simp)).mono ?_; rintro e w1 ⟨rfl, ns', hl, hb, hv, hT1, hR1, hf1⟩)
  go_wp2_with fail
  go_end0
  obtain ⟨a0, a1, a2, a3, a4, rfl⟩ := five hl
  simp only [List.mem_cons, List.not_mem_nil, or_false, forall_eq_or_imp, forall_eq] at hb
  obtain ⟨b0, b1, b2, b3, b4⟩ := hb
  obtain ⟨v0, v1, v2, v3, v4, _⟩ := hv
  refine ⟨rfl, iv [a0, a1, a2, a3, a4], ⟨a0, a1, a2, a3, a4⟩, ⟨_, _, _, _, _, rfl, ⟨rfl, b0⟩, ⟨rfl, b1⟩, ⟨rfl, b2⟩, ⟨rfl, b3⟩, ⟨rfl, b4⟩⟩, Cod.vl_iso (Cod.vl_pair v0 (Cod.vl_pair v1 (Cod.vl_pair v2 (Cod.vl_pair v3 (v4))))), hT1, ?_, hf1⟩
  rw [show cStock.st st = stI 5 st from by simp only [cStock, Cod.st_iso, Cod.st_pair]; rfl]
  exact hR1

theorem info127z : (Try.prog.info? 127).map (fun i => (i.zero, i.size, i.bytes)) = some (some (.agg #[.int .i64 0, .int .i64 0, .int .i64 0]), 3, 24) := by kernel_rfl
set_option maxHeartbeats 4000000 in
set_option maxRecDepth 100000 in
theorem listLine_r (g tb o : Nat) (pre post : List Value) (t : TypeId) (st : Option (List UInt8)) (w : World)
    (hs : RS w g st) (hgt : g < tb) (ho : pre.length = o) (hT : w.heap[tb]? = some (.cells (pre ++ [Value.slice none 0 0] ++ post).toArray t (0, 0))) :
    Calls Try.prog 76 #[.pointer (some ⟨g, 0, none⟩), .pointer (some ⟨tb, o, none⟩), .func (.func 77) #[] #[]] w (RPost (ListC LineC 3) (cList cLine) g tb pre post t st w) := by
  have HPRE := Lib.hid ho
  have hTlt := blk_lt hT
  have hglt := hs.lt
  have HT0 := Lib.hid hT
  have htk0 := blk_get (j := 0) hT ho rfl
  rw [Nat.add_zero] at htk0
  clear ho hT
  go_enter Try.func76, Try.ntmps76
  go_wp2_with fail
  have hfA : Fr (· < w.heap.size) w (w.alloc (.cells #[.int .i64 0] 3)) := (Fr.refl _ w).alloc (fun _ h => h) _
  refine (num_rv g w.heap.size 0 [] [] [0] 3 st (by simp) (by rfl) (by rfl) (hs.alloc _) (by omega) rfl (heap_alloc_new w _) (by simp [intBd]) (by simp)).mono ?_
  rintro e V ⟨rfl, ns', hnl, hnb, hvl, hN, hRS, hfV⟩
  obtain ⟨n, rfl⟩ := List.length_eq_one_iff.1 hnl
  have hv1 : cInt.vl st n := hvl.1
  have hnbd : intBd n := hnb n (by simp)
  have hN1 : V.heap[w.heap.size]? = some (.cells #[.int .i64 n] 3 (0, 0)) := hN
  have hRS1 : RS V g (cInt.st st) := hRS
  have hTV : V.heap[tb]? = _ := (hfV.block tb ⟨by simp; omega, by omega, by omega⟩).trans ((hfA.block tb hTlt).trans HT0.out)
  have hfW : Fr (Kp w g tb) w V := (hfA.mono (fun k hk => hk.1)).trans (hfV.mono (fun k hk => ⟨by simp; have := hk.1; omega, hk.2.1, by have := hk.1; omega⟩))
  have hnz : V.cell? ⟨w.heap.size, 0, none⟩ = some (.int .i64 n) := blk_cell hN1 0
  have hsz : w.heap.size < V.heap.size := blk_lt hN1
  obtain ⟨A, c, L, bad, hG, hrd, hLc, hLL, hst⟩ := hRS1.open
  have b1 : V.cell? ⟨g, 1, none⟩ = some (.bool true) := blk_cell hG 1
  have b2 : V.cell? ⟨g, 2, none⟩ = some (.bool bad) := blk_cell hG 2
  have f2 : V.frozen? ⟨g, 2, none⟩ = false := blk_frozen hG 2
  have HG := Lib.hid hG
  have HRD := Lib.hid hrd
  have HTV := Lib.hid hTV
  have HFW := Lib.hid hfW
  have HV1 := Lib.hid hv1
  have HN := Lib.hid hN1
  have HHS := Lib.hid hst
  clear hN hRS hfV hvl hnb hnl hG hrd hTV hfW hv1 hN1 hfA hs HT0 hRS1 hst
  cases bad with
  | true =>
    have hdead : cInt.st st = none := by
      cases h : cInt.st st with
      | none => rfl
      | some l => exact absurd (HHS.out.2 l h).1 (by simp)
    have HLP := Lib.hid (LP.dead (c := cLine) (n := n) hdead)
    clear hdead
    go_wp2_with fail
    have hfS : Fr (fun i => i ≠ g) V (V.setCell ⟨g, 2, none⟩ (.bool true)) := (Fr.refl _ V).setCell (p := ⟨g, 2, none⟩) (fun h => h rfl) _
    have HRS := Lib.hid (RS.bad HG.out HRD.out hLc hLL)
    have HT1 := Lib.hid ((hfS.block tb (by omega)).trans HTV.out)
    have HN1 := Lib.hid ((hfS.block w.heap.size (by omega)).trans HN.out)
    have HF1 := Lib.hid (HFW.out.trans (hfS.mono (fun i hi => hi.2.1)))
    clear hfS
    go_loopw [8] (fun i wr => i = .int .i64 0 ∧ RS wr g none ∧ wr.heap[tb]? = some (.cells (pre ++ [Value.slice none 0 0] ++ post).toArray t (0, 0)) ∧ wr.heap[w.heap.size]? = some (.cells #[.int .i64 n] 3 (0, 0)) ∧ Fr (Kp w g tb) w wr) (fun _ _ => 0)
    case atStart => exact ⟨rfl, HRS.out, HT1.out, HN1.out, HF1.out⟩
    case round =>
      obtain ⟨rfl, hRR, hTT, hNN, hFF⟩ := hrel
      obtain ⟨A, c, L, bad, hG, hrd, hLc, hLL, hst⟩ := hRR.open
      have hbad : bad = true := hst.1 rfl
      subst hbad
      have c1 := blk_cell hNN 0
      have c2 := blk_cell hG 2
      have HRR := Lib.hid hRR
      have HTT := Lib.hid hTT
      have HFF := Lib.hid hFF
      clear hst hrd hG hNN hRR hTT hFF
      by_cases h0 : (0 : Int) < n
      all_goals
        go_wp2_with fail
        refine bodyPost_ret (results_none rfl _ _ _) rfl ⟨rfl, [.slice none 0 0], [], listC0 _ _ _ _, (HLP.out.out (.inl rfl)).2, HTT.out, ?_, HFF.out⟩
        rw [(HLP.out.out (.inl rfl)).1]
        exact HRR.out

  | false =>
    cases hsti : cInt.st st with
    | none => exact absurd (HHS.out.1 hsti) (by simp)
    | some l =>
      obtain ⟨_, hl⟩ := HHS.out.2 l hsti
      subst hl
      have HSTI := Lib.hid hsti
      clear hsti
      by_cases hn : n < 0
      · have HLP := Lib.hid (LP.neg (c := cLine) HSTI.out HV1.out hn)
        have hnD : decide (n < 0) = true := decide_eq_true hn
        go_wp2_with fail
        have hfS : Fr (fun i => i ≠ g) V (V.setCell ⟨g, 2, none⟩ (.bool true)) := (Fr.refl _ V).setCell (p := ⟨g, 2, none⟩) (fun h => h rfl) _
        have HRS := Lib.hid (RS.bad HG.out HRD.out hLc hLL)
        have HT1 := Lib.hid ((hfS.block tb (by omega)).trans HTV.out)
        have HN1 := Lib.hid ((hfS.block w.heap.size (by omega)).trans HN.out)
        have HF1 := Lib.hid (HFW.out.trans (hfS.mono (fun i hi => hi.2.1)))
        clear hfS
        go_loopw [8] (fun i wr => i = .int .i64 0 ∧ RS wr g none ∧ wr.heap[tb]? = some (.cells (pre ++ [Value.slice none 0 0] ++ post).toArray t (0, 0)) ∧ wr.heap[w.heap.size]? = some (.cells #[.int .i64 n] 3 (0, 0)) ∧ Fr (Kp w g tb) w wr) (fun _ _ => 0)
        case atStart => exact ⟨rfl, HRS.out, HT1.out, HN1.out, HF1.out⟩
        case round =>
          obtain ⟨rfl, hRR, hTT, hNN, hFF⟩ := hrel
          obtain ⟨A, c, L, bad, hG, hrd, hLc, hLL, hst⟩ := hRR.open
          have hbad : bad = true := hst.1 rfl
          subst hbad
          have c1 := blk_cell hNN 0
          have c2 := blk_cell hG 2
          have HRR := Lib.hid hRR
          have HTT := Lib.hid hTT
          have HFF := Lib.hid hFF
          clear hst hrd hG hNN hRR hTT hFF
          have h0 : ¬ (0 : Int) < n := by omega
          all_goals
            go_wp2_with fail
            refine bodyPost_ret (results_none rfl _ _ _) rfl ⟨rfl, [.slice none 0 0], [], listC0 _ _ _ _, (HLP.out.out (.inl rfl)).2, HTT.out, ?_, HFF.out⟩
            rw [(HLP.out.out (.inl rfl)).1]
            exact HRR.out

      · have HLP := Lib.hid (LP.start (c := cLine) HSTI.out HV1.out (by omega) hLL)
        have hnD : decide (n < 0) = false := decide_eq_false hn
        go_wp2_with fail
        have hfS : Fr (fun i => i ≠ g) V (V.setCell ⟨g, 2, none⟩ (.bool false)) := (Fr.refl _ V).setCell (p := ⟨g, 2, none⟩) (fun h => h rfl) _
        have HRS : Hid (RS (V.setCell ⟨g, 2, none⟩ (.bool false)) g (some l)) := Lib.hid ⟨A, c, l, false, heap_setCell_same HG.out 2 _, HRD.out.fr (hfS.mono (fun i hi => Nat.ne_of_lt hi)), hLc, hLL, rfl, rfl⟩
        have HT1 := Lib.hid ((hfS.block tb (by omega)).trans HTV.out)
        have HN1 := Lib.hid ((hfS.block w.heap.size (by omega)).trans HN.out)
        have HF1 := Lib.hid (HFW.out.trans (hfS.mono (fun i hi => hi.2.1)))
        have hszW : w.heap.size < (V.setCell ⟨g, 2, none⟩ (.bool false)).heap.size := blk_lt HN1.out
        clear hfS
        obtain ⟨i0, hi0, hz0, hz1, hz2⟩ := info_parts info127z
        go_loopw [8] (fun i wr => ∃ (k : Nat) (oi : Option (List UInt8)) (xs : List XLine) (ess : List (List Value)) (v : Value), i = .int .i64 (k : Int) ∧ LP cLine st n k oi xs ∧ RS wr g oi ∧ LInv LineC 3 127 w wr v xs ess ∧ wr.heap[tb]? = some (.cells (pre ++ [v] ++ post).toArray t (0, 0)) ∧ wr.heap[w.heap.size]? = some (.cells #[.int .i64 n] 3 (0, 0)) ∧ Fr (Kp w g tb) w wr ∧ v.ownBlock ≠ some w.heap.size) (fun i _ => n.toNat - (intOf i).toNat)
        case atStart => exact ⟨0, some l, [], [], _, rfl, HLP.out, HRS.out, LInv.nil _ _, HT1.out, HN1.out, HF1.out, by simp [Value.ownBlock]⟩
        case round =>
          obtain ⟨k, oi, xs, ess, v, rfl, hLP, hRR, hLI, hTT, hNN, hFF, hvn⟩ := hrel
          obtain ⟨A, c, L, bad, hG, hrd, hLc, hLL, hst⟩ := hRR.open
          have c1 := blk_cell hNN 0
          have c2 := blk_cell hG 2
          have HRR := Lib.hid hRR
          have HTT := Lib.hid hTT
          have HFF := Lib.hid hFF
          have HLI := Lib.hid hLI
          have HL := Lib.hid hLP
          have HNN := Lib.hid hNN
          have HST := Lib.hid hst
          have hwr : w.heap.size < wr.heap.size := blk_lt hNN
          have hk63 := hLP.len.2
          clear hst hrd hG hNN hRR hTT hFF hLI hLP
          by_cases hlt : (k : Int) < n
          · cases oi with
            | none =>
              have hbad : bad = true := HST.out.1 rfl
              subst hbad
              go_wp2_with fail
              refine bodyPost_ret (results_none rfl _ _ _) rfl ⟨rfl, [v], xs, HLI.out.out (fun h hq => LineC.mono h hq), (HL.out.out (.inl rfl)).2, HTT.out, ?_, HFF.out⟩
              rw [(HL.out.out (.inl rfl)).1]
              exact HRR.out
            | some r =>
              have hbad : bad = false := (HST.out.2 r rfl).1
              subst hbad
              go_wp2_with fail
              have hfe : Fr (· < wr.heap.size) wr (wr.alloc (.cells #[.int .i64 0, .int .i64 0, .int .i64 0] 127)) := (Fr.refl _ wr).alloc (fun _ h => h) _
              refine (Line_r g wr.heap.size 0 [] [] 127 (some r) (wr.alloc (.cells #[.int .i64 0, .int .i64 0, .int .i64 0] 127)) (HRR.out.alloc _) (by omega) rfl (heap_alloc_new wr _)).mono ?_
              rintro e w3 ⟨rfl, es, x, hes, hvl, hEB, hRS3, hfr3⟩
              have HES := Lib.hid hes
              have hesl := hes.len
              have hT3 := (hfr3.block tb ⟨by simp; omega, by omega, by omega⟩).trans ((hfe.block tb (by omega)).trans HTT.out)
              have hN3 := (hfr3.block w.heap.size ⟨by simp; omega, by omega, by omega⟩).trans ((hfe.block w.heap.size hwr).trans HNN.out)
              have hf3 : Fr (fun k => w.heap.size ≤ k ∧ k < wr.heap.size) wr w3 := (hfe.mono (fun k hk => hk.2)).trans (hfr3.mono (fun k hk => ⟨by simp; omega, by omega, by omega⟩))
              have hF3 : Fr (Kp w g tb) w w3 := HFF.out.trans ((hfe.mono (fun k hk => Nat.lt_trans hk.1 hwr)).trans (hfr3.mono (fun k hk => ⟨by simp; have := hk.1; omega, hk.2.1, by have := hk.1; omega⟩)))
              have hLI3 := HLI.out.keep hf3 (fun h hf => LineC.fr h hf) (fun h hq => LineC.mono h hq)
              have hsz3 : wr.heap.size < w3.heap.size := by have := hfr3.size; simp at this; omega
              have hES3 : LineC w3 (Qe w w3 v) es x := LineC.mono hes (fun k hk => ⟨by have := hk.1; simp at this; omega, hk.2, fun e => by have := (HLI.out.own.lt k e).2; have h2 := hk.1; simp at h2; omega⟩)
              have HLI3 := Lib.hid hLI3
              have HES3 := Lib.hid hES3
              have HRS3 := Lib.hid hRS3
              have HF3 := Lib.hid hF3
              have HT3 := Lib.hid hT3
              have HN3 := Lib.hid hN3
              have HVL := Lib.hid hvl
              have hone : ∀ u ∈ es, u.oneCell' = true := by
                obtain ⟨_, _, _, rfl, ⟨rfl, _⟩, ⟨rfl, _⟩, ⟨rfl, _⟩⟩ := hes
                simp [Value.oneCell']
              have HONE := Lib.hid hone
              have htk3 := blk_get (j := 0) hT3 HPRE.out rfl
              rw [Nat.add_zero] at htk3
              have hEB2 : w3.heap[wr.heap.size]? = some (.cells es.toArray 127 (0, 0)) := by simpa using hEB
              have HESL := Lib.hid hesl
              have htb3 : tb < w3.heap.size := by omega
              have htbne : ¬ tb = w3.heap.size := by omega
              obtain ⟨vA, vn, vc, rfl⟩ := own_shape HLI.out.own
              have HVN := Lib.hid hvn
              clear hvl hEB hRS3 hfr3 hT3 hN3 hf3 hF3 hLI3 hES3 hone hesl hfe hvn
              obtain ⟨_, _, _, rfl, ⟨rfl, _⟩, ⟨rfl, _⟩, ⟨rfl, _⟩⟩ := hes
              have e0 := blk_cell hEB2 0
              have e1 := blk_cell hEB2 1
              have e2 := blk_cell hEB2 2
              clear hEB2
              go_wp2_with fail
              go_region_law (first | ((refine step_app _ (by rfl) _ _ 32 (by rfl) w.heap.size 127 i0 _ 3 24 Try.underlying32 hi0 hz0 hz1 hz2 (by rfl) (by decide) (.slice vA vn vc) xs.length ess.flatten (by rfl) (by exact (HLI3.out.own.alloc _)) (fun _ => True) (some ⟨w3.heap.size, 0, none⟩) 1 1 _ (by rfl) (by exact (row1 w3 _ 127 3 HESL.out)) HONE.out (by have := HL.out.len.1; simp only [maxLen]; omega) (by have := HL.out.len.1; omega) (by simp; omega) ?_; intro v2 w4 hown4 hg4 hat4; obtain ⟨vA2, vn2, vc2, rfl⟩ := own_shape hown4; have htb4 : w4.heap[tb]? = _ := (hg4.block tb (by simp; omega) (fun e => by have := (HLI3.out.own.lt tb e.symm).1; omega)).trans ((Below.heap_alloc w3 _ tb (by omega)).trans HT3.out); have hct4 := blk_get (j := 0) htb4 HPRE.out rfl; rw [Nat.add_zero] at hct4; have hft4 : w4.frozen? ⟨tb, o, none⟩ = false := blk_frozen htb4 o)))
              all_goals
                have HO4 := Lib.hid hown4
                have HG4 := Lib.hid hg4
                have HA4 := Lib.hid hat4
                clear hown4 hg4 hat4 htb4
                go_wp2_with fail
                go_roundw
                case rel =>
                  obtain ⟨r1, r2, r3, r4, r5, r6⟩ := list_round HLI3.out HES3.out HESL.out HRS3.out HF3.out HPRE.out HT3.out HN3.out HVN.out hTlt hgt HO4.out HG4.out HA4.out (fun h hf => LineC.fr h hf) (fun h hq => LineC.mono h hq)
                  exact ⟨k + 1, _, _, _, _, by go_num, HL.out.step hlt encLine_pos HVL.out, r1, r2, r3, r4, r5, r6⟩
                case measure => simp [intOf]; omega
          · go_wp2_with fail
            refine bodyPost_ret (results_none rfl _ _ _) rfl ⟨rfl, [v], xs, HLI.out.out (fun h hq => LineC.mono h hq), (HL.out.out (.inr (by omega))).2, HTT.out, ?_, HFF.out⟩
            rw [(HL.out.out (.inr (by omega))).1]
            exact HRR.out

theorem info160z : (Try.prog.info? 160).map (fun i => (i.zero, i.size, i.bytes)) = some (some (.agg #[.int .i64 0, .int .i64 0]), 2, 16) := by kernel_rfl
set_option maxHeartbeats 4000000 in
set_option maxRecDepth 100000 in
theorem listRef_r (g tb o : Nat) (pre post : List Value) (t : TypeId) (st : Option (List UInt8)) (w : World)
    (hs : RS w g st) (hgt : g < tb) (ho : pre.length = o) (hT : w.heap[tb]? = some (.cells (pre ++ [Value.slice none 0 0] ++ post).toArray t (0, 0))) :
    Calls Try.prog 78 #[.pointer (some ⟨g, 0, none⟩), .pointer (some ⟨tb, o, none⟩), .func (.func 79) #[] #[]] w (RPost (ListC RefC 2) (cList cRef) g tb pre post t st w) := by
  have HPRE := Lib.hid ho
  have hTlt := blk_lt hT
  have hglt := hs.lt
  have HT0 := Lib.hid hT
  have htk0 := blk_get (j := 0) hT ho rfl
  rw [Nat.add_zero] at htk0
  clear ho hT
  go_enter Try.func78, Try.ntmps78
  go_wp2_with fail
  have hfA : Fr (· < w.heap.size) w (w.alloc (.cells #[.int .i64 0] 3)) := (Fr.refl _ w).alloc (fun _ h => h) _
  refine (num_rv g w.heap.size 0 [] [] [0] 3 st (by simp) (by rfl) (by rfl) (hs.alloc _) (by omega) rfl (heap_alloc_new w _) (by simp [intBd]) (by simp)).mono ?_
  rintro e V ⟨rfl, ns', hnl, hnb, hvl, hN, hRS, hfV⟩
  obtain ⟨n, rfl⟩ := List.length_eq_one_iff.1 hnl
  have hv1 : cInt.vl st n := hvl.1
  have hnbd : intBd n := hnb n (by simp)
  have hN1 : V.heap[w.heap.size]? = some (.cells #[.int .i64 n] 3 (0, 0)) := hN
  have hRS1 : RS V g (cInt.st st) := hRS
  have hTV : V.heap[tb]? = _ := (hfV.block tb ⟨by simp; omega, by omega, by omega⟩).trans ((hfA.block tb hTlt).trans HT0.out)
  have hfW : Fr (Kp w g tb) w V := (hfA.mono (fun k hk => hk.1)).trans (hfV.mono (fun k hk => ⟨by simp; have := hk.1; omega, hk.2.1, by have := hk.1; omega⟩))
  have hnz : V.cell? ⟨w.heap.size, 0, none⟩ = some (.int .i64 n) := blk_cell hN1 0
  have hsz : w.heap.size < V.heap.size := blk_lt hN1
  obtain ⟨A, c, L, bad, hG, hrd, hLc, hLL, hst⟩ := hRS1.open
  have b1 : V.cell? ⟨g, 1, none⟩ = some (.bool true) := blk_cell hG 1
  have b2 : V.cell? ⟨g, 2, none⟩ = some (.bool bad) := blk_cell hG 2
  have f2 : V.frozen? ⟨g, 2, none⟩ = false := blk_frozen hG 2
  have HG := Lib.hid hG
  have HRD := Lib.hid hrd
  have HTV := Lib.hid hTV
  have HFW := Lib.hid hfW
  have HV1 := Lib.hid hv1
  have HN := Lib.hid hN1
  have HHS := Lib.hid hst
  clear hN hRS hfV hvl hnb hnl hG hrd hTV hfW hv1 hN1 hfA hs HT0 hRS1 hst
  cases bad with
  | true =>
    have hdead : cInt.st st = none := by
      cases h : cInt.st st with
      | none => rfl
      | some l => exact absurd (HHS.out.2 l h).1 (by simp)
    have HLP := Lib.hid (LP.dead (c := cRef) (n := n) hdead)
    clear hdead
    go_wp2_with fail
    have hfS : Fr (fun i => i ≠ g) V (V.setCell ⟨g, 2, none⟩ (.bool true)) := (Fr.refl _ V).setCell (p := ⟨g, 2, none⟩) (fun h => h rfl) _
    have HRS := Lib.hid (RS.bad HG.out HRD.out hLc hLL)
    have HT1 := Lib.hid ((hfS.block tb (by omega)).trans HTV.out)
    have HN1 := Lib.hid ((hfS.block w.heap.size (by omega)).trans HN.out)
    have HF1 := Lib.hid (HFW.out.trans (hfS.mono (fun i hi => hi.2.1)))
    clear hfS
    go_loopw [8] (fun i wr => i = .int .i64 0 ∧ RS wr g none ∧ wr.heap[tb]? = some (.cells (pre ++ [Value.slice none 0 0] ++ post).toArray t (0, 0)) ∧ wr.heap[w.heap.size]? = some (.cells #[.int .i64 n] 3 (0, 0)) ∧ Fr (Kp w g tb) w wr) (fun _ _ => 0)
    case atStart => exact ⟨rfl, HRS.out, HT1.out, HN1.out, HF1.out⟩
    case round =>
      obtain ⟨rfl, hRR, hTT, hNN, hFF⟩ := hrel
      obtain ⟨A, c, L, bad, hG, hrd, hLc, hLL, hst⟩ := hRR.open
      have hbad : bad = true := hst.1 rfl
      subst hbad
      have c1 := blk_cell hNN 0
      have c2 := blk_cell hG 2
      have HRR := Lib.hid hRR
      have HTT := Lib.hid hTT
      have HFF := Lib.hid hFF
      clear hst hrd hG hNN hRR hTT hFF
      by_cases h0 : (0 : Int) < n
      all_goals
        go_wp2_with fail
        refine bodyPost_ret (results_none rfl _ _ _) rfl ⟨rfl, [.slice none 0 0], [], listC0 _ _ _ _, (HLP.out.out (.inl rfl)).2, HTT.out, ?_, HFF.out⟩
        rw [(HLP.out.out (.inl rfl)).1]
        exact HRR.out

  | false =>
    cases hsti : cInt.st st with
    | none => exact absurd (HHS.out.1 hsti) (by simp)
    | some l =>
      obtain ⟨_, hl⟩ := HHS.out.2 l hsti
      subst hl
      have HSTI := Lib.hid hsti
      clear hsti
      by_cases hn : n < 0
      · have HLP := Lib.hid (LP.neg (c := cRef) HSTI.out HV1.out hn)
        have hnD : decide (n < 0) = true := decide_eq_true hn
        go_wp2_with fail
        have hfS : Fr (fun i => i ≠ g) V (V.setCell ⟨g, 2, none⟩ (.bool true)) := (Fr.refl _ V).setCell (p := ⟨g, 2, none⟩) (fun h => h rfl) _
        have HRS := Lib.hid (RS.bad HG.out HRD.out hLc hLL)
        have HT1 := Lib.hid ((hfS.block tb (by omega)).trans HTV.out)
        have HN1 := Lib.hid ((hfS.block w.heap.size (by omega)).trans HN.out)
        have HF1 := Lib.hid (HFW.out.trans (hfS.mono (fun i hi => hi.2.1)))
        clear hfS
        go_loopw [8] (fun i wr => i = .int .i64 0 ∧ RS wr g none ∧ wr.heap[tb]? = some (.cells (pre ++ [Value.slice none 0 0] ++ post).toArray t (0, 0)) ∧ wr.heap[w.heap.size]? = some (.cells #[.int .i64 n] 3 (0, 0)) ∧ Fr (Kp w g tb) w wr) (fun _ _ => 0)
        case atStart => exact ⟨rfl, HRS.out, HT1.out, HN1.out, HF1.out⟩
        case round =>
          obtain ⟨rfl, hRR, hTT, hNN, hFF⟩ := hrel
          obtain ⟨A, c, L, bad, hG, hrd, hLc, hLL, hst⟩ := hRR.open
          have hbad : bad = true := hst.1 rfl
          subst hbad
          have c1 := blk_cell hNN 0
          have c2 := blk_cell hG 2
          have HRR := Lib.hid hRR
          have HTT := Lib.hid hTT
          have HFF := Lib.hid hFF
          clear hst hrd hG hNN hRR hTT hFF
          have h0 : ¬ (0 : Int) < n := by omega
          all_goals
            go_wp2_with fail
            refine bodyPost_ret (results_none rfl _ _ _) rfl ⟨rfl, [.slice none 0 0], [], listC0 _ _ _ _, (HLP.out.out (.inl rfl)).2, HTT.out, ?_, HFF.out⟩
            rw [(HLP.out.out (.inl rfl)).1]
            exact HRR.out

      · have HLP := Lib.hid (LP.start (c := cRef) HSTI.out HV1.out (by omega) hLL)
        have hnD : decide (n < 0) = false := decide_eq_false hn
        go_wp2_with fail
        have hfS : Fr (fun i => i ≠ g) V (V.setCell ⟨g, 2, none⟩ (.bool false)) := (Fr.refl _ V).setCell (p := ⟨g, 2, none⟩) (fun h => h rfl) _
        have HRS : Hid (RS (V.setCell ⟨g, 2, none⟩ (.bool false)) g (some l)) := Lib.hid ⟨A, c, l, false, heap_setCell_same HG.out 2 _, HRD.out.fr (hfS.mono (fun i hi => Nat.ne_of_lt hi)), hLc, hLL, rfl, rfl⟩
        have HT1 := Lib.hid ((hfS.block tb (by omega)).trans HTV.out)
        have HN1 := Lib.hid ((hfS.block w.heap.size (by omega)).trans HN.out)
        have HF1 := Lib.hid (HFW.out.trans (hfS.mono (fun i hi => hi.2.1)))
        have hszW : w.heap.size < (V.setCell ⟨g, 2, none⟩ (.bool false)).heap.size := blk_lt HN1.out
        clear hfS
        obtain ⟨i0, hi0, hz0, hz1, hz2⟩ := info_parts info160z
        go_loopw [8] (fun i wr => ∃ (k : Nat) (oi : Option (List UInt8)) (xs : List XRef) (ess : List (List Value)) (v : Value), i = .int .i64 (k : Int) ∧ LP cRef st n k oi xs ∧ RS wr g oi ∧ LInv RefC 2 160 w wr v xs ess ∧ wr.heap[tb]? = some (.cells (pre ++ [v] ++ post).toArray t (0, 0)) ∧ wr.heap[w.heap.size]? = some (.cells #[.int .i64 n] 3 (0, 0)) ∧ Fr (Kp w g tb) w wr ∧ v.ownBlock ≠ some w.heap.size) (fun i _ => n.toNat - (intOf i).toNat)
        case atStart => exact ⟨0, some l, [], [], _, rfl, HLP.out, HRS.out, LInv.nil _ _, HT1.out, HN1.out, HF1.out, by simp [Value.ownBlock]⟩
        case round =>
          obtain ⟨k, oi, xs, ess, v, rfl, hLP, hRR, hLI, hTT, hNN, hFF, hvn⟩ := hrel
          obtain ⟨A, c, L, bad, hG, hrd, hLc, hLL, hst⟩ := hRR.open
          have c1 := blk_cell hNN 0
          have c2 := blk_cell hG 2
          have HRR := Lib.hid hRR
          have HTT := Lib.hid hTT
          have HFF := Lib.hid hFF
          have HLI := Lib.hid hLI
          have HL := Lib.hid hLP
          have HNN := Lib.hid hNN
          have HST := Lib.hid hst
          have hwr : w.heap.size < wr.heap.size := blk_lt hNN
          have hk63 := hLP.len.2
          clear hst hrd hG hNN hRR hTT hFF hLI hLP
          by_cases hlt : (k : Int) < n
          · cases oi with
            | none =>
              have hbad : bad = true := HST.out.1 rfl
              subst hbad
              go_wp2_with fail
              refine bodyPost_ret (results_none rfl _ _ _) rfl ⟨rfl, [v], xs, HLI.out.out (fun h hq => RefC.mono h hq), (HL.out.out (.inl rfl)).2, HTT.out, ?_, HFF.out⟩
              rw [(HL.out.out (.inl rfl)).1]
              exact HRR.out
            | some r =>
              have hbad : bad = false := (HST.out.2 r rfl).1
              subst hbad
              go_wp2_with fail
              have hfe : Fr (· < wr.heap.size) wr (wr.alloc (.cells #[.int .i64 0, .int .i64 0] 160)) := (Fr.refl _ wr).alloc (fun _ h => h) _
              refine (Ref_r g wr.heap.size 0 [] [] 160 (some r) (wr.alloc (.cells #[.int .i64 0, .int .i64 0] 160)) (HRR.out.alloc _) (by omega) rfl (heap_alloc_new wr _)).mono ?_
              rintro e w3 ⟨rfl, es, x, hes, hvl, hEB, hRS3, hfr3⟩
              have HES := Lib.hid hes
              have hesl := hes.len
              have hT3 := (hfr3.block tb ⟨by simp; omega, by omega, by omega⟩).trans ((hfe.block tb (by omega)).trans HTT.out)
              have hN3 := (hfr3.block w.heap.size ⟨by simp; omega, by omega, by omega⟩).trans ((hfe.block w.heap.size hwr).trans HNN.out)
              have hf3 : Fr (fun k => w.heap.size ≤ k ∧ k < wr.heap.size) wr w3 := (hfe.mono (fun k hk => hk.2)).trans (hfr3.mono (fun k hk => ⟨by simp; omega, by omega, by omega⟩))
              have hF3 : Fr (Kp w g tb) w w3 := HFF.out.trans ((hfe.mono (fun k hk => Nat.lt_trans hk.1 hwr)).trans (hfr3.mono (fun k hk => ⟨by simp; have := hk.1; omega, hk.2.1, by have := hk.1; omega⟩)))
              have hLI3 := HLI.out.keep hf3 (fun h hf => RefC.fr h hf) (fun h hq => RefC.mono h hq)
              have hsz3 : wr.heap.size < w3.heap.size := by have := hfr3.size; simp at this; omega
              have hES3 : RefC w3 (Qe w w3 v) es x := RefC.mono hes (fun k hk => ⟨by have := hk.1; simp at this; omega, hk.2, fun e => by have := (HLI.out.own.lt k e).2; have h2 := hk.1; simp at h2; omega⟩)
              have HLI3 := Lib.hid hLI3
              have HES3 := Lib.hid hES3
              have HRS3 := Lib.hid hRS3
              have HF3 := Lib.hid hF3
              have HT3 := Lib.hid hT3
              have HN3 := Lib.hid hN3
              have HVL := Lib.hid hvl
              have hone : ∀ u ∈ es, u.oneCell' = true := by
                obtain ⟨_, _, rfl, ⟨rfl, _⟩, ⟨rfl, _⟩⟩ := hes
                simp [Value.oneCell']
              have HONE := Lib.hid hone
              have htk3 := blk_get (j := 0) hT3 HPRE.out rfl
              rw [Nat.add_zero] at htk3
              have hEB2 : w3.heap[wr.heap.size]? = some (.cells es.toArray 160 (0, 0)) := by simpa using hEB
              have HESL := Lib.hid hesl
              have htb3 : tb < w3.heap.size := by omega
              have htbne : ¬ tb = w3.heap.size := by omega
              obtain ⟨vA, vn, vc, rfl⟩ := own_shape HLI.out.own
              have HVN := Lib.hid hvn
              clear hvl hEB hRS3 hfr3 hT3 hN3 hf3 hF3 hLI3 hES3 hone hesl hfe hvn
              obtain ⟨_, _, rfl, ⟨rfl, _⟩, ⟨rfl, _⟩⟩ := hes
              have e0 := blk_cell hEB2 0
              have e1 := blk_cell hEB2 1
              clear hEB2
              go_wp2_with fail
              go_region_law (first | ((refine step_app _ (by rfl) _ _ 39 (by rfl) w.heap.size 160 i0 _ 2 16 Try.underlying39 hi0 hz0 hz1 hz2 (by rfl) (by decide) (.slice vA vn vc) xs.length ess.flatten (by rfl) (by exact (HLI3.out.own.alloc _)) (fun _ => True) (some ⟨w3.heap.size, 0, none⟩) 1 1 _ (by rfl) (by exact (row1 w3 _ 160 2 HESL.out)) HONE.out (by have := HL.out.len.1; simp only [maxLen]; omega) (by have := HL.out.len.1; omega) (by simp; omega) ?_; intro v2 w4 hown4 hg4 hat4; obtain ⟨vA2, vn2, vc2, rfl⟩ := own_shape hown4; have htb4 : w4.heap[tb]? = _ := (hg4.block tb (by simp; omega) (fun e => by have := (HLI3.out.own.lt tb e.symm).1; omega)).trans ((Below.heap_alloc w3 _ tb (by omega)).trans HT3.out); have hct4 := blk_get (j := 0) htb4 HPRE.out rfl; rw [Nat.add_zero] at hct4; have hft4 : w4.frozen? ⟨tb, o, none⟩ = false := blk_frozen htb4 o)))
              all_goals
                have HO4 := Lib.hid hown4
                have HG4 := Lib.hid hg4
                have HA4 := Lib.hid hat4
                clear hown4 hg4 hat4 htb4
                go_wp2_with fail
                go_roundw
                case rel =>
                  obtain ⟨r1, r2, r3, r4, r5, r6⟩ := list_round HLI3.out HES3.out HESL.out HRS3.out HF3.out HPRE.out HT3.out HN3.out HVN.out hTlt hgt HO4.out HG4.out HA4.out (fun h hf => RefC.fr h hf) (fun h hq => RefC.mono h hq)
                  exact ⟨k + 1, _, _, _, _, by go_num, HL.out.step hlt encRef_pos HVL.out, r1, r2, r3, r4, r5, r6⟩
                case measure => simp [intOf]; omega
          · go_wp2_with fail
            refine bodyPost_ret (results_none rfl _ _ _) rfl ⟨rfl, [v], xs, HLI.out.out (fun h hq => RefC.mono h hq), (HL.out.out (.inr (by omega))).2, HTT.out, ?_, HFF.out⟩
            rw [(HL.out.out (.inr (by omega))).1]
            exact HRR.out

end Go.Proofs.Ytgdibeegheddmaa
