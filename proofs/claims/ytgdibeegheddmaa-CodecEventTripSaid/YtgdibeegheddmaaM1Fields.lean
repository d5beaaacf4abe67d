/- codec.fields in reading mode, ParseEvent. Written by gen_m1.py. -/
import Derived.Test.YtgdibeegheddmaaL7Lists
import Derived.Test.YtgdibeegheddmaaI4Event
import Derived.Deep.CutRange
namespace Go.Proofs.Ytgdibeegheddmaa
open Go Go.RowKit
set_option linter.unusedVariables false
set_option linter.unusedSimpArgs false
attribute [local go_sem ↓] Go.wp_at_zero Go.wp_at_succ
def FRPost (k : Int) (g tb : Nat) (st : Option (List UInt8)) (w : World) (e : Ending) (w' : World) : Prop :=
  e = .returned (.bool (known k)) ∧ ∃ (cs : List Value) (x : XEvent), EventC w' (Nw w w') cs x ∧ vlF k st x ∧ w'.heap[tb]? = some (.cells cs.toArray 45 (0, 0)) ∧ RS w' g (if known k = true then stF k st else st) ∧ Fr (Kp w g tb) w w'
def zEv (k : Int) : List Value := evCells k zEntry zRate zHolding zMatch zStock 0 0 ⟨#[]⟩
set_option maxHeartbeats 1000000 in
set_option maxRecDepth 100000 in
theorem fields_1 (g tb : Nat) (k : Int) (st : Option (List UInt8)) (w0 : World) (hs : RS w0 g st) (hgt : g < tb) (hT : w0.heap[tb]? = some (.cells (zEv k).toArray 45 (0, 0))) (hk : k = 1) :
    Calls Try.prog 34 #[.pointer (some ⟨g, 0, none⟩), .pointer (some ⟨tb, 0, none⟩)] w0 (FRPost k g tb st w0) := by
  subst hk
  have hTlt := blk_lt hT
  have hglt := hs.lt
  have R0 := Lib.hid hs
  have TA := Lib.hid hT
  have c0 : w0.cell? ⟨tb, 0, none⟩ = some (.int .i64 1) := blk_cell hT 0
  clear hs hT
  have T0 : Hid (w0.heap[tb]? = some (.cells (([Value.int .i64 1]) ++ [Value.int .i64 0, .int .i64 0, .int .i64 0, .int .i64 0, .int .i64 0, .string ⟨#[]⟩, .slice none 0 0] ++ (zRate ++ zHolding ++ zMatch ++ zStock ++ [Value.int .i64 0] ++ [Value.int .i64 0] ++ [Value.string ⟨#[]⟩])).toArray 45 (0, 0))) := Lib.hid TA.out
  clear TA
  go_enter Try.func34, Try.ntmps34
  go_wp2_with fail
  refine (Entry_r g tb 1 ([Value.int .i64 1]) (zRate ++ zHolding ++ zMatch ++ zStock ++ [Value.int .i64 0] ++ [Value.int .i64 0] ++ [Value.string ⟨#[]⟩]) 45 st w0 R0.out hgt (by rfl) T0.out).mono ?_
  rintro e w1 ⟨rfl, c1, x1, hc1, hv1, hT1, hR1, hf1⟩
  have HC := Lib.hid hc1
  have HV := Lib.hid hv1
  have TT := Lib.hid hT1
  have R1 := Lib.hid hR1
  have F1 := Lib.hid hf1
  clear hc1 hv1 hT1 hR1 hf1
  go_wp2_with fail
  go_ret
  refine ⟨rfl, _, _, evC (k := 1) (by unfold intBd; omega) HC.out (zRateC _ _) (zHoldingC _ _) (zMatchC _ _) (zStockC _ _) bd0 bd0, vl_mapF (f := fun a => { kind := 1, entry := a }) decF_1 HV.out, ?_, ?_, F1.out⟩
  · rw [TT.out]; first | rfl | (simp only [evCells, List.append_assoc]; rfl) | (simp only [evCells, List.append_assoc])
  · rw [if_pos (by decide), st_mapF (f := fun a => { kind := 1, entry := a }) decF_1]; exact R1.out

set_option maxHeartbeats 1000000 in
set_option maxRecDepth 100000 in
theorem fields_2 (g tb : Nat) (k : Int) (st : Option (List UInt8)) (w0 : World) (hs : RS w0 g st) (hgt : g < tb) (hT : w0.heap[tb]? = some (.cells (zEv k).toArray 45 (0, 0))) (hk : k = 2) :
    Calls Try.prog 34 #[.pointer (some ⟨g, 0, none⟩), .pointer (some ⟨tb, 0, none⟩)] w0 (FRPost k g tb st w0) := by
  subst hk
  have hTlt := blk_lt hT
  have hglt := hs.lt
  have R0 := Lib.hid hs
  have TA := Lib.hid hT
  have c0 : w0.cell? ⟨tb, 0, none⟩ = some (.int .i64 2) := blk_cell hT 0
  clear hs hT
  have T0 : Hid (w0.heap[tb]? = some (.cells (([Value.int .i64 2] ++ zEntry) ++ [Value.string ⟨#[]⟩, .int .i64 0, .int .i64 0, .int .i64 0] ++ (zHolding ++ zMatch ++ zStock ++ [Value.int .i64 0] ++ [Value.int .i64 0] ++ [Value.string ⟨#[]⟩])).toArray 45 (0, 0))) := Lib.hid TA.out
  clear TA
  go_enter Try.func34, Try.ntmps34
  go_wp2_with fail
  refine (Rate_r g tb 8 ([Value.int .i64 2] ++ zEntry) (zHolding ++ zMatch ++ zStock ++ [Value.int .i64 0] ++ [Value.int .i64 0] ++ [Value.string ⟨#[]⟩]) 45 st w0 R0.out hgt (by rfl) T0.out).mono ?_
  rintro e w1 ⟨rfl, c1, x1, hc1, hv1, hT1, hR1, hf1⟩
  have HC := Lib.hid hc1
  have HV := Lib.hid hv1
  have TT := Lib.hid hT1
  have R1 := Lib.hid hR1
  have F1 := Lib.hid hf1
  clear hc1 hv1 hT1 hR1 hf1
  go_wp2_with fail
  go_ret
  refine ⟨rfl, _, _, evC (k := 2) (by unfold intBd; omega) (zEntryC _ _) HC.out (zHoldingC _ _) (zMatchC _ _) (zStockC _ _) bd0 bd0, vl_mapF (f := fun a => { kind := 2, rate := a }) decF_2 HV.out, ?_, ?_, F1.out⟩
  · rw [TT.out]; first | rfl | (simp only [evCells, List.append_assoc]; rfl) | (simp only [evCells, List.append_assoc])
  · rw [if_pos (by decide), st_mapF (f := fun a => { kind := 2, rate := a }) decF_2]; exact R1.out

set_option maxHeartbeats 1000000 in
set_option maxRecDepth 100000 in
theorem fields_3 (g tb : Nat) (k : Int) (st : Option (List UInt8)) (w0 : World) (hs : RS w0 g st) (hgt : g < tb) (hT : w0.heap[tb]? = some (.cells (zEv k).toArray 45 (0, 0))) (hk : k = 3) :
    Calls Try.prog 34 #[.pointer (some ⟨g, 0, none⟩), .pointer (some ⟨tb, 0, none⟩)] w0 (FRPost k g tb st w0) := by
  subst hk
  have hTlt := blk_lt hT
  have hglt := hs.lt
  have R0 := Lib.hid hs
  have TA := Lib.hid hT
  have c0 : w0.cell? ⟨tb, 0, none⟩ = some (.int .i64 3) := blk_cell hT 0
  clear hs hT
  have T0 : Hid (w0.heap[tb]? = some (.cells (([Value.int .i64 3] ++ zEntry ++ zRate) ++ [Value.int .i64 0, .int .i64 0, .int .i64 0, .int .i64 0] ++ (zMatch ++ zStock ++ [Value.int .i64 0] ++ [Value.int .i64 0] ++ [Value.string ⟨#[]⟩])).toArray 45 (0, 0))) := Lib.hid TA.out
  clear TA
  go_enter Try.func34, Try.ntmps34
  go_wp2_with fail
  refine (Holding_r g tb 12 ([Value.int .i64 3] ++ zEntry ++ zRate) (zMatch ++ zStock ++ [Value.int .i64 0] ++ [Value.int .i64 0] ++ [Value.string ⟨#[]⟩]) 45 st w0 R0.out hgt (by rfl) T0.out).mono ?_
  rintro e w1 ⟨rfl, c1, x1, hc1, hv1, hT1, hR1, hf1⟩
  have HC := Lib.hid hc1
  have HV := Lib.hid hv1
  have TT := Lib.hid hT1
  have R1 := Lib.hid hR1
  have F1 := Lib.hid hf1
  clear hc1 hv1 hT1 hR1 hf1
  go_wp2_with fail
  go_ret
  refine ⟨rfl, _, _, evC (k := 3) (by unfold intBd; omega) (zEntryC _ _) (zRateC _ _) HC.out (zMatchC _ _) (zStockC _ _) bd0 bd0, vl_mapF (f := fun a => { kind := 3, holding := a }) decF_3 HV.out, ?_, ?_, F1.out⟩
  · rw [TT.out]; first | rfl | (simp only [evCells, List.append_assoc]; rfl) | (simp only [evCells, List.append_assoc])
  · rw [if_pos (by decide), st_mapF (f := fun a => { kind := 3, holding := a }) decF_3]; exact R1.out

set_option maxHeartbeats 1000000 in
set_option maxRecDepth 100000 in
theorem fields_4 (g tb : Nat) (k : Int) (st : Option (List UInt8)) (w0 : World) (hs : RS w0 g st) (hgt : g < tb) (hT : w0.heap[tb]? = some (.cells (zEv k).toArray 45 (0, 0))) (hk : k = 4) :
    Calls Try.prog 34 #[.pointer (some ⟨g, 0, none⟩), .pointer (some ⟨tb, 0, none⟩)] w0 (FRPost k g tb st w0) := by
  subst hk
  have hTlt := blk_lt hT
  have hglt := hs.lt
  have R0 := Lib.hid hs
  have TA := Lib.hid hT
  have c0 : w0.cell? ⟨tb, 0, none⟩ = some (.int .i64 4) := blk_cell hT 0
  clear hs hT
  have T0 : Hid (w0.heap[tb]? = some (.cells (([Value.int .i64 4] ++ zEntry ++ zRate ++ zHolding) ++ [Value.int .i64 0, .slice none 0 0, .slice none 0 0, .int .i64 0] ++ (zStock ++ [Value.int .i64 0] ++ [Value.int .i64 0] ++ [Value.string ⟨#[]⟩])).toArray 45 (0, 0))) := Lib.hid TA.out
  clear TA
  go_enter Try.func34, Try.ntmps34
  go_wp2_with fail
  refine (Match_r g tb 16 ([Value.int .i64 4] ++ zEntry ++ zRate ++ zHolding) (zStock ++ [Value.int .i64 0] ++ [Value.int .i64 0] ++ [Value.string ⟨#[]⟩]) 45 st w0 R0.out hgt (by rfl) T0.out).mono ?_
  rintro e w1 ⟨rfl, c1, x1, hc1, hv1, hT1, hR1, hf1⟩
  have HC := Lib.hid hc1
  have HV := Lib.hid hv1
  have TT := Lib.hid hT1
  have R1 := Lib.hid hR1
  have F1 := Lib.hid hf1
  clear hc1 hv1 hT1 hR1 hf1
  go_wp2_with fail
  go_ret
  refine ⟨rfl, _, _, evC (k := 4) (by unfold intBd; omega) (zEntryC _ _) (zRateC _ _) (zHoldingC _ _) HC.out (zStockC _ _) bd0 bd0, vl_mapF (f := fun a => { kind := 4, match_ := a }) decF_4 HV.out, ?_, ?_, F1.out⟩
  · rw [TT.out]; first | rfl | (simp only [evCells, List.append_assoc]; rfl) | (simp only [evCells, List.append_assoc])
  · rw [if_pos (by decide), st_mapF (f := fun a => { kind := 4, match_ := a }) decF_4]; exact R1.out

set_option maxHeartbeats 1000000 in
set_option maxRecDepth 100000 in
theorem fields_5 (g tb : Nat) (k : Int) (st : Option (List UInt8)) (w0 : World) (hs : RS w0 g st) (hgt : g < tb) (hT : w0.heap[tb]? = some (.cells (zEv k).toArray 45 (0, 0))) (hk : k = 5) :
    Calls Try.prog 34 #[.pointer (some ⟨g, 0, none⟩), .pointer (some ⟨tb, 0, none⟩)] w0 (FRPost k g tb st w0) := by
  subst hk
  have hTlt := blk_lt hT
  have hglt := hs.lt
  have R0 := Lib.hid hs
  have TA := Lib.hid hT
  have c0 : w0.cell? ⟨tb, 0, none⟩ = some (.int .i64 5) := blk_cell hT 0
  clear hs hT
  have T0 : Hid (w0.heap[tb]? = some (.cells (([Value.int .i64 5] ++ zEntry ++ zRate ++ zHolding ++ zMatch ++ zStock) ++ iv [0, 0] ++ [Value.string ⟨#[]⟩]).toArray 45 (0, 0))) := Lib.hid TA.out
  clear TA
  go_enter Try.func34, Try.ntmps34
  go_wp2_with fail
  go_region_law (go_simp; go_at_call 33; refine (num_rd g tb 25 ([Value.int .i64 5] ++ zEntry ++ zRate ++ zHolding ++ zMatch ++ zStock) [Value.string ⟨#[]⟩] [0, 0] 45 st (by rfl) (by rfl) (by rfl) R0.out hgt (by rfl) T0.out (by simp [intBd]) (by simp)).mono ?_; rintro e w1 ⟨rfl, ns, hl, hb, hv, hT1, hR1, hf1⟩)
  obtain ⟨a, b, rfl⟩ := two hl
  simp only [List.mem_cons, List.not_mem_nil, or_false, forall_eq_or_imp, forall_eq] at hb
  have HB := Lib.hid hb
  have HV := Lib.hid hv
  have R1 := Lib.hid hR1
  have F1 := Lib.hid hf1
  have TT := Lib.hid hT1
  clear hl hb hv hT1 hR1 hf1
  go_wp2_with fail
  go_ret
  refine ⟨rfl, _, _, evC (k := 5) (a := a) (b := b) (s := ⟨#[]⟩) (by unfold intBd; omega) (zEntryC _ _) (zRateC _ _) (zHoldingC _ _) (zMatchC _ _) (zStockC _ _) HB.out.1 HB.out.2, vl_mapF (c := cAB) (f := fun a => { kind := 5, a := a.1, b := a.2 }) decF_5 (Cod.vl_pair HV.out.1 HV.out.2.1), ?_, ?_, F1.out⟩
  · rw [TT.out]; first | rfl | (simp only [evCells, List.append_assoc]; rfl) | (simp only [evCells, List.append_assoc])
  · rw [if_pos (by decide), st_mapF (c := cAB) (f := fun a => { kind := 5, a := a.1, b := a.2 }) decF_5, show cAB.st st = stI 2 st from Cod.st_pair _ _ _]; exact R1.out

set_option maxHeartbeats 1000000 in
set_option maxRecDepth 100000 in
theorem fields_6 (g tb : Nat) (k : Int) (st : Option (List UInt8)) (w0 : World) (hs : RS w0 g st) (hgt : g < tb) (hT : w0.heap[tb]? = some (.cells (zEv k).toArray 45 (0, 0))) (hk : k = 6) :
    Calls Try.prog 34 #[.pointer (some ⟨g, 0, none⟩), .pointer (some ⟨tb, 0, none⟩)] w0 (FRPost k g tb st w0) := by
  subst hk
  have hTlt := blk_lt hT
  have hglt := hs.lt
  have R0 := Lib.hid hs
  have TA := Lib.hid hT
  have c0 : w0.cell? ⟨tb, 0, none⟩ = some (.int .i64 6) := blk_cell hT 0
  clear hs hT
  have T0 : Hid (w0.heap[tb]? = some (.cells (([Value.int .i64 6] ++ zEntry ++ zRate ++ zHolding ++ zMatch) ++ [Value.int .i64 0, .int .i64 0, .int .i64 0, .int .i64 0, .int .i64 0] ++ ([Value.int .i64 0] ++ [Value.int .i64 0] ++ [Value.string ⟨#[]⟩])).toArray 45 (0, 0))) := Lib.hid TA.out
  clear TA
  go_enter Try.func34, Try.ntmps34
  go_wp2_with fail
  refine (Stock_r g tb 20 ([Value.int .i64 6] ++ zEntry ++ zRate ++ zHolding ++ zMatch) ([Value.int .i64 0] ++ [Value.int .i64 0] ++ [Value.string ⟨#[]⟩]) 45 st w0 R0.out hgt (by rfl) T0.out).mono ?_
  rintro e w1 ⟨rfl, c1, x1, hc1, hv1, hT1, hR1, hf1⟩
  have HC := Lib.hid hc1
  have HV := Lib.hid hv1
  have TT := Lib.hid hT1
  have R1 := Lib.hid hR1
  have F1 := Lib.hid hf1
  clear hc1 hv1 hT1 hR1 hf1
  go_wp2_with fail
  go_ret
  refine ⟨rfl, _, _, evC (k := 6) (by unfold intBd; omega) (zEntryC _ _) (zRateC _ _) (zHoldingC _ _) (zMatchC _ _) HC.out bd0 bd0, vl_mapF (f := fun a => { kind := 6, stock := a }) decF_6 HV.out, ?_, ?_, F1.out⟩
  · rw [TT.out]; first | rfl | (simp only [evCells, List.append_assoc]; rfl) | (simp only [evCells, List.append_assoc])
  · rw [if_pos (by decide), st_mapF (f := fun a => { kind := 6, stock := a }) decF_6]; exact R1.out

set_option maxHeartbeats 1000000 in
set_option maxRecDepth 100000 in
theorem fields_7 (g tb : Nat) (k : Int) (st : Option (List UInt8)) (w0 : World) (hs : RS w0 g st) (hgt : g < tb) (hT : w0.heap[tb]? = some (.cells (zEv k).toArray 45 (0, 0))) (hk : k = 7) :
    Calls Try.prog 34 #[.pointer (some ⟨g, 0, none⟩), .pointer (some ⟨tb, 0, none⟩)] w0 (FRPost k g tb st w0) := by
  subst hk
  have hTlt := blk_lt hT
  have hglt := hs.lt
  have R0 := Lib.hid hs
  have TA := Lib.hid hT
  have c0 : w0.cell? ⟨tb, 0, none⟩ = some (.int .i64 7) := blk_cell hT 0
  clear hs hT
  have T0 : Hid (w0.heap[tb]? = some (.cells (([Value.int .i64 7] ++ zEntry ++ zRate ++ zHolding ++ zMatch ++ zStock ++ [Value.int .i64 0] ++ [Value.int .i64 0]) ++ [Value.string ⟨#[]⟩] ++ []).toArray 45 (0, 0))) := Lib.hid TA.out
  clear TA
  go_enter Try.func34, Try.ntmps34
  go_wp2_with fail
  refine (text_r g tb 27 ([Value.int .i64 7] ++ zEntry ++ zRate ++ zHolding ++ zMatch ++ zStock ++ [Value.int .i64 0] ++ [Value.int .i64 0]) [] 45 st w0 R0.out hgt (by rfl) T0.out).mono ?_
  rintro e w1 ⟨rfl, c1, x1, hc1, hv1, hT1, hR1, hf1⟩
  cases hc1
  have HV := Lib.hid hv1
  have TT := Lib.hid hT1
  have R1 := Lib.hid hR1
  have F1 := Lib.hid hf1
  clear hv1 hT1 hR1 hf1
  go_wp2_with fail
  go_ret
  refine ⟨rfl, _, _, evC (k := 7) (s := x1) (by unfold intBd; omega) (zEntryC _ _) (zRateC _ _) (zHoldingC _ _) (zMatchC _ _) (zStockC _ _) bd0 bd0, vl_mapF (f := fun a => { kind := 7, text := a }) decF_7 HV.out, ?_, ?_, F1.out⟩
  · rw [TT.out]; first | rfl | (simp only [evCells, List.append_assoc]; rfl) | (simp only [evCells, List.append_assoc])
  · rw [if_pos (by decide), st_mapF (f := fun a => { kind := 7, text := a }) decF_7]; exact R1.out

set_option maxHeartbeats 1000000 in
set_option maxRecDepth 100000 in
theorem fields_8 (g tb : Nat) (k : Int) (st : Option (List UInt8)) (w0 : World) (hs : RS w0 g st) (hgt : g < tb) (hT : w0.heap[tb]? = some (.cells (zEv k).toArray 45 (0, 0))) (hk : k = 8) :
    Calls Try.prog 34 #[.pointer (some ⟨g, 0, none⟩), .pointer (some ⟨tb, 0, none⟩)] w0 (FRPost k g tb st w0) := by
  subst hk
  have hTlt := blk_lt hT
  have hglt := hs.lt
  have R0 := Lib.hid hs
  have TA := Lib.hid hT
  have c0 : w0.cell? ⟨tb, 0, none⟩ = some (.int .i64 8) := blk_cell hT 0
  clear hs hT
  have T0 : Hid (w0.heap[tb]? = some (.cells (([Value.int .i64 8] ++ zEntry ++ zRate ++ zHolding ++ zMatch ++ zStock) ++ iv [0, 0] ++ [Value.string ⟨#[]⟩]).toArray 45 (0, 0))) := Lib.hid TA.out
  clear TA
  go_enter Try.func34, Try.ntmps34
  go_wp2_with fail
  go_region_law (go_simp; go_at_call 33; refine (num_rd g tb 25 ([Value.int .i64 8] ++ zEntry ++ zRate ++ zHolding ++ zMatch ++ zStock) [Value.string ⟨#[]⟩] [0, 0] 45 st (by rfl) (by rfl) (by rfl) R0.out hgt (by rfl) T0.out (by simp [intBd]) (by simp)).mono ?_; rintro e w1 ⟨rfl, ns, hl, hb, hv, hT1, hR1, hf1⟩)
  obtain ⟨a, b, rfl⟩ := two hl
  simp only [List.mem_cons, List.not_mem_nil, or_false, forall_eq_or_imp, forall_eq] at hb
  have HB := Lib.hid hb
  have HV := Lib.hid hv
  have R1 := Lib.hid hR1
  have F1 := Lib.hid hf1
  have TT := Lib.hid hT1
  clear hl hb hv hT1 hR1 hf1
  go_wp2_with fail
  go_ret
  refine ⟨rfl, _, _, evC (k := 8) (a := a) (b := b) (s := ⟨#[]⟩) (by unfold intBd; omega) (zEntryC _ _) (zRateC _ _) (zHoldingC _ _) (zMatchC _ _) (zStockC _ _) HB.out.1 HB.out.2, vl_mapF (c := cAB) (f := fun a => { kind := 8, a := a.1, b := a.2 }) decF_8 (Cod.vl_pair HV.out.1 HV.out.2.1), ?_, ?_, F1.out⟩
  · rw [TT.out]; first | rfl | (simp only [evCells, List.append_assoc]; rfl) | (simp only [evCells, List.append_assoc])
  · rw [if_pos (by decide), st_mapF (c := cAB) (f := fun a => { kind := 8, a := a.1, b := a.2 }) decF_8, show cAB.st st = stI 2 st from Cod.st_pair _ _ _]; exact R1.out

set_option maxHeartbeats 1000000 in
set_option maxRecDepth 100000 in
theorem fields_9 (g tb : Nat) (k : Int) (st : Option (List UInt8)) (w0 : World) (hs : RS w0 g st) (hgt : g < tb) (hT : w0.heap[tb]? = some (.cells (zEv k).toArray 45 (0, 0))) (hk : k = 9) :
    Calls Try.prog 34 #[.pointer (some ⟨g, 0, none⟩), .pointer (some ⟨tb, 0, none⟩)] w0 (FRPost k g tb st w0) := by
  subst hk
  have hTlt := blk_lt hT
  have hglt := hs.lt
  have R0 := Lib.hid hs
  have TA := Lib.hid hT
  have c0 : w0.cell? ⟨tb, 0, none⟩ = some (.int .i64 9) := blk_cell hT 0
  clear hs hT
  have T0 : Hid (w0.heap[tb]? = some (.cells (([Value.int .i64 9] ++ zEntry ++ zRate ++ zHolding ++ zMatch ++ zStock) ++ iv [0, 0] ++ [Value.string ⟨#[]⟩]).toArray 45 (0, 0))) := Lib.hid TA.out
  clear TA
  go_enter Try.func34, Try.ntmps34
  go_wp2_with fail
  go_region_law (go_simp; go_at_call 33; refine (num_rd g tb 25 ([Value.int .i64 9] ++ zEntry ++ zRate ++ zHolding ++ zMatch ++ zStock) [Value.string ⟨#[]⟩] [0, 0] 45 st (by rfl) (by rfl) (by rfl) R0.out hgt (by rfl) T0.out (by simp [intBd]) (by simp)).mono ?_; rintro e w1 ⟨rfl, ns, hl, hb, hv, hT1, hR1, hf1⟩)
  obtain ⟨a, b, rfl⟩ := two hl
  simp only [List.mem_cons, List.not_mem_nil, or_false, forall_eq_or_imp, forall_eq] at hb
  have HB := Lib.hid hb
  have HV := Lib.hid hv
  have R1 := Lib.hid hR1
  have F1 := Lib.hid hf1
  have TT := Lib.hid hT1
  clear hl hb hv hT1 hR1 hf1
  go_wp2_with fail
  go_ret
  refine ⟨rfl, _, _, evC (k := 9) (a := a) (b := b) (s := ⟨#[]⟩) (by unfold intBd; omega) (zEntryC _ _) (zRateC _ _) (zHoldingC _ _) (zMatchC _ _) (zStockC _ _) HB.out.1 HB.out.2, vl_mapF (c := cAB) (f := fun a => { kind := 9, a := a.1, b := a.2 }) decF_9 (Cod.vl_pair HV.out.1 HV.out.2.1), ?_, ?_, F1.out⟩
  · rw [TT.out]; first | rfl | (simp only [evCells, List.append_assoc]; rfl) | (simp only [evCells, List.append_assoc])
  · rw [if_pos (by decide), st_mapF (c := cAB) (f := fun a => { kind := 9, a := a.1, b := a.2 }) decF_9, show cAB.st st = stI 2 st from Cod.st_pair _ _ _]; exact R1.out

set_option maxHeartbeats 1000000 in
set_option maxRecDepth 100000 in
theorem fields_10 (g tb : Nat) (k : Int) (st : Option (List UInt8)) (w0 : World) (hs : RS w0 g st) (hgt : g < tb) (hT : w0.heap[tb]? = some (.cells (zEv k).toArray 45 (0, 0))) (hk : k = 10) :
    Calls Try.prog 34 #[.pointer (some ⟨g, 0, none⟩), .pointer (some ⟨tb, 0, none⟩)] w0 (FRPost k g tb st w0) := by
  subst hk
  have hTlt := blk_lt hT
  have hglt := hs.lt
  have R0 := Lib.hid hs
  have TA := Lib.hid hT
  have c0 : w0.cell? ⟨tb, 0, none⟩ = some (.int .i64 10) := blk_cell hT 0
  clear hs hT
  have T0 : Hid (w0.heap[tb]? = some (.cells (([Value.int .i64 10] ++ zEntry ++ zRate ++ zHolding ++ zMatch ++ zStock) ++ iv [0, 0] ++ [Value.string ⟨#[]⟩]).toArray 45 (0, 0))) := Lib.hid TA.out
  clear TA
  go_enter Try.func34, Try.ntmps34
  go_wp2_with fail
  go_region_law (go_simp; go_at_call 33; refine (num_rd g tb 25 ([Value.int .i64 10] ++ zEntry ++ zRate ++ zHolding ++ zMatch ++ zStock) [Value.string ⟨#[]⟩] [0, 0] 45 st (by rfl) (by rfl) (by rfl) R0.out hgt (by rfl) T0.out (by simp [intBd]) (by simp)).mono ?_; rintro e w1 ⟨rfl, ns, hl, hb, hv, hT1, hR1, hf1⟩)
  obtain ⟨a, b, rfl⟩ := two hl
  simp only [List.mem_cons, List.not_mem_nil, or_false, forall_eq_or_imp, forall_eq] at hb
  have HB := Lib.hid hb
  have HV := Lib.hid hv
  have R1 := Lib.hid hR1
  have F1 := Lib.hid hf1
  have T1 : Hid (w1.heap[tb]? = some (.cells (([Value.int .i64 10] ++ zEntry ++ zRate ++ zHolding ++ zMatch ++ zStock ++ [Value.int .i64 a] ++ [Value.int .i64 b]) ++ [Value.string ⟨#[]⟩] ++ []).toArray 45 (0, 0))) := Lib.hid hT1
  clear hl hb hv hT1 hR1 hf1
  go_wp2_with fail
  refine (text_r g tb 27 ([Value.int .i64 10] ++ zEntry ++ zRate ++ zHolding ++ zMatch ++ zStock ++ [Value.int .i64 a] ++ [Value.int .i64 b]) [] 45 _ w1 R1.out hgt (by rfl) T1.out).mono ?_
  rintro e w2 ⟨rfl, c2, x2, hc2, hv2, hT2, hR2, hf2⟩
  cases hc2
  have HV2 := Lib.hid hv2
  have TT := Lib.hid hT2
  have R2 := Lib.hid hR2
  have F2 := Lib.hid hf2
  clear hv2 hT2 hR2 hf2
  go_wp2_with fail
  go_ret
  refine ⟨rfl, _, _, evC (k := 10) (a := a) (b := b) (s := x2) (by unfold intBd; omega) (zEntryC _ _) (zRateC _ _) (zHoldingC _ _) (zMatchC _ _) (zStockC _ _) HB.out.1 HB.out.2, vl_mapF (c := cABT) (f := fun a => { kind := 10, a := a.1, b := a.2.1, text := a.2.2 }) decF_10 (Cod.vl_pair HV.out.1 (Cod.vl_pair HV.out.2.1 HV2.out)), ?_, ?_, Kp.trans F1.out F2.out⟩
  · rw [TT.out]; first | rfl | (simp only [evCells, List.append_assoc]; rfl) | (simp only [evCells, List.append_assoc])
  · rw [if_pos (by decide), st_mapF (c := cABT) (f := fun a => { kind := 10, a := a.1, b := a.2.1, text := a.2.2 }) decF_10, show cABT.st st = cStr.st (stI 2 st) from by rw [cABT, Cod.st_pair, Cod.st_pair]; rfl]; exact R2.out

set_option maxHeartbeats 1000000 in
set_option maxRecDepth 100000 in
theorem fields_no (g tb : Nat) (k : Int) (st : Option (List UInt8)) (w0 : World) (hs : RS w0 g st) (hgt : g < tb) (hT : w0.heap[tb]? = some (.cells (zEv k).toArray 45 (0, 0))) (hkb : intBd k) (hk : known k = false) :
    Calls Try.prog 34 #[.pointer (some ⟨g, 0, none⟩), .pointer (some ⟨tb, 0, none⟩)] w0 (FRPost k g tb st w0) := by
  have hk' : ¬ (1 ≤ k ∧ k ≤ 10) := by simpa [known] using hk
  have R0 := Lib.hid hs
  have TA := Lib.hid hT
  have HK := Lib.hid hk
  have c0 : w0.cell? ⟨tb, 0, none⟩ = some (.int .i64 k) := blk_cell hT 0
  have e1 : (k == 1) = false := by simp; omega
  have e2 : (k == 2) = false := by simp; omega
  have e3 : (k == 3) = false := by simp; omega
  have e4 : (k == 4) = false := by simp; omega
  have e5 : (k == 5) = false := by simp; omega
  have e6 : (k == 6) = false := by simp; omega
  have e7 : (k == 7) = false := by simp; omega
  have e8 : (k == 8) = false := by simp; omega
  have e9 : (k == 9) = false := by simp; omega
  have e10 : (k == 10) = false := by simp; omega
  clear hs hT hk hk'
  go_enter Try.func34, Try.ntmps34
  go_wp2_with fail
  go_ret
  refine ⟨by rw [HK.out]; rfl, zEv k, { kind := k }, evC hkb (zEntryC _ _) (zRateC _ _) (zHoldingC _ _) (zMatchC _ _) (zStockC _ _) bd0 bd0, ?_, TA.out, ?_, Fr.refl _ _⟩
  · intro p hp
    cases st with
    | none => cases hp
    | some l => rw [show (some l).bind (decF k) = decF k l from rfl, decF_no HK.out] at hp; cases hp
  · rw [if_neg (by rw [HK.out]; simp)]; exact R0.out
theorem fields_r (g tb : Nat) (k : Int) (st : Option (List UInt8)) (w0 : World) (hs : RS w0 g st) (hgt : g < tb) (hT : w0.heap[tb]? = some (.cells (zEv k).toArray 45 (0, 0))) (hkb : intBd k) :
    Calls Try.prog 34 #[.pointer (some ⟨g, 0, none⟩), .pointer (some ⟨tb, 0, none⟩)] w0 (FRPost k g tb st w0) := by
  cases hk : known k with
  | false => exact fields_no g tb k st w0 hs hgt hT hkb hk
  | true =>
    rcases kinds hk with h | h | h | h | h | h | h | h | h | h
    · exact fields_1 g tb k st w0 hs hgt hT h
    · exact fields_2 g tb k st w0 hs hgt hT h
    · exact fields_3 g tb k st w0 hs hgt hT h
    · exact fields_4 g tb k st w0 hs hgt hT h
    · exact fields_5 g tb k st w0 hs hgt hT h
    · exact fields_6 g tb k st w0 hs hgt hT h
    · exact fields_7 g tb k st w0 hs hgt hT h
    · exact fields_8 g tb k st w0 hs hgt hT h
    · exact fields_9 g tb k st w0 hs hgt hT h
    · exact fields_10 g tb k st w0 hs hgt hT h
end Go.Proofs.Ytgdibeegheddmaa
