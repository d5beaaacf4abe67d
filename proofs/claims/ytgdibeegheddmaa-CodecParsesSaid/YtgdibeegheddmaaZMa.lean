/- codec.fields in reading mode, ParseEvent. Written by gen_m1.py. (joined: M1Fields, M2Parse) -/
import Derived.Test.YtgdibeegheddmaaZL7Lists
import Derived.Test.YtgdibeegheddmaaZIb
import Derived.Deep.CutRange
namespace Go.Proofs.Ytgdibeegheddmaa
open Go Go.RowKit
set_option linter.unusedVariables false
set_option linter.unusedSimpArgs false
attribute [local go_sem ↓] Go.wp_at_zero Go.wp_at_succ
def FRPost (k : Int) (g tb : Nat) (st : Option (List UInt8)) (w : World) (e : Ending) (w' : World) : Prop :=
  e = .returned (.bool (known k)) ∧ ∃ (cs : List Value) (x : XEvent), EventC w' (Nw w w') cs x ∧ vlF k st x ∧ w'.heap[tb]? = some (.cells cs.toArray 45 (0, 0)) ∧ RS w' g (if known k = true then stF k st else st) ∧ Fr (Kp w g tb) w w'
def zEv (k : Int) : List Value := evCells k zEntry zRate zHolding zMatch zStock 0 0 ⟨#[]⟩
set_option maxHeartbeats 1000000 in
set_option maxRecDepth 100000 in
theorem fields_1 (g tb : Nat) (k : Int) (st : Option (List UInt8)) (w0 : World) (hs : RS w0 g st) (hgt : g < tb) (hT : w0.heap[tb]? = some (.cells (zEv k).toArray 45 (0, 0))) (hk : k = 1) :
    Calls Try.prog 34 #[.pointer (some ⟨g, 0, none⟩), .pointer (some ⟨tb, 0, none⟩)] w0 (FRPost k g tb st w0) := by
  subst hk
  have hTlt := blk_lt hT
  have hglt := hs.lt
  have R0 := Lib.hid hs
  have TA := Lib.hid hT
  have c0 : w0.cell? ⟨tb, 0, none⟩ = some (.int .i64 1) := blk_cell hT 0
  clear hs hT
  have T0 : Hid (w0.heap[tb]? = some (.cells (([Value.int .i64 1]) ++ [Value.int .i64 0, .int .i64 0, .int .i64 0, .int .i64 0, .int .i64 0, .string ⟨#[]⟩, .slice none 0 0] ++ (zRate ++ zHolding ++ zMatch ++ zStock ++ [Value.int .i64 0] ++ [Value.int .i64 0] ++ [Value.string ⟨#[]⟩])).toArray 45 (0, 0))) := Lib.hid TA.out
  clear TA
  go_enter Try.func34, Try.ntmps34
  go_wp2_with fail
  refine (Entry_r g tb 1 ([Value.int .i64 1]) (zRate ++ zHolding ++ zMatch ++ zStock ++ [Value.int .i64 0] ++ [Value.int .i64 0] ++ [Value.string ⟨#[]⟩]) 45 st w0 R0.out hgt (by rfl) T0.out).mono ?_
  rintro e w1 ⟨rfl, c1, x1, hc1, hv1, hT1, hR1, hf1⟩
  have HC := Lib.hid hc1
  have HV := Lib.hid hv1
  have TT := Lib.hid hT1
  have R1 := Lib.hid hR1
  have F1 := Lib.hid hf1
  clear hc1 hv1 hT1 hR1 hf1
  go_wp2_with fail
  go_ret
  refine ⟨rfl, _, _, evC (k := 1) (by unfold intBd; omega) HC.out (zRateC _ _) (zHoldingC _ _) (zMatchC _ _) (zStockC _ _) bd0 bd0, vl_mapF (f := fun a => { kind := 1, entry := a }) decF_1 HV.out, ?_, ?_, F1.out⟩
  · rw [TT.out]; first | rfl | (simp only [evCells, List.append_assoc]; rfl) | (simp only [evCells, List.append_assoc])
  · rw [if_pos (by decide), st_mapF (f := fun a => { kind := 1, entry := a }) decF_1]; exact R1.out

set_option maxHeartbeats 1000000 in
set_option maxRecDepth 100000 in
theorem fields_2 (g tb : Nat) (k : Int) (st : Option (List UInt8)) (w0 : World) (hs : RS w0 g st) (hgt : g < tb) (hT : w0.heap[tb]? = some (.cells (zEv k).toArray 45 (0, 0))) (hk : k = 2) :
    Calls Try.prog 34 #[.pointer (some ⟨g, 0, none⟩), .pointer (some ⟨tb, 0, none⟩)] w0 (FRPost k g tb st w0) := by
  subst hk
  have hTlt := blk_lt hT
  have hglt := hs.lt
  have R0 := Lib.hid hs
  have TA := Lib.hid hT
  have c0 : w0.cell? ⟨tb, 0, none⟩ = some (.int .i64 2) := blk_cell hT 0
  clear hs hT
  have T0 : Hid (w0.heap[tb]? = some (.cells (([Value.int .i64 2] ++ zEntry) ++ [Value.string ⟨#[]⟩, .int .i64 0, .int .i64 0, .int .i64 0] ++ (zHolding ++ zMatch ++ zStock ++ [Value.int .i64 0] ++ [Value.int .i64 0] ++ [Value.string ⟨#[]⟩])).toArray 45 (0, 0))) := Lib.hid TA.out
  clear TA
  go_enter Try.func34, Try.ntmps34
  go_wp2_with fail
  refine (Rate_r g tb 8 ([Value.int .i64 2] ++ zEntry) (zHolding ++ zMatch ++ zStock ++ [Value.int .i64 0] ++ [Value.int .i64 0] ++ [Value.string ⟨#[]⟩]) 45 st w0 R0.out hgt (by rfl) T0.out).mono ?_
  rintro e w1 ⟨rfl, c1, x1, hc1, hv1, hT1, hR1, hf1⟩
  have HC := Lib.hid hc1
  have HV := Lib.hid hv1
  have TT := Lib.hid hT1
  have R1 := Lib.hid hR1
  have F1 := Lib.hid hf1
  clear hc1 hv1 hT1 hR1 hf1
  go_wp2_with fail
  go_ret
  refine ⟨rfl, _, _, evC (k := 2) (by unfold intBd; omega) (zEntryC _ _) HC.out (zHoldingC _ _) (zMatchC _ _) (zStockC _ _) bd0 bd0, vl_mapF (f := fun a => { kind := 2, rate := a }) decF_2 HV.out, ?_, ?_, F1.out⟩
  · rw [TT.out]; first | rfl | (simp only [evCells, List.append_assoc]; rfl) | (simp only [evCells, List.append_assoc])
  · rw [if_pos (by decide), st_mapF (f := fun a => { kind := 2, rate := a }) decF_2]; exact R1.out

set_option maxHeartbeats 1000000 in
set_option maxRecDepth 100000 in
theorem fields_3 (g tb : Nat) (k : Int) (st : Option (List UInt8)) (w0 : World) (hs : RS w0 g st) (hgt : g < tb) (hT : w0.heap[tb]? = some (.cells (zEv k).toArray 45 (0, 0))) (hk : k = 3) :
    Calls Try.prog 34 #[.pointer (some ⟨g, 0, none⟩), .pointer (some ⟨tb, 0, none⟩)] w0 (FRPost k g tb st w0) := by
  subst hk
  have hTlt := blk_lt hT
  have hglt := hs.lt
  have R0 := Lib.hid hs
  have TA := Lib.hid hT
  have c0 : w0.cell? ⟨tb, 0, none⟩ = some (.int .i64 3) := blk_cell hT 0
  clear hs hT
  have T0 : Hid (w0.heap[tb]? = some (.cells (([Value.int .i64 3] ++ zEntry ++ zRate) ++ [Value.int .i64 0, .int .i64 0, .int .i64 0, .int .i64 0] ++ (zMatch ++ zStock ++ [Value.int .i64 0] ++ [Value.int .i64 0] ++ [Value.string ⟨#[]⟩])).toArray 45 (0, 0))) := Lib.hid TA.out
  clear TA
  go_enter Try.func34, Try.ntmps34
  go_wp2_with fail
  refine (Holding_r g tb 12 ([Value.int .i64 3] ++ zEntry ++ zRate) (zMatch ++ zStock ++ [Value.int .i64 0] ++ [Value.int .i64 0] ++ [Value.string ⟨#[]⟩]) 45 st w0 R0.out hgt (by rfl) T0.out).mono ?_
  rintro e w1 ⟨rfl, c1, x1, hc1, hv1, hT1, hR1, hf1⟩
  have HC := Lib.hid hc1
  have HV := Lib.hid hv1
  have TT := Lib.hid hT1
  have R1 := Lib.hid hR1
  have F1 := Lib.hid hf1
  clear hc1 hv1 hT1 hR1 hf1
  go_wp2_with fail
  go_ret
  refine ⟨rfl, _, _, evC (k := 3) (by unfold intBd; omega) (zEntryC _ _) (zRateC _ _) HC.out (zMatchC _ _) (zStockC _ _) bd0 bd0, vl_mapF (f := fun a => { kind := 3, holding := a }) decF_3 HV.out, ?_, ?_, F1.out⟩
  · rw [TT.out]; first | rfl | (simp only [evCells, List.append_assoc]; rfl) | (simp only [evCells, List.append_assoc])
  · rw [if_pos (by decide), st_mapF (f := fun a => { kind := 3, holding := a }) decF_3]; exact R1.out

set_option maxHeartbeats 1000000 in
set_option maxRecDepth 100000 in
theorem fields_4 (g tb : Nat) (k : Int) (st : Option (List UInt8)) (w0 : World) (hs : RS w0 g st) (hgt : g < tb) (hT : w0.heap[tb]? = some (.cells (zEv k).toArray 45 (0, 0))) (hk : k = 4) :
    Calls Try.prog 34 #[.pointer (some ⟨g, 0, none⟩), .pointer (some ⟨tb, 0, none⟩)] w0 (FRPost k g tb st w0) := by
  subst hk
  have hTlt := blk_lt hT
  have hglt := hs.lt
  have R0 := Lib.hid hs
  have TA := Lib.hid hT
  have c0 : w0.cell? ⟨tb, 0, none⟩ = some (.int .i64 4) := blk_cell hT 0
  clear hs hT
  have T0 : Hid (w0.heap[tb]? = some (.cells (([Value.int .i64 4] ++ zEntry ++ zRate ++ zHolding) ++ [Value.int .i64 0, .slice none 0 0, .slice none 0 0, .int .i64 0] ++ (zStock ++ [Value.int .i64 0] ++ [Value.int .i64 0] ++ [Value.string ⟨#[]⟩])).toArray 45 (0, 0))) := Lib.hid TA.out
  clear TA
  go_enter Try.func34, Try.ntmps34
  go_wp2_with fail
  refine (Match_r g tb 16 ([Value.int .i64 4] ++ zEntry ++ zRate ++ zHolding) (zStock ++ [Value.int .i64 0] ++ [Value.int .i64 0] ++ [Value.string ⟨#[]⟩]) 45 st w0 R0.out hgt (by rfl) T0.out).mono ?_
  rintro e w1 ⟨rfl, c1, x1, hc1, hv1, hT1, hR1, hf1⟩
  have HC := Lib.hid hc1
  have HV := Lib.hid hv1
  have TT := Lib.hid hT1
  have R1 := Lib.hid hR1
  have F1 := Lib.hid hf1
  clear hc1 hv1 hT1 hR1 hf1
  go_wp2_with fail
  go_ret
  refine ⟨rfl, _, _, evC (k := 4) (by unfold intBd; omega) (zEntryC _ _) (zRateC _ _) (zHoldingC _ _) HC.out (zStockC _ _) bd0 bd0, vl_mapF (f := fun a => { kind := 4, match_ := a }) decF_4 HV.out, ?_, ?_, F1.out⟩
  · rw [TT.out]; first | rfl | (simp only [evCells, List.append_assoc]; rfl) | (simp only [evCells, List.append_assoc])
  · rw [if_pos (by decide), st_mapF (f := fun a => { kind := 4, match_ := a }) decF_4]; exact R1.out

set_option maxHeartbeats 1000000 in
set_option maxRecDepth 100000 in
theorem fields_5 (g tb : Nat) (k : Int) (st : Option (List UInt8)) (w0 : World) (hs : RS w0 g st) (hgt : g < tb) (hT : w0.heap[tb]? = some (.cells (zEv k).toArray 45 (0, 0))) (hk : k = 5) :
    Calls Try.prog 34 #[.pointer (some ⟨g, 0, none⟩), .pointer (some ⟨tb, 0, none⟩)] w0 (FRPost k g tb st w0) := by
  subst hk
  have hTlt := blk_lt hT
  have hglt := hs.lt
  have R0 := Lib.hid hs
  have TA := Lib.hid hT
  have c0 : w0.cell? ⟨tb, 0, none⟩ = some (.int .i64 5) := blk_cell hT 0
  clear hs hT
  have T0 : Hid (w0.heap[tb]? = some (.cells (([Value.int .i64 5] ++ zEntry ++ zRate ++ zHolding ++ zMatch ++ zStock) ++ iv [0, 0] ++ [Value.string ⟨#[]⟩]).toArray 45 (0, 0))) := Lib.hid TA.out
  clear TA
  go_enter Try.func34, Try.ntmps34
  go_wp2_with fail
  go_region_law (go_simp; go_at_call 33; refine (num_rd g tb 25 ([Value.int .i64 5] ++ zEntry ++ zRate ++ zHolding ++ zMatch ++ zStock) [Value.string ⟨#[]⟩] [0, 0] 45 st (by rfl) (by rfl) (by rfl) R0.out hgt (by rfl) T0.out (by simp [intBd]) (by simp)).mono ?_; rintro e w1 ⟨rfl, ns, hl, hb, hv, hT1, hR1, hf1⟩)
  obtain ⟨a, b, rfl⟩ := two hl
  simp only [List.mem_cons, List.not_mem_nil, or_false, forall_eq_or_imp, forall_eq] at hb
  have HB := Lib.hid hb
  have HV := Lib.hid hv
  have R1 := Lib.hid hR1
  have F1 := Lib.hid hf1
  have TT := Lib.hid hT1
  clear hl hb hv hT1 hR1 hf1
  go_wp2_with fail
  go_ret
  refine ⟨rfl, _, _, evC (k := 5) (a := a) (b := b) (s := ⟨#[]⟩) (by unfold intBd; omega) (zEntryC _ _) (zRateC _ _) (zHoldingC _ _) (zMatchC _ _) (zStockC _ _) HB.out.1 HB.out.2, vl_mapF (c := cAB) (f := fun a => { kind := 5, a := a.1, b := a.2 }) decF_5 (Cod.vl_pair HV.out.1 HV.out.2.1), ?_, ?_, F1.out⟩
  · rw [TT.out]; first | rfl | (simp only [evCells, List.append_assoc]; rfl) | (simp only [evCells, List.append_assoc])
  · rw [if_pos (by decide), st_mapF (c := cAB) (f := fun a => { kind := 5, a := a.1, b := a.2 }) decF_5, show cAB.st st = stI 2 st from Cod.st_pair _ _ _]; exact R1.out

set_option maxHeartbeats 1000000 in
set_option maxRecDepth 100000 in
theorem fields_6 (g tb : Nat) (k : Int) (st : Option (List UInt8)) (w0 : World) (hs : RS w0 g st) (hgt : g < tb) (hT : w0.heap[tb]? = some (.cells (zEv k).toArray 45 (0, 0))) (hk : k = 6) :
    Calls Try.prog 34 #[.pointer (some ⟨g, 0, none⟩), .pointer (some ⟨tb, 0, none⟩)] w0 (FRPost k g tb st w0) := by
  subst hk
  have hTlt := blk_lt hT
  have hglt := hs.lt
  have R0 := Lib.hid hs
  have TA := Lib.hid hT
  have c0 : w0.cell? ⟨tb, 0, none⟩ = some (.int .i64 6) := blk_cell hT 0
  clear hs hT
  have T0 : Hid (w0.heap[tb]? = some (.cells (([Value.int .i64 6] ++ zEntry ++ zRate ++ zHolding ++ zMatch) ++ [Value.int .i64 0, .int .i64 0, .int .i64 0, .int .i64 0, .int .i64 0] ++ ([Value.int .i64 0] ++ [Value.int .i64 0] ++ [Value.string ⟨#[]⟩])).toArray 45 (0, 0))) := Lib.hid TA.out
  clear TA
  go_enter Try.func34, Try.ntmps34
  go_wp2_with fail
  refine (Stock_r g tb 20 ([Value.int .i64 6] ++ zEntry ++ zRate ++ zHolding ++ zMatch) ([Value.int .i64 0] ++ [Value.int .i64 0] ++ [Value.string ⟨#[]⟩]) 45 st w0 R0.out hgt (by rfl) T0.out).mono ?_
  rintro e w1 ⟨rfl, c1, x1, hc1, hv1, hT1, hR1, hf1⟩
  have HC := Lib.hid hc1
  have HV := Lib.hid hv1
  have TT := Lib.hid hT1
  have R1 := Lib.hid hR1
  have F1 := Lib.hid hf1
  clear hc1 hv1 hT1 hR1 hf1
  go_wp2_with fail
  go_ret
  refine ⟨rfl, _, _, evC (k := 6) (by unfold intBd; omega) (zEntryC _ _) (zRateC _ _) (zHoldingC _ _) (zMatchC _ _) HC.out bd0 bd0, vl_mapF (f := fun a => { kind := 6, stock := a }) decF_6 HV.out, ?_, ?_, F1.out⟩
  · rw [TT.out]; first | rfl | (simp only [evCells, List.append_assoc]; rfl) | (simp only [evCells, List.append_assoc])
  · rw [if_pos (by decide), st_mapF (f := fun a => { kind := 6, stock := a }) decF_6]; exact R1.out

set_option maxHeartbeats 1000000 in
set_option maxRecDepth 100000 in
theorem fields_7 (g tb : Nat) (k : Int) (st : Option (List UInt8)) (w0 : World) (hs : RS w0 g st) (hgt : g < tb) (hT : w0.heap[tb]? = some (.cells (zEv k).toArray 45 (0, 0))) (hk : k = 7) :
    Calls Try.prog 34 #[.pointer (some ⟨g, 0, none⟩), .pointer (some ⟨tb, 0, none⟩)] w0 (FRPost k g tb st w0) := by
  subst hk
  have hTlt := blk_lt hT
  have hglt := hs.lt
  have R0 := Lib.hid hs
  have TA := Lib.hid hT
  have c0 : w0.cell? ⟨tb, 0, none⟩ = some (.int .i64 7) := blk_cell hT 0
  clear hs hT
  have T0 : Hid (w0.heap[tb]? = some (.cells (([Value.int .i64 7] ++ zEntry ++ zRate ++ zHolding ++ zMatch ++ zStock ++ [Value.int .i64 0] ++ [Value.int .i64 0]) ++ [Value.string ⟨#[]⟩] ++ []).toArray 45 (0, 0))) := Lib.hid TA.out
  clear TA
  go_enter Try.func34, Try.ntmps34
  go_wp2_with fail
  refine (text_r g tb 27 ([Value.int .i64 7] ++ zEntry ++ zRate ++ zHolding ++ zMatch ++ zStock ++ [Value.int .i64 0] ++ [Value.int .i64 0]) [] 45 st w0 R0.out hgt (by rfl) T0.out).mono ?_
  rintro e w1 ⟨rfl, c1, x1, hc1, hv1, hT1, hR1, hf1⟩
  cases hc1
  have HV := Lib.hid hv1
  have TT := Lib.hid hT1
  have R1 := Lib.hid hR1
  have F1 := Lib.hid hf1
  clear hv1 hT1 hR1 hf1
  go_wp2_with fail
  go_ret
  refine ⟨rfl, _, _, evC (k := 7) (s := x1) (by unfold intBd; omega) (zEntryC _ _) (zRateC _ _) (zHoldingC _ _) (zMatchC _ _) (zStockC _ _) bd0 bd0, vl_mapF (f := fun a => { kind := 7, text := a }) decF_7 HV.out, ?_, ?_, F1.out⟩
  · rw [TT.out]; first | rfl | (simp only [evCells, List.append_assoc]; rfl) | (simp only [evCells, List.append_assoc])
  · rw [if_pos (by decide), st_mapF (f := fun a => { kind := 7, text := a }) decF_7]; exact R1.out

set_option maxHeartbeats 1000000 in
set_option maxRecDepth 100000 in
theorem fields_8 (g tb : Nat) (k : Int) (st : Option (List UInt8)) (w0 : World) (hs : RS w0 g st) (hgt : g < tb) (hT : w0.heap[tb]? = some (.cells (zEv k).toArray 45 (0, 0))) (hk : k = 8) :
    Calls Try.prog 34 #[.pointer (some ⟨g, 0, none⟩), .pointer (some ⟨tb, 0, none⟩)] w0 (FRPost k g tb st w0) := by
  subst hk
  have hTlt := blk_lt hT
  have hglt := hs.lt
  have R0 := Lib.hid hs
  have TA := Lib.hid hT
  have c0 : w0.cell? ⟨tb, 0, none⟩ = some (.int .i64 8) := blk_cell hT 0
  clear hs hT
  have T0 : Hid (w0.heap[tb]? = some (.cells (([Value.int .i64 8] ++ zEntry ++ zRate ++ zHolding ++ zMatch ++ zStock) ++ iv [0, 0] ++ [Value.string ⟨#[]⟩]).toArray 45 (0, 0))) := Lib.hid TA.out
  clear TA
  go_enter Try.func34, Try.ntmps34
  go_wp2_with fail
  go_region_law (go_simp; go_at_call 33; refine (num_rd g tb 25 ([Value.int .i64 8] ++ zEntry ++ zRate ++ zHolding ++ zMatch ++ zStock) [Value.string ⟨#[]⟩] [0, 0] 45 st (by rfl) (by rfl) (by rfl) R0.out hgt (by rfl) T0.out (by simp [intBd]) (by simp)).mono ?_; rintro e w1 ⟨rfl, ns, hl, hb, hv, hT1, hR1, hf1⟩)
  obtain ⟨a, b, rfl⟩ := two hl
  simp only [List.mem_cons, List.not_mem_nil, or_false, forall_eq_or_imp, forall_eq] at hb
  have HB := Lib.hid hb
  have HV := Lib.hid hv
  have R1 := Lib.hid hR1
  have F1 := Lib.hid hf1
  have TT := Lib.hid hT1
  clear hl hb hv hT1 hR1 hf1
  go_wp2_with fail
  go_ret
  refine ⟨rfl, _, _, evC (k := 8) (a := a) (b := b) (s := ⟨#[]⟩) (by unfold intBd; omega) (zEntryC _ _) (zRateC _ _) (zHoldingC _ _) (zMatchC _ _) (zStockC _ _) HB.out.1 HB.out.2, vl_mapF (c := cAB) (f := fun a => { kind := 8, a := a.1, b := a.2 }) decF_8 (Cod.vl_pair HV.out.1 HV.out.2.1), ?_, ?_, F1.out⟩
  · rw [TT.out]; first | rfl | (simp only [evCells, List.append_assoc]; rfl) | (simp only [evCells, List.append_assoc])
  · rw [if_pos (by decide), st_mapF (c := cAB) (f := fun a => { kind := 8, a := a.1, b := a.2 }) decF_8, show cAB.st st = stI 2 st from Cod.st_pair _ _ _]; exact R1.out

set_option maxHeartbeats 1000000 in
set_option maxRecDepth 100000 in
theorem fields_9 (g tb : Nat) (k : Int) (st : Option (List UInt8)) (w0 : World) (hs : RS w0 g st) (hgt : g < tb) (hT : w0.heap[tb]? = some (.cells (zEv k).toArray 45 (0, 0))) (hk : k = 9) :
    Calls Try.prog 34 #[.pointer (some ⟨g, 0, none⟩), .pointer (some ⟨tb, 0, none⟩)] w0 (FRPost k g tb st w0) := by
  subst hk
  have hTlt := blk_lt hT
  have hglt := hs.lt
  have R0 := Lib.hid hs
  have TA := Lib.hid hT
  have c0 : w0.cell? ⟨tb, 0, none⟩ = some (.int .i64 9) := blk_cell hT 0
  clear hs hT
  have T0 : Hid (w0.heap[tb]? = some (.cells (([Value.int .i64 9] ++ zEntry ++ zRate ++ zHolding ++ zMatch ++ zStock) ++ iv [0, 0] ++ [Value.string ⟨#[]⟩]).toArray 45 (0, 0))) := Lib.hid TA.out
  clear TA
  go_enter Try.func34, Try.ntmps34
  go_wp2_with fail
  go_region_law (go_simp; go_at_call 33; refine (num_rd g tb 25 ([Value.int .i64 9] ++ zEntry ++ zRate ++ zHolding ++ zMatch ++ zStock) [Value.string ⟨#[]⟩] [0, 0] 45 st (by rfl) (by rfl) (by rfl) R0.out hgt (by rfl) T0.out (by simp [intBd]) (by simp)).mono ?_; rintro e w1 ⟨rfl, ns, hl, hb, hv, hT1, hR1, hf1⟩)
  obtain ⟨a, b, rfl⟩ := two hl
  simp only [List.mem_cons, List.not_mem_nil, or_false, forall_eq_or_imp, forall_eq] at hb
  have HB := Lib.hid hb
  have HV := Lib.hid hv
  have R1 := Lib.hid hR1
  have F1 := Lib.hid hf1
  have TT := Lib.hid hT1
  clear hl hb hv hT1 hR1 hf1
  go_wp2_with fail
  go_ret
  refine ⟨rfl, _, _, evC (k := 9) (a := a) (b := b) (s := ⟨#[]⟩) (by unfold intBd; omega) (zEntryC _ _) (zRateC _ _) (zHoldingC _ _) (zMatchC _ _) (zStockC _ _) HB.out.1 HB.out.2, vl_mapF (c := cAB) (f := fun a => { kind := 9, a := a.1, b := a.2 }) decF_9 (Cod.vl_pair HV.out.1 HV.out.2.1), ?_, ?_, F1.out⟩
  · rw [TT.out]; first | rfl | (simp only [evCells, List.append_assoc]; rfl) | (simp only [evCells, List.append_assoc])
  · rw [if_pos (by decide), st_mapF (c := cAB) (f := fun a => { kind := 9, a := a.1, b := a.2 }) decF_9, show cAB.st st = stI 2 st from Cod.st_pair _ _ _]; exact R1.out

set_option maxHeartbeats 1000000 in
set_option maxRecDepth 100000 in
theorem fields_10 (g tb : Nat) (k : Int) (st : Option (List UInt8)) (w0 : World) (hs : RS w0 g st) (hgt : g < tb) (hT : w0.heap[tb]? = some (.cells (zEv k).toArray 45 (0, 0))) (hk : k = 10) :
    Calls Try.prog 34 #[.pointer (some ⟨g, 0, none⟩), .pointer (some ⟨tb, 0, none⟩)] w0 (FRPost k g tb st w0) := by
  subst hk
  have hTlt := blk_lt hT
  have hglt := hs.lt
  have R0 := Lib.hid hs
  have TA := Lib.hid hT
  have c0 : w0.cell? ⟨tb, 0, none⟩ = some (.int .i64 10) := blk_cell hT 0
  clear hs hT
  have T0 : Hid (w0.heap[tb]? = some (.cells (([Value.int .i64 10] ++ zEntry ++ zRate ++ zHolding ++ zMatch ++ zStock) ++ iv [0, 0] ++ [Value.string ⟨#[]⟩]).toArray 45 (0, 0))) := Lib.hid TA.out
  clear TA
  go_enter Try.func34, Try.ntmps34
  go_wp2_with fail
  go_region_law (go_simp; go_at_call 33; refine (num_rd g tb 25 ([Value.int .i64 10] ++ zEntry ++ zRate ++ zHolding ++ zMatch ++ zStock) [Value.string ⟨#[]⟩] [0, 0] 45 st (by rfl) (by rfl) (by rfl) R0.out hgt (by rfl) T0.out (by simp [intBd]) (by simp)).mono ?_; rintro e w1 ⟨rfl, ns, hl, hb, hv, hT1, hR1, hf1⟩)
  obtain ⟨a, b, rfl⟩ := two hl
  simp only [List.mem_cons, List.not_mem_nil, or_false, forall_eq_or_imp, forall_eq] at hb
  have HB := Lib.hid hb
  have HV := Lib.hid hv
  have R1 := Lib.hid hR1
  have F1 := Lib.hid hf1
  have T1 : Hid (w1.heap[tb]? = some (.cells (([Value.int .i64 10] ++ zEntry ++ zRate ++ zHolding ++ zMatch ++ zStock ++ [Value.int .i64 a] ++ [Value.int .i64 b]) ++ [Value.string ⟨#[]⟩] ++ []).toArray 45 (0, 0))) := Lib.hid hT1
  clear hl hb hv hT1 hR1 hf1
  go_wp2_with fail
  refine (text_r g tb 27 ([Value.int .i64 10] ++ zEntry ++ zRate ++ zHolding ++ zMatch ++ zStock ++ [Value.int .i64 a] ++ [Value.int .i64 b]) [] 45 _ w1 R1.out hgt (by rfl) T1.out).mono ?_
  rintro e w2 ⟨rfl, c2, x2, hc2, hv2, hT2, hR2, hf2⟩
  cases hc2
  have HV2 := Lib.hid hv2
  have TT := Lib.hid hT2
  have R2 := Lib.hid hR2
  have F2 := Lib.hid hf2
  clear hv2 hT2 hR2 hf2
  go_wp2_with fail
  go_ret
  refine ⟨rfl, _, _, evC (k := 10) (a := a) (b := b) (s := x2) (by unfold intBd; omega) (zEntryC _ _) (zRateC _ _) (zHoldingC _ _) (zMatchC _ _) (zStockC _ _) HB.out.1 HB.out.2, vl_mapF (c := cABT) (f := fun a => { kind := 10, a := a.1, b := a.2.1, text := a.2.2 }) decF_10 (Cod.vl_pair HV.out.1 (Cod.vl_pair HV.out.2.1 HV2.out)), ?_, ?_, Kp.trans F1.out F2.out⟩
  · rw [TT.out]; first | rfl | (simp only [evCells, List.append_assoc]; rfl) | (simp only [evCells, List.append_assoc])
  · rw [if_pos (by decide), st_mapF (c := cABT) (f := fun a => { kind := 10, a := a.1, b := a.2.1, text := a.2.2 }) decF_10, show cABT.st st = cStr.st (stI 2 st) from by rw [cABT, Cod.st_pair, Cod.st_pair]; rfl]; exact R2.out

set_option maxHeartbeats 1000000 in
set_option maxRecDepth 100000 in
theorem fields_no (g tb : Nat) (k : Int) (st : Option (List UInt8)) (w0 : World) (hs : RS w0 g st) (hgt : g < tb) (hT : w0.heap[tb]? = some (.cells (zEv k).toArray 45 (0, 0))) (hkb : intBd k) (hk : known k = false) :
    Calls Try.prog 34 #[.pointer (some ⟨g, 0, none⟩), .pointer (some ⟨tb, 0, none⟩)] w0 (FRPost k g tb st w0) := by
  have hk' : ¬ (1 ≤ k ∧ k ≤ 10) := by simpa [known] using hk
  have R0 := Lib.hid hs
  have TA := Lib.hid hT
  have HK := Lib.hid hk
  have c0 : w0.cell? ⟨tb, 0, none⟩ = some (.int .i64 k) := blk_cell hT 0
  have e1 : (k == 1) = false := by simp; omega
  have e2 : (k == 2) = false := by simp; omega
  have e3 : (k == 3) = false := by simp; omega
  have e4 : (k == 4) = false := by simp; omega
  have e5 : (k == 5) = false := by simp; omega
  have e6 : (k == 6) = false := by simp; omega
  have e7 : (k == 7) = false := by simp; omega
  have e8 : (k == 8) = false := by simp; omega
  have e9 : (k == 9) = false := by simp; omega
  have e10 : (k == 10) = false := by simp; omega
  clear hs hT hk hk'
  go_enter Try.func34, Try.ntmps34
  go_wp2_with fail
  go_ret
  refine ⟨by rw [HK.out]; rfl, zEv k, { kind := k }, evC hkb (zEntryC _ _) (zRateC _ _) (zHoldingC _ _) (zMatchC _ _) (zStockC _ _) bd0 bd0, ?_, TA.out, ?_, Fr.refl _ _⟩
  · intro p hp
    cases st with
    | none => cases hp
    | some l => rw [show (some l).bind (decF k) = decF k l from rfl, decF_no HK.out] at hp; cases hp
  · rw [if_neg (by rw [HK.out]; simp)]; exact R0.out
theorem fields_r (g tb : Nat) (k : Int) (st : Option (List UInt8)) (w0 : World) (hs : RS w0 g st) (hgt : g < tb) (hT : w0.heap[tb]? = some (.cells (zEv k).toArray 45 (0, 0))) (hkb : intBd k) :
    Calls Try.prog 34 #[.pointer (some ⟨g, 0, none⟩), .pointer (some ⟨tb, 0, none⟩)] w0 (FRPost k g tb st w0) := by
  cases hk : known k with
  | false => exact fields_no g tb k st w0 hs hgt hT hkb hk
  | true =>
    rcases kinds hk with h | h | h | h | h | h | h | h | h | h
    · exact fields_1 g tb k st w0 hs hgt hT h
    · exact fields_2 g tb k st w0 hs hgt hT h
    · exact fields_3 g tb k st w0 hs hgt hT h
    · exact fields_4 g tb k st w0 hs hgt hT h
    · exact fields_5 g tb k st w0 hs hgt hT h
    · exact fields_6 g tb k st w0 hs hgt hT h
    · exact fields_7 g tb k st w0 hs hgt hT h
    · exact fields_8 g tb k st w0 hs hgt hT h
    · exact fields_9 g tb k st w0 hs hgt hT h
    · exact fields_10 g tb k st w0 hs hgt hT h
end Go.Proofs.Ytgdibeegheddmaa

namespace Go.Proofs.Ytgdibeegheddmaa
open Go Go.RowKit
set_option linter.unusedVariables false
set_option linter.unusedSimpArgs false
attribute [local go_sem ↓] Go.wp_at_zero Go.wp_at_succ
/-- What a parser hands back: the cells of what is parsed, or zero cells and an error. -/
def PPost {α : Type} (C : World → (Nat → Prop) → List Value → α → Prop) (z : α) (w : World) (r : Option α) (e : Ending) (w' : World) : Prop :=
  ∃ (cs : List Value) (x : α) (n : Int), e = .returned (.tuple #[.agg cs.toArray, .int .i64 n]) ∧ C w' (Nw w w') cs x ∧ Below w.heap.size w w' ∧ ((∃ y, r = some y ∧ n = 0 ∧ x = y) ∨ (r = none ∧ n = 4 ∧ x = z))
theorem results_cell_tmp {P : Program} {fn : Func} {p t : Tmp} {ty : TypeId} (h : fn.results = #[.cell p ty, .tmp t]) (tmps : Array Value) (w : World) (g : Nat) (T : TypeId) (cs : Array Value) (fr : Nat × Nat) (d : TypeDesc)
    (hp : tmps.getD p undef = .pointer (some ⟨g, 0, none⟩)) (hg : w.heap[g]? = some (.cells cs T fr))
    (hu : P.underlying ty = some d) (hd : (match d with | .struct _ | .array _ _ => true | _ => false) = true) (hi : (P.info? ty).map (·.size) = some cs.size) (v : Value) (hv : tmps.getD t undef = v) :
    (results fn tmps).run P w = .ok (.tuple #[.agg cs, v]) w := by
  subst hv
  have hp' : tmps[p]?.getD undef = .pointer (some ⟨g, 0, none⟩) := by simpa using hp
  simp [results, h, hp', asAddr, run_loadVar_row w g T ty cs fr d hg hu hd hi]
theorem zsz : (Try.prog.info? 45).map (·.size) = some zCells.size := by rw [info45]; rfl
theorem zone : zCells.all (·.oneCell') = true := by simp [zCells, Value.oneCell']
theorem decEv_none1 {L : List UInt8} (h : cInt.st (some L) = none) : decEv L = none := by
  have h' : Option.map (·.2) (decInt L) = none := h
  rw [Option.map_eq_none_iff] at h'
  simp [decEv, h']
theorem decInt_some {L l : List UInt8} {k : Int} (h : cInt.st (some L) = some l) (hv : cInt.vl (some L) k) : decInt L = some (k, l) := by
  have h' : Option.map (·.2) (decInt L) = some l := h
  rw [Option.map_eq_some_iff] at h'
  obtain ⟨p, hp, rfl⟩ := h'
  have := hv p hp
  rw [hp, ← this]
theorem decEv_eq {L l : List UInt8} {k : Int} (h : cInt.st (some L) = some l) (hv : cInt.vl (some L) k) : decEv L = decF k l := by
  simp [decEv, decInt_some h hv]
theorem stF_some {k : Int} {l r : List UInt8} {x : XEvent} (h : stF k (some l) = some r) (hv : vlF k (some l) x) : decF k l = some (x, r) := by
  have h' : Option.map (·.2) (decF k l) = some r := h
  rw [Option.map_eq_some_iff] at h'
  obtain ⟨p, hp, rfl⟩ := h'
  have := hv p hp
  rw [hp, ← this]
theorem stF_none {k : Int} {l : List UInt8} (h : stF k (some l) = none) : decF k l = none := by
  have h' : Option.map (·.2) (decF k l) = none := h
  rwa [Option.map_eq_none_iff] at h'

set_option maxHeartbeats 8000000 in
set_option maxRecDepth 100000 in
theorem parseEvent_c (A : Option Addr) (c : Nat) (L : List UInt8) (w : World) (h : Rd w (· < w.heap.size) A L.length 1 (bv L)) (hc : L.length ≤ c) (hl : L.length ≤ 1000000) :
    Calls Try.prog 23 #[.slice A L.length c] w (PPost EventC {} w (parseEv L)) := by
  have HL := Lib.hid h
  obtain ⟨rr, hrr⟩ : ∃ rr, rr = parseEv L := ⟨_, rfl⟩
  rw [← hrr]
  have HRR := Lib.hid hrr
  clear h hrr
  go_enter Try.func23, Try.ntmps23
  go_upto_region 3 with fail
  have h3 := heap3 w (.cells #[.int .i64 0, .int .i64 0, .int .i64 0, .int .i64 0, .int .i64 0, .int .i64 0, .string ⟨#[]⟩, .slice none 0 0, .string ⟨#[]⟩, .int .i64 0, .int .i64 0, .int .i64 0, .int .i64 0, .int .i64 0, .int .i64 0, .int .i64 0, .int .i64 0, .slice none 0 0, .slice none 0 0, .int .i64 0, .int .i64 0, .int .i64 0, .int .i64 0, .int .i64 0, .int .i64 0, .int .i64 0, .int .i64 0, .string ⟨#[]⟩] 45) (.cells #[.slice A L.length c, .bool true, .bool false] 81) (.cells #[.int .i64 0, .int .i64 0, .int .i64 0, .int .i64 0, .int .i64 0, .int .i64 0, .string ⟨#[]⟩, .slice none 0 0, .string ⟨#[]⟩, .int .i64 0, .int .i64 0, .int .i64 0, .int .i64 0, .int .i64 0, .int .i64 0, .int .i64 0, .int .i64 0, .slice none 0 0, .slice none 0 0, .int .i64 0, .int .i64 0, .int .i64 0, .int .i64 0, .int .i64 0, .int .i64 0, .int .i64 0, .int .i64 0, .string ⟨#[]⟩] 45)
  generalize hW : ((w.alloc (.cells #[.int .i64 0, .int .i64 0, .int .i64 0, .int .i64 0, .int .i64 0, .int .i64 0, .string ⟨#[]⟩, .slice none 0 0, .string ⟨#[]⟩, .int .i64 0, .int .i64 0, .int .i64 0, .int .i64 0, .int .i64 0, .int .i64 0, .int .i64 0, .int .i64 0, .slice none 0 0, .slice none 0 0, .int .i64 0, .int .i64 0, .int .i64 0, .int .i64 0, .int .i64 0, .int .i64 0, .int .i64 0, .int .i64 0, .string ⟨#[]⟩] 45)).alloc (.cells #[.slice A L.length c, .bool true, .bool false] 81)).alloc (.cells #[.int .i64 0, .int .i64 0, .int .i64 0, .int .i64 0, .int .i64 0, .int .i64 0, .string ⟨#[]⟩, .slice none 0 0, .string ⟨#[]⟩, .int .i64 0, .int .i64 0, .int .i64 0, .int .i64 0, .int .i64 0, .int .i64 0, .int .i64 0, .int .i64 0, .slice none 0 0, .slice none 0 0, .int .i64 0, .int .i64 0, .int .i64 0, .int .i64 0, .int .i64 0, .int .i64 0, .int .i64 0, .int .i64 0, .string ⟨#[]⟩] 45) = W at *
  obtain ⟨H0, H1, H2, HS, HF⟩ := h3
  clear hW
  have hbW : Below w.heap.size w W := HF.below
  have hR0 : RS W (w.heap.size + 1) (some L) := ⟨A, c, L, false, H1, (HL.out.fr HF).mono (fun k hk => by omega), hc, by omega, rfl, rfl⟩
  have HT0 : W.heap[w.heap.size + 2]? = some (.cells ([] ++ iv [0] ++ (zEntry ++ zRate ++ zHolding ++ zMatch ++ zStock ++ [Value.int .i64 0] ++ [Value.int .i64 0] ++ [Value.string ⟨#[]⟩])).toArray 45 (0, 0)) := H2
  have hW2 : w.heap.size + 3 = W.heap.size := by omega
  have HRES0 := Lib.hid H0
  have HRS0 := Lib.hid hR0
  have HTT0 := Lib.hid HT0
  have HWS := Lib.hid hW2
  have hWlt : w.heap.size + 2 < W.heap.size := by omega
  clear H0 H1 H2 HS HF hR0 HT0 hW2
  go_wp2_with fail
  refine (num_rv (w.heap.size + 1) (w.heap.size + 2) 0 [] (zEntry ++ zRate ++ zHolding ++ zMatch ++ zStock ++ [Value.int .i64 0] ++ [Value.int .i64 0] ++ [Value.string ⟨#[]⟩]) [0] 45 (some L) (by rfl) (by rfl) (by rfl) HRS0.out (by omega) rfl HTT0.out (by simp [intBd]) (by simp)).mono ?_
  rintro e V ⟨rfl, ns, hnl, hnb, hv, hT1, hR1, hf1⟩
  obtain ⟨k, rfl⟩ := one_ hnl
  have hkb : intBd k := hnb k (by simp)
  have hV := hv.1
  have HTV : Hid (V.heap[w.heap.size + 2]? = some (.cells (zEv k).toArray 45 (0, 0))) := Lib.hid hT1
  have HRV : Hid (RS V (w.heap.size + 1) (cInt.st (some L))) := Lib.hid hR1
  have HRES := Lib.hid ((hf1.block w.heap.size ⟨by omega, by omega, by omega⟩).trans HRES0.out)
  have hbV : Below w.heap.size w V := hbW.trans ((hf1.mono (fun i hi => ⟨by omega, by omega, by omega⟩)).below)
  have hVs : W.heap.size ≤ V.heap.size := hf1.size
  have HV := Lib.hid hV
  clear hnl hnb hv hT1 hR1 hf1 hV HRES0 HRS0 HTT0
  by_cases hbig : 65536 < L.length
  · have hbigI : (65536 : Int) < (L.length : Int) := by omega
    have HN := Lib.hid (show rr = none by rw [HRR.out]; unfold parseEv; rw [if_pos hbig])
    clear hbig
    go_wp2_with (refine wpList_store_row rfl 45 (.tmp 2) (.tmp 41) rfl w.heap.size zCells rfl rfl 45 _ HRES.out zsz rfl zone ?_)
    have hfr := fr_setRow V w.heap.size zCells
    (try simp only [Exit.inBlock, Exit.then])
    refine bodyPost_ret (v := .tuple #[.agg zCells, .int .i64 4]) (results_cell_tmp rfl _ _ w.heap.size 45 _ (0, 0) _ rfl (heap_setRow HRES.out _) Try.underlying45 rfl zsz _ rfl) rfl ⟨zEv 0, {}, 4, rfl, evC bd0 (zEntryC _ _) (zRateC _ _) (zHoldingC _ _) (zMatchC _ _) (zStockC _ _) bd0 bd0, (Fr.trans (Fr.ofBelow hbV) (hfr.mono (fun i hi => by omega))).below, .inr ⟨HN.out, rfl, rfl⟩⟩
  · have hbigI : ¬ (65536 : Int) < (L.length : Int) := by omega
    have HPE := Lib.hid (show rr = match decEv L with | some (x, []) => some x | _ => none by rw [HRR.out]; unfold parseEv; rw [if_neg hbig]; rfl)
    clear hbig
    obtain ⟨A1, c1, L1, bad, hG, hrd, hLc, hLL, hst⟩ := HRV.out.open
    have c2 := blk_cell hG 2
    have HG := Lib.hid hG
    clear hG hrd
    cases hs1 : cInt.st (some L) with
    | none =>
      have hb := hst.1 hs1
      subst hb
      have HN := Lib.hid (show rr = none by rw [HPE.out, decEv_none1 hs1])
      clear hs1 hst
      go_wp2_with (refine wpList_store_row rfl 45 (.tmp 2) (.tmp 41) rfl w.heap.size zCells rfl rfl 45 _ HRES.out zsz rfl zone ?_)
      have hfr := fr_setRow V w.heap.size zCells
      (try simp only [Exit.inBlock, Exit.then])
      refine bodyPost_ret (v := .tuple #[.agg zCells, .int .i64 4]) (results_cell_tmp rfl _ _ w.heap.size 45 _ (0, 0) _ rfl (heap_setRow HRES.out _) Try.underlying45 rfl zsz _ rfl) rfl ⟨zEv 0, {}, 4, rfl, evC bd0 (zEntryC _ _) (zRateC _ _) (zHoldingC _ _) (zMatchC _ _) (zStockC _ _) bd0 bd0, (Fr.trans (Fr.ofBelow hbV) (hfr.mono (fun i hi => by omega))).below, .inr ⟨HN.out, rfl, rfl⟩⟩
    | some l1 =>
      have hb := (hst.2 l1 hs1).1
      subst hb
      have HDE := Lib.hid (decEv_eq hs1 HV.out)
      have HR1 : Hid (RS V (w.heap.size + 1) (some l1)) := Lib.hid (by rw [← hs1]; exact HRV.out)
      clear hs1 hst
      go_wp2_with fail
      refine (fields_r (w.heap.size + 1) (w.heap.size + 2) k (some l1) V HR1.out (by omega) HTV.out hkb).mono ?_
      rintro e V2 ⟨rfl, cs, x, hC, hv2, hT2, hR2, hf2⟩
      have HC := Lib.hid hC
      have HV2 := Lib.hid hv2
      have HT2 := Lib.hid hT2
      have HRES := Lib.hid ((hf2.block w.heap.size ⟨by omega, by omega, by omega⟩).trans HRES.out)
      have hbV2 : Below w.heap.size w V2 := hbV.trans ((hf2.mono (fun i hi => ⟨by omega, by omega, by omega⟩)).below)
      have hV2s : V.heap.size ≤ V2.heap.size := hf2.size
      have HR2 := Lib.hid hR2
      clear hC hv2 hT2 hR2 hf2 c2
      cases hkn : known k with
      | false =>
        have HN := Lib.hid (show rr = none by rw [HPE.out, HDE.out, decF_no hkn])
        clear hkn
        go_wp2_with (refine wpList_store_row rfl 45 (.tmp 2) (.tmp 41) rfl w.heap.size zCells rfl rfl 45 _ HRES.out zsz rfl zone ?_)
        have hfr := fr_setRow V2 w.heap.size zCells
        (try simp only [Exit.inBlock, Exit.then])
        refine bodyPost_ret (v := .tuple #[.agg zCells, .int .i64 4]) (results_cell_tmp rfl _ _ w.heap.size 45 _ (0, 0) _ rfl (heap_setRow HRES.out _) Try.underlying45 rfl zsz _ rfl) rfl ⟨zEv 0, {}, 4, rfl, evC bd0 (zEntryC _ _) (zRateC _ _) (zHoldingC _ _) (zMatchC _ _) (zStockC _ _) bd0 bd0, (Fr.trans (Fr.ofBelow hbV2) (hfr.mono (fun i hi => by omega))).below, .inr ⟨HN.out, rfl, rfl⟩⟩
      | true =>
        have HR3 : Hid (RS V2 (w.heap.size + 1) (stF k (some l1))) := Lib.hid (by have := HR2.out; rwa [if_pos hkn] at this)
        clear hkn
        obtain ⟨A3, c3, L3, bad3, hG3, hrd3, hLc3, hLL3, hst3⟩ := HR3.out.open
        have c2 := blk_cell hG3 2
        have c0 := blk_cell hG3 0
        clear hG3 hrd3
        cases hs3 : stF k (some l1) with
        | none =>
          have hb := hst3.1 hs3
          subst hb
          have HN := Lib.hid (show rr = none by rw [HPE.out, HDE.out, stF_none hs3])
          clear hs3 hst3
          go_wp2_with (refine wpList_store_row rfl 45 (.tmp 2) (.tmp 41) rfl w.heap.size zCells rfl rfl 45 _ HRES.out zsz rfl zone ?_)
          have hfr := fr_setRow V2 w.heap.size zCells
          (try simp only [Exit.inBlock, Exit.then])
          refine bodyPost_ret (v := .tuple #[.agg zCells, .int .i64 4]) (results_cell_tmp rfl _ _ w.heap.size 45 _ (0, 0) _ rfl (heap_setRow HRES.out _) Try.underlying45 rfl zsz _ rfl) rfl ⟨zEv 0, {}, 4, rfl, evC bd0 (zEntryC _ _) (zRateC _ _) (zHoldingC _ _) (zMatchC _ _) (zStockC _ _) bd0 bd0, (Fr.trans (Fr.ofBelow hbV2) (hfr.mono (fun i hi => by omega))).below, .inr ⟨HN.out, rfl, rfl⟩⟩
        | some r =>
          obtain ⟨hb, hr⟩ := hst3.2 r hs3
          subst hb hr
          have HDF := Lib.hid (stF_some hs3 HV2.out)
          clear hs3 hst3
          by_cases hr0 : 0 < r.length
          · have hr0I : (0 : Int) < (r.length : Int) := by omega
            have HN := Lib.hid (show rr = none by
              rw [HPE.out, HDE.out, HDF.out]
              cases r with
              | nil => exact absurd hr0 (by simp)
              | cons a r => rfl)
            clear hr0
            go_wp2_with (refine wpList_store_row rfl 45 (.tmp 2) (.tmp 41) rfl w.heap.size zCells rfl rfl 45 _ HRES.out zsz rfl zone ?_)
            have hfr := fr_setRow V2 w.heap.size zCells
            (try simp only [Exit.inBlock, Exit.then])
            refine bodyPost_ret (v := .tuple #[.agg zCells, .int .i64 4]) (results_cell_tmp rfl _ _ w.heap.size 45 _ (0, 0) _ rfl (heap_setRow HRES.out _) Try.underlying45 rfl zsz _ rfl) rfl ⟨zEv 0, {}, 4, rfl, evC bd0 (zEntryC _ _) (zRateC _ _) (zHoldingC _ _) (zMatchC _ _) (zStockC _ _) bd0 bd0, (Fr.trans (Fr.ofBelow hbV2) (hfr.mono (fun i hi => by omega))).below, .inr ⟨HN.out, rfl, rfl⟩⟩
          · have hr0I : ¬ (0 : Int) < (r.length : Int) := by omega
            have HY := Lib.hid (show rr = some x by
              rw [HPE.out, HDE.out, HDF.out]
              cases r with
              | nil => rfl
              | cons a r => exact absurd (Nat.zero_lt_succ _) hr0)
            have HCS := Lib.hid (size45 HC.out.len)
            have HSZ := Lib.hid (zsize HC.out)
            have HONE := Lib.hid HC.out.one
            clear hr0
            go_wp2_with (first | refine wpList_load_row rfl 45 (.tmp 5) rfl (w.heap.size + 2) rfl 45 cs.toArray (0, 0) _ HT2.out Try.underlying45 rfl HCS.out ?_ | refine wpList_store_row rfl 45 (.tmp 2) (.tmp 42) rfl w.heap.size cs.toArray rfl rfl 45 _ HRES.out HCS.out HSZ.out HONE.out ?_)
            have hfr := fr_setRow V2 w.heap.size cs.toArray
            (try simp only [Exit.inBlock, Exit.then])
            refine bodyPost_ret (v := .tuple #[.agg cs.toArray, .int .i64 0]) (results_cell_tmp rfl _ _ w.heap.size 45 _ (0, 0) _ rfl (heap_setRow HRES.out _) Try.underlying45 rfl HCS.out _ rfl) rfl ⟨cs, x, 0, rfl, ?_, (Fr.trans (Fr.ofBelow hbV2) (hfr.mono (fun i hi => by omega))).below, .inl ⟨x, HY.out, rfl, rfl⟩⟩
            exact EventC.mono (EventC.fr HC.out (hfr.mono (fun i hi => by have := hi.1; omega))) (fun i hi => ⟨by have := hi.1; omega, by have := hi.2; have := hfr.size; omega⟩)
end Go.Proofs.Ytgdibeegheddmaa
