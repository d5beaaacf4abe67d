/- The stream reads structs with strings and lists. Written by gen_l4.py. -/
import Derived.Test.YtgdibeegheddmaaYL5Lists
import Derived.Deep.DrawnRows
import Derived.Deep.RegionLaw
namespace Go.Proofs.Ytgdibeegheddmaa
open Go Go.RowKit
set_option linter.unusedVariables false
set_option linter.unusedSimpArgs false
attribute [local go_sem ↓] Go.wp_at_zero Go.wp_at_succ
theorem nwfr {wa wb wc : World} {g tb : Nat} (w0 : World) (h : Fr (Kp wb g tb) wb wc) (hg : g < wa.heap.size) (ht : tb < wa.heap.size) (h0 : wa.heap.size ≤ w0.heap.size) : Fr (Nw w0 wb) wb wc :=
  h.mono (fun k hk => ⟨hk.2, by have := hk.1; omega, by have := hk.1; omega⟩)
theorem nwmo {wa wb w1 w2 : World} (h0 : w1.heap.size ≤ wa.heap.size) (h1 : wb.heap.size ≤ w2.heap.size) : ∀ k, Nw wa wb k → Nw w1 w2 k := fun k hk => ⟨Nat.le_trans h0 hk.1, Nat.lt_of_lt_of_le hk.2 h1⟩
theorem fifteen {α : Type} {l : List α} (h : l.length = 15) : ∃ a0 a1 a2 a3 a4 a5 a6 a7 a8 a9 a10 a11 a12 a13 a14, l = [a0, a1, a2, a3, a4, a5, a6, a7, a8, a9, a10, a11, a12, a13, a14] := by
  match l, h with
  | [a0, a1, a2, a3, a4, a5, a6, a7, a8, a9, a10, a11, a12, a13, a14], _ => exact ⟨a0, a1, a2, a3, a4, a5, a6, a7, a8, a9, a10, a11, a12, a13, a14, rfl⟩
set_option maxHeartbeats 4000000 in
set_option maxRecDepth 100000 in
theorem Rate_r (g tb o : Nat) (pre post : List Value) (t : TypeId) (st : Option (List UInt8)) (w0 : World)
    (hs : RS w0 g st) (hgt : g < tb) (ho : pre.length = o) (hT : w0.heap[tb]? = some (.cells (pre ++ [Value.string ⟨#[]⟩, .int .i64 0, .int .i64 0, .int .i64 0] ++ post).toArray t (0, 0))) :
    Calls Try.prog 59 #[.pointer (some ⟨g, 0, none⟩), .pointer (some ⟨tb, o, none⟩)] w0 (RPost RateC cRate g tb pre post t st w0) := by
  have hTlt := blk_lt hT
  have hglt := hs.lt
  have R0 := Lib.hid hs
  have HO0 := Lib.hid ho
  have T0 : Hid (w0.heap[tb]? = some (.cells (pre ++ [Value.string ⟨#[]⟩] ++ ([Value.int .i64 0, .int .i64 0, .int .i64 0] ++ post)).toArray t (0, 0))) := Lib.hid (by rw [hT]; simp only [List.append_assoc, List.cons_append, List.nil_append])
  clear hs ho hT
  go_enter Try.func59, Try.ntmps59
  go_wp2_with fail
  refine (text_r g tb (o) (pre) ([Value.int .i64 0, .int .i64 0, .int .i64 0] ++ post) t (st) w0 R0.out hgt HO0.out T0.out).mono ?_
  rintro e w1 ⟨rfl, c0, x0, hc0, hv0, hT1, hR1, hf1⟩
  have HC0 := Lib.hid hc0
  have HV0 := Lib.hid hv0
  have hcl0 : c0.length = 1 := StrC.len hc0
  clear hc0 hv0
  have R1 := Lib.hid hR1
  have F1 := Lib.hid hf1
  have sz1 := hf1.size
  have HO1 : Hid ((pre ++ c0).length = o + 1) := Lib.hid (by have := HO0.out; simp only [List.length_append, hcl0]; omega)
  have T1 : Hid (w1.heap[tb]? = some (.cells ((pre ++ c0) ++ [Value.int .i64 0, .int .i64 0, .int .i64 0] ++ (post)).toArray t (0, 0))) := Lib.hid (by rw [hT1]; simp only [List.append_assoc, List.cons_append, List.nil_append])
  clear hT1 hR1 hf1
  go_wp2_with fail
  go_region_law (go_simp; go_at_call 33; refine (num_rd g tb (o + 1) (pre ++ c0) (post) [0, 0, 0] t (cStr.st (st)) (by rfl) (by rfl) (by rfl) R1.out hgt HO1.out T1.out (by simp [intBd]) (by simp)).mono ?_; rintro e w2 ⟨rfl, ns1, hl1, hb1, hv1, hT2, hR2, hf2⟩)
  obtain ⟨a1_0, a1_1, a1_2, rfl⟩ := three hl1
  simp only [List.mem_cons, List.not_mem_nil, or_false, forall_eq_or_imp, forall_eq] at hb1
  have HB1 := Lib.hid hb1
  have HV1 := Lib.hid hv1
  obtain ⟨c1, hc1⟩ : ∃ c, c = iv [a1_0, a1_1, a1_2] := ⟨_, rfl⟩
  rw [← hc1] at hT2
  have HC1 := Lib.hid hc1
  have hcl1 : c1.length = 3 := by rw [hc1]; rfl
  clear hl1 hb1 hv1 hc1
  have R2 := Lib.hid hR2
  have F2 := Lib.hid hf2
  have sz2 := hf2.size
  have TT := Lib.hid hT2
  clear hT2 hR2 hf2
  go_wp2_with fail
  go_end0
  have hvl : cRate.vl st { currency := x0, kind := a1_0, when_ := a1_1, value := a1_2 } := Cod.vl_iso (Cod.vl_pair HV0.out (Cod.vl_pair HV1.out.1 (Cod.vl_pair HV1.out.2.1 (HV1.out.2.2.1))))
  have hst : cRate.st st = stI 3 (cStr.st (st)) := by simp only [cRate, Cod.st_iso, Cod.st_pair] <;> rfl
  have hC : RateC w2 (Nw w0 w2) (c0 ++ c1) { currency := x0, kind := a1_0, when_ := a1_1, value := a1_2 } := ⟨c0, [.int .i64 a1_0], [.int .i64 a1_1], [.int .i64 a1_2], by simp only [HC1.out, iv, List.map_cons, List.map_nil, List.append_assoc, List.cons_append, List.nil_append], HC0.out, ⟨rfl, HB1.out.1⟩, ⟨rfl, HB1.out.2.1⟩, ⟨rfl, HB1.out.2.2⟩⟩
  refine ⟨rfl, c0 ++ c1, _, hC, hvl, ?_, ?_, Kp.trans F1.out F2.out⟩
  · rw [TT.out]; simp only [List.append_assoc]
  · rw [hst]; exact R2.out

set_option maxHeartbeats 4000000 in
set_option maxRecDepth 100000 in
theorem Entry_r (g tb o : Nat) (pre post : List Value) (t : TypeId) (st : Option (List UInt8)) (w0 : World)
    (hs : RS w0 g st) (hgt : g < tb) (ho : pre.length = o) (hT : w0.heap[tb]? = some (.cells (pre ++ [Value.int .i64 0, .int .i64 0, .int .i64 0, .int .i64 0, .int .i64 0, .string ⟨#[]⟩, .slice none 0 0] ++ post).toArray t (0, 0))) :
    Calls Try.prog 58 #[.pointer (some ⟨g, 0, none⟩), .pointer (some ⟨tb, o, none⟩)] w0 (RPost EntryC cEntry g tb pre post t st w0) := by
  have hTlt := blk_lt hT
  have hglt := hs.lt
  have R0 := Lib.hid hs
  have HO0 := Lib.hid ho
  have T0 : Hid (w0.heap[tb]? = some (.cells (pre ++ [Value.int .i64 0, .int .i64 0, .int .i64 0, .int .i64 0, .int .i64 0] ++ ([Value.string ⟨#[]⟩, .slice none 0 0] ++ post)).toArray t (0, 0))) := Lib.hid (by rw [hT]; simp only [List.append_assoc, List.cons_append, List.nil_append])
  clear hs ho hT
  go_enter Try.func58, Try.ntmps58
  go_wp2_with fail
  go_region_law (go_simp; go_at_call 33; refine (num_rd g tb o (pre) ([Value.string ⟨#[]⟩, .slice none 0 0] ++ post) [0, 0, 0, 0, 0] t (st) (by rfl) (by rfl) (by rfl) R0.out hgt HO0.out T0.out (by simp [intBd]) (by simp)).mono ?_; rintro e w1 ⟨rfl, ns0, hl0, hb0, hv0, hT1, hR1, hf1⟩)
  obtain ⟨a0_0, a0_1, a0_2, a0_3, a0_4, rfl⟩ := five hl0
  simp only [List.mem_cons, List.not_mem_nil, or_false, forall_eq_or_imp, forall_eq] at hb0
  have HB0 := Lib.hid hb0
  have HV0 := Lib.hid hv0
  obtain ⟨c0, hc0⟩ : ∃ c, c = iv [a0_0, a0_1, a0_2, a0_3, a0_4] := ⟨_, rfl⟩
  rw [← hc0] at hT1
  have HC0 := Lib.hid hc0
  have hcl0 : c0.length = 5 := by rw [hc0]; rfl
  clear hl0 hb0 hv0 hc0
  have R1 := Lib.hid hR1
  have F1 := Lib.hid hf1
  have sz1 := hf1.size
  have HO1 : Hid ((pre ++ c0).length = o + 5) := Lib.hid (by have := HO0.out; simp only [List.length_append, hcl0]; omega)
  have T1 : Hid (w1.heap[tb]? = some (.cells ((pre ++ c0) ++ [Value.string ⟨#[]⟩] ++ ([Value.slice none 0 0] ++ post)).toArray t (0, 0))) := Lib.hid (by rw [hT1]; simp only [List.append_assoc, List.cons_append, List.nil_append])
  clear hT1 hR1 hf1
  go_wp2_with fail
  refine (text_r g tb (o + 5) (pre ++ c0) ([Value.slice none 0 0] ++ post) t (stI 5 (st)) w1 R1.out hgt HO1.out T1.out).mono ?_
  rintro e w2 ⟨rfl, c1, x1, hc1, hv1, hT2, hR2, hf2⟩
  have HC1 := Lib.hid hc1
  have HV1 := Lib.hid hv1
  have hcl1 : c1.length = 1 := StrC.len hc1
  clear hc1 hv1
  have R2 := Lib.hid hR2
  have F2 := Lib.hid hf2
  have sz2 := hf2.size
  have HO2 : Hid ((pre ++ c0 ++ c1).length = o + 6) := Lib.hid (by have := HO0.out; simp only [List.length_append, hcl0, hcl1]; omega)
  have T2 : Hid (w2.heap[tb]? = some (.cells ((pre ++ c0 ++ c1) ++ [Value.slice none 0 0] ++ (post)).toArray t (0, 0))) := Lib.hid (by rw [hT2]; simp only [List.append_assoc, List.cons_append, List.nil_append])
  clear hT2 hR2 hf2
  go_wp2_with fail
  refine (listLine_r g tb (o + 6) (pre ++ c0 ++ c1) (post) t (cStr.st (stI 5 (st))) w2 R2.out hgt HO2.out T2.out).mono ?_
  rintro e w3 ⟨rfl, c2, x2, hc2, hv2, hT3, hR3, hf3⟩
  have HC2 := Lib.hid hc2
  have HV2 := Lib.hid hv2
  have hcl2 : c2.length = 1 := ListC.len hc2
  clear hc2 hv2
  have R3 := Lib.hid hR3
  have F3 := Lib.hid hf3
  have sz3 := hf3.size
  have TT := Lib.hid hT3
  clear hT3 hR3 hf3
  go_wp2_with fail
  go_end0
  have hvl : cEntry.vl st { id := a0_0, entity := a0_1, date := a0_2, kind := a0_3, of_ := a0_4, text := x1, lines := x2 } := Cod.vl_iso (Cod.vl_pair HV0.out.1 (Cod.vl_pair HV0.out.2.1 (Cod.vl_pair HV0.out.2.2.1 (Cod.vl_pair HV0.out.2.2.2.1 (Cod.vl_pair HV0.out.2.2.2.2.1 (Cod.vl_pair HV1.out (HV2.out)))))))
  have hst : cEntry.st st = (cList cLine).st (cStr.st (stI 5 (st))) := by simp only [cEntry, Cod.st_iso, Cod.st_pair] <;> rfl
  have hC : EntryC w3 (Nw w0 w3) (c0 ++ c1 ++ c2) { id := a0_0, entity := a0_1, date := a0_2, kind := a0_3, of_ := a0_4, text := x1, lines := x2 } := ⟨[.int .i64 a0_0], [.int .i64 a0_1], [.int .i64 a0_2], [.int .i64 a0_3], [.int .i64 a0_4], c1, c2, by simp only [HC0.out, iv, List.map_cons, List.map_nil, List.append_assoc, List.cons_append, List.nil_append], ⟨rfl, HB0.out.1⟩, ⟨rfl, HB0.out.2.1⟩, ⟨rfl, HB0.out.2.2.1⟩, ⟨rfl, HB0.out.2.2.2.1⟩, ⟨rfl, HB0.out.2.2.2.2⟩, HC1.out, (HC2.out.mono (fun h => LineC.mono h (nwmo (by omega) (by omega))) (nwmo (by omega) (by omega)))⟩
  refine ⟨rfl, c0 ++ c1 ++ c2, _, hC, hvl, ?_, ?_, Kp.trans (Kp.trans F1.out F2.out) F3.out⟩
  · rw [TT.out]; simp only [List.append_assoc]
  · rw [hst]; exact R3.out

set_option maxHeartbeats 4000000 in
set_option maxRecDepth 100000 in
theorem Match_r (g tb o : Nat) (pre post : List Value) (t : TypeId) (st : Option (List UInt8)) (w0 : World)
    (hs : RS w0 g st) (hgt : g < tb) (ho : pre.length = o) (hT : w0.heap[tb]? = some (.cells (pre ++ [Value.int .i64 0, .slice none 0 0, .slice none 0 0, .int .i64 0] ++ post).toArray t (0, 0))) :
    Calls Try.prog 61 #[.pointer (some ⟨g, 0, none⟩), .pointer (some ⟨tb, o, none⟩)] w0 (RPost MatchC cMatch g tb pre post t st w0) := by
  have hTlt := blk_lt hT
  have hglt := hs.lt
  have R0 := Lib.hid hs
  have HO0 := Lib.hid ho
  have T0 : Hid (w0.heap[tb]? = some (.cells (pre ++ [Value.int .i64 0] ++ ([Value.slice none 0 0, .slice none 0 0, .int .i64 0] ++ post)).toArray t (0, 0))) := Lib.hid (by rw [hT]; simp only [List.append_assoc, List.cons_append, List.nil_append])
  clear hs ho hT
  go_enter Try.func61, Try.ntmps61
  go_wp2_with fail
  refine (num_rv g tb o (pre) ([Value.slice none 0 0, .slice none 0 0, .int .i64 0] ++ post) [0] t (st) (by rfl) (by rfl) (by rfl) R0.out hgt HO0.out T0.out (by simp [intBd]) (by simp)).mono ?_
  rintro e w1 ⟨rfl, ns0, hl0, hb0, hv0, hT1, hR1, hf1⟩
  obtain ⟨a0_0, rfl⟩ := one_ hl0
  simp only [List.mem_cons, List.not_mem_nil, or_false, forall_eq_or_imp, forall_eq] at hb0
  have HB0 := Lib.hid hb0
  have HV0 := Lib.hid hv0
  obtain ⟨c0, hc0⟩ : ∃ c, c = iv [a0_0] := ⟨_, rfl⟩
  rw [← hc0] at hT1
  have HC0 := Lib.hid hc0
  have hcl0 : c0.length = 1 := by rw [hc0]; rfl
  clear hl0 hb0 hv0 hc0
  have R1 := Lib.hid hR1
  have F1 := Lib.hid hf1
  have sz1 := hf1.size
  have HO1 : Hid ((pre ++ c0).length = o + 1) := Lib.hid (by have := HO0.out; simp only [List.length_append, hcl0]; omega)
  have T1 : Hid (w1.heap[tb]? = some (.cells ((pre ++ c0) ++ [Value.slice none 0 0] ++ ([Value.slice none 0 0, .int .i64 0] ++ post)).toArray t (0, 0))) := Lib.hid (by rw [hT1]; simp only [List.append_assoc, List.cons_append, List.nil_append])
  clear hT1 hR1 hf1
  go_wp2_with fail
  refine (listRef_r g tb (o + 1) (pre ++ c0) ([Value.slice none 0 0, .int .i64 0] ++ post) t (stI 1 (st)) w1 R1.out hgt HO1.out T1.out).mono ?_
  rintro e w2 ⟨rfl, c1, x1, hc1, hv1, hT2, hR2, hf2⟩
  have HC1 := Lib.hid hc1
  have HV1 := Lib.hid hv1
  have hcl1 : c1.length = 1 := ListC.len hc1
  clear hc1 hv1
  have R2 := Lib.hid hR2
  have F2 := Lib.hid hf2
  have sz2 := hf2.size
  have HO2 : Hid ((pre ++ c0 ++ c1).length = o + 2) := Lib.hid (by have := HO0.out; simp only [List.length_append, hcl0, hcl1]; omega)
  have T2 : Hid (w2.heap[tb]? = some (.cells ((pre ++ c0 ++ c1) ++ [Value.slice none 0 0] ++ ([Value.int .i64 0] ++ post)).toArray t (0, 0))) := Lib.hid (by rw [hT2]; simp only [List.append_assoc, List.cons_append, List.nil_append])
  clear hT2 hR2 hf2
  go_wp2_with fail
  refine (listRef_r g tb (o + 2) (pre ++ c0 ++ c1) ([Value.int .i64 0] ++ post) t ((cList cRef).st (stI 1 (st))) w2 R2.out hgt HO2.out T2.out).mono ?_
  rintro e w3 ⟨rfl, c2, x2, hc2, hv2, hT3, hR3, hf3⟩
  have HC2 := Lib.hid hc2
  have HV2 := Lib.hid hv2
  have hcl2 : c2.length = 1 := ListC.len hc2
  clear hc2 hv2
  have R3 := Lib.hid hR3
  have F3 := Lib.hid hf3
  have sz3 := hf3.size
  have HO3 : Hid ((pre ++ c0 ++ c1 ++ c2).length = o + 3) := Lib.hid (by have := HO0.out; simp only [List.length_append, hcl0, hcl1, hcl2]; omega)
  have T3 : Hid (w3.heap[tb]? = some (.cells ((pre ++ c0 ++ c1 ++ c2) ++ [Value.int .i64 0] ++ (post)).toArray t (0, 0))) := Lib.hid (by rw [hT3]; simp only [List.append_assoc, List.cons_append, List.nil_append])
  clear hT3 hR3 hf3
  go_wp2_with fail
  refine (num_rv g tb (o + 3) (pre ++ c0 ++ c1 ++ c2) (post) [0] t ((cList cRef).st ((cList cRef).st (stI 1 (st)))) (by rfl) (by rfl) (by rfl) R3.out hgt HO3.out T3.out (by simp [intBd]) (by simp)).mono ?_
  rintro e w4 ⟨rfl, ns3, hl3, hb3, hv3, hT4, hR4, hf4⟩
  obtain ⟨a3_0, rfl⟩ := one_ hl3
  simp only [List.mem_cons, List.not_mem_nil, or_false, forall_eq_or_imp, forall_eq] at hb3
  have HB3 := Lib.hid hb3
  have HV3 := Lib.hid hv3
  obtain ⟨c3, hc3⟩ : ∃ c, c = iv [a3_0] := ⟨_, rfl⟩
  rw [← hc3] at hT4
  have HC3 := Lib.hid hc3
  have hcl3 : c3.length = 1 := by rw [hc3]; rfl
  clear hl3 hb3 hv3 hc3
  have R4 := Lib.hid hR4
  have F4 := Lib.hid hf4
  have sz4 := hf4.size
  have TT := Lib.hid hT4
  clear hT4 hR4 hf4
  go_wp2_with fail
  go_end0
  have hvl : cMatch.vl st { id := a0_0, left := x1, right := x2, state := a3_0 } := Cod.vl_iso (Cod.vl_pair HV0.out.1 (Cod.vl_pair HV1.out (Cod.vl_pair HV2.out (HV3.out.1))))
  have hst : cMatch.st st = stI 1 ((cList cRef).st ((cList cRef).st (stI 1 (st)))) := by simp only [cMatch, Cod.st_iso, Cod.st_pair] <;> rfl
  have hC : MatchC w4 (Nw w0 w4) (c0 ++ c1 ++ c2 ++ c3) { id := a0_0, left := x1, right := x2, state := a3_0 } := ⟨[.int .i64 a0_0], c1, c2, [.int .i64 a3_0], by simp only [HC0.out, HC3.out, iv, List.map_cons, List.map_nil, List.append_assoc, List.cons_append, List.nil_append], ⟨rfl, HB0.out⟩, ((HC1.out.fr (fun h => RefC.fr h (nwfr w1 (Kp.trans F3.out F4.out) hglt hTlt (by omega))) (nwfr w1 (Kp.trans F3.out F4.out) hglt hTlt (by omega))).mono (fun h => RefC.mono h (nwmo (by omega) (by omega))) (nwmo (by omega) (by omega))), ((HC2.out.fr (fun h => RefC.fr h (nwfr w2 (F4.out) hglt hTlt (by omega))) (nwfr w2 (F4.out) hglt hTlt (by omega))).mono (fun h => RefC.mono h (nwmo (by omega) (by omega))) (nwmo (by omega) (by omega))), ⟨rfl, HB3.out⟩⟩
  refine ⟨rfl, c0 ++ c1 ++ c2 ++ c3, _, hC, hvl, ?_, ?_, Kp.trans (Kp.trans (Kp.trans F1.out F2.out) F3.out) F4.out⟩
  · rw [TT.out]; simp only [List.append_assoc]
  · rw [hst]; exact R4.out

set_option maxHeartbeats 4000000 in
set_option maxRecDepth 100000 in
theorem Entity_r (g tb o : Nat) (pre post : List Value) (t : TypeId) (st : Option (List UInt8)) (w0 : World)
    (hs : RS w0 g st) (hgt : g < tb) (ho : pre.length = o) (hT : w0.heap[tb]? = some (.cells (pre ++ [Value.string ⟨#[]⟩, .string ⟨#[]⟩, .slice none 0 0, .slice none 0 0, .bool false] ++ post).toArray t (0, 0))) :
    Calls Try.prog 83 #[.pointer (some ⟨g, 0, none⟩), .pointer (some ⟨tb, o, none⟩)] w0 (RPost EntityC cEntity g tb pre post t st w0) := by
  have hTlt := blk_lt hT
  have hglt := hs.lt
  have R0 := Lib.hid hs
  have HO0 := Lib.hid ho
  have T0 : Hid (w0.heap[tb]? = some (.cells (pre ++ [Value.string ⟨#[]⟩] ++ ([Value.string ⟨#[]⟩, .slice none 0 0, .slice none 0 0, .bool false] ++ post)).toArray t (0, 0))) := Lib.hid (by rw [hT]; simp only [List.append_assoc, List.cons_append, List.nil_append])
  clear hs ho hT
  go_enter Try.func83, Try.ntmps83
  go_wp2_with fail
  refine (text_r g tb (o) (pre) ([Value.string ⟨#[]⟩, .slice none 0 0, .slice none 0 0, .bool false] ++ post) t (st) w0 R0.out hgt HO0.out T0.out).mono ?_
  rintro e w1 ⟨rfl, c0, x0, hc0, hv0, hT1, hR1, hf1⟩
  have HC0 := Lib.hid hc0
  have HV0 := Lib.hid hv0
  have hcl0 : c0.length = 1 := StrC.len hc0
  clear hc0 hv0
  have R1 := Lib.hid hR1
  have F1 := Lib.hid hf1
  have sz1 := hf1.size
  have HO1 : Hid ((pre ++ c0).length = o + 1) := Lib.hid (by have := HO0.out; simp only [List.length_append, hcl0]; omega)
  have T1 : Hid (w1.heap[tb]? = some (.cells ((pre ++ c0) ++ [Value.string ⟨#[]⟩] ++ ([Value.slice none 0 0, .slice none 0 0, .bool false] ++ post)).toArray t (0, 0))) := Lib.hid (by rw [hT1]; simp only [List.append_assoc, List.cons_append, List.nil_append])
  clear hT1 hR1 hf1
  go_wp2_with fail
  refine (text_r g tb (o + 1) (pre ++ c0) ([Value.slice none 0 0, .slice none 0 0, .bool false] ++ post) t (cStr.st (st)) w1 R1.out hgt HO1.out T1.out).mono ?_
  rintro e w2 ⟨rfl, c1, x1, hc1, hv1, hT2, hR2, hf2⟩
  have HC1 := Lib.hid hc1
  have HV1 := Lib.hid hv1
  have hcl1 : c1.length = 1 := StrC.len hc1
  clear hc1 hv1
  have R2 := Lib.hid hR2
  have F2 := Lib.hid hf2
  have sz2 := hf2.size
  have HO2 : Hid ((pre ++ c0 ++ c1).length = o + 2) := Lib.hid (by have := HO0.out; simp only [List.length_append, hcl0, hcl1]; omega)
  have T2 : Hid (w2.heap[tb]? = some (.cells ((pre ++ c0 ++ c1) ++ [Value.slice none 0 0] ++ ([Value.slice none 0 0, .bool false] ++ post)).toArray t (0, 0))) := Lib.hid (by rw [hT2]; simp only [List.append_assoc, List.cons_append, List.nil_append])
  clear hT2 hR2 hf2
  go_wp2_with fail
  refine (listAccount_r g tb (o + 2) (pre ++ c0 ++ c1) ([Value.slice none 0 0, .bool false] ++ post) t (cStr.st (cStr.st (st))) w2 R2.out hgt HO2.out T2.out).mono ?_
  rintro e w3 ⟨rfl, c2, x2, hc2, hv2, hT3, hR3, hf3⟩
  have HC2 := Lib.hid hc2
  have HV2 := Lib.hid hv2
  have hcl2 : c2.length = 1 := ListC.len hc2
  clear hc2 hv2
  have R3 := Lib.hid hR3
  have F3 := Lib.hid hf3
  have sz3 := hf3.size
  have HO3 : Hid ((pre ++ c0 ++ c1 ++ c2).length = o + 3) := Lib.hid (by have := HO0.out; simp only [List.length_append, hcl0, hcl1, hcl2]; omega)
  have T3 : Hid (w3.heap[tb]? = some (.cells ((pre ++ c0 ++ c1 ++ c2) ++ [Value.slice none 0 0] ++ ([Value.bool false] ++ post)).toArray t (0, 0))) := Lib.hid (by rw [hT3]; simp only [List.append_assoc, List.cons_append, List.nil_append])
  clear hT3 hR3 hf3
  go_wp2_with fail
  refine (listLink_r g tb (o + 3) (pre ++ c0 ++ c1 ++ c2) ([Value.bool false] ++ post) t ((cList cAccount).st (cStr.st (cStr.st (st)))) w3 R3.out hgt HO3.out T3.out).mono ?_
  rintro e w4 ⟨rfl, c3, x3, hc3, hv3, hT4, hR4, hf4⟩
  have HC3 := Lib.hid hc3
  have HV3 := Lib.hid hv3
  have hcl3 : c3.length = 1 := ListC.len hc3
  clear hc3 hv3
  have R4 := Lib.hid hR4
  have F4 := Lib.hid hf4
  have sz4 := hf4.size
  have HO4 : Hid ((pre ++ c0 ++ c1 ++ c2 ++ c3).length = o + 4) := Lib.hid (by have := HO0.out; simp only [List.length_append, hcl0, hcl1, hcl2, hcl3]; omega)
  have T4 : Hid (w4.heap[tb]? = some (.cells ((pre ++ c0 ++ c1 ++ c2 ++ c3) ++ [Value.bool false] ++ (post)).toArray t (0, 0))) := Lib.hid (by rw [hT4]; simp only [List.append_assoc, List.cons_append, List.nil_append])
  clear hT4 hR4 hf4
  go_wp2_with fail
  refine (flag_r g tb (o + 4) (pre ++ c0 ++ c1 ++ c2 ++ c3) (post) t ((cList cLink).st ((cList cAccount).st (cStr.st (cStr.st (st))))) w4 R4.out hgt HO4.out T4.out).mono ?_
  rintro e w5 ⟨rfl, c4, x4, hc4, hv4, hT5, hR5, hf5⟩
  have HC4 := Lib.hid hc4
  have HV4 := Lib.hid hv4
  have hcl4 : c4.length = 1 := BoolC.len hc4
  clear hc4 hv4
  have R5 := Lib.hid hR5
  have F5 := Lib.hid hf5
  have sz5 := hf5.size
  have TT := Lib.hid hT5
  clear hT5 hR5 hf5
  go_wp2_with fail
  go_end0
  have hvl : cEntity.vl st { name := x0, currency := x1, chart := x2, links := x3, joint := x4 } := Cod.vl_iso (Cod.vl_pair HV0.out (Cod.vl_pair HV1.out (Cod.vl_pair HV2.out (Cod.vl_pair HV3.out (HV4.out)))))
  have hst : cEntity.st st = cBool.st ((cList cLink).st ((cList cAccount).st (cStr.st (cStr.st (st))))) := by simp only [cEntity, Cod.st_iso, Cod.st_pair] <;> rfl
  have hC : EntityC w5 (Nw w0 w5) (c0 ++ c1 ++ c2 ++ c3 ++ c4) { name := x0, currency := x1, chart := x2, links := x3, joint := x4 } := ⟨c0, c1, c2, c3, c4, by simp only [List.append_assoc, iv, List.map_cons, List.map_nil, List.append_assoc, List.cons_append, List.nil_append], HC0.out, HC1.out, ((HC2.out.fr (fun h => AccountC.fr h (nwfr w2 (Kp.trans F4.out F5.out) hglt hTlt (by omega))) (nwfr w2 (Kp.trans F4.out F5.out) hglt hTlt (by omega))).mono (fun h => AccountC.mono h (nwmo (by omega) (by omega))) (nwmo (by omega) (by omega))), ((HC3.out.fr (fun h => LinkC.fr h (nwfr w3 (F5.out) hglt hTlt (by omega))) (nwfr w3 (F5.out) hglt hTlt (by omega))).mono (fun h => LinkC.mono h (nwmo (by omega) (by omega))) (nwmo (by omega) (by omega))), HC4.out⟩
  refine ⟨rfl, c0 ++ c1 ++ c2 ++ c3 ++ c4, _, hC, hvl, ?_, ?_, Kp.trans (Kp.trans (Kp.trans (Kp.trans F1.out F2.out) F3.out) F4.out) F5.out⟩
  · rw [TT.out]; simp only [List.append_assoc]
  · rw [hst]; exact R5.out

end Go.Proofs.Ytgdibeegheddmaa
