/- The stream reads groups and books. Written by gen_l4.py. -/
import Derived.Test.YtgdibeegheddmaaYL7Lists
import Derived.Deep.DrawnRows
import Derived.Deep.RegionLaw
namespace Go.Proofs.Ytgdibeegheddmaa
open Go Go.RowKit
set_option linter.unusedVariables false
set_option linter.unusedSimpArgs false
attribute [local go_sem ↓] Go.wp_at_zero Go.wp_at_succ
theorem cal_st (s : Option (List UInt8)) : cCal.st s = stI 3 s := by simp only [cCal, Cod.st_iso, Cod.st_pair]; rfl
theorem roles_st (s : Option (List UInt8)) : cRoles.st s = stI 15 s := by simp only [cRoles, Cod.st_iso, Cod.st_pair]; rfl
set_option maxHeartbeats 4000000 in
set_option maxRecDepth 100000 in
theorem Group_r (g tb o : Nat) (pre post : List Value) (t : TypeId) (st : Option (List UInt8)) (w0 : World)
    (hs : RS w0 g st) (hgt : g < tb) (ho : pre.length = o) (hT : w0.heap[tb]? = some (.cells (pre ++ [Value.string ⟨#[]⟩, .int .i64 0, .int .i64 0, .int .i64 0, .slice none 0 0, .int .i64 0, .int .i64 0, .int .i64 0, .int .i64 0, .int .i64 0, .int .i64 0, .int .i64 0, .int .i64 0, .int .i64 0, .int .i64 0, .int .i64 0, .int .i64 0, .int .i64 0, .int .i64 0, .int .i64 0, .slice none 0 0] ++ post).toArray t (0, 0))) :
    Calls Try.prog 67 #[.pointer (some ⟨g, 0, none⟩), .pointer (some ⟨tb, o, none⟩)] w0 (RPost GroupC cGroup g tb pre post t st w0) := by
  have hTlt := blk_lt hT
  have hglt := hs.lt
  have R0 := Lib.hid hs
  have HO0 := Lib.hid ho
  have T0 : Hid (w0.heap[tb]? = some (.cells (pre ++ [Value.string ⟨#[]⟩] ++ ([Value.int .i64 0, .int .i64 0, .int .i64 0, .slice none 0 0, .int .i64 0, .int .i64 0, .int .i64 0, .int .i64 0, .int .i64 0, .int .i64 0, .int .i64 0, .int .i64 0, .int .i64 0, .int .i64 0, .int .i64 0, .int .i64 0, .int .i64 0, .int .i64 0, .int .i64 0, .slice none 0 0] ++ post)).toArray t (0, 0))) := Lib.hid (by rw [hT]; simp only [List.append_assoc, List.cons_append, List.nil_append])
  clear hs ho hT
  go_enter Try.func67, Try.ntmps67
  go_wp2_with fail
  refine (text_r g tb (o) (pre) ([Value.int .i64 0, .int .i64 0, .int .i64 0, .slice none 0 0, .int .i64 0, .int .i64 0, .int .i64 0, .int .i64 0, .int .i64 0, .int .i64 0, .int .i64 0, .int .i64 0, .int .i64 0, .int .i64 0, .int .i64 0, .int .i64 0, .int .i64 0, .int .i64 0, .int .i64 0, .slice none 0 0] ++ post) t (st) w0 R0.out hgt HO0.out T0.out).mono ?_
  rintro e w1 ⟨rfl, c0, x0, hc0, hv0, hT1, hR1, hf1⟩
  have HC0 := Lib.hid hc0
  have HV0 := Lib.hid hv0
  have hcl0 : c0.length = 1 := StrC.len hc0
  clear hc0 hv0
  have R1 := Lib.hid hR1
  have F1 := Lib.hid hf1
  have sz1 := hf1.size
  have HO1 : Hid ((pre ++ c0).length = o + 1) := Lib.hid (by have := HO0.out; simp only [List.length_append, hcl0]; omega)
  have T1 : Hid (w1.heap[tb]? = some (.cells ((pre ++ c0) ++ [Value.int .i64 0, .int .i64 0, .int .i64 0] ++ ([Value.slice none 0 0, .int .i64 0, .int .i64 0, .int .i64 0, .int .i64 0, .int .i64 0, .int .i64 0, .int .i64 0, .int .i64 0, .int .i64 0, .int .i64 0, .int .i64 0, .int .i64 0, .int .i64 0, .int .i64 0, .int .i64 0, .slice none 0 0] ++ post)).toArray t (0, 0))) := Lib.hid (by rw [hT1]; simp only [List.append_assoc, List.cons_append, List.nil_append])
  clear hT1 hR1 hf1
  go_wp2_with fail
  go_region_law (go_simp; go_at_call 33; refine (num_rd g tb (o + 1) (pre ++ c0) ([Value.slice none 0 0, .int .i64 0, .int .i64 0, .int .i64 0, .int .i64 0, .int .i64 0, .int .i64 0, .int .i64 0, .int .i64 0, .int .i64 0, .int .i64 0, .int .i64 0, .int .i64 0, .int .i64 0, .int .i64 0, .int .i64 0, .slice none 0 0] ++ post) [0, 0, 0] t (cStr.st (st)) (by rfl) (by rfl) (by rfl) R1.out hgt HO1.out T1.out (by simp [intBd]) (by simp)).mono ?_; rintro e w2 ⟨rfl, ns1, hl1, hb1, hv1, hT2, hR2, hf2⟩)
  obtain ⟨a1_0, a1_1, a1_2, rfl⟩ := three hl1
  simp only [List.mem_cons, List.not_mem_nil, or_false, forall_eq_or_imp, forall_eq] at hb1
  have HB1 := Lib.hid hb1
  have HV1 := Lib.hid hv1
  obtain ⟨c1, hc1⟩ : ∃ c, c = iv [a1_0, a1_1, a1_2] := ⟨_, rfl⟩
  rw [← hc1] at hT2
  have HC1 := Lib.hid hc1
  have hcl1 : c1.length = 3 := by rw [hc1]; rfl
  clear hl1 hb1 hv1 hc1
  have R2 := Lib.hid hR2
  have F2 := Lib.hid hf2
  have sz2 := hf2.size
  have HO2 : Hid ((pre ++ c0 ++ c1).length = o + 4) := Lib.hid (by have := HO0.out; simp only [List.length_append, hcl0, hcl1]; omega)
  have T2 : Hid (w2.heap[tb]? = some (.cells ((pre ++ c0 ++ c1) ++ [Value.slice none 0 0] ++ ([Value.int .i64 0, .int .i64 0, .int .i64 0, .int .i64 0, .int .i64 0, .int .i64 0, .int .i64 0, .int .i64 0, .int .i64 0, .int .i64 0, .int .i64 0, .int .i64 0, .int .i64 0, .int .i64 0, .int .i64 0, .slice none 0 0] ++ post)).toArray t (0, 0))) := Lib.hid (by rw [hT2]; simp only [List.append_assoc, List.cons_append, List.nil_append])
  clear hT2 hR2 hf2
  go_wp2_with fail
  refine (listAccount_r g tb (o + 4) (pre ++ c0 ++ c1) ([Value.int .i64 0, .int .i64 0, .int .i64 0, .int .i64 0, .int .i64 0, .int .i64 0, .int .i64 0, .int .i64 0, .int .i64 0, .int .i64 0, .int .i64 0, .int .i64 0, .int .i64 0, .int .i64 0, .int .i64 0, .slice none 0 0] ++ post) t (stI 3 (cStr.st (st))) w2 R2.out hgt HO2.out T2.out).mono ?_
  rintro e w3 ⟨rfl, c2, x2, hc2, hv2, hT3, hR3, hf3⟩
  have HC2 := Lib.hid hc2
  have HV2 := Lib.hid hv2
  have hcl2 : c2.length = 1 := ListC.len hc2
  clear hc2 hv2
  have R3 := Lib.hid hR3
  have F3 := Lib.hid hf3
  have sz3 := hf3.size
  have HO3 : Hid ((pre ++ c0 ++ c1 ++ c2).length = o + 5) := Lib.hid (by have := HO0.out; simp only [List.length_append, hcl0, hcl1, hcl2]; omega)
  have T3 : Hid (w3.heap[tb]? = some (.cells ((pre ++ c0 ++ c1 ++ c2) ++ [Value.int .i64 0, .int .i64 0, .int .i64 0, .int .i64 0, .int .i64 0, .int .i64 0, .int .i64 0, .int .i64 0, .int .i64 0, .int .i64 0, .int .i64 0, .int .i64 0, .int .i64 0, .int .i64 0, .int .i64 0] ++ ([Value.slice none 0 0] ++ post)).toArray t (0, 0))) := Lib.hid (by rw [hT3]; simp only [List.append_assoc, List.cons_append, List.nil_append])
  clear hT3 hR3 hf3
  go_wp2_with fail
  go_region_law (go_simp; go_at_call 33; refine (num_rd g tb (o + 5) (pre ++ c0 ++ c1 ++ c2) ([Value.slice none 0 0] ++ post) [0, 0, 0, 0, 0, 0, 0, 0, 0, 0, 0, 0, 0, 0, 0] t ((cList cAccount).st (stI 3 (cStr.st (st)))) (by rfl) (by rfl) (by rfl) R3.out hgt HO3.out T3.out (by simp [intBd]) (by simp)).mono ?_; rintro e w4 ⟨rfl, ns3, hl3, hb3, hv3, hT4, hR4, hf4⟩)
  obtain ⟨a3_0, a3_1, a3_2, a3_3, a3_4, a3_5, a3_6, a3_7, a3_8, a3_9, a3_10, a3_11, a3_12, a3_13, a3_14, rfl⟩ := fifteen hl3
  simp only [List.mem_cons, List.not_mem_nil, or_false, forall_eq_or_imp, forall_eq] at hb3
  have HB3 := Lib.hid hb3
  have HV3 := Lib.hid hv3
  obtain ⟨c3, hc3⟩ : ∃ c, c = iv [a3_0, a3_1, a3_2, a3_3, a3_4, a3_5, a3_6, a3_7, a3_8, a3_9, a3_10, a3_11, a3_12, a3_13, a3_14] := ⟨_, rfl⟩
  rw [← hc3] at hT4
  have HC3 := Lib.hid hc3
  have hcl3 : c3.length = 15 := by rw [hc3]; rfl
  clear hl3 hb3 hv3 hc3
  have R4 := Lib.hid hR4
  have F4 := Lib.hid hf4
  have sz4 := hf4.size
  have HO4 : Hid ((pre ++ c0 ++ c1 ++ c2 ++ c3).length = o + 20) := Lib.hid (by have := HO0.out; simp only [List.length_append, hcl0, hcl1, hcl2, hcl3]; omega)
  have T4 : Hid (w4.heap[tb]? = some (.cells ((pre ++ c0 ++ c1 ++ c2 ++ c3) ++ [Value.slice none 0 0] ++ (post)).toArray t (0, 0))) := Lib.hid (by rw [hT4]; simp only [List.append_assoc, List.cons_append, List.nil_append])
  clear hT4 hR4 hf4
  go_wp2_with fail
  refine (listEntity_r g tb (o + 20) (pre ++ c0 ++ c1 ++ c2 ++ c3) (post) t (stI 15 ((cList cAccount).st (stI 3 (cStr.st (st))))) w4 R4.out hgt HO4.out T4.out).mono ?_
  rintro e w5 ⟨rfl, c4, x4, hc4, hv4, hT5, hR5, hf5⟩
  have HC4 := Lib.hid hc4
  have HV4 := Lib.hid hv4
  have hcl4 : c4.length = 1 := ListC.len hc4
  clear hc4 hv4
  have R5 := Lib.hid hR5
  have F5 := Lib.hid hf5
  have sz5 := hf5.size
  have TT := Lib.hid hT5
  clear hT5 hR5 hf5
  go_wp2_with fail
  go_end0
  have hvl : cGroup.vl st { currency := x0, calendar := ⟨a1_0, a1_1, a1_2⟩, chart := x2, roles := ⟨a3_0, a3_1, a3_2, a3_3, a3_4, a3_5, a3_6, a3_7, a3_8, a3_9, a3_10, a3_11, a3_12, a3_13, a3_14⟩, entities := x4 } := Cod.vl_iso (Cod.vl_pair HV0.out (Cod.vl_pair (Cod.vl_iso (Cod.vl_pair HV1.out.1 (Cod.vl_pair HV1.out.2.1 (HV1.out.2.2.1)))) (by rw [cal_st]; exact Cod.vl_pair HV2.out (Cod.vl_pair (Cod.vl_iso (Cod.vl_pair HV3.out.1 (Cod.vl_pair HV3.out.2.1 (Cod.vl_pair HV3.out.2.2.1 (Cod.vl_pair HV3.out.2.2.2.1 (Cod.vl_pair HV3.out.2.2.2.2.1 (Cod.vl_pair HV3.out.2.2.2.2.2.1 (Cod.vl_pair HV3.out.2.2.2.2.2.2.1 (Cod.vl_pair HV3.out.2.2.2.2.2.2.2.1 (Cod.vl_pair HV3.out.2.2.2.2.2.2.2.2.1 (Cod.vl_pair HV3.out.2.2.2.2.2.2.2.2.2.1 (Cod.vl_pair HV3.out.2.2.2.2.2.2.2.2.2.2.1 (Cod.vl_pair HV3.out.2.2.2.2.2.2.2.2.2.2.2.1 (Cod.vl_pair HV3.out.2.2.2.2.2.2.2.2.2.2.2.2.1 (Cod.vl_pair HV3.out.2.2.2.2.2.2.2.2.2.2.2.2.2.1 (HV3.out.2.2.2.2.2.2.2.2.2.2.2.2.2.2.1)))))))))))))))) (by rw [roles_st]; exact HV4.out)))))
  have hst : cGroup.st st = (cList cEntity).st (stI 15 ((cList cAccount).st (stI 3 (cStr.st (st))))) := by simp only [cGroup, cCal, cRoles, Cod.st_iso, Cod.st_pair] <;> rfl
  have hC : GroupC w5 (Nw w0 w5) (c0 ++ c1 ++ c2 ++ c3 ++ c4) { currency := x0, calendar := ⟨a1_0, a1_1, a1_2⟩, chart := x2, roles := ⟨a3_0, a3_1, a3_2, a3_3, a3_4, a3_5, a3_6, a3_7, a3_8, a3_9, a3_10, a3_11, a3_12, a3_13, a3_14⟩, entities := x4 } := ⟨c0, iv [a1_0, a1_1, a1_2], c2, iv [a3_0, a3_1, a3_2, a3_3, a3_4, a3_5, a3_6, a3_7, a3_8, a3_9, a3_10, a3_11, a3_12, a3_13, a3_14], c4, by simp only [HC1.out, HC3.out, iv, List.map_cons, List.map_nil, List.append_assoc, List.cons_append, List.nil_append], HC0.out, ⟨_, _, _, rfl, ⟨rfl, HB1.out.1⟩, ⟨rfl, HB1.out.2.1⟩, ⟨rfl, HB1.out.2.2⟩⟩, ((HC2.out.fr (fun h => AccountC.fr h (nwfr w2 (Kp.trans F4.out F5.out) hglt hTlt (by omega))) (nwfr w2 (Kp.trans F4.out F5.out) hglt hTlt (by omega))).mono (fun h => AccountC.mono h (nwmo (by omega) (by omega))) (nwmo (by omega) (by omega))), ⟨_, _, _, _, _, _, _, _, _, _, _, _, _, _, _, rfl, ⟨rfl, HB3.out.1⟩, ⟨rfl, HB3.out.2.1⟩, ⟨rfl, HB3.out.2.2.1⟩, ⟨rfl, HB3.out.2.2.2.1⟩, ⟨rfl, HB3.out.2.2.2.2.1⟩, ⟨rfl, HB3.out.2.2.2.2.2.1⟩, ⟨rfl, HB3.out.2.2.2.2.2.2.1⟩, ⟨rfl, HB3.out.2.2.2.2.2.2.2.1⟩, ⟨rfl, HB3.out.2.2.2.2.2.2.2.2.1⟩, ⟨rfl, HB3.out.2.2.2.2.2.2.2.2.2.1⟩, ⟨rfl, HB3.out.2.2.2.2.2.2.2.2.2.2.1⟩, ⟨rfl, HB3.out.2.2.2.2.2.2.2.2.2.2.2.1⟩, ⟨rfl, HB3.out.2.2.2.2.2.2.2.2.2.2.2.2.1⟩, ⟨rfl, HB3.out.2.2.2.2.2.2.2.2.2.2.2.2.2.1⟩, ⟨rfl, HB3.out.2.2.2.2.2.2.2.2.2.2.2.2.2.2⟩⟩, (HC4.out.mono (fun h => EntityC.mono h (nwmo (by omega) (by omega))) (nwmo (by omega) (by omega)))⟩
  refine ⟨rfl, c0 ++ c1 ++ c2 ++ c3 ++ c4, _, hC, hvl, ?_, ?_, Kp.trans (Kp.trans (Kp.trans (Kp.trans F1.out F2.out) F3.out) F4.out) F5.out⟩
  · rw [TT.out]; simp only [List.append_assoc]
  · rw [hst]; exact R5.out

set_option maxHeartbeats 4000000 in
set_option maxRecDepth 100000 in
theorem Books_r (g tb o : Nat) (pre post : List Value) (t : TypeId) (st : Option (List UInt8)) (w0 : World)
    (hs : RS w0 g st) (hgt : g < tb) (ho : pre.length = o) (hT : w0.heap[tb]? = some (.cells (pre ++ [Value.string ⟨#[]⟩, .int .i64 0, .int .i64 0, .int .i64 0, .slice none 0 0, .int .i64 0, .int .i64 0, .int .i64 0, .int .i64 0, .int .i64 0, .int .i64 0, .int .i64 0, .int .i64 0, .int .i64 0, .int .i64 0, .int .i64 0, .int .i64 0, .int .i64 0, .int .i64 0, .int .i64 0, .slice none 0 0, .slice none 0 0, .slice none 0 0, .slice none 0 0, .slice none 0 0, .slice none 0 0, .string ⟨#[]⟩] ++ post).toArray t (0, 0))) :
    Calls Try.prog 54 #[.pointer (some ⟨g, 0, none⟩), .pointer (some ⟨tb, o, none⟩)] w0 (RPost BooksC cBooks g tb pre post t st w0) := by
  have hTlt := blk_lt hT
  have hglt := hs.lt
  have R0 := Lib.hid hs
  have HO0 := Lib.hid ho
  have T0 : Hid (w0.heap[tb]? = some (.cells (pre ++ [Value.string ⟨#[]⟩, .int .i64 0, .int .i64 0, .int .i64 0, .slice none 0 0, .int .i64 0, .int .i64 0, .int .i64 0, .int .i64 0, .int .i64 0, .int .i64 0, .int .i64 0, .int .i64 0, .int .i64 0, .int .i64 0, .int .i64 0, .int .i64 0, .int .i64 0, .int .i64 0, .int .i64 0, .slice none 0 0] ++ ([Value.slice none 0 0, .slice none 0 0, .slice none 0 0, .slice none 0 0, .slice none 0 0, .string ⟨#[]⟩] ++ post)).toArray t (0, 0))) := Lib.hid (by rw [hT]; simp only [List.append_assoc, List.cons_append, List.nil_append])
  clear hs ho hT
  go_enter Try.func54, Try.ntmps54
  go_wp2_with fail
  refine (Group_r g tb (o) (pre) ([Value.slice none 0 0, .slice none 0 0, .slice none 0 0, .slice none 0 0, .slice none 0 0, .string ⟨#[]⟩] ++ post) t (st) w0 R0.out hgt HO0.out T0.out).mono ?_
  rintro e w1 ⟨rfl, c0, x0, hc0, hv0, hT1, hR1, hf1⟩
  have HC0 := Lib.hid hc0
  have HV0 := Lib.hid hv0
  have hcl0 : c0.length = 21 := hc0.len
  clear hc0 hv0
  have R1 := Lib.hid hR1
  have F1 := Lib.hid hf1
  have sz1 := hf1.size
  have HO1 : Hid ((pre ++ c0).length = o + 21) := Lib.hid (by have := HO0.out; simp only [List.length_append, hcl0]; omega)
  have T1 : Hid (w1.heap[tb]? = some (.cells ((pre ++ c0) ++ [Value.slice none 0 0] ++ ([Value.slice none 0 0, .slice none 0 0, .slice none 0 0, .slice none 0 0, .string ⟨#[]⟩] ++ post)).toArray t (0, 0))) := Lib.hid (by rw [hT1]; simp only [List.append_assoc, List.cons_append, List.nil_append])
  clear hT1 hR1 hf1
  go_wp2_with fail
  refine (listEntry_r g tb (o + 21) (pre ++ c0) ([Value.slice none 0 0, .slice none 0 0, .slice none 0 0, .slice none 0 0, .string ⟨#[]⟩] ++ post) t (cGroup.st (st)) w1 R1.out hgt HO1.out T1.out).mono ?_
  rintro e w2 ⟨rfl, c1, x1, hc1, hv1, hT2, hR2, hf2⟩
  have HC1 := Lib.hid hc1
  have HV1 := Lib.hid hv1
  have hcl1 : c1.length = 1 := ListC.len hc1
  clear hc1 hv1
  have R2 := Lib.hid hR2
  have F2 := Lib.hid hf2
  have sz2 := hf2.size
  have HO2 : Hid ((pre ++ c0 ++ c1).length = o + 22) := Lib.hid (by have := HO0.out; simp only [List.length_append, hcl0, hcl1]; omega)
  have T2 : Hid (w2.heap[tb]? = some (.cells ((pre ++ c0 ++ c1) ++ [Value.slice none 0 0] ++ ([Value.slice none 0 0, .slice none 0 0, .slice none 0 0, .string ⟨#[]⟩] ++ post)).toArray t (0, 0))) := Lib.hid (by rw [hT2]; simp only [List.append_assoc, List.cons_append, List.nil_append])
  clear hT2 hR2 hf2
  go_wp2_with fail
  refine (listRate_r g tb (o + 22) (pre ++ c0 ++ c1) ([Value.slice none 0 0, .slice none 0 0, .slice none 0 0, .string ⟨#[]⟩] ++ post) t ((cList cEntry).st (cGroup.st (st))) w2 R2.out hgt HO2.out T2.out).mono ?_
  rintro e w3 ⟨rfl, c2, x2, hc2, hv2, hT3, hR3, hf3⟩
  have HC2 := Lib.hid hc2
  have HV2 := Lib.hid hv2
  have hcl2 : c2.length = 1 := ListC.len hc2
  clear hc2 hv2
  have R3 := Lib.hid hR3
  have F3 := Lib.hid hf3
  have sz3 := hf3.size
  have HO3 : Hid ((pre ++ c0 ++ c1 ++ c2).length = o + 23) := Lib.hid (by have := HO0.out; simp only [List.length_append, hcl0, hcl1, hcl2]; omega)
  have T3 : Hid (w3.heap[tb]? = some (.cells ((pre ++ c0 ++ c1 ++ c2) ++ [Value.slice none 0 0] ++ ([Value.slice none 0 0, .slice none 0 0, .string ⟨#[]⟩] ++ post)).toArray t (0, 0))) := Lib.hid (by rw [hT3]; simp only [List.append_assoc, List.cons_append, List.nil_append])
  clear hT3 hR3 hf3
  go_wp2_with fail
  refine (listHolding_r g tb (o + 23) (pre ++ c0 ++ c1 ++ c2) ([Value.slice none 0 0, .slice none 0 0, .string ⟨#[]⟩] ++ post) t ((cList cRate).st ((cList cEntry).st (cGroup.st (st)))) w3 R3.out hgt HO3.out T3.out).mono ?_
  rintro e w4 ⟨rfl, c3, x3, hc3, hv3, hT4, hR4, hf4⟩
  have HC3 := Lib.hid hc3
  have HV3 := Lib.hid hv3
  have hcl3 : c3.length = 1 := ListC.len hc3
  clear hc3 hv3
  have R4 := Lib.hid hR4
  have F4 := Lib.hid hf4
  have sz4 := hf4.size
  have HO4 : Hid ((pre ++ c0 ++ c1 ++ c2 ++ c3).length = o + 24) := Lib.hid (by have := HO0.out; simp only [List.length_append, hcl0, hcl1, hcl2, hcl3]; omega)
  have T4 : Hid (w4.heap[tb]? = some (.cells ((pre ++ c0 ++ c1 ++ c2 ++ c3) ++ [Value.slice none 0 0] ++ ([Value.slice none 0 0, .string ⟨#[]⟩] ++ post)).toArray t (0, 0))) := Lib.hid (by rw [hT4]; simp only [List.append_assoc, List.cons_append, List.nil_append])
  clear hT4 hR4 hf4
  go_wp2_with fail
  refine (listMatch_r g tb (o + 24) (pre ++ c0 ++ c1 ++ c2 ++ c3) ([Value.slice none 0 0, .string ⟨#[]⟩] ++ post) t ((cList cHolding).st ((cList cRate).st ((cList cEntry).st (cGroup.st (st))))) w4 R4.out hgt HO4.out T4.out).mono ?_
  rintro e w5 ⟨rfl, c4, x4, hc4, hv4, hT5, hR5, hf5⟩
  have HC4 := Lib.hid hc4
  have HV4 := Lib.hid hv4
  have hcl4 : c4.length = 1 := ListC.len hc4
  clear hc4 hv4
  have R5 := Lib.hid hR5
  have F5 := Lib.hid hf5
  have sz5 := hf5.size
  have HO5 : Hid ((pre ++ c0 ++ c1 ++ c2 ++ c3 ++ c4).length = o + 25) := Lib.hid (by have := HO0.out; simp only [List.length_append, hcl0, hcl1, hcl2, hcl3, hcl4]; omega)
  have T5 : Hid (w5.heap[tb]? = some (.cells ((pre ++ c0 ++ c1 ++ c2 ++ c3 ++ c4) ++ [Value.slice none 0 0] ++ ([Value.string ⟨#[]⟩] ++ post)).toArray t (0, 0))) := Lib.hid (by rw [hT5]; simp only [List.append_assoc, List.cons_append, List.nil_append])
  clear hT5 hR5 hf5
  go_wp2_with fail
  refine (listStock_r g tb (o + 25) (pre ++ c0 ++ c1 ++ c2 ++ c3 ++ c4) ([Value.string ⟨#[]⟩] ++ post) t ((cList cMatch).st ((cList cHolding).st ((cList cRate).st ((cList cEntry).st (cGroup.st (st)))))) w5 R5.out hgt HO5.out T5.out).mono ?_
  rintro e w6 ⟨rfl, c5, x5, hc5, hv5, hT6, hR6, hf6⟩
  have HC5 := Lib.hid hc5
  have HV5 := Lib.hid hv5
  have hcl5 : c5.length = 1 := ListC.len hc5
  clear hc5 hv5
  have R6 := Lib.hid hR6
  have F6 := Lib.hid hf6
  have sz6 := hf6.size
  have HO6 : Hid ((pre ++ c0 ++ c1 ++ c2 ++ c3 ++ c4 ++ c5).length = o + 26) := Lib.hid (by have := HO0.out; simp only [List.length_append, hcl0, hcl1, hcl2, hcl3, hcl4, hcl5]; omega)
  have T6 : Hid (w6.heap[tb]? = some (.cells ((pre ++ c0 ++ c1 ++ c2 ++ c3 ++ c4 ++ c5) ++ [Value.string ⟨#[]⟩] ++ (post)).toArray t (0, 0))) := Lib.hid (by rw [hT6]; simp only [List.append_assoc, List.cons_append, List.nil_append])
  clear hT6 hR6 hf6
  go_wp2_with fail
  refine (text_r g tb (o + 26) (pre ++ c0 ++ c1 ++ c2 ++ c3 ++ c4 ++ c5) (post) t ((cList cStock).st ((cList cMatch).st ((cList cHolding).st ((cList cRate).st ((cList cEntry).st (cGroup.st (st))))))) w6 R6.out hgt HO6.out T6.out).mono ?_
  rintro e w7 ⟨rfl, c6, x6, hc6, hv6, hT7, hR7, hf7⟩
  have HC6 := Lib.hid hc6
  have HV6 := Lib.hid hv6
  have hcl6 : c6.length = 1 := StrC.len hc6
  clear hc6 hv6
  have R7 := Lib.hid hR7
  have F7 := Lib.hid hf7
  have sz7 := hf7.size
  have TT := Lib.hid hT7
  clear hT7 hR7 hf7
  go_wp2_with fail
  go_end0
  have hvl : cBooks.vl st { group := x0, entries := x1, rates := x2, holdings := x3, matches_ := x4, stocks := x5, rules := x6 } := Cod.vl_iso (Cod.vl_pair HV0.out (Cod.vl_pair HV1.out (Cod.vl_pair HV2.out (Cod.vl_pair HV3.out (Cod.vl_pair HV4.out (Cod.vl_pair HV5.out (HV6.out)))))))
  have hst : cBooks.st st = cStr.st ((cList cStock).st ((cList cMatch).st ((cList cHolding).st ((cList cRate).st ((cList cEntry).st (cGroup.st (st))))))) := by simp only [cBooks, Cod.st_iso, Cod.st_pair] <;> rfl
  have hC : BooksC w7 (Nw w0 w7) (c0 ++ c1 ++ c2 ++ c3 ++ c4 ++ c5 ++ c6) { group := x0, entries := x1, rates := x2, holdings := x3, matches_ := x4, stocks := x5, rules := x6 } := ⟨c0, c1, c2, c3, c4, c5, c6, by simp only [List.append_assoc, iv, List.map_cons, List.map_nil, List.append_assoc, List.cons_append, List.nil_append], (GroupC.mono (GroupC.fr HC0.out (nwfr w0 (Kp.trans (Kp.trans (Kp.trans (Kp.trans (Kp.trans F2.out F3.out) F4.out) F5.out) F6.out) F7.out) hglt hTlt (by omega))) (nwmo (by omega) (by omega))), ((HC1.out.fr (fun h => EntryC.fr h (nwfr w1 (Kp.trans (Kp.trans (Kp.trans (Kp.trans F3.out F4.out) F5.out) F6.out) F7.out) hglt hTlt (by omega))) (nwfr w1 (Kp.trans (Kp.trans (Kp.trans (Kp.trans F3.out F4.out) F5.out) F6.out) F7.out) hglt hTlt (by omega))).mono (fun h => EntryC.mono h (nwmo (by omega) (by omega))) (nwmo (by omega) (by omega))), ((HC2.out.fr (fun h => RateC.fr h (nwfr w2 (Kp.trans (Kp.trans (Kp.trans F4.out F5.out) F6.out) F7.out) hglt hTlt (by omega))) (nwfr w2 (Kp.trans (Kp.trans (Kp.trans F4.out F5.out) F6.out) F7.out) hglt hTlt (by omega))).mono (fun h => RateC.mono h (nwmo (by omega) (by omega))) (nwmo (by omega) (by omega))), ((HC3.out.fr (fun h => HoldingC.fr h (nwfr w3 (Kp.trans (Kp.trans F5.out F6.out) F7.out) hglt hTlt (by omega))) (nwfr w3 (Kp.trans (Kp.trans F5.out F6.out) F7.out) hglt hTlt (by omega))).mono (fun h => HoldingC.mono h (nwmo (by omega) (by omega))) (nwmo (by omega) (by omega))), ((HC4.out.fr (fun h => MatchC.fr h (nwfr w4 (Kp.trans F6.out F7.out) hglt hTlt (by omega))) (nwfr w4 (Kp.trans F6.out F7.out) hglt hTlt (by omega))).mono (fun h => MatchC.mono h (nwmo (by omega) (by omega))) (nwmo (by omega) (by omega))), ((HC5.out.fr (fun h => StockC.fr h (nwfr w5 (F7.out) hglt hTlt (by omega))) (nwfr w5 (F7.out) hglt hTlt (by omega))).mono (fun h => StockC.mono h (nwmo (by omega) (by omega))) (nwmo (by omega) (by omega))), HC6.out⟩
  refine ⟨rfl, c0 ++ c1 ++ c2 ++ c3 ++ c4 ++ c5 ++ c6, _, hC, hvl, ?_, ?_, Kp.trans (Kp.trans (Kp.trans (Kp.trans (Kp.trans (Kp.trans F1.out F2.out) F3.out) F4.out) F5.out) F6.out) F7.out⟩
  · rw [TT.out]; simp only [List.append_assoc]
  · rw [hst]; exact R7.out

end Go.Proofs.Ytgdibeegheddmaa
