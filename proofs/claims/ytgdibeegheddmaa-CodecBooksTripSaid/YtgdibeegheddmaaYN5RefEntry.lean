/- The reference reads: entries. Written by gen_n5.py. -/
import Derived.Test.YtgdibeegheddmaaYNa
namespace Go.Proofs.Ytgdibeegheddmaa
open Go Go.RowKit
set_option linter.unusedVariables false
set_option linter.unusedSimpArgs false
attribute [local go_sem ↓] Go.wp_at_zero Go.wp_at_succ
theorem lines_fr {w w' : World} {Q : Nat → Prop} {cs : List Value} {xs : List XLine} (h : ListC LineC 3 w Q cs xs) (hf : Fr Q w w') : ListC LineC 3 w' Q cs xs := h.fr (fun h => LineC.fr h hf) hf
theorem lines_mono {w : World} {Q Q' : Nat → Prop} {cs : List Value} {xs : List XLine} (h : ListC LineC 3 w Q cs xs) (hq : ∀ k, Q k → Q' k) : ListC LineC 3 w Q' cs xs := h.mono (fun h => LineC.mono h hq) hq
theorem RQ.drew {w : World} {g : Nat} {o : Option (List UInt8)} (h : RQ w g o) : RQ w.drew g o := h.fr (Q := fun _ => True) ⟨rfl, rfl, rfl, Nat.le_refl _, fun _ _ => rfl⟩ (fun _ _ => trivial)
set_option maxHeartbeats 2000000 in
set_option maxRecDepth 100000 in
theorem Entry_rr (g : Nat) (st : Option (List UInt8)) (w : World) (hs : RQ w g st) : Calls Try.prog 47 #[.pointer (some ⟨g, 0, none⟩)] w (RXPost EntryC cEntry g st w) := by
  have hg := hs.lt
  have R0 := hs.alloc (.cells #[.int .i64 0, .int .i64 0, .int .i64 0, .int .i64 0, .int .i64 0, .string ⟨#[]⟩, .slice none 0 0] 34)
  have F0 : Ro g w (w.alloc (.cells #[.int .i64 0, .int .i64 0, .int .i64 0, .int .i64 0, .int .i64 0, .string ⟨#[]⟩, .slice none 0 0] 34)) := (Fr.refl _ w).alloc (fun _ h => h.1) _
  have B0 := heap_alloc_new w (.cells #[.int .i64 0, .int .i64 0, .int .i64 0, .int .i64 0, .int .i64 0, .string ⟨#[]⟩, .slice none 0 0] 34)
  clear hs
  go_enter Try.func47, Try.ntmps47
  go_upto_region 1 with fail
  generalize hW : w.alloc (Obj.cells #[.int .i64 0, .int .i64 0, .int .i64 0, .int .i64 0, .int .i64 0, .string ⟨#[]⟩, .slice none 0 0] 34) = W0 at *
  clear hW
  have hb0 : w.heap.size < W0.heap.size := blk_lt B0
  have H0 := Lib.hid R0
  have G0 := Lib.hid B0
  clear R0 B0
  go_wp2_with fail
  refine (rint_r g _ W0 H0.out).mono ?_
  rintro e W1 ⟨n1, rfl, b1, v1, R1, f1, -⟩
  have V1 := Lib.hid v1
  clear v1
  have F1 := F0.trans (f1.mono (fun k hk => ⟨by have := hk.1; omega, hk.2⟩))
  have B1 := (f1.block w.heap.size ⟨hb0, by omega⟩).trans G0.out
  have hb1 : w.heap.size < W1.heap.size := blk_lt B1
  clear f1 F0 G0
  have H1 := Lib.hid R1
  have G1 := Lib.hid B1
  clear R1 B1
  go_wp2_with fail
  refine (rint_r g _ W1 H1.out).mono ?_
  rintro e W2 ⟨n2, rfl, b2, v2, R2, f2, -⟩
  have V2 := Lib.hid v2
  clear v2
  have F2 := F1.trans (f2.mono (fun k hk => ⟨by have := hk.1; omega, hk.2⟩))
  have B2 := (f2.block w.heap.size ⟨hb1, by omega⟩).trans G1.out
  have hb2 : w.heap.size < W2.heap.size := blk_lt B2
  clear f2 F1 G1
  have H2 := Lib.hid R2
  have G2 := Lib.hid B2
  clear R2 B2
  go_wp2_with fail
  refine (rint_r g _ W2 H2.out).mono ?_
  rintro e W3 ⟨n3, rfl, b3, v3, R3, f3, -⟩
  have V3 := Lib.hid v3
  clear v3
  have F3 := F2.trans (f3.mono (fun k hk => ⟨by have := hk.1; omega, hk.2⟩))
  have B3 := (f3.block w.heap.size ⟨hb2, by omega⟩).trans G2.out
  have hb3 : w.heap.size < W3.heap.size := blk_lt B3
  clear f3 F2 G2
  have H3 := Lib.hid R3
  have G3 := Lib.hid B3
  clear R3 B3
  go_wp2_with fail
  refine (rint_r g _ W3 H3.out).mono ?_
  rintro e W4 ⟨n4, rfl, b4, v4, R4, f4, -⟩
  have V4 := Lib.hid v4
  clear v4
  have F4 := F3.trans (f4.mono (fun k hk => ⟨by have := hk.1; omega, hk.2⟩))
  have B4 := (f4.block w.heap.size ⟨hb3, by omega⟩).trans G3.out
  have hb4 : w.heap.size < W4.heap.size := blk_lt B4
  clear f4 F3 G3
  have H4 := Lib.hid R4
  have G4 := Lib.hid B4
  clear R4 B4
  go_wp2_with fail
  refine (rint_r g _ W4 H4.out).mono ?_
  rintro e W5 ⟨n5, rfl, b5, v5, R5, f5, -⟩
  have V5 := Lib.hid v5
  clear v5
  have F5 := F4.trans (f5.mono (fun k hk => ⟨by have := hk.1; omega, hk.2⟩))
  have B5 := (f5.block w.heap.size ⟨hb4, by omega⟩).trans G4.out
  have hb5 : w.heap.size < W5.heap.size := blk_lt B5
  clear f5 F4 G4
  have H5 := Lib.hid R5
  have G5 := Lib.hid B5
  clear R5 B5
  go_wp2_with fail
  refine (rtext_r g _ W5 H5.out).mono ?_
  rintro e W6 ⟨n6, rfl, v6, R6, f6⟩
  have V6 := Lib.hid v6
  clear v6
  have F6 := F5.trans (f6.mono (fun k hk => ⟨by have := hk.1; omega, hk.2⟩))
  have B6 := (f6.block w.heap.size ⟨hb5, by omega⟩).trans G5.out
  have hb6 : w.heap.size < W6.heap.size := blk_lt B6
  clear f6 F5 G5
  have HB := Lib.hid B6
  have HR6 := Lib.hid R6
  have HF6 := Lib.hid F6
  clear B6 R6 F6
  go_upto_region 2 with (refine wpList_store_fresh2 rfl 34 (.tmp 3) (.tmp 17) rfl rfl W6 _ 34 #[.int .i64 n1, .int .i64 n2, .int .i64 n3, .int .i64 n4, .int .i64 n5, .string n6, .slice none 0 0] rfl rfl info34 rfl (by simp only [List.all_toArray, List.all_cons, List.all_nil, Value.oneCell', Bool.and_true]) ?_; intro U S1 S2 S3; replace S1 := Lib.hid S1)
  have HRU := Lib.hid (HR6.out.fr (Fr.ofBelow S2) (fun k hk => by omega))
  have HFU := Lib.hid (Fr.trans HF6.out ((Fr.ofBelow S2).mono (fun k hk => by have : k < w.heap.size := hk.1; show k < W6.heap.size; omega)))
  have HBU := Lib.hid ((S2.block w.heap.size (by omega)).trans HB.out)
  obtain ⟨X, hX⟩ : ∃ X, W6.heap.size = X := ⟨_, rfl⟩
  have hXw : w.heap.size < X := by omega
  have hXU : X < U.heap.size := by omega
  have SX : Hid (U.heap[X]? = some (.cells #[.int .i64 n1, .int .i64 n2, .int .i64 n3, .int .i64 n4, .int .i64 n5, .string n6, .slice none 0 0] 34 (0, 0))) := by rw [← hX]; exact S1
  rw [hX]
  clear hX S1 S2 S3
  go_wp2_with fail
  refine (count_r g _ U HRU.out).mono ?_
  rintro e W ⟨n, rfl, hn8, hcnt, hRW, hFW⟩
  obtain ⟨oi0, hoi, hLP0⟩ := cnt_list cLine encLine_pos hcnt hRW.len
  rw [← hoi] at hRW
  have HLP := Lib.hid hLP0
  have HRW := Lib.hid hRW
  have HFW := Lib.hid hFW
  have SW := Lib.hid ((hFW.block X ⟨hXU, by omega⟩).trans SX.out)
  clear hcnt hRW hFW hoi hLP0
  obtain ⟨i0, hi0, hz0, hz1, hz2⟩ := info_parts info127z
  obtain ⟨st6, hst6⟩ : ∃ s, cStr.st (cInt.st (cInt.st (cInt.st (cInt.st (cInt.st st))))) = s := ⟨_, rfl⟩
  rw [hst6] at HLP
  have HST := Lib.hid hst6
  clear hst6
  go_wp2_with fail
  go_loopw [4] (fun m wr => ∃ (j k : Nat) (oi : Option (List UInt8)) (xs : List XLine) (ess : List (List Value)) (v : Value), m = .int .i64 (j : Int) ∧ j + k = n ∧ LP cLine st6 (n : Int) k oi xs ∧ RQ wr g oi ∧ LInv LineC 3 127 U wr v xs ess ∧ Fr (fun k => k < U.heap.size ∧ k ≠ g ∧ k ≠ X) U wr ∧ wr.heap[X]? = some (.cells #[.int .i64 n1, .int .i64 n2, .int .i64 n3, .int .i64 n4, .int .i64 n5, .string n6, v] 34 (0, 0))) (fun m _ => (intOf m).toNat)
  case atStart => exact ⟨n, 0, oi0, [], [], _, rfl, rfl, HLP.out, HRW.out, LInv.nil _ _, HFW.out.mono (fun k hk => ⟨hk.1, hk.2.1⟩), SW.out⟩
  case round =>
    obtain ⟨j, k, oi, xs, ess, v, rfl, hjk, hLP, hRR, hLI, hFF, hX0⟩ := hrel
    obtain ⟨bad, p1, hp1, hp2⟩ := hRR.open
    have hvo := fun k (e : Value.ownBlock _ = some k) => (hLI.own.lt k e).1
    have hwr : U.heap.size ≤ wr.heap.size := hFF.size
    obtain ⟨vA, vn, vc, rfl⟩ := own_shape hLI.own
    have cX := blk_cell hX0 6
    have fX : wr.frozen? ⟨X, 6, none⟩ = false := blk_frozen hX0 6
    have HX0 := Lib.hid hX0
    have HL := Lib.hid hLP
    have HRR := Lib.hid hRR
    have HLI := Lib.hid hLI
    have HFF := Lib.hid hFF
    have HVO := Lib.hid hvo
    have HB1 := Lib.hid hp1
    have HB2 := Lib.hid hp2
    have HJK := Lib.hid hjk
    clear hLP hRR hLI hFF hvo hp1 hp2 hjk hX0
    rcases Nat.eq_zero_or_pos j with hj | hj
    · subst hj
      have HBr := Lib.hid ((HFF.out.block w.heap.size ⟨by omega, by omega, by omega⟩).trans HBU.out)
      go_wp2_with (first | refine wpList_load_row rfl 34 (.tmp 3) rfl X rfl 34 #[.int .i64 n1, .int .i64 n2, .int .i64 n3, .int .i64 n4, .int .i64 n5, .string n6, .slice vA vn vc] (0, 0) _ HX0.out Try.underlying34 rfl info34 ?_ | refine wpList_store_row rfl 34 (.tmp 2) (.tmp 43) rfl w.heap.size #[.int .i64 n1, .int .i64 n2, .int .i64 n3, .int .i64 n4, .int .i64 n5, .string n6, .slice vA vn vc] rfl rfl 34 _ HBr.out info34 rfl (by simp only [List.all_toArray, List.all_cons, List.all_nil, Value.oneCell', Bool.and_true]) ?_)
      have hfr := fr_setRow wr w.heap.size #[.int .i64 n1, .int .i64 n2, .int .i64 n3, .int .i64 n4, .int .i64 n5, .string n6, .slice vA vn vc]
      (try simp only [Exit.inBlock, Exit.then])
      have hout := HL.out.out (.inr (by have := HJK.out; omega))
      refine bodyPost_ret (v := .agg #[.int .i64 n1, .int .i64 n2, .int .i64 n3, .int .i64 n4, .int .i64 n5, .string n6, .slice vA vn vc]) (results_cell_row rfl _ _ w.heap.size 34 _ (0, 0) _ rfl (heap_setRow HBr.out _) Try.underlying34 rfl info34) rfl ⟨[Value.int .i64 n1, Value.int .i64 n2, Value.int .i64 n3, Value.int .i64 n4, Value.int .i64 n5, Value.string n6, Value.slice vA vn vc], ⟨n1, n2, n3, n4, n5, n6, xs⟩, rfl, ⟨_, _, _, _, _, _, _, rfl, ⟨rfl, b1⟩, ⟨rfl, b2⟩, ⟨rfl, b3⟩, ⟨rfl, b4⟩, ⟨rfl, b5⟩, rfl, lines_mono (lines_fr (HLI.out.out (fun h hq => LineC.mono h hq)) (hfr.mono (fun k hk => by show k ≠ w.heap.size; have := hk.1; omega))) (fun k hk => ⟨by have := hk.1; omega, Nat.lt_of_lt_of_le hk.2 hfr.size⟩)⟩, Cod.vl_iso (Cod.vl_pair V1.out (Cod.vl_pair V2.out (Cod.vl_pair V3.out (Cod.vl_pair V4.out (Cod.vl_pair V5.out (Cod.vl_pair V6.out (by rw [HST.out]; exact hout.2))))))), ?_, Fr.trans HFU.out (Fr.trans (HFF.out.mono (fun k hk => ⟨by have := hk.1; omega, hk.2, by have := hk.1; omega⟩)) (hfr.mono (fun k hk => by show k ≠ w.heap.size; have := hk.1; omega)))⟩
      have e : cEntry.st st = (cList cLine).st st6 := by rw [← HST.out]; simp only [cEntry, Cod.st_iso, Cod.st_pair]
      rw [e, hout.1]
      exact HRR.out.fr (Q := fun k => k ≠ w.heap.size) hfr (fun k hk => by show k ≠ w.heap.size; omega)
    · have hj8 : j ≤ 100000000 := by have := HJK.out; omega
      have hd : decide ((0 : Int) < (j : Int)) = true := decide_eq_true (by omega)
      cases oi with
      | none =>
        have hbad := HB1.out rfl
        subst hbad
        have HBr := Lib.hid ((HFF.out.block w.heap.size ⟨by omega, by omega, by omega⟩).trans HBU.out)
        go_wp2_with (first | refine wpList_load_row rfl 34 (.tmp 3) rfl X rfl 34 #[.int .i64 n1, .int .i64 n2, .int .i64 n3, .int .i64 n4, .int .i64 n5, .string n6, .slice vA vn vc] (0, 0) _ HX0.out Try.underlying34 rfl info34 ?_ | refine wpList_store_row rfl 34 (.tmp 2) (.tmp 43) rfl w.heap.size #[.int .i64 n1, .int .i64 n2, .int .i64 n3, .int .i64 n4, .int .i64 n5, .string n6, .slice vA vn vc] rfl rfl 34 _ HBr.out info34 rfl (by simp only [List.all_toArray, List.all_cons, List.all_nil, Value.oneCell', Bool.and_true]) ?_)
        have hfr := fr_setRow wr w.heap.size #[.int .i64 n1, .int .i64 n2, .int .i64 n3, .int .i64 n4, .int .i64 n5, .string n6, .slice vA vn vc]
        (try simp only [Exit.inBlock, Exit.then])
        have hout := HL.out.out (.inl (by first | rfl | trivial))
        refine bodyPost_ret (v := .agg #[.int .i64 n1, .int .i64 n2, .int .i64 n3, .int .i64 n4, .int .i64 n5, .string n6, .slice vA vn vc]) (results_cell_row rfl _ _ w.heap.size 34 _ (0, 0) _ rfl (heap_setRow HBr.out _) Try.underlying34 rfl info34) rfl ⟨[Value.int .i64 n1, Value.int .i64 n2, Value.int .i64 n3, Value.int .i64 n4, Value.int .i64 n5, Value.string n6, Value.slice vA vn vc], ⟨n1, n2, n3, n4, n5, n6, xs⟩, rfl, ⟨_, _, _, _, _, _, _, rfl, ⟨rfl, b1⟩, ⟨rfl, b2⟩, ⟨rfl, b3⟩, ⟨rfl, b4⟩, ⟨rfl, b5⟩, rfl, lines_mono (lines_fr (HLI.out.out (fun h hq => LineC.mono h hq)) (hfr.mono (fun k hk => by show k ≠ w.heap.size; have := hk.1; omega))) (fun k hk => ⟨by have := hk.1; omega, Nat.lt_of_lt_of_le hk.2 hfr.size⟩)⟩, Cod.vl_iso (Cod.vl_pair V1.out (Cod.vl_pair V2.out (Cod.vl_pair V3.out (Cod.vl_pair V4.out (Cod.vl_pair V5.out (Cod.vl_pair V6.out (by rw [HST.out]; exact hout.2))))))), ?_, Fr.trans HFU.out (Fr.trans (HFF.out.mono (fun k hk => ⟨by have := hk.1; omega, hk.2, by have := hk.1; omega⟩)) (hfr.mono (fun k hk => by show k ≠ w.heap.size; have := hk.1; omega)))⟩
        have e : cEntry.st st = (cList cLine).st st6 := by rw [← HST.out]; simp only [cEntry, Cod.st_iso, Cod.st_pair]
        rw [e, hout.1]
        exact HRR.out.fr (Q := fun k => k ≠ w.heap.size) hfr (fun k hk => by show k ≠ w.heap.size; omega)
      | some r =>
        have hbad := HB2.out r rfl
        subst hbad
        have hRd := HRR.out.drew
        go_wp2_with fail
        have hk8 := HL.out.len
        go_region_law (first | (go_simp; go_at_call 46; refine (rint_r g _ _ hRd).mono ?_; rintro e w1 ⟨q1, rfl, c1, z1, r1, f1, -⟩; have hXa : w1.heap[X]? = _ := (f1.block X ⟨(by show X < wr.heap.size; omega), by omega⟩).trans HX0.out; have cXa := blk_cell hXa 6; have HXa := Lib.hid hXa; clear hXa) | (go_simp; go_at_call 46; refine (rint_r g _ _ r1).mono ?_; rintro e w2 ⟨q2, rfl, c2, z2, r2, f2, -⟩; have hXb : w2.heap[X]? = _ := (f2.block X ⟨blk_lt HXa.out, by omega⟩).trans HXa.out; have cXb := blk_cell hXb 6; have HXb := Lib.hid hXb; clear hXb) | (go_simp; go_at_call 46; refine (rint_r g _ _ r2).mono ?_; rintro e w3 ⟨q3, rfl, c3, z3, r3, f3, -⟩; have hF3 : Ro g wr w3 := Ro.trans (show Ro g wr wr.drew from ⟨rfl, rfl, rfl, Nat.le_refl _, fun _ _ => rfl⟩) (Ro.trans f1 (Ro.trans f2 f3)); have LI3 := Lib.hid (HLI.out.keep (w2 := w3) (hF3.mono (fun k hk => ⟨hk.2, by have := hk.1; omega⟩)) (fun h hf => LineC.fr h hf) (fun h hq => LineC.mono h hq)); have HX3 := Lib.hid ((hF3.block X ⟨by omega, by omega⟩).trans HX0.out); have cX3 := blk_cell HX3.out 6; have hXlt : X < w3.heap.size := blk_lt HX3.out; have hXne : ¬ X = w3.heap.size := (by omega); have HF3 := Lib.hid hF3; have hs3 := hF3.size; have R3 := Lib.hid r3; have Z1 := Lib.hid z1; have Z2 := Lib.hid z2; have Z3 := Lib.hid z3; clear hF3 r1 r2 r3 f1 f2 f3 z1 z2 z3) | (refine step_app _ (by rfl) _ _ 32 (by rfl) U.heap.size 127 i0 _ 3 24 Try.underlying32 hi0 hz0 hz1 hz2 (by rfl) (by decide) (.slice vA vn vc) xs.length ess.flatten (by rfl) (by exact (LI3.out.own.alloc _)) (fun _ => True) (some ⟨w3.heap.size, 0, none⟩) 1 1 [.int .i64 q1, .int .i64 q2, .int .i64 q3] (by rfl) (by exact (row1 w3 [.int .i64 q1, .int .i64 q2, .int .i64 q3] 127 3 rfl)) (by simp [Value.oneCell']) (by simp only [maxLen]; omega) (by omega) (by simp; omega) ?_; intro v4 w4 hown4 hg4 hat4; obtain ⟨vA2, vn2, vc2, rfl⟩ := own_shape hown4; have hX4 : w4.heap[X]? = _ := (hg4.block X (by simp; omega) (fun e => by have := HVO.out X e.symm; omega)).trans ((Below.heap_alloc w3 _ X (by omega)).trans HX3.out); have cX4 := blk_cell hX4 6; have fX4 : w4.frozen? ⟨X, 6, none⟩ = false := blk_frozen hX4 6))
        all_goals
          have HO4 := Lib.hid hown4
          have HG4 := Lib.hid hg4
          have HA4 := Lib.hid hat4
          have HX4 := Lib.hid hX4
          clear hown4 hg4 hat4 hX4
          go_wp2_with fail
          go_roundw
          case rel =>
            have hUw3 : U.heap.size ≤ w3.heap.size := by omega
            have hfr := rfr (w := U) HG4.out HVO.out hUw3
            have hfs : Fr (fun k => k ≠ X) w4 (w4.setCell ⟨X, 6, none⟩ (.slice vA2 vn2 vc2)) := (Fr.refl _ w4).setCell (p := ⟨X, 6, none⟩) (fun h => h rfl) _
            have hLIa := LI3.out.keep (w2 := w3.alloc (.cells #[.int .i64 q1, .int .i64 q2, .int .i64 q3] 127)) ((Fr.refl _ w3).alloc (fun k hk => hk.2) _) (fun h hf => LineC.fr h hf) (fun h hq => LineC.mono h hq)
            have hLIb := hLIa.app (es := [.int .i64 q1, .int .i64 q2, .int .i64 q3]) (x := ⟨q1, q2, q3⟩) HO4.out rfl HG4.out HA4.out ⟨_, _, _, rfl, ⟨rfl, c1⟩, ⟨rfl, c2⟩, ⟨rfl, c3⟩⟩ (fun h hf => LineC.fr h hf) (fun h hq => LineC.mono h hq)
            refine ⟨j - 1, k + 1, cLine.st (some r), _, _, .slice vA2 vn2 vc2, by go_num, by have := HJK.out; omega, HL.out.step (by have := HJK.out; omega) encLine_pos (x := ⟨q1, q2, q3⟩) (Cod.vl_iso (Cod.vl_pair Z1.out (Cod.vl_pair Z2.out Z3.out))), ?_, hLIb.keep (hfs.mono (fun k hk => by show k ≠ X; have := hk.1; omega)) (fun h hf => LineC.fr h hf) (fun h hq => LineC.mono h hq), ?_, heap_setCell_same HX4.out 6 _⟩
            · have e : cLine.st (some r) = cInt.st (cInt.st (cInt.st (some r))) := by simp only [cLine, Cod.st_iso, Cod.st_pair]
              rw [e]
              exact R3.out.fr (Q := fun k => k < X) (Fr.trans (hfr.mono (fun k hk => Nat.lt_trans hk hXU)) (hfs.mono (fun k hk => Nat.ne_of_lt hk))) (fun k hk => by show k < X; omega)
            · exact Fr.trans HFF.out (Fr.trans (HF3.out.mono (fun k hk => ⟨by have := hk.1; omega, hk.2.1⟩)) (Fr.trans (hfr.mono (fun k hk => hk.1)) (hfs.mono (fun k hk => hk.2.2))))
          case measure =>
            have e : wrap64 ((j : Int) - 1) = ((j - 1 : Nat) : Int) := by unfold wrap64; omega
            simp only [intOf, e]
            omega
end Go.Proofs.Ytgdibeegheddmaa
