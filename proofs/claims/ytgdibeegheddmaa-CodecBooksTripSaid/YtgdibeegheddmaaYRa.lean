/- The reference reads: charts, bools. Written by gen_r1.py. (joined: R1RefChart, R2RefEntity) -/
import Derived.Test.YtgdibeegheddmaaYN5RefEntry
import Derived.Test.YtgdibeegheddmaaYL5Lists
import Derived.Test.YtgdibeegheddmaaYL8Books
import Derived.Test.YtgdibeegheddmaaYK2RefGrp
namespace Go.Proofs.Ytgdibeegheddmaa
open Go Go.RowKit
set_option linter.unusedVariables false
set_option linter.unusedSimpArgs false
attribute [local go_sem ↓] Go.wp_at_zero Go.wp_at_succ
set_option maxHeartbeats 2000000 in
set_option maxRecDepth 100000 in
theorem listAccount_rr (g : Nat) (st : Option (List UInt8)) (w : World) (hs : RQ w g st) : Calls Try.prog 74 #[.pointer (some ⟨g, 0, none⟩)] w (RLPost AccountC 4 cAccount g st w) := by
  have hglt := hs.lt
  go_enter Try.func74, Try.ntmps74
  go_wp2_with fail
  refine (count_r g st w hs).mono ?_
  rintro e W ⟨n, rfl, hn8, hcnt, hRW, hFW⟩
  obtain ⟨oi0, hoi, hLP0⟩ := cnt_list cAccount encAccount_pos hcnt hRW.len
  rw [← hoi] at hRW
  have HLP := Lib.hid hLP0
  have HRW := Lib.hid hRW
  have HFW := Lib.hid hFW
  clear hs hcnt hRW hFW hoi hLP0
  obtain ⟨i0, hi0, hz0, hz1, hz2⟩ := info_parts info167z
  go_wp2_with fail
  go_loopw [3, 4] (fun v m wr => ∃ (j k : Nat) (oi : Option (List UInt8)) (xs : List XAccount) (ess : List (List Value)), m = .int .i64 (j : Int) ∧ j + k = n ∧ LP cAccount st (n : Int) k oi xs ∧ RQ wr g oi ∧ LInv AccountC 4 167 w wr v xs ess ∧ Ro g w wr) (fun _ m _ => (intOf m).toNat)
  case atStart => exact ⟨n, 0, oi0, [], [], rfl, rfl, HLP.out, HRW.out, LInv.nil _ _, HFW.out⟩
  case round =>
    obtain ⟨j, k, oi, xs, ess, rfl, hjk, hLP, hRR, hLI, hFF⟩ := hrel
    obtain ⟨bad, b1, hb1, hb2⟩ := hRR.open
    have hvo := fun k (e : Value.ownBlock _ = some k) => (hLI.own.lt k e).1
    have hwr : w.heap.size ≤ wr.heap.size := hFF.size
    obtain ⟨vA, vn, vc, rfl⟩ := own_shape hLI.own
    have HL := Lib.hid hLP
    have HRR := Lib.hid hRR
    have HLI := Lib.hid hLI
    have HFF := Lib.hid hFF
    have HVO := Lib.hid hvo
    have HB1 := Lib.hid hb1
    have HB2 := Lib.hid hb2
    have HJK := Lib.hid hjk
    clear hLP hRR hLI hFF hvo hb1 hb2 hjk
    have done : (oi = none ∨ (n : Int) ≤ (k : Int)) → RLPost AccountC 4 cAccount g st w (.returned (.slice vA vn vc)) wr := fun h =>
      ⟨_, xs, rfl, HLI.out.out (fun h hq => AccountC.mono h hq), (HL.out.out h).2, by rw [(HL.out.out h).1]; exact HRR.out, HFF.out⟩
    have HD := Lib.hid done
    clear done
    rcases Nat.eq_zero_or_pos j with hj | hj
    · subst hj
      go_wp2_with fail
      go_ret
      exact HD.out (.inr (by have := HJK.out; omega))
    · have hj8 : j ≤ 100000000 := by have := HJK.out; omega
      have hd : decide ((0 : Int) < (j : Int)) = true := decide_eq_true (by omega)
      cases oi with
      | none =>
        have hbad := HB1.out rfl
        subst hbad
        go_wp2_with fail
        go_ret
        exact HD.out (.inl (by first | rfl | trivial))
      | some r =>
        have hbad := HB2.out r rfl
        subst hbad
        go_wp2_with fail
        refine (rint_r g _ wr HRR.out).mono ?_
        rintro e w1 ⟨n1, rfl, c1, v1, r1, f1, -⟩
        have V1 := Lib.hid v1
        have R1 := Lib.hid r1
        have F1 := Lib.hid f1
        clear v1 r1 f1
        go_wp2_with fail
        refine (rint_r g _ w1 R1.out).mono ?_
        rintro e w2 ⟨n2, rfl, c2, v2, r2, f2, -⟩
        have V2 := Lib.hid v2
        have R2 := Lib.hid r2
        have F2 := Lib.hid (F1.out.trans f2)
        clear v2 r2 f2 F1 R1
        go_wp2_with fail
        refine (rint_r g _ w2 R2.out).mono ?_
        rintro e w3 ⟨n3, rfl, c3, v3, r3, f3, -⟩
        have V3 := Lib.hid v3
        have R3 := Lib.hid r3
        have F3 := Lib.hid (F2.out.trans f3)
        clear v3 r3 f3 F2 R2
        go_wp2_with fail
        refine (rint_r g _ w3 R3.out).mono ?_
        rintro e w4 ⟨n4, rfl, c4, v4, r4, f4, -⟩
        have V4 := Lib.hid v4
        have R4 := Lib.hid r4
        have F4 := Lib.hid (F3.out.trans f4)
        clear v4 r4 f4 F3 R3
        have LI4 := Lib.hid (HLI.out.keep (w2 := w4) (F4.out.mono (fun k hk => ⟨hk.2, by have := hk.1; omega⟩)) (fun h hf => AccountC.fr h hf) (fun h hq => AccountC.mono h hq))
        have hw4 : w.heap.size ≤ w4.heap.size := by have := F4.out.size; omega
        have hk8 := HL.out.len
        go_wp2_with (at_builtin; refine wpList_app _ rfl (.tmp 18) (.tmp 28) 55 rfl w.heap.size 167 i0 _ 4 32 Try.underlying55 hi0 hz0 hz1 hz2 (by rfl) (by decide) (.slice vA vn vc) xs.length ess.flatten rfl (LI4.out.own.alloc _) (fun _ => True) (some ⟨w4.heap.size, 0, none⟩) 1 1 [.int .i64 n1, .int .i64 n2, .int .i64 n3, .int .i64 n4] rfl (row1 w4 [.int .i64 n1, .int .i64 n2, .int .i64 n3, .int .i64 n4] 167 4 rfl) (by simp [Value.oneCell']) (by simp only [maxLen]; omega) (by omega) (by simp; omega) ?_; intro vq wq hownq hgq hatq; replace hownq := Lib.hid hownq; replace hgq := Lib.hid hgq; replace hatq := Lib.hid hatq)
        go_roundw
        case rel =>
          have hfr := rfr (w := w) hgq.out HVO.out hw4
          have hes : AccountC (w4.alloc (.cells #[.int .i64 n1, .int .i64 n2, .int .i64 n3, .int .i64 n4] 167)) (Qe w (w4.alloc (.cells #[.int .i64 n1, .int .i64 n2, .int .i64 n3, .int .i64 n4] 167)) (.slice vA vn vc)) [.int .i64 n1, .int .i64 n2, .int .i64 n3, .int .i64 n4] ⟨n1, n2, n3, n4⟩ := ⟨_, _, _, _, rfl, ⟨rfl, c1⟩, ⟨rfl, c2⟩, ⟨rfl, c3⟩, ⟨rfl, c4⟩⟩
          have hLIa := LI4.out.keep (w2 := w4.alloc (.cells #[.int .i64 n1, .int .i64 n2, .int .i64 n3, .int .i64 n4] 167)) ((Fr.refl _ w4).alloc (fun k hk => hk.2) _) (fun h hf => AccountC.fr h hf) (fun h hq => AccountC.mono h hq)
          refine ⟨j - 1, k + 1, cAccount.st (some r), xs ++ [⟨n1, n2, n3, n4⟩], ess ++ [[.int .i64 n1, .int .i64 n2, .int .i64 n3, .int .i64 n4]], by go_num, by have := HJK.out; omega, HL.out.step (by have := HJK.out; omega) encAccount_pos (Cod.vl_iso (Cod.vl_pair V1.out (Cod.vl_pair V2.out (Cod.vl_pair V3.out V4.out)))), ?_, ?_, ?_⟩
          · have e : cAccount.st (some r) = cInt.st (cInt.st (cInt.st (cInt.st (some r)))) := by simp only [cAccount, Cod.st_iso, Cod.st_pair]
            rw [e]
            exact R4.out.fr (Q := (· < w.heap.size)) hfr (fun k hk => by show k < w.heap.size; omega)
          · exact hLIa.app hownq.out rfl hgq.out hatq.out hes (fun h hf => AccountC.fr h hf) (fun h hq => AccountC.mono h hq)
          · exact Fr.trans (HFF.out.trans F4.out) (hfr.mono (fun k hk => hk.1))
        case measure =>
          have e : wrap64 ((j : Int) - 1) = ((j - 1 : Nat) : Int) := by unfold wrap64; omega
          simp only [intOf, e]
          omega

theorem flag_st {st : Option (List UInt8)} {l : List UInt8} {n : Int} (h : cInt.st st = some l) (hv : cInt.vl st n) : cBool.st st = if n = 0 ∨ n = 1 then some l else none := by
  cases st with
  | none => cases h
  | some b =>
    have h' : Option.map (·.2) (decInt b) = some l := h
    rw [Option.map_eq_some_iff] at h'
    obtain ⟨p, hp, rfl⟩ := h'
    have hn : p.1 = n := hv p hp
    subst hn
    show Option.map (·.2) (decBool b) = _
    unfold decBool
    rw [hp]
    simp only [Option.bind_some]
    by_cases h0 : p.1 = 0
    · simp [h0]
    · by_cases h1 : p.1 = 1
      · simp [h1]
      · simp [h0, h1]
theorem flag_none {st : Option (List UInt8)} (h : cInt.st st = none) : cBool.st st = none := by
  cases st with
  | none => rfl
  | some b =>
    have h' : Option.map (·.2) (decInt b) = none := h
    rw [Option.map_eq_none_iff] at h'
    show Option.map (·.2) (decBool b) = none
    unfold decBool
    rw [h']; rfl
theorem flag_vl {st : Option (List UInt8)} {n : Int} (hv : cInt.vl st n) : cBool.vl st (n == 1) := by
  intro p hp
  cases st with
  | none => cases hp
  | some b =>
    have h' : decBool b = some p := hp
    unfold decBool at h'
    rw [Option.bind_eq_some_iff] at h'
    obtain ⟨q, hq, h2⟩ := h'
    have hn : q.1 = n := hv q hq
    by_cases h0 : q.1 = 0
    · rw [if_pos h0] at h2
      injection h2 with h2
      rw [← h2, ← hn, h0]; rfl
    · rw [if_neg h0] at h2
      by_cases h1 : q.1 = 1
      · rw [if_pos h1] at h2
        injection h2 with h2
        rw [← h2, ← hn, h1]; rfl
      · rw [if_neg h1] at h2; cases h2
def RBPost (g : Nat) (st : Option (List UInt8)) (w : World) (e : Ending) (w' : World) : Prop :=
  ∃ b : Bool, e = .returned (.bool b) ∧ cBool.vl st b ∧ RQ w' g (cBool.st st) ∧ Ro g w w'
set_option maxHeartbeats 1000000 in
set_option maxRecDepth 100000 in
theorem rflag_r (g : Nat) (st : Option (List UInt8)) (w : World) (hs : RQ w g st) : Calls Try.prog 86 #[.pointer (some ⟨g, 0, none⟩)] w (RBPost g st w) := by
  go_enter Try.func86, Try.ntmps86
  go_wp2_with fail
  refine (rint_r g st w hs).mono ?_
  rintro e V ⟨n, rfl, hbd, hv, hR, hF, h0⟩
  have HR := Lib.hid hR
  have HF := Lib.hid hF
  obtain ⟨A, c, L, bad, hG, hrd, hLc, hLL, hst1, hst2⟩ := hR
  have c1 := blk_cell hG 1
  have f1 : V.frozen? ⟨g, 1, none⟩ = false := blk_frozen hG 1
  have HG := Lib.hid hG
  have HRD := Lib.hid hrd
  have HV := Lib.hid hv
  have H0 := Lib.hid h0
  have HS1 := Lib.hid hst1
  clear hs hF hG hrd hst1 hst2 hv h0
  by_cases h0 : n = 0
  · subst h0
    have HH0 := Lib.hid (rfl : (0 : Int) = 0)
    go_wp2_with fail
    go_ret
    refine ⟨false, rfl, flag_vl HV.out, ?_, HF.out⟩
    cases hs1 : cInt.st st with
    | none => rw [flag_none hs1, ← hs1]; exact HR.out
    | some l => rw [flag_st hs1 HV.out, if_pos (.inl rfl), ← hs1]; exact HR.out
  · by_cases h1 : n = 1
    · subst h1
      go_wp2_with fail
      go_ret
      refine ⟨true, rfl, flag_vl HV.out, ?_, HF.out⟩
      cases hs1 : cInt.st st with
      | none => exact absurd (H0.out hs1) (by omega)
      | some l => rw [flag_st hs1 HV.out, if_pos (.inr rfl), ← hs1]; exact HR.out
    · have hb0 : (n == 0) = false := by simpa using h0
      have hb0' : (n != 0) = true := by simpa using h0
      have hb1 : (n == 1) = false := by simpa using h1
      have hb1' : (n != 1) = true := by simpa using h1
      have HN0 := Lib.hid h0
      have HN1 := Lib.hid h1
      clear h0 h1
      go_wp2_with fail
      go_ret
      have hset : Ro g V (V.setCell ⟨g, 1, none⟩ (.bool true)) := Ro.set _
      refine ⟨false, rfl, ?_, ?_, Ro.trans HF.out hset⟩
      · have := flag_vl HV.out
        rwa [hb1] at this
      · have e : cBool.st st = none := by
          cases hs1 : cInt.st st with
          | none => exact flag_none hs1
          | some l => rw [flag_st hs1 HV.out, if_neg (fun h => h.elim HN0.out HN1.out)]
        rw [e]
        exact RQ.bad HG.out HRD.out hLc hLL
end Go.Proofs.Ytgdibeegheddmaa

namespace Go.Proofs.Ytgdibeegheddmaa
open Go Go.RowKit
set_option linter.unusedVariables false
set_option linter.unusedSimpArgs false
attribute [local go_sem ↓] Go.wp_at_zero Go.wp_at_succ
theorem accs_fr {w w' : World} {Q : Nat → Prop} {cs : List Value} {xs : List XAccount} (h : ListC AccountC 4 w Q cs xs) (hf : Fr Q w w') : ListC AccountC 4 w' Q cs xs := h.fr (fun h => AccountC.fr h hf) hf
theorem accs_mono {w : World} {Q Q' : Nat → Prop} {cs : List Value} {xs : List XAccount} (h : ListC AccountC 4 w Q cs xs) (hq : ∀ k, Q k → Q' k) : ListC AccountC 4 w Q' cs xs := h.mono (fun h => AccountC.mono h hq) hq
theorem links_fr {w w' : World} {Q : Nat → Prop} {cs : List Value} {xs : List XLink} (h : ListC LinkC 3 w Q cs xs) (hf : Fr Q w w') : ListC LinkC 3 w' Q cs xs := h.fr (fun h => LinkC.fr h hf) hf
theorem links_mono {w : World} {Q Q' : Nat → Prop} {cs : List Value} {xs : List XLink} (h : ListC LinkC 3 w Q cs xs) (hq : ∀ k, Q k → Q' k) : ListC LinkC 3 w Q' cs xs := h.mono (fun h => LinkC.mono h hq) hq
set_option maxHeartbeats 4000000 in
set_option maxRecDepth 100000 in
theorem Entity_rr (g : Nat) (st : Option (List UInt8)) (w : World) (hs : RQ w g st) : Calls Try.prog 75 #[.pointer (some ⟨g, 0, none⟩)] w (RXPost EntityC cEntity g st w) := by
  have hg := hs.lt
  have R0 := hs.alloc (.cells #[.string ⟨#[]⟩, .string ⟨#[]⟩, .slice none 0 0, .slice none 0 0, .bool false] 133)
  have F0 : Ro g w (w.alloc (.cells #[.string ⟨#[]⟩, .string ⟨#[]⟩, .slice none 0 0, .slice none 0 0, .bool false] 133)) := (Fr.refl _ w).alloc (fun _ h => h.1) _
  have B0 := heap_alloc_new w (.cells #[.string ⟨#[]⟩, .string ⟨#[]⟩, .slice none 0 0, .slice none 0 0, .bool false] 133)
  clear hs
  go_enter Try.func75, Try.ntmps75
  go_upto_region 1 with fail
  generalize hW : w.alloc (Obj.cells #[.string ⟨#[]⟩, .string ⟨#[]⟩, .slice none 0 0, .slice none 0 0, .bool false] 133) = W0 at *
  clear hW
  have hb0 : w.heap.size < W0.heap.size := blk_lt B0
  have H0 := Lib.hid R0
  have G0 := Lib.hid B0
  clear R0 B0
  go_wp2_with fail
  refine (rtext_r g _ W0 H0.out).mono ?_
  rintro e W1 ⟨n1, rfl, v1, R1, f1⟩
  have V1 := Lib.hid v1
  clear v1
  have F1 := F0.trans (f1.mono (fun k hk => ⟨by have := hk.1; omega, hk.2⟩))
  have B1 := (f1.block w.heap.size ⟨hb0, by omega⟩).trans G0.out
  have hb1 : w.heap.size < W1.heap.size := blk_lt B1
  clear f1 F0 G0
  have H1 := Lib.hid R1
  have G1 := Lib.hid B1
  clear R1 B1
  go_wp2_with fail
  refine (rtext_r g _ W1 H1.out).mono ?_
  rintro e W2 ⟨n2, rfl, v2, R2, f2⟩
  have V2 := Lib.hid v2
  clear v2
  have F2 := F1.trans (f2.mono (fun k hk => ⟨by have := hk.1; omega, hk.2⟩))
  have B2 := (f2.block w.heap.size ⟨hb1, by omega⟩).trans G1.out
  have hb2 : w.heap.size < W2.heap.size := blk_lt B2
  clear f2 F1 G1
  have H2 := Lib.hid R2
  have G2 := Lib.hid B2
  clear R2 B2
  go_wp2_with fail
  refine (listAccount_rr g _ W2 H2.out).mono ?_
  rintro e W3 ⟨q3, n3, rfl, l3, v3, R3, f3⟩
  have V3 := Lib.hid v3
  clear v3
  have F3 := F2.trans (f3.mono (fun k hk => ⟨by have := hk.1; omega, hk.2⟩))
  have B3 := (f3.block w.heap.size ⟨hb2, by omega⟩).trans G2.out
  have hb3 : w.heap.size < W3.heap.size := blk_lt B3
  obtain ⟨A3, k3, rfl⟩ := l3.slice
  have L3 : Hid (ListC AccountC 4 W3 (fun k => w.heap.size < k ∧ k < W3.heap.size) _ _) := Lib.hid (accs_mono l3 (fun k hk => ⟨by have := hk.1; omega, hk.2⟩))
  clear l3
  clear f3 F2 G2
  have HB := Lib.hid B3
  have HR3 := Lib.hid R3
  have HF3 := Lib.hid F3
  clear B3 R3 F3
  go_upto_region 2 with (refine wpList_store_fresh2 rfl 133 (.tmp 3) (.tmp 11) rfl rfl W3 _ 133 #[.string n1, .string n2, .slice A3 n3.length k3, .slice none 0 0, .bool false] rfl rfl info133 rfl (by simp only [List.all_toArray, List.all_cons, List.all_nil, Value.oneCell', Bool.and_true]) ?_; intro U S1 S2 S3; replace S1 := Lib.hid S1)
  have HRU := Lib.hid (HR3.out.fr (Fr.ofBelow S2) (fun k hk => by omega))
  have HFU := Lib.hid (Fr.trans HF3.out ((Fr.ofBelow S2).mono (fun k hk => by have : k < w.heap.size := hk.1; show k < W3.heap.size; omega)))
  have HBU := Lib.hid ((S2.block w.heap.size (by omega)).trans HB.out)
  have LU : Hid (ListC AccountC 4 U (fun k => w.heap.size < k ∧ k < W3.heap.size) _ _) := Lib.hid (accs_fr L3.out ((Fr.ofBelow S2).mono (fun k hk => hk.2)))
  obtain ⟨X, hX⟩ : ∃ X, W3.heap.size = X := ⟨_, rfl⟩
  have hXw : w.heap.size < X := by omega
  have hXU : X < U.heap.size := by omega
  have SX : Hid (U.heap[X]? = some (.cells #[.string n1, .string n2, .slice A3 n3.length k3, .slice none 0 0, .bool false] 133 (0, 0))) := by rw [← hX]; exact S1
  rw [hX] at LU
  rw [hX]
  clear hX S1 S2 S3 L3
  go_wp2_with fail
  refine (count_r g _ U HRU.out).mono ?_
  rintro e W ⟨n, rfl, hn8, hcnt, hRW, hFW⟩
  obtain ⟨oi0, hoi, hLP0⟩ := cnt_list cLink encLink_pos hcnt hRW.len
  rw [← hoi] at hRW
  have HLP := Lib.hid hLP0
  have HRW := Lib.hid hRW
  have HFW := Lib.hid hFW
  have SW := Lib.hid ((hFW.block X ⟨hXU, by omega⟩).trans SX.out)
  clear hcnt hRW hFW hoi hLP0
  obtain ⟨i0, hi0, hz0, hz1, hz2⟩ := info_parts info179z
  obtain ⟨st3, hst3⟩ : ∃ s, (cList cAccount).st (cStr.st (cStr.st st)) = s := ⟨_, rfl⟩
  rw [hst3] at HLP
  have HST := Lib.hid hst3
  clear hst3
  go_wp2_with fail
  go_loopw [4] (fun m wr => ∃ (j k : Nat) (oi : Option (List UInt8)) (xs : List XLink) (ess : List (List Value)) (v : Value), m = .int .i64 (j : Int) ∧ j + k = n ∧ LP cLink st3 (n : Int) k oi xs ∧ RQ wr g oi ∧ LInv LinkC 3 179 U wr v xs ess ∧ Fr (fun k => k < U.heap.size ∧ k ≠ g ∧ k ≠ X) U wr ∧ wr.heap[X]? = some (.cells #[.string n1, .string n2, .slice A3 n3.length k3, v, .bool false] 133 (0, 0))) (fun m _ => (intOf m).toNat)
  case atStart => exact ⟨n, 0, oi0, [], [], _, rfl, rfl, HLP.out, HRW.out, LInv.nil _ _, HFW.out.mono (fun k hk => ⟨hk.1, hk.2.1⟩), SW.out⟩
  case round =>
    obtain ⟨j, k, oi, xs, ess, v, rfl, hjk, hLP, hRR, hLI, hFF, hX0⟩ := hrel
    obtain ⟨bad, p1, hp1, hp2⟩ := hRR.open
    have hvo := fun k (e : Value.ownBlock _ = some k) => (hLI.own.lt k e).1
    have hwr : U.heap.size ≤ wr.heap.size := hFF.size
    obtain ⟨vA, vn, vc, rfl⟩ := own_shape hLI.own
    have cX := blk_cell hX0 3
    have fX : wr.frozen? ⟨X, 3, none⟩ = false := blk_frozen hX0 3
    have HX0 := Lib.hid hX0
    have HL := Lib.hid hLP
    have HRR := Lib.hid hRR
    have HLI := Lib.hid hLI
    have HFF := Lib.hid hFF
    have HVO := Lib.hid hvo
    have HB1 := Lib.hid hp1
    have HB2 := Lib.hid hp2
    have HJK := Lib.hid hjk
    clear hLP hRR hLI hFF hvo hp1 hp2 hjk hX0
    rcases Nat.eq_zero_or_pos j with hj | hj
    · subst hj
      have hout := HL.out.out (.inr (by have := HJK.out; omega))
      have HST2 := Lib.hid hout.1
      have HVL := Lib.hid hout.2
      clear hout
      go_wp2_with fail
      refine (rflag_r g _ wr HRR.out).mono ?_
      rintro e Wf ⟨fl, rfl, hvf, hRf, hFf⟩
      have hXf := (hFf.block X ⟨by omega, by omega⟩).trans HX0.out
      have cXf := blk_cell hXf 4
      have fXf : Wf.frozen? ⟨X, 4, none⟩ = false := blk_frozen hXf 4
      have hBf := (hFf.block w.heap.size ⟨by omega, by omega⟩).trans ((HFF.out.block w.heap.size ⟨by omega, by omega, by omega⟩).trans HBU.out)
      have hset : Fr (fun k => k ≠ X) Wf (Wf.setCell ⟨X, 4, none⟩ (.bool fl)) := (Fr.refl _ Wf).setCell (p := ⟨X, 4, none⟩) (fun h => h rfl) _
      have HXs := Lib.hid (show (Wf.setCell ⟨X, 4, none⟩ (.bool fl)).heap[X]? = some (.cells #[.string n1, .string n2, .slice A3 n3.length k3, .slice vA vn vc, .bool fl] 133 (0, 0)) from heap_setCell_same hXf 4 _)
      have HBs := Lib.hid ((hset.block w.heap.size (by show w.heap.size ≠ X; omega)).trans hBf)
      have HVf := Lib.hid hvf
      have HRf := Lib.hid hRf
      have HFf := Lib.hid hFf
      clear hXf hBf hvf hRf hFf
      go_wp2_with (first | refine wpList_load_row rfl 133 (.tmp 3) rfl X rfl 133 #[.string n1, .string n2, .slice A3 n3.length k3, .slice vA vn vc, .bool fl] (0, 0) _ HXs.out Try.underlying133 rfl info133 ?_ | refine wpList_store_row rfl 133 (.tmp 2) (.tmp 40) rfl w.heap.size #[.string n1, .string n2, .slice A3 n3.length k3, .slice vA vn vc, .bool fl] rfl rfl 133 _ HBs.out info133 rfl (by simp only [List.all_toArray, List.all_cons, List.all_nil, Value.oneCell', Bool.and_true]) ?_)
      have hfr := fr_setRow (Wf.setCell ⟨X, 4, none⟩ (.bool fl)) w.heap.size #[.string n1, .string n2, .slice A3 n3.length k3, .slice vA vn vc, .bool fl]
      (try simp only [Exit.inBlock, Exit.then])
      have hf1 : Fr (fun k => w.heap.size < k ∧ k < wr.heap.size ∧ k ≠ X) wr ((Wf.setCell ⟨X, 4, none⟩ (.bool fl)).setRow w.heap.size #[.string n1, .string n2, .slice A3 n3.length k3, .slice vA vn vc, .bool fl]) := Fr.trans (HFf.out.mono (fun k hk => ⟨hk.2.1, by have := hk.1; omega⟩)) (Fr.trans (hset.mono (fun k hk => hk.2.2)) (hfr.mono (fun k hk => by show k ≠ w.heap.size; have := hk.1; omega)))
      have hsz := hf1.size
      have hA := accs_fr (accs_fr LU.out (HFF.out.mono (fun k hk => ⟨by have := hk.2; omega, by have := hk.1; omega, by have := hk.2; omega⟩))) (hf1.mono (fun k hk => ⟨hk.1, by have := hk.2; omega, by have := hk.2; omega⟩))
      have hB := links_fr (HLI.out.out (fun h hq => LinkC.mono h hq)) (hf1.mono (fun k hk => ⟨by have := hk.1; omega, hk.2, by have := hk.1; omega⟩))
      refine bodyPost_ret (v := .agg #[.string n1, .string n2, .slice A3 n3.length k3, .slice vA vn vc, .bool fl]) (results_cell_row rfl _ _ w.heap.size 133 _ (0, 0) _ rfl (heap_setRow HBs.out _) Try.underlying133 rfl info133) rfl ⟨_, ⟨n1, n2, n3, xs, fl⟩, rfl, ⟨_, _, _, _, _, rfl, rfl, rfl, accs_mono hA (fun k hk => ⟨by have := hk.1; omega, by have := hk.2; omega⟩), links_mono hB (fun k hk => ⟨by have := hk.1; omega, by have := hk.2; omega⟩), rfl⟩, Cod.vl_iso (Cod.vl_pair V1.out (Cod.vl_pair V2.out (Cod.vl_pair V3.out (Cod.vl_pair (by rw [HST.out]; exact HVL.out) (by rw [HST.out, HST2.out]; exact HVf.out))))), ?_, Fr.trans HFU.out (Fr.trans (HFF.out.mono (fun k hk => ⟨by have := hk.1; omega, hk.2, by have := hk.1; omega⟩)) (Fr.trans (HFf.out.mono (fun k hk => ⟨by have := hk.1; omega, hk.2⟩)) (Fr.trans (hset.mono (fun k hk => by show k ≠ X; have := hk.1; omega)) (hfr.mono (fun k hk => by show k ≠ w.heap.size; have := hk.1; omega)))))⟩
      have e : cEntity.st st = cBool.st ((cList cLink).st st3) := by rw [← HST.out]; simp only [cEntity, Cod.st_iso, Cod.st_pair]
      rw [e, HST2.out]
      exact (HRf.out.fr (Q := fun k => k ≠ X) hset (fun k hk => by show k ≠ X; omega)).fr (Q := fun k => k ≠ w.heap.size) hfr (fun k hk => by show k ≠ w.heap.size; omega)
    · have hj8 : j ≤ 100000000 := by have := HJK.out; omega
      have hd : decide ((0 : Int) < (j : Int)) = true := decide_eq_true (by omega)
      cases oi with
      | none =>
        have hbad := HB1.out rfl
        subst hbad
        have hout := HL.out.out (.inl (by first | rfl | trivial))
        have HST2 := Lib.hid hout.1
        have HVL := Lib.hid hout.2
        clear hout
        go_wp2_with fail
        refine (rflag_r g _ wr HRR.out).mono ?_
        rintro e Wf ⟨fl, rfl, hvf, hRf, hFf⟩
        have hXf := (hFf.block X ⟨by omega, by omega⟩).trans HX0.out
        have cXf := blk_cell hXf 4
        have fXf : Wf.frozen? ⟨X, 4, none⟩ = false := blk_frozen hXf 4
        have hBf := (hFf.block w.heap.size ⟨by omega, by omega⟩).trans ((HFF.out.block w.heap.size ⟨by omega, by omega, by omega⟩).trans HBU.out)
        have hset : Fr (fun k => k ≠ X) Wf (Wf.setCell ⟨X, 4, none⟩ (.bool fl)) := (Fr.refl _ Wf).setCell (p := ⟨X, 4, none⟩) (fun h => h rfl) _
        have HXs := Lib.hid (show (Wf.setCell ⟨X, 4, none⟩ (.bool fl)).heap[X]? = some (.cells #[.string n1, .string n2, .slice A3 n3.length k3, .slice vA vn vc, .bool fl] 133 (0, 0)) from heap_setCell_same hXf 4 _)
        have HBs := Lib.hid ((hset.block w.heap.size (by show w.heap.size ≠ X; omega)).trans hBf)
        have HVf := Lib.hid hvf
        have HRf := Lib.hid hRf
        have HFf := Lib.hid hFf
        clear hXf hBf hvf hRf hFf
        go_wp2_with (first | refine wpList_load_row rfl 133 (.tmp 3) rfl X rfl 133 #[.string n1, .string n2, .slice A3 n3.length k3, .slice vA vn vc, .bool fl] (0, 0) _ HXs.out Try.underlying133 rfl info133 ?_ | refine wpList_store_row rfl 133 (.tmp 2) (.tmp 40) rfl w.heap.size #[.string n1, .string n2, .slice A3 n3.length k3, .slice vA vn vc, .bool fl] rfl rfl 133 _ HBs.out info133 rfl (by simp only [List.all_toArray, List.all_cons, List.all_nil, Value.oneCell', Bool.and_true]) ?_)
        have hfr := fr_setRow (Wf.setCell ⟨X, 4, none⟩ (.bool fl)) w.heap.size #[.string n1, .string n2, .slice A3 n3.length k3, .slice vA vn vc, .bool fl]
        (try simp only [Exit.inBlock, Exit.then])
        have hf1 : Fr (fun k => w.heap.size < k ∧ k < wr.heap.size ∧ k ≠ X) wr ((Wf.setCell ⟨X, 4, none⟩ (.bool fl)).setRow w.heap.size #[.string n1, .string n2, .slice A3 n3.length k3, .slice vA vn vc, .bool fl]) := Fr.trans (HFf.out.mono (fun k hk => ⟨hk.2.1, by have := hk.1; omega⟩)) (Fr.trans (hset.mono (fun k hk => hk.2.2)) (hfr.mono (fun k hk => by show k ≠ w.heap.size; have := hk.1; omega)))
        have hsz := hf1.size
        have hA := accs_fr (accs_fr LU.out (HFF.out.mono (fun k hk => ⟨by have := hk.2; omega, by have := hk.1; omega, by have := hk.2; omega⟩))) (hf1.mono (fun k hk => ⟨hk.1, by have := hk.2; omega, by have := hk.2; omega⟩))
        have hB := links_fr (HLI.out.out (fun h hq => LinkC.mono h hq)) (hf1.mono (fun k hk => ⟨by have := hk.1; omega, hk.2, by have := hk.1; omega⟩))
        refine bodyPost_ret (v := .agg #[.string n1, .string n2, .slice A3 n3.length k3, .slice vA vn vc, .bool fl]) (results_cell_row rfl _ _ w.heap.size 133 _ (0, 0) _ rfl (heap_setRow HBs.out _) Try.underlying133 rfl info133) rfl ⟨_, ⟨n1, n2, n3, xs, fl⟩, rfl, ⟨_, _, _, _, _, rfl, rfl, rfl, accs_mono hA (fun k hk => ⟨by have := hk.1; omega, by have := hk.2; omega⟩), links_mono hB (fun k hk => ⟨by have := hk.1; omega, by have := hk.2; omega⟩), rfl⟩, Cod.vl_iso (Cod.vl_pair V1.out (Cod.vl_pair V2.out (Cod.vl_pair V3.out (Cod.vl_pair (by rw [HST.out]; exact HVL.out) (by rw [HST.out, HST2.out]; exact HVf.out))))), ?_, Fr.trans HFU.out (Fr.trans (HFF.out.mono (fun k hk => ⟨by have := hk.1; omega, hk.2, by have := hk.1; omega⟩)) (Fr.trans (HFf.out.mono (fun k hk => ⟨by have := hk.1; omega, hk.2⟩)) (Fr.trans (hset.mono (fun k hk => by show k ≠ X; have := hk.1; omega)) (hfr.mono (fun k hk => by show k ≠ w.heap.size; have := hk.1; omega)))))⟩
        have e : cEntity.st st = cBool.st ((cList cLink).st st3) := by rw [← HST.out]; simp only [cEntity, Cod.st_iso, Cod.st_pair]
        rw [e, HST2.out]
        exact (HRf.out.fr (Q := fun k => k ≠ X) hset (fun k hk => by show k ≠ X; omega)).fr (Q := fun k => k ≠ w.heap.size) hfr (fun k hk => by show k ≠ w.heap.size; omega)
      | some r =>
        have hbad := HB2.out r rfl
        subst hbad
        have hRd := HRR.out.drew
        go_wp2_with fail
        have hk8 := HL.out.len
        go_region_law (first | (go_simp; go_at_call 46; refine (rint_r g _ _ hRd).mono ?_; rintro e w1 ⟨q1, rfl, c1, z1, r1, f1, -⟩; have hXa : w1.heap[X]? = _ := (f1.block X ⟨(by show X < wr.heap.size; omega), by omega⟩).trans HX0.out; have cXa := blk_cell hXa 3; have HXa := Lib.hid hXa; clear hXa) | (go_simp; go_at_call 46; refine (rint_r g _ _ r1).mono ?_; rintro e w2 ⟨q2, rfl, c2, z2, r2, f2, -⟩; have hXb : w2.heap[X]? = _ := (f2.block X ⟨blk_lt HXa.out, by omega⟩).trans HXa.out; have cXb := blk_cell hXb 3; have HXb := Lib.hid hXb; clear hXb) | (go_simp; go_at_call 46; refine (rint_r g _ _ r2).mono ?_; rintro e w3 ⟨q3, rfl, c3, z3, r3, f3, -⟩; have hF3 : Ro g wr w3 := Ro.trans (show Ro g wr wr.drew from ⟨rfl, rfl, rfl, Nat.le_refl _, fun _ _ => rfl⟩) (Ro.trans f1 (Ro.trans f2 f3)); have LI3 := Lib.hid (HLI.out.keep (w2 := w3) (hF3.mono (fun k hk => ⟨hk.2, by have := hk.1; omega⟩)) (fun h hf => LinkC.fr h hf) (fun h hq => LinkC.mono h hq)); have HX3 := Lib.hid ((hF3.block X ⟨by omega, by omega⟩).trans HX0.out); have cX3 := blk_cell HX3.out 3; have hXlt : X < w3.heap.size := blk_lt HX3.out; have hXne : ¬ X = w3.heap.size := (by omega); have HF3 := Lib.hid hF3; have hs3 := hF3.size; have R3 := Lib.hid r3; have Z1 := Lib.hid z1; have Z2 := Lib.hid z2; have Z3 := Lib.hid z3; clear hF3 r1 r2 r3 f1 f2 f3 z1 z2 z3) | (refine step_app _ (by rfl) _ _ 131 (by rfl) U.heap.size 179 i0 _ 3 24 Try.underlying131 hi0 hz0 hz1 hz2 (by rfl) (by decide) (.slice vA vn vc) xs.length ess.flatten (by rfl) (by exact (LI3.out.own.alloc _)) (fun _ => True) (some ⟨w3.heap.size, 0, none⟩) 1 1 [.int .i64 q1, .int .i64 q2, .int .i64 q3] (by rfl) (by exact (row1 w3 [.int .i64 q1, .int .i64 q2, .int .i64 q3] 179 3 rfl)) (by simp [Value.oneCell']) (by simp only [maxLen]; omega) (by omega) (by simp; omega) ?_; intro v4 w4 hown4 hg4 hat4; obtain ⟨vA2, vn2, vc2, rfl⟩ := own_shape hown4; have hX4 : w4.heap[X]? = _ := (hg4.block X (by simp; omega) (fun e => by have := HVO.out X e.symm; omega)).trans ((Below.heap_alloc w3 _ X (by omega)).trans HX3.out); have cX4 := blk_cell hX4 3; have fX4 : w4.frozen? ⟨X, 3, none⟩ = false := blk_frozen hX4 3))
        all_goals
          have HO4 := Lib.hid hown4
          have HG4 := Lib.hid hg4
          have HA4 := Lib.hid hat4
          have HX4 := Lib.hid hX4
          clear hown4 hg4 hat4 hX4
          go_wp2_with fail
          go_roundw
          case rel =>
            have hUw3 : U.heap.size ≤ w3.heap.size := by omega
            have hfr := rfr (w := U) HG4.out HVO.out hUw3
            have hfs : Fr (fun k => k ≠ X) w4 (w4.setCell ⟨X, 3, none⟩ (.slice vA2 vn2 vc2)) := (Fr.refl _ w4).setCell (p := ⟨X, 3, none⟩) (fun h => h rfl) _
            have hLIa := LI3.out.keep (w2 := w3.alloc (.cells #[.int .i64 q1, .int .i64 q2, .int .i64 q3] 179)) ((Fr.refl _ w3).alloc (fun k hk => hk.2) _) (fun h hf => LinkC.fr h hf) (fun h hq => LinkC.mono h hq)
            have hLIb := hLIa.app (es := [.int .i64 q1, .int .i64 q2, .int .i64 q3]) (x := ⟨q1, q2, q3⟩) HO4.out rfl HG4.out HA4.out ⟨_, _, _, rfl, ⟨rfl, c1⟩, ⟨rfl, c2⟩, ⟨rfl, c3⟩⟩ (fun h hf => LinkC.fr h hf) (fun h hq => LinkC.mono h hq)
            refine ⟨j - 1, k + 1, cLink.st (some r), _, _, .slice vA2 vn2 vc2, by go_num, by have := HJK.out; omega, HL.out.step (by have := HJK.out; omega) encLink_pos (x := ⟨q1, q2, q3⟩) (Cod.vl_iso (Cod.vl_pair Z1.out (Cod.vl_pair Z2.out Z3.out))), ?_, hLIb.keep (hfs.mono (fun k hk => by show k ≠ X; have := hk.1; omega)) (fun h hf => LinkC.fr h hf) (fun h hq => LinkC.mono h hq), ?_, heap_setCell_same HX4.out 3 _⟩
            · have e : cLink.st (some r) = cInt.st (cInt.st (cInt.st (some r))) := by simp only [cLink, Cod.st_iso, Cod.st_pair]
              rw [e]
              exact R3.out.fr (Q := fun k => k < X) (Fr.trans (hfr.mono (fun k hk => Nat.lt_trans hk hXU)) (hfs.mono (fun k hk => Nat.ne_of_lt hk))) (fun k hk => by show k < X; omega)
            · exact Fr.trans HFF.out (Fr.trans (HF3.out.mono (fun k hk => ⟨by have := hk.1; omega, hk.2.1⟩)) (Fr.trans (hfr.mono (fun k hk => hk.1)) (hfs.mono (fun k hk => hk.2.2))))
          case measure =>
            have e : wrap64 ((j : Int) - 1) = ((j - 1 : Nat) : Int) := by unfold wrap64; omega
            simp only [intOf, e]
            omega
end Go.Proofs.Ytgdibeegheddmaa
