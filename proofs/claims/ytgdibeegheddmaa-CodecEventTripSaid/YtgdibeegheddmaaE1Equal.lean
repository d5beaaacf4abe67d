/- slices.Equal at bytes. -/
import Derived.Test.YtgdibeegheddmaaC1Data
import Derived.BigQuiet
import Derived.Deep.QuietTactic
namespace Go.Proofs.Ytgdibeegheddmaa
open Go Go.RowKit

theorem ret_bool {a b : Bool} (h : a = b) : Ending.returned (.bool a) = .returned (.bool b) := by rw [h]

set_option maxHeartbeats 400000 in
theorem equal_c (A B : Option Addr) (c d : Nat) (L M : List UInt8) (w : World) (Q : Nat → Prop) (ha : Rd w Q A L.length 1 (bv L)) (hb : Rd w Q B M.length 1 (bv M)) (hl : L.length ≤ 1000000000000) (hm : M.length ≤ 1000000000000) :
    Calls Try.prog 44 #[.slice A L.length c, .slice B M.length d] w fun e w' => e = .returned (.bool (decide (L = M))) ∧ ∃ n, w' = w.drewN n := by
  by_cases hne : L.length = M.length
  · have hE : (((L.length : Nat) : Int) != ((M.length : Nat) : Int)) = false := by simp [hne]
    have HN := Lib.hid hne
    clear hne
    go_enter Try.func44, Try.ntmps44
    go_wp2_with fail
    go_loopw [13] (fun i wr => ∃ k n : Nat, k ≤ L.length ∧ i = .int .i64 (k : Int) ∧ L.take k = M.take k ∧ wr = w.drewN n) (fun i _ => L.length - (intOf i).toNat)
    case atStart => exact ⟨0, 0, Nat.zero_le _, rfl, by simp, rfl⟩
    case round =>
      obtain ⟨k, n, hk, rfl, htk, rfl⟩ := hrel
      have HT := Lib.hid htk
      clear htk
      by_cases hlt : k < L.length
      · have hlt2 : k < M.length := by have := HN.out; omega
        obtain ⟨a, u, rfl, _, hu, hca⟩ := ha.at_ hlt
        obtain ⟨a2, u2, rfl, _, hu2, hca2⟩ := hb.at_ hlt2
        have e1 : u = .int .u8 (L[k].toNat : Int) := by
          rw [bv_get, List.getElem?_eq_getElem hlt] at hu; simpa using hu.symm
        have e2 : u2 = .int .u8 (M[k].toNat : Int) := by
          rw [bv_get, List.getElem?_eq_getElem hlt2] at hu2; simpa using hu2.symm
        subst e1 e2
        have hA : (k : Int) < (L.length : Int) := by omega
        have hB : (k : Int) < (M.length : Int) := by omega
        have h0 : (0 : Int) ≤ (k : Int) := by omega
        clear hu hu2
        by_cases heq : L[k] = M[k]
        · have hq : (((L[k].toNat : Nat) : Int) != ((M[k].toNat : Nat) : Int)) = false := by simp [heq]
          have HQ := Lib.hid heq
          clear heq
          go_wp2_with fail
          go_quiet (fail)
          go_wp2_with fail
          go_roundw
          case rel =>
            refine ⟨k + 1, _, by omega, by go_num, ?_, rfl⟩
            rw [List.take_succ_eq_append_getElem hlt, List.take_succ_eq_append_getElem hlt2, HT.out, HQ.out]
          case measure => simp [intOf]; omega
        · have hq : (((L[k].toNat : Nat) : Int) != ((M[k].toNat : Nat) : Int)) = true := by
            simp only [bne_iff_ne, ne_eq]
            intro h
            exact heq (UInt8.toNat_inj.1 (by omega))
          have hne' : ¬ L = M := by
            intro h
            subst h
            exact heq rfl
          have HNE := Lib.hid hne'
          clear hne' heq
          go_wp2_with fail
          go_quiet (fail)
          go_wp2_with fail
          go_ret
          exact ⟨ret_bool (decide_eq_false HNE.out).symm, n + nq, by rw [World.drewN_drewN]⟩
      · have hkl : L.length ≤ k := by omega
        have hLM : L = M := by
          have h := HT.out
          rwa [List.take_of_length_le hkl, List.take_of_length_le (by have := HN.out; omega)] at h
        have HLM := Lib.hid hLM
        have hA : ¬ (k : Int) < (L.length : Int) := by omega
        clear hlt hkl hLM
        go_wp2_with fail
        go_ret
        exact ⟨ret_bool (decide_eq_true HLM.out).symm, _, rfl⟩
  · have hE : (((L.length : Nat) : Int) != ((M.length : Nat) : Int)) = true := by
      simp only [bne_iff_ne, ne_eq]; omega
    have hne' : ¬ L = M := fun h => hne (by rw [h])
    have HNE := Lib.hid hne'
    clear hne' hne
    go_enter Try.func44, Try.ntmps44
    go_wp2_with fail
    go_ret
    exact ⟨ret_bool (decide_eq_false HNE.out).symm, 0, rfl⟩
end Go.Proofs.Ytgdibeegheddmaa
