/- The reference's Next: the integer with whose encoding bytes begin, and the number of its bytes. -/
import Derived.Test.YtgdibeegheddmaaE8RefInt
namespace Go.Proofs.Ytgdibeegheddmaa
open Go Go.RowKit
set_option linter.unusedVariables false

/-- The reference's answer: the integer and the number of its bytes, or zeros. -/
def refNextR (b : List UInt8) : Int × Nat := match next b with
  | some (n, k) => (n, k)
  | none => (0, 0)
def RNPost (w : World) (r : Int × Nat) (e : Ending) (w' : World) : Prop := e = .returned (.tuple #[.int .i64 r.1, .int .i64 (r.2 : Int)]) ∧ w = w'
theorem rnpost {w : World} {r : Int × Nat} {n : Int} {k : Nat} {n' k' : Int} (hr : r = (n, k)) (hn : n' = n) (hk : k' = (k : Int)) : RNPost w r (.returned (.tuple #[.int .i64 n', .int .i64 k'])) w := by
  subst hr hn hk; exact ⟨rfl, rfl⟩
theorem refNextR_none {b : List UInt8} (h : nextU 0 0 b = none) : refNextR b = (0, 0) := by simp [refNextR, next, h]
theorem refNextR_some {b : List UInt8} {m k : Nat} (h : nextU 0 0 b = some (m, k)) : refNextR b = (Lib.unzigzag m, k) := by simp [refNextR, next, h]
theorem add_shift (m d k : Nat) (hm : m < 128 ^ k) (hd : d < 256) (hk : k ≤ 9) (h9 : k = 9 → d % 128 ≤ 1) :
    IntKind.u64.wrap ((m : Int) + IntKind.u64.wrap ((d : Int) % 128 * 2 ^ (7 * k))) = ((m + d % 128 * 128 ^ k : Nat) : Int) := by
  have hp := pow9 k hk
  have hq := dig_lt (d % 128) k (by omega) hk (by omega)
  rw [show d % 128 % 128 = d % 128 from by omega] at hq
  have e3 : (d : Int) % 128 * 2 ^ (7 * k) = ((d % 128 * 128 ^ k : Nat) : Int) := by
    rw [← pow7]; push_cast; rfl
  rw [e3]
  generalize hy : d % 128 * 128 ^ k = y at *
  have e4 : IntKind.u64.wrap ((y : Nat) : Int) = ((y : Nat) : Int) := by rw [IntKind.wrap_u64]; omega
  rw [e4, IntKind.wrap_u64]; omega

set_option maxHeartbeats 2000000 in
set_option maxRecDepth 100000 in
theorem refNext_c (A : Option Addr) (c : Nat) (L : List UInt8) (w : World) (Q : Nat → Prop) (h : Rd w Q A L.length 1 (bv L)) (hl : L.length ≤ 1000000000000) :
    Calls Try.prog 15 #[.slice A L.length c] w (RNPost w (refNextR L)) := by
  go_enter Try.func15, Try.ntmps15
  go_wp2_with fail
  go_loopw [4, 5] (fun mv i wr => ∃ k m : Nat, k ≤ L.length ∧ k ≤ 10 ∧ i = .int .i64 (k : Int) ∧ mv = .int .u64 (m : Int) ∧ wr = w ∧ m < 128 ^ k ∧ (k ≤ 9 → nextU 0 0 L = nextU k m (L.drop k)) ∧ (k = 10 → nextU 0 0 L = none)) (fun _ i _ => L.length - (intOf i).toNat)
  case atStart => exact ⟨0, 0, by omega, by omega, rfl, rfl, rfl, by simp, fun _ => rfl, by omega⟩
  case round =>
    obtain ⟨k, m, hk, hk10, rfl, rfl, rfl, hm, hU, hN⟩ := hrel
    by_cases hlt : k < L.length
    · obtain ⟨a, u, rfl, _, hu, hca⟩ := h.at_ hlt
      have e1 : u = .int .u8 (L[k].toNat : Int) := by
        rw [bv_get, List.getElem?_eq_getElem hlt] at hu; simpa using hu.symm
      subst e1
      clear hu
      have hA : (k : Int) < (L.length : Int) := by omega
      have h0 : (0 : Int) ≤ (k : Int) := by omega
      by_cases k10 : k = 10
      · have HR := Lib.hid (refNextR_none (hN k10))
        have hK : ¬ (k : Int) < 10 := by omega
        clear hU hN hm k10
        go_wp2_with fail
        go_ret2
        exact rnpost HR.out rfl rfl
      have hk9 : k ≤ 9 := by omega
      replace hU := hU hk9
      clear hN
      have hc : L[k].toNat < 256 := UInt8.toNat_lt _
      rw [List.drop_eq_getElem_cons hlt] at hU
      have hdd : ∀ r, nextU k m (L[k] :: r) = if (k = 9 ∧ 1 < L[k].toNat) ∨ (L[k].toNat = 0 ∧ 0 < k) then none else if L[k].toNat < 128 then some (m + L[k].toNat * 128 ^ k, k + 1) else nextU (k + 1) (m + L[k].toNat % 128 * 128 ^ k) r := fun r => by rw [nextU]
      rw [hdd] at hU
      clear hdd
      generalize L[k].toNat = d at *
      have hK : (k : Int) < 10 := by omega
      by_cases k9 : k = 9
      · have q9 : ((k : Int) == 9) = true := by simp; omega
        by_cases d1 : 1 < d % 128
        · have d1I : (1 : Int) < (d : Int) % 128 := by omega
          have HR := Lib.hid (refNextR_none (hU.trans (if_pos (by omega))))
          clear hU hm d1 k9
          go_wp2_with fail
          go_ret2
          exact rnpost HR.out rfl rfl
        · have d1I : ¬ (1 : Int) < (d : Int) % 128 := by omega
          by_cases d128 : 128 ≤ d
          · have q128 : (128 : Int) ≤ (d : Int) := by omega
            have hadd := add_shift m d k hm hc hk9 (by omega)
            have hbig : m + d % 128 * 128 ^ k < 18446744073709551616 := by
              have h1 := dig_lt (d % 128) k (by omega) hk9 (by omega)
              have h2 := pow9 k hk9
              rw [show d % 128 % 128 = d % 128 from by omega] at h1
              omega
            have hlt2 := next_lt m d k hm hc
            have HLT2 := Lib.hid hlt2
            have hN2 : k = 9 → nextU 0 0 L = none := fun e => hU.trans (if_pos (by omega))
            have hU2 : k ≤ 8 → nextU 0 0 L = nextU (k + 1) (m + d % 128 * 128 ^ k) (L.drop (k + 1)) := fun e => hU.trans ((if_neg (by omega)).trans (if_neg (by omega)))
            have HN2 := Lib.hid hN2
            have HU2 := Lib.hid hU2
            clear hU hm hlt2 hN2 hU2 hbig k9
            generalize m + d % 128 * 128 ^ k = m2 at *
            go_wp2_with fail
            go_roundw
            case rel => exact ⟨k + 1, m2, by omega, by omega, by go_num, rfl, trivial, HLT2.out, fun e => HU2.out (by omega), fun e => HN2.out (by omega)⟩
            case measure => simp [intOf]; omega
          · have q128 : ¬ (128 : Int) ≤ (d : Int) := by omega
            by_cases d0 : d = 0
            · have q0 : ((d : Int) == 0) = true := by simp; omega
              have k0I : (0 : Int) < (k : Int) := by omega
              have hadd := add_shift m d k hm hc hk9 (by omega)
              have hbig : m + d % 128 * 128 ^ k < 18446744073709551616 := by
                have h1 := dig_lt (d % 128) k (by omega) hk9 (by omega)
                have h2 := pow9 k hk9
                rw [show d % 128 % 128 = d % 128 from by omega] at h1
                omega
              have HR := Lib.hid (refNextR_none (hU.trans (if_pos (by omega))))
              generalize m + d % 128 * 128 ^ k = m2 at *
              clear hU hm hbig d1 d0 k9 d128
              go_wp2_with fail
              go_ret2
              exact rnpost HR.out rfl rfl
            · have q0 : ((d : Int) == 0) = false := by simp; omega
              have hadd := add_shift m d k hm hc hk9 (by omega)
              have hbig : m + d % 128 * 128 ^ k < 18446744073709551616 := by
                have h1 := dig_lt (d % 128) k (by omega) hk9 (by omega)
                have h2 := pow9 k hk9
                rw [show d % 128 % 128 = d % 128 from by omega] at h1
                omega
              have hmd : d % 128 = d := by omega
              rw [hmd] at hadd hbig
              have HR := Lib.hid (refNextR_some (hU.trans ((if_neg (by omega)).trans (if_pos (by omega)))))
              generalize m + d * 128 ^ k = m2 at *
              clear hU hm hmd d1 d0 k9 d128
              have hbI : (m2 : Int) ≤ 18446744073709551615 := by omega
              clear hbig
              by_cases par : m2 % 2 = 1
              · have hp : ((m2 : Int) % 2 == 1) = true := by simp; omega
                have huz : Lib.unzigzag m2 = -((m2 : Int) / 2) - 1 := by unfold Lib.unzigzag; rw [if_neg (by omega)]; omega
                have HUZ := Lib.hid huz
                clear huz par
                go_wp2_with fail
                go_ret2
                exact rnpost HR.out HUZ.out.symm rfl
              · have hp : ((m2 : Int) % 2 == 1) = false := by simp; omega
                have huz : Lib.unzigzag m2 = (m2 : Int) / 2 := by unfold Lib.unzigzag; rw [if_pos (by omega)]; omega
                have HUZ := Lib.hid huz
                clear huz par
                go_wp2_with fail
                go_ret2
                exact rnpost HR.out HUZ.out.symm rfl
      · have q9 : ((k : Int) == 9) = false := by simp; omega
        by_cases d128 : 128 ≤ d
        · have q128 : (128 : Int) ≤ (d : Int) := by omega
          have hadd := add_shift m d k hm hc hk9 (by omega)
          have hbig : m + d % 128 * 128 ^ k < 18446744073709551616 := by
            have h1 := dig_lt (d % 128) k (by omega) hk9 (by omega)
            have h2 := pow9 k hk9
            rw [show d % 128 % 128 = d % 128 from by omega] at h1
            omega
          have hlt2 := next_lt m d k hm hc
          have HLT2 := Lib.hid hlt2
          have hN2 : k = 9 → nextU 0 0 L = none := fun e => hU.trans (if_pos (by omega))
          have hU2 : k ≤ 8 → nextU 0 0 L = nextU (k + 1) (m + d % 128 * 128 ^ k) (L.drop (k + 1)) := fun e => hU.trans ((if_neg (by omega)).trans (if_neg (by omega)))
          have HN2 := Lib.hid hN2
          have HU2 := Lib.hid hU2
          clear hU hm hlt2 hN2 hU2 hbig k9
          generalize m + d % 128 * 128 ^ k = m2 at *
          go_wp2_with fail
          go_roundw
          case rel => exact ⟨k + 1, m2, by omega, by omega, by go_num, rfl, trivial, HLT2.out, fun e => HU2.out (by omega), fun e => HN2.out (by omega)⟩
          case measure => simp [intOf]; omega
        · have q128 : ¬ (128 : Int) ≤ (d : Int) := by omega
          by_cases d0 : d = 0
          · have q0 : ((d : Int) == 0) = true := by simp; omega
            by_cases k0 : 0 < k
            · have k0I : (0 : Int) < (k : Int) := by omega
              have hadd := add_shift m d k hm hc hk9 (by omega)
              have hbig : m + d % 128 * 128 ^ k < 18446744073709551616 := by
                have h1 := dig_lt (d % 128) k (by omega) hk9 (by omega)
                have h2 := pow9 k hk9
                rw [show d % 128 % 128 = d % 128 from by omega] at h1
                omega
              have HR := Lib.hid (refNextR_none (hU.trans (if_pos (by omega))))
              generalize m + d % 128 * 128 ^ k = m2 at *
              clear hU hm hbig d0 k9 k0 d128
              go_wp2_with fail
              go_ret2
              exact rnpost HR.out rfl rfl
            · have k0I : ¬ (0 : Int) < (k : Int) := by omega
              have hadd := add_shift m d k hm hc hk9 (by omega)
              have hbig : m + d % 128 * 128 ^ k < 18446744073709551616 := by
                have h1 := dig_lt (d % 128) k (by omega) hk9 (by omega)
                have h2 := pow9 k hk9
                rw [show d % 128 % 128 = d % 128 from by omega] at h1
                omega
              have hmd : d % 128 = d := by omega
              rw [hmd] at hadd hbig
              have HR := Lib.hid (refNextR_some (hU.trans ((if_neg (by omega)).trans (if_pos (by omega)))))
              generalize m + d * 128 ^ k = m2 at *
              clear hU hm hmd d0 k9 k0 d128
              have hbI : (m2 : Int) ≤ 18446744073709551615 := by omega
              clear hbig
              by_cases par : m2 % 2 = 1
              · have hp : ((m2 : Int) % 2 == 1) = true := by simp; omega
                have huz : Lib.unzigzag m2 = -((m2 : Int) / 2) - 1 := by unfold Lib.unzigzag; rw [if_neg (by omega)]; omega
                have HUZ := Lib.hid huz
                clear huz par
                go_wp2_with fail
                go_ret2
                exact rnpost HR.out HUZ.out.symm rfl
              · have hp : ((m2 : Int) % 2 == 1) = false := by simp; omega
                have huz : Lib.unzigzag m2 = (m2 : Int) / 2 := by unfold Lib.unzigzag; rw [if_pos (by omega)]; omega
                have HUZ := Lib.hid huz
                clear huz par
                go_wp2_with fail
                go_ret2
                exact rnpost HR.out HUZ.out.symm rfl
          · have q0 : ((d : Int) == 0) = false := by simp; omega
            have hadd := add_shift m d k hm hc hk9 (by omega)
            have hbig : m + d % 128 * 128 ^ k < 18446744073709551616 := by
              have h1 := dig_lt (d % 128) k (by omega) hk9 (by omega)
              have h2 := pow9 k hk9
              rw [show d % 128 % 128 = d % 128 from by omega] at h1
              omega
            have hmd : d % 128 = d := by omega
            rw [hmd] at hadd hbig
            have HR := Lib.hid (refNextR_some (hU.trans ((if_neg (by omega)).trans (if_pos (by omega)))))
            generalize m + d * 128 ^ k = m2 at *
            clear hU hm hmd d0 k9 d128
            have hbI : (m2 : Int) ≤ 18446744073709551615 := by omega
            clear hbig
            by_cases par : m2 % 2 = 1
            · have hp : ((m2 : Int) % 2 == 1) = true := by simp; omega
              have huz : Lib.unzigzag m2 = -((m2 : Int) / 2) - 1 := by unfold Lib.unzigzag; rw [if_neg (by omega)]; omega
              have HUZ := Lib.hid huz
              clear huz par
              go_wp2_with fail
              go_ret2
              exact rnpost HR.out HUZ.out.symm rfl
            · have hp : ((m2 : Int) % 2 == 1) = false := by simp; omega
              have huz : Lib.unzigzag m2 = (m2 : Int) / 2 := by unfold Lib.unzigzag; rw [if_pos (by omega)]; omega
              have HUZ := Lib.hid huz
              clear huz par
              go_wp2_with fail
              go_ret2
              exact rnpost HR.out HUZ.out.symm rfl
    · have hkl : L.length ≤ k := by omega
      have HR : Hid (refNextR L = (0, 0)) := Lib.hid (refNextR_none (by
        by_cases e : k = 10
        · exact hN e
        · rw [hU (by omega), List.drop_of_length_le hkl]; rfl))
      have hA : ¬ (k : Int) < (L.length : Int) := by omega
      clear hU hN hm hlt hkl
      go_wp2_with fail
      go_ret2
      exact rnpost HR.out rfl rfl
end Go.Proofs.Ytgdibeegheddmaa
