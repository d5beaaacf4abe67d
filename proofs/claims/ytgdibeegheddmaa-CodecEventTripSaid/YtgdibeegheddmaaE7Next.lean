/- codec.Next returns the integer with whose encoding bytes begin, and the bytes behind it. -/
import Derived.Test.YtgdibeegheddmaaE6Clone
import Derived.Lib.VarintDec
import Derived.Lib.VarintBits
import Derived.BigQuiet
namespace Go.Proofs.Ytgdibeegheddmaa
open Go Go.RowKit
set_option linter.unusedVariables false

def nextU (i m : Nat) : List UInt8 → Option (Nat × Nat)
  | [] => none
  | c :: r => if (i = 9 ∧ 1 < c.toNat) ∨ (c.toNat = 0 ∧ 0 < i) then none
    else if c.toNat < 128 then some (m + c.toNat * 128 ^ i, i + 1)
    else nextU (i + 1) (m + c.toNat % 128 * 128 ^ i) r
def next (b : List UInt8) : Option (Int × Nat) := (nextU 0 0 b).map fun p => (Lib.unzigzag p.1, p.2)

theorem pow7 (k : Nat) : (2 : Nat) ^ (7 * k) = 128 ^ k := by rw [Nat.pow_mul]
theorem pow9 (k : Nat) (hk : k ≤ 9) : 128 ^ k ≤ 9223372036854775808 := by
  have : 128 ^ k ≤ 128 ^ 9 := Nat.pow_le_pow_right (by omega) hk
  omega
theorem pow8 (k : Nat) (hk : k ≤ 8) : 128 ^ k ≤ 72057594037927936 := by
  have : 128 ^ k ≤ 128 ^ 8 := Nat.pow_le_pow_right (by omega) hk
  omega
theorem dig_lt (d k : Nat) (hd : d < 256) (hk : k ≤ 9) (h9 : k = 9 → d ≤ 1) : d % 128 * 128 ^ k ≤ 9223372036854775808 := by
  by_cases h : k = 9
  · have h1 : d % 128 ≤ 1 := by have := h9 h; omega
    have h2 := pow9 k hk
    calc d % 128 * 128 ^ k ≤ 1 * 9223372036854775808 := Nat.mul_le_mul h1 h2
      _ = _ := by omega
  · have h1 : d % 128 ≤ 127 := by omega
    have h2 := pow8 k (by omega)
    calc d % 128 * 128 ^ k ≤ 127 * 72057594037927936 := Nat.mul_le_mul h1 h2
      _ ≤ _ := by omega
theorem or_shift (m d k : Nat) (hm : m < 128 ^ k) (hd : d < 256) (hk : k ≤ 9) (h9 : k = 9 → d ≤ 1) :
    bits .or .u64 (m : Int) (IntKind.u64.wrap (IntKind.u64.wrap (bits .and .u8 (d : Int) 127) * 2 ^ (7 * k))) = ((m + d % 128 * 128 ^ k : Nat) : Int) := by
  have hp := pow9 k hk
  have hq := dig_lt d k hd hk h9
  have e1 : bits .and .u8 (d : Int) 127 = ((d % 128 : Nat) : Int) := by rw [u8_and127 (x := (d : Int)) (by omega) (by omega)]; omega
  have e2 : IntKind.u64.wrap ((d % 128 : Nat) : Int) = ((d % 128 : Nat) : Int) := by rw [IntKind.wrap_u64]; omega
  have e3 : ((d % 128 : Nat) : Int) * 2 ^ (7 * k) = ((d % 128 * 128 ^ k : Nat) : Int) := by
    rw [← pow7]; push_cast; rfl
  rw [e1, e2, e3]
  generalize hy : d % 128 * 128 ^ k = y at *
  have e4 : IntKind.u64.wrap ((y : Nat) : Int) = ((y : Nat) : Int) := by rw [IntKind.wrap_u64]; omega
  rw [e4, bits_or_u64_nat m y (by omega) (by omega), Nat.or_comm]
  have := nat_join (7 * k) y m (by rw [pow7, ← hy]; exact Nat.mul_mod_left _ _) (by rw [pow7]; exact hm)
  rw [this]; omega
theorem next_lt (m d k : Nat) (hm : m < 128 ^ k) (hd : d < 256) : m + d % 128 * 128 ^ k < 128 ^ (k + 1) := by
  rw [Nat.pow_succ]
  have h1 : d % 128 ≤ 127 := by omega
  have := Nat.mul_le_mul_right (128 ^ k) h1
  omega

theorem unzig_bits (m : Nat) (hm : m < 18446744073709551616) : bits .xor .i64 (wrap64 ((m : Int) / 2)) (wrap64 (-wrap64 (bits .and .u64 (m : Int) 1))) = Lib.unzigzag m := by
  rw [Lib.u64_and1 (m : Int) (by omega) (by omega)]
  have e0 : wrap64 ((m : Int) / 2) = (m : Int) / 2 := IntWalk.wrap64_in _ (by omega)
  have e1 : wrap64 ((m : Int) % 2) = (m : Int) % 2 := IntWalk.wrap64_in _ (by omega)
  have e2 : wrap64 (-((m : Int) % 2)) = -((m : Int) % 2) := IntWalk.wrap64_in _ (by omega)
  rw [e0, e1, e2]
  unfold Lib.unzigzag
  by_cases h : m % 2 = 0
  · rw [if_pos h]
    have e3 : -((m : Int) % 2) = ((0 : Nat) : Int) := by omega
    have e4 : (m : Int) / 2 = ((m / 2 : Nat) : Int) := by omega
    rw [e3, e4]
    show IntKind.i64.wrap ((BitVec.ofInt 64 ((m / 2 : Nat) : Int) ^^^ BitVec.ofInt 64 ((0 : Nat) : Int)).toNat : Int) = _
    have h2 : (BitVec.ofInt 64 ((m / 2 : Nat) : Int)).toNat = m / 2 := by
      rw [BitVec.ofInt_natCast, BitVec.toNat_ofNat]; exact Nat.mod_eq_of_lt (by omega)
    have h3 : (BitVec.ofInt 64 ((0 : Nat) : Int)).toNat = 0 := by decide
    rw [BitVec.toNat_xor, h2, h3, Nat.xor_zero, IntKind.wrap_i64]
    omega
  · rw [if_neg h]
    have e3 : -((m : Int) % 2) = -1 := by omega
    have e4 : (m : Int) / 2 = ((m / 2 : Nat) : Int) := by omega
    rw [e3, e4]
    show IntKind.i64.wrap ((BitVec.ofInt 64 ((m / 2 : Nat) : Int) ^^^ BitVec.ofInt 64 (-1)).toNat : Int) = _
    have h := Lib.i64_not (m / 2) (by omega)
    rw [show BitVec.ofInt 64 ((m / 2 : Nat) : Int) ^^^ BitVec.ofInt 64 (-1) = BitVec.ofInt 64 (-1) ^^^ BitVec.ofInt 64 ((m / 2 : Nat) : Int) from BitVec.xor_comm _ _]
    exact h
theorem clone_n (A : Option Addr) (n c : Nat) (L : List UInt8) (w : World) (hn : L.length = n) (h : Rd w (· < w.heap.size) A n 1 (bv L)) (hl : L.length ≤ Lim) :
    Calls Try.prog 32 #[.slice A n c] w fun e w' => ∃ v, e = .returned v ∧ NewBytes w w' v L := by
  subst hn; exact clone_c A c L w h hl
/-- What Next hands back: the integer and the bytes behind it, or ErrForm. -/
def nextR (b : List UInt8) : Int × List UInt8 × Int := match next b with
  | some (n, k) => (n, b.drop k, 0)
  | none => (0, [], 4)
def NPost (w : World) (r : Int × List UInt8 × Int) (e : Ending) (w' : World) : Prop := ∃ v, e = .returned (.tuple #[.int .i64 r.1, v, .int .i64 r.2.2]) ∧ NewBytes w w' v r.2.1
theorem NewBytes.nil (w : World) : NewBytes w w (.slice none 0 0) [] := ⟨Bytes.nil _, fun k hk => by simp [Value.ownBlock] at hk, Below.refl _ _⟩
theorem npost {w w' : World} {r : Int × List UInt8 × Int} {n e : Int} {M : List UInt8} {v : Value} (hr : r = (n, M, e)) (h : NewBytes w w' v M) : NPost w r (.returned (.tuple #[.int .i64 n, v, .int .i64 e])) w' := by
  subst hr; exact ⟨v, rfl, h⟩
theorem nextR_none {b : List UInt8} (h : nextU 0 0 b = none) : nextR b = (0, [], 4) := by simp [nextR, next, h]
theorem nextR_some {b : List UInt8} {m k : Nat} (h : nextU 0 0 b = some (m, k)) : nextR b = (Lib.unzigzag m, b.drop k, 0) := by simp [nextR, next, h]

set_option maxHeartbeats 1000000 in
set_option maxRecDepth 100000 in
theorem next_c (A : Option Addr) (c : Nat) (L : List UInt8) (w : World) (h : Rd w (· < w.heap.size) A L.length 1 (bv L)) (hlc : L.length ≤ c) (hl : L.length ≤ Lim) :
    Calls Try.prog 13 #[.slice A L.length c] w (NPost w (nextR L)) := by
  have hl2 : L.length ≤ 1000000000000 := hl
  go_enter Try.func13, Try.ntmps13
  go_wp2_with fail
  go_loopw [5, 10] (fun mv i wr => ∃ k m : Nat, k ≤ L.length ∧ k ≤ 9 ∧ i = .int .i64 (k : Int) ∧ mv = .int .u64 (m : Int) ∧ wr = w ∧ m < 128 ^ k ∧ nextU 0 0 L = nextU k m (L.drop k)) (fun _ i _ => L.length - (intOf i).toNat)
  case atStart => exact ⟨0, 0, by omega, by omega, rfl, rfl, rfl, by simp, rfl⟩
  case round =>
    obtain ⟨k, m, hk, hk9, rfl, rfl, rfl, hm, hU⟩ := hrel
    by_cases hlt : k < L.length
    · obtain ⟨a, u, rfl, _, hu, hca⟩ := h.at_ hlt
      have e1 : u = .int .u8 (L[k].toNat : Int) := by
        rw [bv_get, List.getElem?_eq_getElem hlt] at hu; simpa using hu.symm
      subst e1
      clear hu
      have hc : L[k].toNat < 256 := UInt8.toNat_lt _
      rw [List.drop_eq_getElem_cons hlt] at hU
      have hdd : ∀ r, nextU k m (L[k] :: r) = if (k = 9 ∧ 1 < L[k].toNat) ∨ (L[k].toNat = 0 ∧ 0 < k) then none else if L[k].toNat < 128 then some (m + L[k].toNat * 128 ^ k, k + 1) else nextU (k + 1) (m + L[k].toNat % 128 * 128 ^ k) r := fun r => by rw [nextU]
      rw [hdd] at hU
      clear hdd
      generalize L[k].toNat = d at *
      have hA : (k : Int) < (L.length : Int) := by omega
      have h0 : (0 : Int) ≤ (k : Int) := by omega
      by_cases k9 : k = 9
      · have q9 : ((k : Int) == 9) = true := by simp; omega
        by_cases d1 : 1 < d
        · have d1I : (1 : Int) < (d : Int) := by omega
          have HB : (k = 9 ∧ 1 < d) ∨ (d = 0 ∧ 0 < k) := by omega
          have HR := Lib.hid (nextR_none (hU.trans (if_pos HB)))
          clear hU HB hm k9 d1
          go_wp2_with fail
          go_ret3
          exact npost HR.out (NewBytes.nil _)
        · have d1I : ¬ (1 : Int) < (d : Int) := by omega
          by_cases d0 : d = 0
          · have q0 : ((d : Int) == 0) = true := by simp; omega
            have k0I : (0 : Int) < (k : Int) := by omega
            have HB : (k = 9 ∧ 1 < d) ∨ (d = 0 ∧ 0 < k) := by omega
            have HR := Lib.hid (nextR_none (hU.trans (if_pos HB)))
            clear hU HB hm k9 d1 d0
            go_wp2_with fail
            go_ret3
            exact npost HR.out (NewBytes.nil _)
          · have q0 : ((d : Int) == 0) = false := by simp; omega
            have HNB : ¬ ((k = 9 ∧ 1 < d) ∨ (d = 0 ∧ 0 < k)) := by omega
            have hd : d < 128 := by omega
            have hor := or_shift m d k hm hc hk9 (by omega)
            have hmd : d % 128 = d := by omega
            rw [hmd] at hor
            have hbig : m + d * 128 ^ k < 18446744073709551616 := by
              have h1 := dig_lt d k hc hk9 (by omega)
              have h2 := pow9 k hk9
              rw [hmd] at h1
              omega
            have HR := Lib.hid (nextR_some (hU.trans ((if_neg HNB).trans (if_pos hd))))
            clear hU HNB hm hmd
            generalize m + d * 128 ^ k = m2 at *
            have huz := unzig_bits m2 hbig
            generalize Lib.unzigzag m2 = nn at *
            have hdI : (d : Int) < 128 := by omega
            have hcut := (h.cut (k := k + 1) (cap := c) (by omega) hlc)
            have hdl : (L.drop (k + 1)).length = L.length - (k + 1) := by simp
            have HDL := Lib.hid hdl
            have hln : (L.drop (k + 1)).length ≤ Lim := by simp; omega
            have hbv : (bv L).drop ((k + 1) * 1) = bv (L.drop (k + 1)) := by simp [bv]
            rw [hbv] at hcut
            have HCUT := Lib.hid hcut
            clear hbv hcut hdl hbig k9 d1 d0
            go_wp2_with fail
            · have hc1 : c = k + 1 := by omega
              have r1 := HCUT.out
              rw [if_pos hc1] at r1
              clear hc1
              refine (clone_n _ _ _ (L.drop (k + 1)) _ HDL.out r1 hln).mono ?_
              rintro e w1 ⟨v1, rfl, hn1⟩
              go_wp2_with fail
              go_ret3
              exact npost HR.out hn1
            · have r1 := HCUT.out
              rw [if_neg (by omega)] at r1
              have ead : Option.map (fun x => Addr.add x ((k + 1) * 1)) (some a) = some ⟨a.block, a.off + (k + 1), none⟩ := by simp [Addr.add]
              rw [ead] at r1
              clear ead
              refine (clone_n _ _ _ (L.drop (k + 1)) _ HDL.out r1 hln).mono ?_
              rintro e w1 ⟨v1, rfl, hn1⟩
              go_wp2_with fail
              go_ret3
              exact npost HR.out hn1
      · have q9 : ((k : Int) == 9) = false := by simp; omega
        by_cases d0 : d = 0
        · have q0 : ((d : Int) == 0) = true := by simp; omega
          by_cases k0 : 0 < k
          · have k0I : (0 : Int) < (k : Int) := by omega
            have HB : (k = 9 ∧ 1 < d) ∨ (d = 0 ∧ 0 < k) := by omega
            have HR := Lib.hid (nextR_none (hU.trans (if_pos HB)))
            clear hU HB hm k9 d0 k0
            go_wp2_with fail
            go_ret3
            exact npost HR.out (NewBytes.nil _)
          · have k0I : ¬ (0 : Int) < (k : Int) := by omega
            have HNB : ¬ ((k = 9 ∧ 1 < d) ∨ (d = 0 ∧ 0 < k)) := by omega
            have hd : d < 128 := by omega
            have hor := or_shift m d k hm hc hk9 (by omega)
            have hmd : d % 128 = d := by omega
            rw [hmd] at hor
            have hbig : m + d * 128 ^ k < 18446744073709551616 := by
              have h1 := dig_lt d k hc hk9 (by omega)
              have h2 := pow9 k hk9
              rw [hmd] at h1
              omega
            have HR := Lib.hid (nextR_some (hU.trans ((if_neg HNB).trans (if_pos hd))))
            clear hU HNB hm hmd
            generalize m + d * 128 ^ k = m2 at *
            have huz := unzig_bits m2 hbig
            generalize Lib.unzigzag m2 = nn at *
            have hdI : (d : Int) < 128 := by omega
            have hcut := (h.cut (k := k + 1) (cap := c) (by omega) hlc)
            have hdl : (L.drop (k + 1)).length = L.length - (k + 1) := by simp
            have HDL := Lib.hid hdl
            have hln : (L.drop (k + 1)).length ≤ Lim := by simp; omega
            have hbv : (bv L).drop ((k + 1) * 1) = bv (L.drop (k + 1)) := by simp [bv]
            rw [hbv] at hcut
            have HCUT := Lib.hid hcut
            clear hbv hcut hdl hbig k9 d0 k0
            go_wp2_with fail
            · have hc1 : c = k + 1 := by omega
              have r1 := HCUT.out
              rw [if_pos hc1] at r1
              clear hc1
              refine (clone_n _ _ _ (L.drop (k + 1)) _ HDL.out r1 hln).mono ?_
              rintro e w1 ⟨v1, rfl, hn1⟩
              go_wp2_with fail
              go_ret3
              exact npost HR.out hn1
            · have r1 := HCUT.out
              rw [if_neg (by omega)] at r1
              have ead : Option.map (fun x => Addr.add x ((k + 1) * 1)) (some a) = some ⟨a.block, a.off + (k + 1), none⟩ := by simp [Addr.add]
              rw [ead] at r1
              clear ead
              refine (clone_n _ _ _ (L.drop (k + 1)) _ HDL.out r1 hln).mono ?_
              rintro e w1 ⟨v1, rfl, hn1⟩
              go_wp2_with fail
              go_ret3
              exact npost HR.out hn1
        · have q0 : ((d : Int) == 0) = false := by simp; omega
          by_cases hd : d < 128
          · have HNB : ¬ ((k = 9 ∧ 1 < d) ∨ (d = 0 ∧ 0 < k)) := by omega
            have hor := or_shift m d k hm hc hk9 (by omega)
            have hmd : d % 128 = d := by omega
            rw [hmd] at hor
            have hbig : m + d * 128 ^ k < 18446744073709551616 := by
              have h1 := dig_lt d k hc hk9 (by omega)
              have h2 := pow9 k hk9
              rw [hmd] at h1
              omega
            have HR := Lib.hid (nextR_some (hU.trans ((if_neg HNB).trans (if_pos hd))))
            clear hU HNB hm hmd
            generalize m + d * 128 ^ k = m2 at *
            have huz := unzig_bits m2 hbig
            generalize Lib.unzigzag m2 = nn at *
            have hdI : (d : Int) < 128 := by omega
            have hcut := (h.cut (k := k + 1) (cap := c) (by omega) hlc)
            have hdl : (L.drop (k + 1)).length = L.length - (k + 1) := by simp
            have HDL := Lib.hid hdl
            have hln : (L.drop (k + 1)).length ≤ Lim := by simp; omega
            have hbv : (bv L).drop ((k + 1) * 1) = bv (L.drop (k + 1)) := by simp [bv]
            rw [hbv] at hcut
            have HCUT := Lib.hid hcut
            clear hbv hcut hdl hbig k9 d0
            go_wp2_with fail
            · have hc1 : c = k + 1 := by omega
              have r1 := HCUT.out
              rw [if_pos hc1] at r1
              clear hc1
              refine (clone_n _ _ _ (L.drop (k + 1)) _ HDL.out r1 hln).mono ?_
              rintro e w1 ⟨v1, rfl, hn1⟩
              go_wp2_with fail
              go_ret3
              exact npost HR.out hn1
            · have r1 := HCUT.out
              rw [if_neg (by omega)] at r1
              have ead : Option.map (fun x => Addr.add x ((k + 1) * 1)) (some a) = some ⟨a.block, a.off + (k + 1), none⟩ := by simp [Addr.add]
              rw [ead] at r1
              clear ead
              refine (clone_n _ _ _ (L.drop (k + 1)) _ HDL.out r1 hln).mono ?_
              rintro e w1 ⟨v1, rfl, hn1⟩
              go_wp2_with fail
              go_ret3
              exact npost HR.out hn1
          · have HNB : ¬ ((k = 9 ∧ 1 < d) ∨ (d = 0 ∧ 0 < k)) := by omega
            have hor := or_shift m d k hm hc hk9 (by omega)
            have hk8 : k ≤ 8 := by omega
            have hU2 := hU.trans ((if_neg HNB).trans (if_neg hd))
            have hlt2 := next_lt m d k hm hc
            have HU2 := Lib.hid hU2
            have HLT2 := Lib.hid hlt2
            clear hU HNB hm hU2 hlt2
            generalize m + d % 128 * 128 ^ k = m2 at *
            have hdI : ¬ (d : Int) < 128 := by omega
            clear hd d0 k9
            go_wp2_with fail
            go_roundw
            case rel => exact ⟨k + 1, m2, by omega, by omega, by go_num, rfl, trivial, HLT2.out, HU2.out⟩
            case measure => simp [intOf]; omega
    · have hkl : L.length ≤ k := by omega
      have HR := Lib.hid (nextR_none (hU.trans (by rw [List.drop_of_length_le hkl]; rfl)))
      have hA : ¬ (k : Int) < (L.length : Int) := by omega
      clear hU hm hlt hkl
      go_wp2_with fail
      go_ret3
      exact npost HR.out (NewBytes.nil _)
end Go.Proofs.Ytgdibeegheddmaa
