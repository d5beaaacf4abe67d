/- codec.Next returns the integer with whose encoding bytes begin, and the bytes behind it. (joined: E7Next, E8RefInt, E9RefNext, F1Laws) -/
import Derived.Test.YtgdibeegheddmaaYEb
import Derived.Lib.VarintDec
import Derived.Lib.VarintBits
import Derived.BigQuiet
namespace Go.Proofs.Ytgdibeegheddmaa
open Go Go.RowKit
set_option linter.unusedVariables false

def nextU (i m : Nat) : List UInt8 → Option (Nat × Nat)
  | [] => none
  | c :: r => if (i = 9 ∧ 1 < c.toNat) ∨ (c.toNat = 0 ∧ 0 < i) then none
    else if c.toNat < 128 then some (m + c.toNat * 128 ^ i, i + 1)
    else nextU (i + 1) (m + c.toNat % 128 * 128 ^ i) r
def next (b : List UInt8) : Option (Int × Nat) := (nextU 0 0 b).map fun p => (Lib.unzigzag p.1, p.2)

theorem pow7 (k : Nat) : (2 : Nat) ^ (7 * k) = 128 ^ k := by rw [Nat.pow_mul]
theorem pow9 (k : Nat) (hk : k ≤ 9) : 128 ^ k ≤ 9223372036854775808 := by
  have : 128 ^ k ≤ 128 ^ 9 := Nat.pow_le_pow_right (by omega) hk
  omega
theorem pow8 (k : Nat) (hk : k ≤ 8) : 128 ^ k ≤ 72057594037927936 := by
  have : 128 ^ k ≤ 128 ^ 8 := Nat.pow_le_pow_right (by omega) hk
  omega
theorem dig_lt (d k : Nat) (hd : d < 256) (hk : k ≤ 9) (h9 : k = 9 → d ≤ 1) : d % 128 * 128 ^ k ≤ 9223372036854775808 := by
  by_cases h : k = 9
  · have h1 : d % 128 ≤ 1 := by have := h9 h; omega
    have h2 := pow9 k hk
    calc d % 128 * 128 ^ k ≤ 1 * 9223372036854775808 := Nat.mul_le_mul h1 h2
      _ = _ := by omega
  · have h1 : d % 128 ≤ 127 := by omega
    have h2 := pow8 k (by omega)
    calc d % 128 * 128 ^ k ≤ 127 * 72057594037927936 := Nat.mul_le_mul h1 h2
      _ ≤ _ := by omega
theorem or_shift (m d k : Nat) (hm : m < 128 ^ k) (hd : d < 256) (hk : k ≤ 9) (h9 : k = 9 → d ≤ 1) :
    bits .or .u64 (m : Int) (IntKind.u64.wrap (IntKind.u64.wrap (bits .and .u8 (d : Int) 127) * 2 ^ (7 * k))) = ((m + d % 128 * 128 ^ k : Nat) : Int) := by
  have hp := pow9 k hk
  have hq := dig_lt d k hd hk h9
  have e1 : bits .and .u8 (d : Int) 127 = ((d % 128 : Nat) : Int) := by rw [u8_and127 (x := (d : Int)) (by omega) (by omega)]; omega
  have e2 : IntKind.u64.wrap ((d % 128 : Nat) : Int) = ((d % 128 : Nat) : Int) := by rw [IntKind.wrap_u64]; omega
  have e3 : ((d % 128 : Nat) : Int) * 2 ^ (7 * k) = ((d % 128 * 128 ^ k : Nat) : Int) := by
    rw [← pow7]; push_cast; rfl
  rw [e1, e2, e3]
  generalize hy : d % 128 * 128 ^ k = y at *
  have e4 : IntKind.u64.wrap ((y : Nat) : Int) = ((y : Nat) : Int) := by rw [IntKind.wrap_u64]; omega
  rw [e4, bits_or_u64_nat m y (by omega) (by omega), Nat.or_comm]
  have := nat_join (7 * k) y m (by rw [pow7, ← hy]; exact Nat.mul_mod_left _ _) (by rw [pow7]; exact hm)
  rw [this]; omega
theorem next_lt (m d k : Nat) (hm : m < 128 ^ k) (hd : d < 256) : m + d % 128 * 128 ^ k < 128 ^ (k + 1) := by
  rw [Nat.pow_succ]
  have h1 : d % 128 ≤ 127 := by omega
  have := Nat.mul_le_mul_right (128 ^ k) h1
  omega

theorem unzig_bits (m : Nat) (hm : m < 18446744073709551616) : bits .xor .i64 (wrap64 ((m : Int) / 2)) (wrap64 (-wrap64 (bits .and .u64 (m : Int) 1))) = Lib.unzigzag m := by
  rw [Lib.u64_and1 (m : Int) (by omega) (by omega)]
  have e0 : wrap64 ((m : Int) / 2) = (m : Int) / 2 := IntWalk.wrap64_in _ (by omega)
  have e1 : wrap64 ((m : Int) % 2) = (m : Int) % 2 := IntWalk.wrap64_in _ (by omega)
  have e2 : wrap64 (-((m : Int) % 2)) = -((m : Int) % 2) := IntWalk.wrap64_in _ (by omega)
  rw [e0, e1, e2]
  unfold Lib.unzigzag
  by_cases h : m % 2 = 0
  · rw [if_pos h]
    have e3 : -((m : Int) % 2) = ((0 : Nat) : Int) := by omega
    have e4 : (m : Int) / 2 = ((m / 2 : Nat) : Int) := by omega
    rw [e3, e4]
    show IntKind.i64.wrap ((BitVec.ofInt 64 ((m / 2 : Nat) : Int) ^^^ BitVec.ofInt 64 ((0 : Nat) : Int)).toNat : Int) = _
    have h2 : (BitVec.ofInt 64 ((m / 2 : Nat) : Int)).toNat = m / 2 := by
      rw [BitVec.ofInt_natCast, BitVec.toNat_ofNat]; exact Nat.mod_eq_of_lt (by omega)
    have h3 : (BitVec.ofInt 64 ((0 : Nat) : Int)).toNat = 0 := by decide
    rw [BitVec.toNat_xor, h2, h3, Nat.xor_zero, IntKind.wrap_i64]
    omega
  · rw [if_neg h]
    have e3 : -((m : Int) % 2) = -1 := by omega
    have e4 : (m : Int) / 2 = ((m / 2 : Nat) : Int) := by omega
    rw [e3, e4]
    show IntKind.i64.wrap ((BitVec.ofInt 64 ((m / 2 : Nat) : Int) ^^^ BitVec.ofInt 64 (-1)).toNat : Int) = _
    have h := Lib.i64_not (m / 2) (by omega)
    rw [show BitVec.ofInt 64 ((m / 2 : Nat) : Int) ^^^ BitVec.ofInt 64 (-1) = BitVec.ofInt 64 (-1) ^^^ BitVec.ofInt 64 ((m / 2 : Nat) : Int) from BitVec.xor_comm _ _]
    exact h
theorem clone_n (A : Option Addr) (n c : Nat) (L : List UInt8) (w : World) (hn : L.length = n) (h : Rd w (· < w.heap.size) A n 1 (bv L)) (hl : L.length ≤ Lim) :
    Calls Try.prog 32 #[.slice A n c] w fun e w' => ∃ v, e = .returned v ∧ NewBytes w w' v L := by
  subst hn; exact clone_c A c L w h hl
/-- What Next hands back: the integer and the bytes behind it, or ErrForm. -/
def nextR (b : List UInt8) : Int × List UInt8 × Int := match next b with
  | some (n, k) => (n, b.drop k, 0)
  | none => (0, [], 4)
def NPost (w : World) (r : Int × List UInt8 × Int) (e : Ending) (w' : World) : Prop := ∃ v, e = .returned (.tuple #[.int .i64 r.1, v, .int .i64 r.2.2]) ∧ NewBytes w w' v r.2.1
theorem NewBytes.nil (w : World) : NewBytes w w (.slice none 0 0) [] := ⟨Bytes.nil _, fun k hk => by simp [Value.ownBlock] at hk, Below.refl _ _⟩
theorem npost {w w' : World} {r : Int × List UInt8 × Int} {n e : Int} {M : List UInt8} {v : Value} (hr : r = (n, M, e)) (h : NewBytes w w' v M) : NPost w r (.returned (.tuple #[.int .i64 n, v, .int .i64 e])) w' := by
  subst hr; exact ⟨v, rfl, h⟩
theorem nextR_none {b : List UInt8} (h : nextU 0 0 b = none) : nextR b = (0, [], 4) := by simp [nextR, next, h]
theorem nextR_some {b : List UInt8} {m k : Nat} (h : nextU 0 0 b = some (m, k)) : nextR b = (Lib.unzigzag m, b.drop k, 0) := by simp [nextR, next, h]

set_option maxHeartbeats 1000000 in
set_option maxRecDepth 100000 in
theorem next_c (A : Option Addr) (c : Nat) (L : List UInt8) (w : World) (h : Rd w (· < w.heap.size) A L.length 1 (bv L)) (hlc : L.length ≤ c) (hl : L.length ≤ Lim) :
    Calls Try.prog 13 #[.slice A L.length c] w (NPost w (nextR L)) := by
  have hl2 : L.length ≤ 1000000000000 := hl
  go_enter Try.func13, Try.ntmps13
  go_wp2_with fail
  go_loopw [5, 10] (fun mv i wr => ∃ k m : Nat, k ≤ L.length ∧ k ≤ 9 ∧ i = .int .i64 (k : Int) ∧ mv = .int .u64 (m : Int) ∧ wr = w ∧ m < 128 ^ k ∧ nextU 0 0 L = nextU k m (L.drop k)) (fun _ i _ => L.length - (intOf i).toNat)
  case atStart => exact ⟨0, 0, by omega, by omega, rfl, rfl, rfl, by simp, rfl⟩
  case round =>
    obtain ⟨k, m, hk, hk9, rfl, rfl, rfl, hm, hU⟩ := hrel
    by_cases hlt : k < L.length
    · obtain ⟨a, u, rfl, _, hu, hca⟩ := h.at_ hlt
      have e1 : u = .int .u8 (L[k].toNat : Int) := by
        rw [bv_get, List.getElem?_eq_getElem hlt] at hu; simpa using hu.symm
      subst e1
      clear hu
      have hc : L[k].toNat < 256 := UInt8.toNat_lt _
      rw [List.drop_eq_getElem_cons hlt] at hU
      have hdd : ∀ r, nextU k m (L[k] :: r) = if (k = 9 ∧ 1 < L[k].toNat) ∨ (L[k].toNat = 0 ∧ 0 < k) then none else if L[k].toNat < 128 then some (m + L[k].toNat * 128 ^ k, k + 1) else nextU (k + 1) (m + L[k].toNat % 128 * 128 ^ k) r := fun r => by rw [nextU]
      rw [hdd] at hU
      clear hdd
      generalize L[k].toNat = d at *
      have hA : (k : Int) < (L.length : Int) := by omega
      have h0 : (0 : Int) ≤ (k : Int) := by omega
      by_cases k9 : k = 9
      · have q9 : ((k : Int) == 9) = true := by simp; omega
        by_cases d1 : 1 < d
        · have d1I : (1 : Int) < (d : Int) := by omega
          have HB : (k = 9 ∧ 1 < d) ∨ (d = 0 ∧ 0 < k) := by omega
          have HR := Lib.hid (nextR_none (hU.trans (if_pos HB)))
          clear hU HB hm k9 d1
          go_wp2_with fail
          go_ret3
          exact npost HR.out (NewBytes.nil _)
        · have d1I : ¬ (1 : Int) < (d : Int) := by omega
          by_cases d0 : d = 0
          · have q0 : ((d : Int) == 0) = true := by simp; omega
            have k0I : (0 : Int) < (k : Int) := by omega
            have HB : (k = 9 ∧ 1 < d) ∨ (d = 0 ∧ 0 < k) := by omega
            have HR := Lib.hid (nextR_none (hU.trans (if_pos HB)))
            clear hU HB hm k9 d1 d0
            go_wp2_with fail
            go_ret3
            exact npost HR.out (NewBytes.nil _)
          · have q0 : ((d : Int) == 0) = false := by simp; omega
            have HNB : ¬ ((k = 9 ∧ 1 < d) ∨ (d = 0 ∧ 0 < k)) := by omega
            have hd : d < 128 := by omega
            have hor := or_shift m d k hm hc hk9 (by omega)
            have hmd : d % 128 = d := by omega
            rw [hmd] at hor
            have hbig : m + d * 128 ^ k < 18446744073709551616 := by
              have h1 := dig_lt d k hc hk9 (by omega)
              have h2 := pow9 k hk9
              rw [hmd] at h1
              omega
            have HR := Lib.hid (nextR_some (hU.trans ((if_neg HNB).trans (if_pos hd))))
            clear hU HNB hm hmd
            generalize m + d * 128 ^ k = m2 at *
            have huz := unzig_bits m2 hbig
            generalize Lib.unzigzag m2 = nn at *
            have hdI : (d : Int) < 128 := by omega
            have hcut := (h.cut (k := k + 1) (cap := c) (by omega) hlc)
            have hdl : (L.drop (k + 1)).length = L.length - (k + 1) := by simp
            have HDL := Lib.hid hdl
            have hln : (L.drop (k + 1)).length ≤ Lim := by simp; omega
            have hbv : (bv L).drop ((k + 1) * 1) = bv (L.drop (k + 1)) := by simp [bv]
            rw [hbv] at hcut
            have HCUT := Lib.hid hcut
            clear hbv hcut hdl hbig k9 d1 d0
            go_wp2_with fail
            · have hc1 : c = k + 1 := by omega
              have r1 := HCUT.out
              rw [if_pos hc1] at r1
              clear hc1
              refine (clone_n _ _ _ (L.drop (k + 1)) _ HDL.out r1 hln).mono ?_
              rintro e w1 ⟨v1, rfl, hn1⟩
              go_wp2_with fail
              go_ret3
              exact npost HR.out hn1
            · have r1 := HCUT.out
              rw [if_neg (by omega)] at r1
              have ead : Option.map (fun x => Addr.add x ((k + 1) * 1)) (some a) = some ⟨a.block, a.off + (k + 1), none⟩ := by simp [Addr.add]
              rw [ead] at r1
              clear ead
              refine (clone_n _ _ _ (L.drop (k + 1)) _ HDL.out r1 hln).mono ?_
              rintro e w1 ⟨v1, rfl, hn1⟩
              go_wp2_with fail
              go_ret3
              exact npost HR.out hn1
      · have q9 : ((k : Int) == 9) = false := by simp; omega
        by_cases d0 : d = 0
        · have q0 : ((d : Int) == 0) = true := by simp; omega
          by_cases k0 : 0 < k
          · have k0I : (0 : Int) < (k : Int) := by omega
            have HB : (k = 9 ∧ 1 < d) ∨ (d = 0 ∧ 0 < k) := by omega
            have HR := Lib.hid (nextR_none (hU.trans (if_pos HB)))
            clear hU HB hm k9 d0 k0
            go_wp2_with fail
            go_ret3
            exact npost HR.out (NewBytes.nil _)
          · have k0I : ¬ (0 : Int) < (k : Int) := by omega
            have HNB : ¬ ((k = 9 ∧ 1 < d) ∨ (d = 0 ∧ 0 < k)) := by omega
            have hd : d < 128 := by omega
            have hor := or_shift m d k hm hc hk9 (by omega)
            have hmd : d % 128 = d := by omega
            rw [hmd] at hor
            have hbig : m + d * 128 ^ k < 18446744073709551616 := by
              have h1 := dig_lt d k hc hk9 (by omega)
              have h2 := pow9 k hk9
              rw [hmd] at h1
              omega
            have HR := Lib.hid (nextR_some (hU.trans ((if_neg HNB).trans (if_pos hd))))
            clear hU HNB hm hmd
            generalize m + d * 128 ^ k = m2 at *
            have huz := unzig_bits m2 hbig
            generalize Lib.unzigzag m2 = nn at *
            have hdI : (d : Int) < 128 := by omega
            have hcut := (h.cut (k := k + 1) (cap := c) (by omega) hlc)
            have hdl : (L.drop (k + 1)).length = L.length - (k + 1) := by simp
            have HDL := Lib.hid hdl
            have hln : (L.drop (k + 1)).length ≤ Lim := by simp; omega
            have hbv : (bv L).drop ((k + 1) * 1) = bv (L.drop (k + 1)) := by simp [bv]
            rw [hbv] at hcut
            have HCUT := Lib.hid hcut
            clear hbv hcut hdl hbig k9 d0 k0
            go_wp2_with fail
            · have hc1 : c = k + 1 := by omega
              have r1 := HCUT.out
              rw [if_pos hc1] at r1
              clear hc1
              refine (clone_n _ _ _ (L.drop (k + 1)) _ HDL.out r1 hln).mono ?_
              rintro e w1 ⟨v1, rfl, hn1⟩
              go_wp2_with fail
              go_ret3
              exact npost HR.out hn1
            · have r1 := HCUT.out
              rw [if_neg (by omega)] at r1
              have ead : Option.map (fun x => Addr.add x ((k + 1) * 1)) (some a) = some ⟨a.block, a.off + (k + 1), none⟩ := by simp [Addr.add]
              rw [ead] at r1
              clear ead
              refine (clone_n _ _ _ (L.drop (k + 1)) _ HDL.out r1 hln).mono ?_
              rintro e w1 ⟨v1, rfl, hn1⟩
              go_wp2_with fail
              go_ret3
              exact npost HR.out hn1
        · have q0 : ((d : Int) == 0) = false := by simp; omega
          by_cases hd : d < 128
          · have HNB : ¬ ((k = 9 ∧ 1 < d) ∨ (d = 0 ∧ 0 < k)) := by omega
            have hor := or_shift m d k hm hc hk9 (by omega)
            have hmd : d % 128 = d := by omega
            rw [hmd] at hor
            have hbig : m + d * 128 ^ k < 18446744073709551616 := by
              have h1 := dig_lt d k hc hk9 (by omega)
              have h2 := pow9 k hk9
              rw [hmd] at h1
              omega
            have HR := Lib.hid (nextR_some (hU.trans ((if_neg HNB).trans (if_pos hd))))
            clear hU HNB hm hmd
            generalize m + d * 128 ^ k = m2 at *
            have huz := unzig_bits m2 hbig
            generalize Lib.unzigzag m2 = nn at *
            have hdI : (d : Int) < 128 := by omega
            have hcut := (h.cut (k := k + 1) (cap := c) (by omega) hlc)
            have hdl : (L.drop (k + 1)).length = L.length - (k + 1) := by simp
            have HDL := Lib.hid hdl
            have hln : (L.drop (k + 1)).length ≤ Lim := by simp; omega
            have hbv : (bv L).drop ((k + 1) * 1) = bv (L.drop (k + 1)) := by simp [bv]
            rw [hbv] at hcut
            have HCUT := Lib.hid hcut
            clear hbv hcut hdl hbig k9 d0
            go_wp2_with fail
            · have hc1 : c = k + 1 := by omega
              have r1 := HCUT.out
              rw [if_pos hc1] at r1
              clear hc1
              refine (clone_n _ _ _ (L.drop (k + 1)) _ HDL.out r1 hln).mono ?_
              rintro e w1 ⟨v1, rfl, hn1⟩
              go_wp2_with fail
              go_ret3
              exact npost HR.out hn1
            · have r1 := HCUT.out
              rw [if_neg (by omega)] at r1
              have ead : Option.map (fun x => Addr.add x ((k + 1) * 1)) (some a) = some ⟨a.block, a.off + (k + 1), none⟩ := by simp [Addr.add]
              rw [ead] at r1
              clear ead
              refine (clone_n _ _ _ (L.drop (k + 1)) _ HDL.out r1 hln).mono ?_
              rintro e w1 ⟨v1, rfl, hn1⟩
              go_wp2_with fail
              go_ret3
              exact npost HR.out hn1
          · have HNB : ¬ ((k = 9 ∧ 1 < d) ∨ (d = 0 ∧ 0 < k)) := by omega
            have hor := or_shift m d k hm hc hk9 (by omega)
            have hk8 : k ≤ 8 := by omega
            have hU2 := hU.trans ((if_neg HNB).trans (if_neg hd))
            have hlt2 := next_lt m d k hm hc
            have HU2 := Lib.hid hU2
            have HLT2 := Lib.hid hlt2
            clear hU HNB hm hU2 hlt2
            generalize m + d % 128 * 128 ^ k = m2 at *
            have hdI : ¬ (d : Int) < 128 := by omega
            clear hd d0 k9
            go_wp2_with fail
            go_roundw
            case rel => exact ⟨k + 1, m2, by omega, by omega, by go_num, rfl, trivial, HLT2.out, HU2.out⟩
            case measure => simp [intOf]; omega
    · have hkl : L.length ≤ k := by omega
      have HR := Lib.hid (nextR_none (hU.trans (by rw [List.drop_of_length_le hkl]; rfl)))
      have hA : ¬ (k : Int) < (L.length : Int) := by omega
      clear hU hm hlt hkl
      go_wp2_with fail
      go_ret3
      exact npost HR.out (NewBytes.nil _)
end Go.Proofs.Ytgdibeegheddmaa

namespace Go.Proofs.Ytgdibeegheddmaa
open Go Go.RowKit
set_option linter.unusedVariables false

theorem one_rd (w : World) (u : Value) : Rd (w.alloc (.cells #[u] 5)) (fun _ => True) (some ⟨w.heap.size, 0, none⟩) 1 1 [u] := by
  refine ⟨rfl, fun _ => ⟨_, rfl, trivial, fun j x hx => ?_⟩⟩
  rw [Addr.add_lit, Nat.zero_add, blk_cell (heap_alloc_new w _) j, blk_frozen (heap_alloc_new w _) j]
  exact ⟨by simpa using hx, rfl⟩

set_option maxHeartbeats 1000000 in
set_option maxRecDepth 100000 in
theorem refInt_c (n : Int) (w : World) (h1 : -9223372036854775808 ≤ n) (h2 : n ≤ 9223372036854775807) :
    Calls Try.prog 14 #[.int .i64 n] w fun e w' => ∃ v, e = .returned v ∧ NewBytes w w' v (enc n) := by
  obtain ⟨i0, hi0, hz0, hz1, hz2⟩ := info_parts info5
  have hlt := Lib.zigzag_lt h1 h2
  have HLT := Lib.hid hlt
  clear hlt
  by_cases hneg : n < 0
  all_goals
    have hz : Lib.zigzag n = (if n < 0 then (2 * -(n + 1) + 1) else 2 * n).toNat := by unfold Lib.zigzag; by_cases h0 : 0 ≤ n <;> by_cases h1 : n < 0 <;> simp only [h0, h1, if_true, if_false] <;> omega
    first
      | (have hzz : (2 * -(n + 1) + 1 : Int) = (Lib.zigzag n : Int) := by rw [if_pos hneg] at hz; omega)
      | (have hzz : (2 * n : Int) = (Lib.zigzag n : Int) := by rw [if_neg hneg] at hz; omega)
    clear hz
    go_enter Try.func14, Try.ntmps14
    go_wp2_with fail
    generalize hzq : Lib.zigzag n = z at *
    have Hz := Lib.hid hzq
    have HZZ := Lib.hid hzz
    clear hzq hzz
    go_loopw [3, 4] (fun m v wr => ∃ (c f : Nat) (l : List UInt8), m = .int .u64 (c : Int) ∧ c < 2 * 128 ^ f ∧ Bytes wr v l ∧ (∀ k, v.ownBlock = some k → w.heap.size ≤ k) ∧ encU 9 z = l ++ encU f c ∧ Below w.heap.size w wr ∧ l.length + f = 9) (fun m _ _ => (intOf m).toNat)
    case atStart => exact ⟨z, 9, [], by first | rfl | rw [HZZ.out], by simpa using HLT.out, Bytes.nil _, fun k hk => by simp [Value.ownBlock] at hk, rfl, Below.refl _ _, rfl⟩
    case round =>
      obtain ⟨c, f, l, rfl, hc, hown, hge, henc, hb, hlf⟩ := hrel
      have hll : l.length ≤ 9 := by omega
      have hbs := hb.size
      have HE := Lib.hid henc
      have HL := Lib.hid hlf
      have HC := Lib.hid hc
      clear henc hlf hc h1 h2 hneg
      by_cases hlt : c < 128
      · have hrd : Rd (wr.alloc (.cells #[.int .u8 (c : Int)] 5)) (fun _ => True) (some ⟨wr.heap.size, 0, none⟩) 1 1 (bv [c.toUInt8]) := by
          have e2 : bv [c.toUInt8] = [Value.int .u8 (c : Int)] := by
            rw [bv, List.map_cons, List.map_nil, ← u8_bits c hlt]
            rw [show (c : Int) % 256 = (c : Int) from by omega]
          rw [e2]; exact one_rd _ _
        go_wp2_with (at_builtin; refine wpList_appB _ rfl (.tmp 27) (.tmp 30) rfl _ l rfl (hown.fr (Q := fun k => k < wr.heap.size) ((Fr.refl _ wr).alloc (fun _ h => h) _) (fun k hk => hown.lt hk)) (fun _ => True) (some ⟨wr.heap.size, 0, none⟩) 1 [c.toUInt8] rfl hrd (by unfold Lim; simp only [List.length_cons, List.length_nil]; omega) ?_; intro v1 w1 hown1 hg1 hat1)
        go_ret
        have e1 : enc n = l ++ [c.toUInt8] := by rw [enc, Hz.out, HE.out, encU_small f c hlt]
        refine ⟨v1, rfl, ?_, fun k hk => ?_, (hb.alloc hbs _).grown hg1 (by simp; omega) hge⟩
        · rw [e1]; exact hown1
        · rcases hat1 with e | e
          · rw [e] at hk; exact hge k hk
          · rw [e] at hk; injection hk with hk; simp at hk; omega
      · have hrd : Rd (wr.alloc (.cells #[.int .u8 ((c : Int) % 128 + 128)] 5)) (fun _ => True) (some ⟨wr.heap.size, 0, none⟩) 1 1 (bv [(c % 128 + 128).toUInt8]) := by
          have e2 : bv [(c % 128 + 128).toUInt8] = [Value.int .u8 ((c : Int) % 128 + 128)] := by
            rw [bv, List.map_cons, List.map_nil, toNat_toUInt8 _ (by omega)]
            rw [show ((c % 128 + 128 : Nat) : Int) = (c : Int) % 128 + 128 from by omega]
          rw [e2]; exact one_rd _ _
        have hq : IntKind.u64.wrap ((c : Int) / 128) = ((c / 128 : Nat) : Int) := by
          have h1 := HC.out
          have h2 := pow9 f (by have := HL.out; omega)
          rw [IntKind.wrap_u64]; omega
        go_wp2_with (at_builtin; go_loud (refine wpList_appB _ rfl (.tmp 18) (.tmp 23) rfl _ l rfl (hown.fr (Q := fun k => k < wr.heap.size) ((Fr.refl _ wr).alloc (fun _ h => h) _) (fun k hk => hown.lt hk)) (fun _ => True) (some ⟨wr.heap.size, 0, none⟩) 1 [(c % 128 + 128).toUInt8] rfl hrd (by unfold Lim; simp only [List.length_cons, List.length_nil]; omega) ?_); intro v1 w1 hown1 hg1 hat1)
        go_roundw
        case rel =>
          obtain ⟨g, rfl⟩ := cut_pos f c HC.out hlt
          refine ⟨c / 128, g, l ++ [(c % 128 + 128).toUInt8], by go_num, cut_succ g c HC.out, hown1, fun k hk => ?_, ?_, (hb.alloc hbs _).grown hg1 (by simp; omega) hge, ?_⟩
          · rcases hat1 with e | e
            · rw [e] at hk; exact hge k hk
            · rw [e] at hk; injection hk with hk; simp at hk; omega
          · rw [HE.out, encU_big g c hlt, List.append_assoc]; rfl
          · have := HL.out; simp; omega
        case measure => simp [intOf]; omega
end Go.Proofs.Ytgdibeegheddmaa

namespace Go.Proofs.Ytgdibeegheddmaa
open Go Go.RowKit
set_option linter.unusedVariables false

/-- The reference's answer: the integer and the number of its bytes, or zeros. -/
def refNextR (b : List UInt8) : Int × Nat := match next b with
  | some (n, k) => (n, k)
  | none => (0, 0)
def RNPost (w : World) (r : Int × Nat) (e : Ending) (w' : World) : Prop := e = .returned (.tuple #[.int .i64 r.1, .int .i64 (r.2 : Int)]) ∧ w = w'
theorem rnpost {w : World} {r : Int × Nat} {n : Int} {k : Nat} {n' k' : Int} (hr : r = (n, k)) (hn : n' = n) (hk : k' = (k : Int)) : RNPost w r (.returned (.tuple #[.int .i64 n', .int .i64 k'])) w := by
  subst hr hn hk; exact ⟨rfl, rfl⟩
theorem refNextR_none {b : List UInt8} (h : nextU 0 0 b = none) : refNextR b = (0, 0) := by simp [refNextR, next, h]
theorem refNextR_some {b : List UInt8} {m k : Nat} (h : nextU 0 0 b = some (m, k)) : refNextR b = (Lib.unzigzag m, k) := by simp [refNextR, next, h]
theorem add_shift (m d k : Nat) (hm : m < 128 ^ k) (hd : d < 256) (hk : k ≤ 9) (h9 : k = 9 → d % 128 ≤ 1) :
    IntKind.u64.wrap ((m : Int) + IntKind.u64.wrap ((d : Int) % 128 * 2 ^ (7 * k))) = ((m + d % 128 * 128 ^ k : Nat) : Int) := by
  have hp := pow9 k hk
  have hq := dig_lt (d % 128) k (by omega) hk (by omega)
  rw [show d % 128 % 128 = d % 128 from by omega] at hq
  have e3 : (d : Int) % 128 * 2 ^ (7 * k) = ((d % 128 * 128 ^ k : Nat) : Int) := by
    rw [← pow7]; push_cast; rfl
  rw [e3]
  generalize hy : d % 128 * 128 ^ k = y at *
  have e4 : IntKind.u64.wrap ((y : Nat) : Int) = ((y : Nat) : Int) := by rw [IntKind.wrap_u64]; omega
  rw [e4, IntKind.wrap_u64]; omega

set_option maxHeartbeats 2000000 in
set_option maxRecDepth 100000 in
theorem refNext_c (A : Option Addr) (c : Nat) (L : List UInt8) (w : World) (Q : Nat → Prop) (h : Rd w Q A L.length 1 (bv L)) (hl : L.length ≤ 1000000000000) :
    Calls Try.prog 15 #[.slice A L.length c] w (RNPost w (refNextR L)) := by
  go_enter Try.func15, Try.ntmps15
  go_wp2_with fail
  go_loopw [4, 5] (fun mv i wr => ∃ k m : Nat, k ≤ L.length ∧ k ≤ 10 ∧ i = .int .i64 (k : Int) ∧ mv = .int .u64 (m : Int) ∧ wr = w ∧ m < 128 ^ k ∧ (k ≤ 9 → nextU 0 0 L = nextU k m (L.drop k)) ∧ (k = 10 → nextU 0 0 L = none)) (fun _ i _ => L.length - (intOf i).toNat)
  case atStart => exact ⟨0, 0, by omega, by omega, rfl, rfl, rfl, by simp, fun _ => rfl, by omega⟩
  case round =>
    obtain ⟨k, m, hk, hk10, rfl, rfl, rfl, hm, hU, hN⟩ := hrel
    by_cases hlt : k < L.length
    · obtain ⟨a, u, rfl, _, hu, hca⟩ := h.at_ hlt
      have e1 : u = .int .u8 (L[k].toNat : Int) := by
        rw [bv_get, List.getElem?_eq_getElem hlt] at hu; simpa using hu.symm
      subst e1
      clear hu
      have hA : (k : Int) < (L.length : Int) := by omega
      have h0 : (0 : Int) ≤ (k : Int) := by omega
      by_cases k10 : k = 10
      · have HR := Lib.hid (refNextR_none (hN k10))
        have hK : ¬ (k : Int) < 10 := by omega
        clear hU hN hm k10
        go_wp2_with fail
        go_ret2
        exact rnpost HR.out rfl rfl
      have hk9 : k ≤ 9 := by omega
      replace hU := hU hk9
      clear hN
      have hc : L[k].toNat < 256 := UInt8.toNat_lt _
      rw [List.drop_eq_getElem_cons hlt] at hU
      have hdd : ∀ r, nextU k m (L[k] :: r) = if (k = 9 ∧ 1 < L[k].toNat) ∨ (L[k].toNat = 0 ∧ 0 < k) then none else if L[k].toNat < 128 then some (m + L[k].toNat * 128 ^ k, k + 1) else nextU (k + 1) (m + L[k].toNat % 128 * 128 ^ k) r := fun r => by rw [nextU]
      rw [hdd] at hU
      clear hdd
      generalize L[k].toNat = d at *
      have hK : (k : Int) < 10 := by omega
      by_cases k9 : k = 9
      · have q9 : ((k : Int) == 9) = true := by simp; omega
        by_cases d1 : 1 < d % 128
        · have d1I : (1 : Int) < (d : Int) % 128 := by omega
          have HR := Lib.hid (refNextR_none (hU.trans (if_pos (by omega))))
          clear hU hm d1 k9
          go_wp2_with fail
          go_ret2
          exact rnpost HR.out rfl rfl
        · have d1I : ¬ (1 : Int) < (d : Int) % 128 := by omega
          by_cases d128 : 128 ≤ d
          · have q128 : (128 : Int) ≤ (d : Int) := by omega
            have hadd := add_shift m d k hm hc hk9 (by omega)
            have hbig : m + d % 128 * 128 ^ k < 18446744073709551616 := by
              have h1 := dig_lt (d % 128) k (by omega) hk9 (by omega)
              have h2 := pow9 k hk9
              rw [show d % 128 % 128 = d % 128 from by omega] at h1
              omega
            have hlt2 := next_lt m d k hm hc
            have HLT2 := Lib.hid hlt2
            have hN2 : k = 9 → nextU 0 0 L = none := fun e => hU.trans (if_pos (by omega))
            have hU2 : k ≤ 8 → nextU 0 0 L = nextU (k + 1) (m + d % 128 * 128 ^ k) (L.drop (k + 1)) := fun e => hU.trans ((if_neg (by omega)).trans (if_neg (by omega)))
            have HN2 := Lib.hid hN2
            have HU2 := Lib.hid hU2
            clear hU hm hlt2 hN2 hU2 hbig k9
            generalize m + d % 128 * 128 ^ k = m2 at *
            go_wp2_with fail
            go_roundw
            case rel => exact ⟨k + 1, m2, by omega, by omega, by go_num, rfl, trivial, HLT2.out, fun e => HU2.out (by omega), fun e => HN2.out (by omega)⟩
            case measure => simp [intOf]; omega
          · have q128 : ¬ (128 : Int) ≤ (d : Int) := by omega
            by_cases d0 : d = 0
            · have q0 : ((d : Int) == 0) = true := by simp; omega
              have k0I : (0 : Int) < (k : Int) := by omega
              have hadd := add_shift m d k hm hc hk9 (by omega)
              have hbig : m + d % 128 * 128 ^ k < 18446744073709551616 := by
                have h1 := dig_lt (d % 128) k (by omega) hk9 (by omega)
                have h2 := pow9 k hk9
                rw [show d % 128 % 128 = d % 128 from by omega] at h1
                omega
              have HR := Lib.hid (refNextR_none (hU.trans (if_pos (by omega))))
              generalize m + d % 128 * 128 ^ k = m2 at *
              clear hU hm hbig d1 d0 k9 d128
              go_wp2_with fail
              go_ret2
              exact rnpost HR.out rfl rfl
            · have q0 : ((d : Int) == 0) = false := by simp; omega
              have hadd := add_shift m d k hm hc hk9 (by omega)
              have hbig : m + d % 128 * 128 ^ k < 18446744073709551616 := by
                have h1 := dig_lt (d % 128) k (by omega) hk9 (by omega)
                have h2 := pow9 k hk9
                rw [show d % 128 % 128 = d % 128 from by omega] at h1
                omega
              have hmd : d % 128 = d := by omega
              rw [hmd] at hadd hbig
              have HR := Lib.hid (refNextR_some (hU.trans ((if_neg (by omega)).trans (if_pos (by omega)))))
              generalize m + d * 128 ^ k = m2 at *
              clear hU hm hmd d1 d0 k9 d128
              have hbI : (m2 : Int) ≤ 18446744073709551615 := by omega
              clear hbig
              by_cases par : m2 % 2 = 1
              · have hp : ((m2 : Int) % 2 == 1) = true := by simp; omega
                have huz : Lib.unzigzag m2 = -((m2 : Int) / 2) - 1 := by unfold Lib.unzigzag; rw [if_neg (by omega)]; omega
                have HUZ := Lib.hid huz
                clear huz par
                go_wp2_with fail
                go_ret2
                exact rnpost HR.out HUZ.out.symm rfl
              · have hp : ((m2 : Int) % 2 == 1) = false := by simp; omega
                have huz : Lib.unzigzag m2 = (m2 : Int) / 2 := by unfold Lib.unzigzag; rw [if_pos (by omega)]; omega
                have HUZ := Lib.hid huz
                clear huz par
                go_wp2_with fail
                go_ret2
                exact rnpost HR.out HUZ.out.symm rfl
      · have q9 : ((k : Int) == 9) = false := by simp; omega
        by_cases d128 : 128 ≤ d
        · have q128 : (128 : Int) ≤ (d : Int) := by omega
          have hadd := add_shift m d k hm hc hk9 (by omega)
          have hbig : m + d % 128 * 128 ^ k < 18446744073709551616 := by
            have h1 := dig_lt (d % 128) k (by omega) hk9 (by omega)
            have h2 := pow9 k hk9
            rw [show d % 128 % 128 = d % 128 from by omega] at h1
            omega
          have hlt2 := next_lt m d k hm hc
          have HLT2 := Lib.hid hlt2
          have hN2 : k = 9 → nextU 0 0 L = none := fun e => hU.trans (if_pos (by omega))
          have hU2 : k ≤ 8 → nextU 0 0 L = nextU (k + 1) (m + d % 128 * 128 ^ k) (L.drop (k + 1)) := fun e => hU.trans ((if_neg (by omega)).trans (if_neg (by omega)))
          have HN2 := Lib.hid hN2
          have HU2 := Lib.hid hU2
          clear hU hm hlt2 hN2 hU2 hbig k9
          generalize m + d % 128 * 128 ^ k = m2 at *
          go_wp2_with fail
          go_roundw
          case rel => exact ⟨k + 1, m2, by omega, by omega, by go_num, rfl, trivial, HLT2.out, fun e => HU2.out (by omega), fun e => HN2.out (by omega)⟩
          case measure => simp [intOf]; omega
        · have q128 : ¬ (128 : Int) ≤ (d : Int) := by omega
          by_cases d0 : d = 0
          · have q0 : ((d : Int) == 0) = true := by simp; omega
            by_cases k0 : 0 < k
            · have k0I : (0 : Int) < (k : Int) := by omega
              have hadd := add_shift m d k hm hc hk9 (by omega)
              have hbig : m + d % 128 * 128 ^ k < 18446744073709551616 := by
                have h1 := dig_lt (d % 128) k (by omega) hk9 (by omega)
                have h2 := pow9 k hk9
                rw [show d % 128 % 128 = d % 128 from by omega] at h1
                omega
              have HR := Lib.hid (refNextR_none (hU.trans (if_pos (by omega))))
              generalize m + d % 128 * 128 ^ k = m2 at *
              clear hU hm hbig d0 k9 k0 d128
              go_wp2_with fail
              go_ret2
              exact rnpost HR.out rfl rfl
            · have k0I : ¬ (0 : Int) < (k : Int) := by omega
              have hadd := add_shift m d k hm hc hk9 (by omega)
              have hbig : m + d % 128 * 128 ^ k < 18446744073709551616 := by
                have h1 := dig_lt (d % 128) k (by omega) hk9 (by omega)
                have h2 := pow9 k hk9
                rw [show d % 128 % 128 = d % 128 from by omega] at h1
                omega
              have hmd : d % 128 = d := by omega
              rw [hmd] at hadd hbig
              have HR := Lib.hid (refNextR_some (hU.trans ((if_neg (by omega)).trans (if_pos (by omega)))))
              generalize m + d * 128 ^ k = m2 at *
              clear hU hm hmd d0 k9 k0 d128
              have hbI : (m2 : Int) ≤ 18446744073709551615 := by omega
              clear hbig
              by_cases par : m2 % 2 = 1
              · have hp : ((m2 : Int) % 2 == 1) = true := by simp; omega
                have huz : Lib.unzigzag m2 = -((m2 : Int) / 2) - 1 := by unfold Lib.unzigzag; rw [if_neg (by omega)]; omega
                have HUZ := Lib.hid huz
                clear huz par
                go_wp2_with fail
                go_ret2
                exact rnpost HR.out HUZ.out.symm rfl
              · have hp : ((m2 : Int) % 2 == 1) = false := by simp; omega
                have huz : Lib.unzigzag m2 = (m2 : Int) / 2 := by unfold Lib.unzigzag; rw [if_pos (by omega)]; omega
                have HUZ := Lib.hid huz
                clear huz par
                go_wp2_with fail
                go_ret2
                exact rnpost HR.out HUZ.out.symm rfl
          · have q0 : ((d : Int) == 0) = false := by simp; omega
            have hadd := add_shift m d k hm hc hk9 (by omega)
            have hbig : m + d % 128 * 128 ^ k < 18446744073709551616 := by
              have h1 := dig_lt (d % 128) k (by omega) hk9 (by omega)
              have h2 := pow9 k hk9
              rw [show d % 128 % 128 = d % 128 from by omega] at h1
              omega
            have hmd : d % 128 = d := by omega
            rw [hmd] at hadd hbig
            have HR := Lib.hid (refNextR_some (hU.trans ((if_neg (by omega)).trans (if_pos (by omega)))))
            generalize m + d * 128 ^ k = m2 at *
            clear hU hm hmd d0 k9 d128
            have hbI : (m2 : Int) ≤ 18446744073709551615 := by omega
            clear hbig
            by_cases par : m2 % 2 = 1
            · have hp : ((m2 : Int) % 2 == 1) = true := by simp; omega
              have huz : Lib.unzigzag m2 = -((m2 : Int) / 2) - 1 := by unfold Lib.unzigzag; rw [if_neg (by omega)]; omega
              have HUZ := Lib.hid huz
              clear huz par
              go_wp2_with fail
              go_ret2
              exact rnpost HR.out HUZ.out.symm rfl
            · have hp : ((m2 : Int) % 2 == 1) = false := by simp; omega
              have huz : Lib.unzigzag m2 = (m2 : Int) / 2 := by unfold Lib.unzigzag; rw [if_pos (by omega)]; omega
              have HUZ := Lib.hid huz
              clear huz par
              go_wp2_with fail
              go_ret2
              exact rnpost HR.out HUZ.out.symm rfl
    · have hkl : L.length ≤ k := by omega
      have HR : Hid (refNextR L = (0, 0)) := Lib.hid (refNextR_none (by
        by_cases e : k = 10
        · exact hN e
        · rw [hU (by omega), List.drop_of_length_le hkl]; rfl))
      have hA : ¬ (k : Int) < (L.length : Int) := by omega
      clear hU hN hm hlt hkl
      go_wp2_with fail
      go_ret2
      exact rnpost HR.out rfl rfl
end Go.Proofs.Ytgdibeegheddmaa

namespace Go.Proofs.Ytgdibeegheddmaa
open Go Go.RowKit

theorem nextU_encU : ∀ (f i m c : Nat) (r : List UInt8), f + i = 9 → c < 2 * 128 ^ f → (0 < i → c ≠ 0) → nextU i m (encU f c ++ r) = some (m + c * 128 ^ i, i + (encU f c).length)
  | 0, i, m, c, r, hi, hc, h0 => by
    have h1 : c.toUInt8.toNat = c := toNat_toUInt8 c (by omega)
    simp only [encU, List.cons_append, List.nil_append, nextU, h1]
    rw [if_neg (by omega), if_pos (by omega)]
    simp
  | f + 1, i, m, c, r, hi, hc, h0 => by
    by_cases h : c < 128
    · have h1 : c.toUInt8.toNat = c := toNat_toUInt8 c (by omega)
      simp only [encU, if_pos h, List.cons_append, List.nil_append, nextU, h1]
      rw [if_neg (by omega)]
      simp
    · have h1 : (c % 128 + 128).toUInt8.toNat = c % 128 + 128 := toNat_toUInt8 _ (by omega)
      simp only [encU, if_neg h, List.cons_append, nextU, h1]
      rw [if_neg (by omega), if_neg (by omega), nextU_encU f (i + 1) _ (c / 128) r (by omega) (cut_succ f c hc) (by omega)]
      have e1 : (c % 128 + 128) % 128 = c % 128 := by omega
      rw [e1, Nat.pow_succ]
      have e2 : c * 128 ^ i = c % 128 * 128 ^ i + c / 128 * (128 ^ i * 128) := by
        calc c * 128 ^ i = (c % 128 + 128 * (c / 128)) * 128 ^ i := by rw [Nat.mod_add_div]
          _ = _ := by rw [Nat.add_mul, Nat.mul_assoc, Nat.mul_left_comm, Nat.mul_comm 128 (128 ^ i)]
      simp only [List.length_cons, Option.some.injEq, Prod.mk.injEq]
      exact ⟨by omega, by omega⟩

theorem unzig_zig (n : Int) : Lib.unzigzag (Lib.zigzag n) = n := by
  unfold Lib.unzigzag Lib.zigzag
  by_cases h : 0 ≤ n
  · rw [if_pos h, if_pos (by omega)]; omega
  · rw [if_neg h, if_neg (by omega)]; omega
theorem zig_unzig (m : Nat) : Lib.zigzag (Lib.unzigzag m) = m := by
  unfold Lib.unzigzag Lib.zigzag
  by_cases h : m % 2 = 0
  · rw [if_pos h, if_pos (by omega)]; omega
  · rw [if_neg h, if_neg (by omega)]; omega
theorem unzig_bd (m : Nat) (h : m < 18446744073709551616) : intBd (Lib.unzigzag m) := by
  unfold intBd Lib.unzigzag
  split <;> omega

theorem next_enc (n : Int) (r : List UInt8) (h : intBd n) : next (enc n ++ r) = some (n, (enc n).length) := by
  unfold next enc
  rw [nextU_encU 9 0 0 (Lib.zigzag n) r (by omega) (by have := Lib.zigzag_lt h.1 h.2; simpa using this) (by omega)]
  simp [unzig_zig]

theorem nextU_conv : ∀ (l : List UInt8) (i m m' k : Nat), i ≤ 9 → nextU i m l = some (m', k) →
    ∃ c, m' = m + c * 128 ^ i ∧ c < 2 * 128 ^ (9 - i) ∧ encU (9 - i) c = l.take (k - i) ∧ i < k ∧ k ≤ 10 ∧ k - i ≤ l.length ∧ (0 < i → c ≠ 0)
  | [], i, m, m', k, hi, h => by simp [nextU] at h
  | d :: r, i, m, m', k, hi, h => by
    simp only [nextU] at h
    have hd : d.toNat < 256 := UInt8.toNat_lt _
    by_cases hb : (i = 9 ∧ 1 < d.toNat) ∨ (d.toNat = 0 ∧ 0 < i)
    · rw [if_pos hb] at h; cases h
    · rw [if_neg hb] at h
      by_cases h8 : d.toNat < 128
      · rw [if_pos h8] at h
        simp only [Option.some.injEq, Prod.mk.injEq] at h
        obtain ⟨rfl, rfl⟩ := h
        have hpos : 0 < 128 ^ (9 - i) := Nat.pow_pos (by omega)
        have hlt : d.toNat < 2 * 128 ^ (9 - i) := by
          by_cases h9 : i = 9
          · subst h9; simp; omega
          · have : 128 ≤ 128 ^ (9 - i) := by
              have := Nat.pow_le_pow_right (n := 128) (by omega) (show 1 ≤ 9 - i by omega)
              simpa using this
            omega
        refine ⟨d.toNat, rfl, hlt, ?_, by omega, by omega, by simp, by omega⟩
        rw [encU_small _ _ h8, show i + 1 - i = 1 by omega]
        simp
      · rw [if_neg h8] at h
        have hi9 : i ≠ 9 := by omega
        obtain ⟨c, rfl, h2, h3, h4, h5, h6, h7⟩ := nextU_conv r (i + 1) _ m' k (by omega) h
        have e9 : 9 - i = (9 - (i + 1)) + 1 := by omega
        have hmd : d.toNat % 128 + 128 = d.toNat := by omega
        refine ⟨d.toNat % 128 + c * 128, ?_, ?_, ?_, by omega, h5, by simp; omega, by have := h7 (by omega); omega⟩
        · rw [Nat.add_mul, Nat.pow_succ, Nat.mul_assoc, Nat.mul_comm 128 (128 ^ i)]; omega
        · rw [e9, Nat.pow_succ]; omega
        · rw [e9, encU_big _ _ (by have := h7 (by omega); omega)]
          have e1 : (d.toNat % 128 + c * 128) % 128 = d.toNat % 128 := by omega
          have e2 : (d.toNat % 128 + c * 128) / 128 = c := by omega
          rw [e1, e2, h3, show k - i = (k - (i + 1)) + 1 by omega, List.take_succ_cons, hmd]
          simp

theorem next_conv {b : List UInt8} {n : Int} {k : Nat} (h : next b = some (n, k)) : enc n = b.take k ∧ intBd n ∧ 1 ≤ k ∧ k ≤ 10 ∧ k ≤ b.length := by
  unfold next at h
  rw [Option.map_eq_some_iff] at h
  obtain ⟨⟨m, k'⟩, h1, h2⟩ := h
  simp only [Prod.mk.injEq] at h2
  obtain ⟨rfl, rfl⟩ := h2
  obtain ⟨c, h3, h4, h5, h6, h7, h8, _⟩ := nextU_conv b 0 0 m k' (by omega) h1
  simp at h3 h4 h5
  subst h3
  refine ⟨?_, unzig_bd _ (by simpa using h4), by omega, h7, by omega⟩
  unfold enc
  rw [zig_unzig]
  simpa using h5

theorem enc_inj {n m : Int} (hn : intBd n) (hm : intBd m) (h : enc n = enc m) : n = m := by
  have h1 := next_enc n [] hn
  have h2 := next_enc m [] hm
  rw [h] at h1
  rw [h1] at h2
  simp only [Option.some.injEq, Prod.mk.injEq] at h2
  exact h2.1

theorem encU_len_mono : ∀ (f c c' : Nat), c ≤ c' → (encU f c).length ≤ (encU f c').length
  | 0, c, c', h => by simp [encU]
  | f + 1, c, c', h => by
    unfold encU
    by_cases h1 : c < 128
    · rw [if_pos h1]; split <;> simp
    · rw [if_neg h1, if_neg (by omega)]
      have := encU_len_mono f (c / 128) (c' / 128) (Nat.div_le_div_right h)
      simp; omega
theorem encU_len : ∀ (f c : Nat), (encU f c).length ≤ f + 1
  | 0, c => by simp [encU]
  | f + 1, c => by
    unfold encU
    split
    · simp
    · have := encU_len f (c / 128)
      simp; omega
theorem enc_len (n : Int) : (enc n).length ≤ 10 := encU_len 9 _
theorem enc_mono {n m : Int} (h : (0 ≤ n ∧ n ≤ m) ∨ (n < 0 ∧ m ≤ n)) : (enc n).length ≤ (enc m).length := by
  apply encU_len_mono
  unfold Lib.zigzag
  rcases h with ⟨h1, h2⟩ | ⟨h1, h2⟩
  · rw [if_pos h1, if_pos (by omega)]; omega
  · rw [if_neg (by omega), if_neg (by omega)]; omega
theorem nextR_enc (n : Int) (r : List UInt8) (h : intBd n) : nextR (enc n ++ r) = (n, r, 0) := by
  simp [nextR, next_enc n r h]
theorem bstr_inj {a b : List UInt8} (h : bstr a = bstr b) : a = b := by
  unfold bstr at h
  injection h with h
  simpa using congrArg Array.toList h
end Go.Proofs.Ytgdibeegheddmaa
