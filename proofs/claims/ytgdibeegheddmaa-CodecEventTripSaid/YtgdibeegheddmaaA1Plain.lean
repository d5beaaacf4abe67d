/- Plain facts on the encoding of integers; no program in sight. -/
import Derived.WalkKit
import Derived.Lib.Zigzag
import Derived.Lib.VarintBits
namespace Go.Proofs.Ytgdibeegheddmaa
open Go Go.RowKit

def encU : Nat → Nat → List UInt8
  | 0, m => [m.toUInt8]
  | f + 1, m => if m < 128 then [m.toUInt8] else (m % 128 + 128).toUInt8 :: encU f (m / 128)
def enc (n : Int) : List UInt8 := encU 9 (Lib.zigzag n)
def bv (l : List UInt8) : List Value := l.map fun c => .int .u8 (c.toNat : Int)

theorem bv_length (l : List UInt8) : (bv l).length = l.length := by simp [bv]
theorem bv_append (a b : List UInt8) : bv (a ++ b) = bv a ++ bv b := by simp [bv]
theorem bv_get (l : List UInt8) (i : Nat) : (bv l)[i]? = l[i]?.map fun c => .int .u8 (c.toNat : Int) := by simp [bv]
theorem bv_one (l : List UInt8) : ∀ u ∈ bv l, u.oneCell' = true := by
  intro u hu
  simp only [bv, List.mem_map] at hu
  obtain ⟨c, _, rfl⟩ := hu
  rfl

theorem zig_bits (n : Int) (h1 : -9223372036854775808 ≤ n) (h2 : n ≤ 9223372036854775807) :
    bits .xor .u64 (IntKind.u64.wrap (IntKind.u64.wrap n * 2)) (IntKind.u64.wrap (n / 9223372036854775808)) = (Lib.zigzag n : Int) := by
  by_cases h : 0 ≤ n
  · have e1 : n / 9223372036854775808 = 0 := by omega
    have e2 : IntKind.u64.wrap (IntKind.u64.wrap n * 2) = ((2 * n).toNat : Int) := by rw [IntKind.wrap_u64, IntKind.wrap_u64]; omega
    have e3 : IntKind.u64.wrap 0 = ((0 : Nat) : Int) := by decide
    rw [e1, e2, e3, bits_xor_u64_nat _ _ (by omega) (by omega), Nat.xor_zero]
    unfold Lib.zigzag
    rw [if_pos h]
  · have e1 : n / 9223372036854775808 = -1 := by omega
    have e2 : IntKind.u64.wrap (IntKind.u64.wrap n * 2) = (((2 * n + 18446744073709551616).toNat : Nat) : Int) := by
      rw [IntKind.wrap_u64, IntKind.wrap_u64]; omega
    have e3 : IntKind.u64.wrap (-1) = ((2 ^ 64 - 1 : Nat) : Int) := by decide
    rw [e1, e2, e3, bits_xor_u64_nat _ _ (by omega) (by decide), Nat.xor_comm, Lib.xor_ones64 _ (by omega)]
    unfold Lib.zigzag
    rw [if_neg h]
    omega

theorem toNat_toUInt8 (m : Nat) (h : m < 256) : (m.toUInt8).toNat = m := by
  simp [Nat.toUInt8]; omega

theorem or_bits (c : Nat) : bits .or .u8 ((c : Int) % 256) 128 = (((c % 128 + 128).toUInt8).toNat : Int) := by
  rw [toNat_toUInt8 _ (by omega), Lib.u8_or128_any _ (by omega) (by omega)]
  omega

theorem u8_bits (c : Nat) (h : c < 128) : (c : Int) % 256 = ((c.toUInt8).toNat : Int) := by
  rw [toNat_toUInt8 _ (by omega)]; omega

theorem encU_small (f c : Nat) (h : c < 128) : encU f c = [c.toUInt8] := by
  cases f <;> simp [encU, h]
theorem encU_big (f c : Nat) (h : ¬ c < 128) : encU (f + 1) c = (c % 128 + 128).toUInt8 :: encU f (c / 128) := by
  simp [encU, h]
theorem cut_succ (f c : Nat) (h : c < 2 * 128 ^ (f + 1)) : c / 128 < 2 * 128 ^ f := by
  rw [Nat.pow_succ] at h; omega
theorem cut_pos (f c : Nat) (h : c < 2 * 128 ^ f) (hc : ¬ c < 128) : ∃ g, f = g + 1 := by
  cases f with
  | zero => omega
  | succ g => exact ⟨g, rfl⟩
end Go.Proofs.Ytgdibeegheddmaa
