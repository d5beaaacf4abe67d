/- Plain laws of the encoding of integers: what is read is what was written; one encoding each; sizes. -/
import Derived.Test.YtgdibeegheddmaaE9RefNext
namespace Go.Proofs.Ytgdibeegheddmaa
open Go Go.RowKit

theorem nextU_encU : ∀ (f i m c : Nat) (r : List UInt8), f + i = 9 → c < 2 * 128 ^ f → (0 < i → c ≠ 0) → nextU i m (encU f c ++ r) = some (m + c * 128 ^ i, i + (encU f c).length)
  | 0, i, m, c, r, hi, hc, h0 => by
    have h1 : c.toUInt8.toNat = c := toNat_toUInt8 c (by omega)
    simp only [encU, List.cons_append, List.nil_append, nextU, h1]
    rw [if_neg (by omega), if_pos (by omega)]
    simp
  | f + 1, i, m, c, r, hi, hc, h0 => by
    by_cases h : c < 128
    · have h1 : c.toUInt8.toNat = c := toNat_toUInt8 c (by omega)
      simp only [encU, if_pos h, List.cons_append, List.nil_append, nextU, h1]
      rw [if_neg (by omega)]
      simp
    · have h1 : (c % 128 + 128).toUInt8.toNat = c % 128 + 128 := toNat_toUInt8 _ (by omega)
      simp only [encU, if_neg h, List.cons_append, nextU, h1]
      rw [if_neg (by omega), if_neg (by omega), nextU_encU f (i + 1) _ (c / 128) r (by omega) (cut_succ f c hc) (by omega)]
      have e1 : (c % 128 + 128) % 128 = c % 128 := by omega
      rw [e1, Nat.pow_succ]
      have e2 : c * 128 ^ i = c % 128 * 128 ^ i + c / 128 * (128 ^ i * 128) := by
        calc c * 128 ^ i = (c % 128 + 128 * (c / 128)) * 128 ^ i := by rw [Nat.mod_add_div]
          _ = _ := by rw [Nat.add_mul, Nat.mul_assoc, Nat.mul_left_comm, Nat.mul_comm 128 (128 ^ i)]
      simp only [List.length_cons, Option.some.injEq, Prod.mk.injEq]
      exact ⟨by omega, by omega⟩

theorem unzig_zig (n : Int) : Lib.unzigzag (Lib.zigzag n) = n := by
  unfold Lib.unzigzag Lib.zigzag
  by_cases h : 0 ≤ n
  · rw [if_pos h, if_pos (by omega)]; omega
  · rw [if_neg h, if_neg (by omega)]; omega
theorem zig_unzig (m : Nat) : Lib.zigzag (Lib.unzigzag m) = m := by
  unfold Lib.unzigzag Lib.zigzag
  by_cases h : m % 2 = 0
  · rw [if_pos h, if_pos (by omega)]; omega
  · rw [if_neg h, if_neg (by omega)]; omega
theorem unzig_bd (m : Nat) (h : m < 18446744073709551616) : intBd (Lib.unzigzag m) := by
  unfold intBd Lib.unzigzag
  split <;> omega

theorem next_enc (n : Int) (r : List UInt8) (h : intBd n) : next (enc n ++ r) = some (n, (enc n).length) := by
  unfold next enc
  rw [nextU_encU 9 0 0 (Lib.zigzag n) r (by omega) (by have := Lib.zigzag_lt h.1 h.2; simpa using this) (by omega)]
  simp [unzig_zig]

theorem nextU_conv : ∀ (l : List UInt8) (i m m' k : Nat), i ≤ 9 → nextU i m l = some (m', k) →
    ∃ c, m' = m + c * 128 ^ i ∧ c < 2 * 128 ^ (9 - i) ∧ encU (9 - i) c = l.take (k - i) ∧ i < k ∧ k ≤ 10 ∧ k - i ≤ l.length ∧ (0 < i → c ≠ 0)
  | [], i, m, m', k, hi, h => by simp [nextU] at h
  | d :: r, i, m, m', k, hi, h => by
    simp only [nextU] at h
    have hd : d.toNat < 256 := UInt8.toNat_lt _
    by_cases hb : (i = 9 ∧ 1 < d.toNat) ∨ (d.toNat = 0 ∧ 0 < i)
    · rw [if_pos hb] at h; cases h
    · rw [if_neg hb] at h
      by_cases h8 : d.toNat < 128
      · rw [if_pos h8] at h
        simp only [Option.some.injEq, Prod.mk.injEq] at h
        obtain ⟨rfl, rfl⟩ := h
        have hpos : 0 < 128 ^ (9 - i) := Nat.pow_pos (by omega)
        have hlt : d.toNat < 2 * 128 ^ (9 - i) := by
          by_cases h9 : i = 9
          · subst h9; simp; omega
          · have : 128 ≤ 128 ^ (9 - i) := by
              have := Nat.pow_le_pow_right (n := 128) (by omega) (show 1 ≤ 9 - i by omega)
              simpa using this
            omega
        refine ⟨d.toNat, rfl, hlt, ?_, by omega, by omega, by simp, by omega⟩
        rw [encU_small _ _ h8, show i + 1 - i = 1 by omega]
        simp
      · rw [if_neg h8] at h
        have hi9 : i ≠ 9 := by omega
        obtain ⟨c, rfl, h2, h3, h4, h5, h6, h7⟩ := nextU_conv r (i + 1) _ m' k (by omega) h
        have e9 : 9 - i = (9 - (i + 1)) + 1 := by omega
        have hmd : d.toNat % 128 + 128 = d.toNat := by omega
        refine ⟨d.toNat % 128 + c * 128, ?_, ?_, ?_, by omega, h5, by simp; omega, by have := h7 (by omega); omega⟩
        · rw [Nat.add_mul, Nat.pow_succ, Nat.mul_assoc, Nat.mul_comm 128 (128 ^ i)]; omega
        · rw [e9, Nat.pow_succ]; omega
        · rw [e9, encU_big _ _ (by have := h7 (by omega); omega)]
          have e1 : (d.toNat % 128 + c * 128) % 128 = d.toNat % 128 := by omega
          have e2 : (d.toNat % 128 + c * 128) / 128 = c := by omega
          rw [e1, e2, h3, show k - i = (k - (i + 1)) + 1 by omega, List.take_succ_cons, hmd]
          simp

theorem next_conv {b : List UInt8} {n : Int} {k : Nat} (h : next b = some (n, k)) : enc n = b.take k ∧ intBd n ∧ 1 ≤ k ∧ k ≤ 10 ∧ k ≤ b.length := by
  unfold next at h
  rw [Option.map_eq_some_iff] at h
  obtain ⟨⟨m, k'⟩, h1, h2⟩ := h
  simp only [Prod.mk.injEq] at h2
  obtain ⟨rfl, rfl⟩ := h2
  obtain ⟨c, h3, h4, h5, h6, h7, h8, _⟩ := nextU_conv b 0 0 m k' (by omega) h1
  simp at h3 h4 h5
  subst h3
  refine ⟨?_, unzig_bd _ (by simpa using h4), by omega, h7, by omega⟩
  unfold enc
  rw [zig_unzig]
  simpa using h5

theorem enc_inj {n m : Int} (hn : intBd n) (hm : intBd m) (h : enc n = enc m) : n = m := by
  have h1 := next_enc n [] hn
  have h2 := next_enc m [] hm
  rw [h] at h1
  rw [h1] at h2
  simp only [Option.some.injEq, Prod.mk.injEq] at h2
  exact h2.1

theorem encU_len_mono : ∀ (f c c' : Nat), c ≤ c' → (encU f c).length ≤ (encU f c').length
  | 0, c, c', h => by simp [encU]
  | f + 1, c, c', h => by
    unfold encU
    by_cases h1 : c < 128
    · rw [if_pos h1]; split <;> simp
    · rw [if_neg h1, if_neg (by omega)]
      have := encU_len_mono f (c / 128) (c' / 128) (Nat.div_le_div_right h)
      simp; omega
theorem encU_len : ∀ (f c : Nat), (encU f c).length ≤ f + 1
  | 0, c => by simp [encU]
  | f + 1, c => by
    unfold encU
    split
    · simp
    · have := encU_len f (c / 128)
      simp; omega
theorem enc_len (n : Int) : (enc n).length ≤ 10 := encU_len 9 _
theorem enc_mono {n m : Int} (h : (0 ≤ n ∧ n ≤ m) ∨ (n < 0 ∧ m ≤ n)) : (enc n).length ≤ (enc m).length := by
  apply encU_len_mono
  unfold Lib.zigzag
  rcases h with ⟨h1, h2⟩ | ⟨h1, h2⟩
  · rw [if_pos h1, if_pos (by omega)]; omega
  · rw [if_neg (by omega), if_neg (by omega)]; omega
theorem nextR_enc (n : Int) (r : List UInt8) (h : intBd n) : nextR (enc n ++ r) = (n, r, 0) := by
  simp [nextR, next_enc n r h]
theorem bstr_inj {a b : List UInt8} (h : bstr a = bstr b) : a = b := by
  unfold bstr at h
  injection h with h
  simpa using congrArg Array.toList h
end Go.Proofs.Ytgdibeegheddmaa
