/- codec.Int returns the encoding of any integer. -/
import Derived.Test.YtgdibeegheddmaaA3App
import Derived.WalkLawsBesides
import Derived.WalkSpells
import Derived.Lib.Hide
namespace Go.Proofs.Ytgdibeegheddmaa
open Go Go.RowKit

theorem own_base {w : World} {b b' : Nat} {e : TypeId} {size n : Nat} {v : Value} {xs : List Value} (h : w.ownsRow b e size v n xs) (hb : b' ≤ b) : w.ownsRow b' e size v n xs := by
  refine ⟨h.1, ?_⟩
  rcases h.2 with h0 | ⟨g, cap, cur, h1, h2, r⟩
  · exact .inl h0
  · exact .inr ⟨g, cap, cur, h1, Nat.le_trans hb h2, r⟩

/-- What a call hands back in a new row of bytes. -/
def NewBytes (w w' : World) (v : Value) (L : List UInt8) : Prop := Bytes w' v L ∧ (∀ k, v.ownBlock = some k → w.heap.size ≤ k) ∧ Below w.heap.size w w'
theorem NewBytes.of {w w' : World} {v : Value} {L : List UInt8} (h : w'.ownsRow w.heap.size 5 1 v L.length (bv L)) (hb : Below w.heap.size w w') : NewBytes w w' v L :=
  ⟨own_base h (Nat.zero_le _), fun k hk => (h.lt k hk).1, hb⟩

set_option maxHeartbeats 400000 in
set_option maxRecDepth 100000 in
theorem int_any (n : Int) (w : World) (h1 : -9223372036854775808 ≤ n) (h2 : n ≤ 9223372036854775807) :
    Calls Try.prog 12 #[.int .i64 n] w fun e w' => ∃ v, e = .returned v ∧ w'.ownsRow w.heap.size 5 1 v (enc n).length (bv (enc n)) ∧ Below w.heap.size w w' := by
  obtain ⟨i0, hi0, hz0, hz1, hz2⟩ := info_parts info5
  have hzig := zig_bits n h1 h2
  have hlt := Lib.zigzag_lt h1 h2
  have HLT := Lib.hid hlt
  clear hlt
  go_enter Try.func12, Try.ntmps12
  go_wp2_with fail
  have HZ := Lib.hid hzig
  clear hzig
  generalize hz : Lib.zigzag n = z at *
  have Hz := Lib.hid hz
  clear hz
  go_loopw [3, 4] (fun m v wr => ∃ (c f : Nat) (l : List UInt8), m = .int .u64 (c : Int) ∧ c < 2 * 128 ^ f ∧ wr.ownsRow w.heap.size 5 1 v l.length (bv l) ∧ encU 9 z = l ++ encU f c ∧ Below w.heap.size w wr ∧ l.length + f = 9) (fun m _ _ => (intOf m).toNat)
  case atStart => exact ⟨z, 9, [], rfl, by simpa using HLT.out, World.ownsRow_nil _ _ _ _, rfl, Below.refl _ _, rfl⟩
  case round =>
    obtain ⟨c, f, l, rfl, hc, hown, henc, hb, hlf⟩ := hrel
    have hll : l.length ≤ 9 := by omega
    have hbs := hb.size
    have HE := Lib.hid henc
    have HL := Lib.hid hlf
    have HC := Lib.hid hc
    clear henc hlf hc h1 h2
    by_cases hlt : c < 128
    · go_wp2_with (at_builtin; refine wpList_append_own _ rfl (.tmp 22) (.tmp 25) _ rfl w.heap.size 5 i0 _ 1 1 Try.underlying22 hi0 hz0 hz1 hz2 rfl (by omega) _ l.length (bv l) rfl (hown.alloc _) ⟨wr.heap.size, 0, none⟩ 1 1 [.int .u8 (c : Int)] rfl rfl (cell_one_new _ _ _) (by simp [Value.oneCell']) (by simp only [maxLen]; omega) (by omega) (by simp; omega) ?_; intro v1 w1 hown1 hg1 _)
      go_ret
      have e1 : enc n = l ++ [c.toUInt8] := by
        rw [enc, Hz.out, HE.out, encU_small f c hlt]
      refine ⟨v1, rfl, ?_, (hb.alloc hbs _).grown hg1 (by simp; omega) fun k hk => (hown.lt k hk).1⟩
      have e2 : bv [c.toUInt8] = [.int .u8 (c : Int)] := by
        rw [bv, List.map_cons, List.map_nil, ← u8_bits c hlt]
        congr 2; omega
      rw [e1, bv_append, List.length_append, e2]
      exact hown1
    · have hor := or_bits c
      go_wp2_with (at_builtin; refine wpList_append_own _ rfl (.tmp 14) (.tmp 18) _ rfl w.heap.size 5 i0 _ 1 1 Try.underlying22 hi0 hz0 hz1 hz2 rfl (by omega) _ l.length (bv l) rfl (hown.alloc _) ⟨wr.heap.size, 0, none⟩ 1 1 [.int .u8 ((c % 128 + 128).toUInt8.toNat : Int)] rfl rfl (cell_one_new _ _ _) (by simp [Value.oneCell']) (by simp only [maxLen]; omega) (by omega) (by simp; omega) ?_; intro v1 w1 hown1 hg1 _)
      go_roundw
      case rel =>
        obtain ⟨g, rfl⟩ := cut_pos f c HC.out hlt
        refine ⟨c / 128, g, l ++ [(c % 128 + 128).toUInt8], by go_num, cut_succ g c HC.out, ?_, ?_, (hb.alloc hbs _).grown hg1 (by simp; omega) fun k hk => (hown.lt k hk).1, ?_⟩
        · rw [bv_append, List.length_append]; exact hown1
        · rw [HE.out, encU_big g c hlt, List.append_assoc]; rfl
        · have := HL.out; simp; omega
      case measure => simp [intOf]; omega

theorem int_c (n : Int) (w : World) (h1 : -9223372036854775808 ≤ n) (h2 : n ≤ 9223372036854775807) :
    Calls Try.prog 12 #[.int .i64 n] w fun e w' => ∃ v, e = .returned v ∧ NewBytes w w' v (enc n) :=
  (int_any n w h1 h2).mono fun _ _ ⟨v, he, ho, hb⟩ => ⟨v, he, NewBytes.of ho hb⟩
end Go.Proofs.Ytgdibeegheddmaa
