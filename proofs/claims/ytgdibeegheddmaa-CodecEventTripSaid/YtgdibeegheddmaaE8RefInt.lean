/- The reference's Int returns the encoding of any integer. -/
import Derived.Test.YtgdibeegheddmaaE7Next
namespace Go.Proofs.Ytgdibeegheddmaa
open Go Go.RowKit
set_option linter.unusedVariables false

theorem one_rd (w : World) (u : Value) : Rd (w.alloc (.cells #[u] 5)) (fun _ => True) (some ⟨w.heap.size, 0, none⟩) 1 1 [u] := by
  refine ⟨rfl, fun _ => ⟨_, rfl, trivial, fun j x hx => ?_⟩⟩
  rw [Addr.add_lit, Nat.zero_add, blk_cell (heap_alloc_new w _) j, blk_frozen (heap_alloc_new w _) j]
  exact ⟨by simpa using hx, rfl⟩

set_option maxHeartbeats 1000000 in
set_option maxRecDepth 100000 in
theorem refInt_c (n : Int) (w : World) (h1 : -9223372036854775808 ≤ n) (h2 : n ≤ 9223372036854775807) :
    Calls Try.prog 14 #[.int .i64 n] w fun e w' => ∃ v, e = .returned v ∧ NewBytes w w' v (enc n) := by
  obtain ⟨i0, hi0, hz0, hz1, hz2⟩ := info_parts info5
  have hlt := Lib.zigzag_lt h1 h2
  have HLT := Lib.hid hlt
  clear hlt
  by_cases hneg : n < 0
  all_goals
    have hz : Lib.zigzag n = (if n < 0 then (2 * -(n + 1) + 1) else 2 * n).toNat := by unfold Lib.zigzag; by_cases h0 : 0 ≤ n <;> by_cases h1 : n < 0 <;> simp only [h0, h1, if_true, if_false] <;> omega
    first
      | (have hzz : (2 * -(n + 1) + 1 : Int) = (Lib.zigzag n : Int) := by rw [if_pos hneg] at hz; omega)
      | (have hzz : (2 * n : Int) = (Lib.zigzag n : Int) := by rw [if_neg hneg] at hz; omega)
    clear hz
    go_enter Try.func14, Try.ntmps14
    go_wp2_with fail
    generalize hzq : Lib.zigzag n = z at *
    have Hz := Lib.hid hzq
    have HZZ := Lib.hid hzz
    clear hzq hzz
    go_loopw [3, 4] (fun m v wr => ∃ (c f : Nat) (l : List UInt8), m = .int .u64 (c : Int) ∧ c < 2 * 128 ^ f ∧ Bytes wr v l ∧ (∀ k, v.ownBlock = some k → w.heap.size ≤ k) ∧ encU 9 z = l ++ encU f c ∧ Below w.heap.size w wr ∧ l.length + f = 9) (fun m _ _ => (intOf m).toNat)
    case atStart => exact ⟨z, 9, [], by first | rfl | rw [HZZ.out], by simpa using HLT.out, Bytes.nil _, fun k hk => by simp [Value.ownBlock] at hk, rfl, Below.refl _ _, rfl⟩
    case round =>
      obtain ⟨c, f, l, rfl, hc, hown, hge, henc, hb, hlf⟩ := hrel
      have hll : l.length ≤ 9 := by omega
      have hbs := hb.size
      have HE := Lib.hid henc
      have HL := Lib.hid hlf
      have HC := Lib.hid hc
      clear henc hlf hc h1 h2 hneg
      by_cases hlt : c < 128
      · have hrd : Rd (wr.alloc (.cells #[.int .u8 (c : Int)] 5)) (fun _ => True) (some ⟨wr.heap.size, 0, none⟩) 1 1 (bv [c.toUInt8]) := by
          have e2 : bv [c.toUInt8] = [Value.int .u8 (c : Int)] := by
            rw [bv, List.map_cons, List.map_nil, ← u8_bits c hlt]
            rw [show (c : Int) % 256 = (c : Int) from by omega]
          rw [e2]; exact one_rd _ _
        go_wp2_with (at_builtin; refine wpList_appB _ rfl (.tmp 27) (.tmp 30) rfl _ l rfl (hown.fr (Q := fun k => k < wr.heap.size) ((Fr.refl _ wr).alloc (fun _ h => h) _) (fun k hk => hown.lt hk)) (fun _ => True) (some ⟨wr.heap.size, 0, none⟩) 1 [c.toUInt8] rfl hrd (by unfold Lim; simp only [List.length_cons, List.length_nil]; omega) ?_; intro v1 w1 hown1 hg1 hat1)
        go_ret
        have e1 : enc n = l ++ [c.toUInt8] := by rw [enc, Hz.out, HE.out, encU_small f c hlt]
        refine ⟨v1, rfl, ?_, fun k hk => ?_, (hb.alloc hbs _).grown hg1 (by simp; omega) hge⟩
        · rw [e1]; exact hown1
        · rcases hat1 with e | e
          · rw [e] at hk; exact hge k hk
          · rw [e] at hk; injection hk with hk; simp at hk; omega
      · have hrd : Rd (wr.alloc (.cells #[.int .u8 ((c : Int) % 128 + 128)] 5)) (fun _ => True) (some ⟨wr.heap.size, 0, none⟩) 1 1 (bv [(c % 128 + 128).toUInt8]) := by
          have e2 : bv [(c % 128 + 128).toUInt8] = [Value.int .u8 ((c : Int) % 128 + 128)] := by
            rw [bv, List.map_cons, List.map_nil, toNat_toUInt8 _ (by omega)]
            rw [show ((c % 128 + 128 : Nat) : Int) = (c : Int) % 128 + 128 from by omega]
          rw [e2]; exact one_rd _ _
        have hq : IntKind.u64.wrap ((c : Int) / 128) = ((c / 128 : Nat) : Int) := by
          have h1 := HC.out
          have h2 := pow9 f (by have := HL.out; omega)
          rw [IntKind.wrap_u64]; omega
        go_wp2_with (at_builtin; go_loud (refine wpList_appB _ rfl (.tmp 18) (.tmp 23) rfl _ l rfl (hown.fr (Q := fun k => k < wr.heap.size) ((Fr.refl _ wr).alloc (fun _ h => h) _) (fun k hk => hown.lt hk)) (fun _ => True) (some ⟨wr.heap.size, 0, none⟩) 1 [(c % 128 + 128).toUInt8] rfl hrd (by unfold Lim; simp only [List.length_cons, List.length_nil]; omega) ?_); intro v1 w1 hown1 hg1 hat1)
        go_roundw
        case rel =>
          obtain ⟨g, rfl⟩ := cut_pos f c HC.out hlt
          refine ⟨c / 128, g, l ++ [(c % 128 + 128).toUInt8], by go_num, cut_succ g c HC.out, hown1, fun k hk => ?_, ?_, (hb.alloc hbs _).grown hg1 (by simp; omega) hge, ?_⟩
          · rcases hat1 with e | e
            · rw [e] at hk; exact hge k hk
            · rw [e] at hk; injection hk with hk; simp at hk; omega
          · rw [HE.out, encU_big g c hlt, List.append_assoc]; rfl
          · have := HL.out; simp; omega
        case measure => simp [intOf]; omega
end Go.Proofs.Ytgdibeegheddmaa
