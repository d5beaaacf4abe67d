/- Charts: the way up, in the reference. Written by gen_b11.py. -/
import Derived.Test.YtnigokmjehemaaaProg
import Derived.Test.YtnigokmjehemaaaB10Climb
namespace Go.Proofs.Ytnigokmjehemaaa
open Go Go.RowKit
set_option linter.unusedVariables false
set_option linter.unusedSimpArgs false
set_option maxRecDepth 4000
attribute [local go_sem ↓] Go.wp_at_zero Go.wp_at_succ
theorem meas_up {n k : Nat} (h : k ≤ n) : n + 1 - (((k + 1 : Nat) : Int)).toNat < n + 1 - ((k : Int)).toNat := by omega
theorem upR_none {l : List XAccount} {c : Int} {f : Nat} {acc : List Int} (h : findA l c = none) : upR l (f + 1) acc c = acc := by unfold upR; rw [h]
theorem upR_on {l : List XAccount} {c : Int} {f : Nat} {acc : List Int} {a : XAccount} (h : findA l c = some a) : upR l (f + 1) acc c = upR l f (acc ++ [c]) a.parent := by
  conv => lhs; unfold upR
  rw [h]
set_option maxHeartbeats 1000000 in
theorem rclimb_c (l : List XAccount) (A : Option Addr) (c : Nat) (code : Int) (w : World) (hl : ListC AccountC 4 w (· < w.heap.size) [.slice A l.length c] l) (hc : intBd code) (hn : l.length ≤ 1000) :
    Calls Try.prog 172 #[.slice A l.length c, .int .i64 code] w (fun e w' => ∃ v, e = .returned v ∧ w'.ownsRow w.heap.size 3 1 v (upR l (l.length + 1) [] code).length (iv (upR l (l.length + 1) [] code)) ∧ Below w.heap.size w w') := by
  obtain ⟨i0, hi0, hz0, hz1, hz2⟩ := info_parts info_int
  obtain ⟨R, hR⟩ : ∃ R, upR l (l.length + 1) [] code = R := ⟨_, rfl⟩
  rw [hR]
  have HR := Lib.hid hR
  clear hR
  obtain ⟨n, hnl⟩ : ∃ n, l.length = n := ⟨_, rfl⟩
  rw [hnl] at hn
  have HL := Lib.hid hl
  have HN := Lib.hid hnl
  have HC := Lib.hid hc
  rw [hnl]
  clear hl hnl hc
  go_enter Try.func172, Try.ntmps172
  go_wp2_with fail
  go_loopw [5, 6, 1] (fun o j i wr => ∃ (acc : List Int) (c' : Int) (k f : Nat), wr.ownsRow w.heap.size 3 1 o acc.length (iv acc) ∧ j = .int .i64 (k : Int) ∧ i = .int .i64 c' ∧ intBd c' ∧ Below w.heap.size w wr ∧ acc.length ≤ k ∧ k + f = n + 1 ∧ upR l f acc c' = R) (fun _ j _ _ => n + 1 - (intOf j).toNat)
  case atStart => exact ⟨[], code, 0, n + 1, World.ownsRow_nil _ _ _ _, rfl, rfl, HC.out, Below.refl _ _, Nat.le_refl _, by omega, by rw [← HN.out]; exact HR.out⟩
  case round =>
    obtain ⟨acc, c', k, f, hown, rfl, rfl, hc', hb, hal, hf, hup⟩ := hrel
    have HUP := Lib.hid hup
    have HC' := Lib.hid hc'
    have HO := Lib.hid hown
    have HAL := Lib.hid hal
    have HLW := Lib.hid (chart_keep HL.out hb)
    have hsz := hb.size
    clear hup hal
    obtain ⟨hc1, hc2⟩ := hc'
    by_cases hlt : k ≤ n
    case pos =>
      have hltI : (k : Int) ≤ (n : Int) := by omega
      obtain ⟨f, rfl⟩ : ∃ g, f = g + 1 := ⟨f - 1, by omega⟩
      go_wp2_with fail
      have hcall := rfind_c l A c c' wr HLW.out HC'.out (by rw [HN.out]; exact hn)
      rw [HN.out] at hcall
      refine hcall.mono ?_
      clear hcall
      rintro e w2 ⟨rfl, hb2⟩
      have hbw2 := hb.trans (hb2.mono hb.size)
      cases ha : findA l c' with
      | none =>
        have e0 : findV l c' = .tuple #[.agg (accL {}).toArray, .bool false] := findV_none ha
        rw [e0]
        clear e0
        have HA := Lib.hid ha
        clear ha
        go_wp2_with fail
        go_ret
        have e1 : R = acc := by rw [← HUP.out, upR_none HA.out]
        rw [e1]
        exact ⟨_, rfl, (own_below HO.out hb2).alloc _, hbw2.alloc hbw2.size _⟩
      | some a =>
        have e0 : findV l c' = .tuple #[.agg (accL a).toArray, .bool true] := findV_some ha
        rw [e0]
        clear e0
        have HA := Lib.hid ha
        have hab := HL.out.accB a (findA_mem ha).1
        clear ha
        obtain ⟨c1, c2, c3, c4⟩ := a
        have hab4 := Lib.hid hab.2.2.2
        clear hab
        go_upto_region 6 with fail
        have H7 := heap_alloc_new w2 (.cells #[.int .i64 c1, .int .i64 c2, .int .i64 c3, .int .i64 c4] 157)
        have HB7 := below1 w2 (.cells #[.int .i64 c1, .int .i64 c2, .int .i64 c3, .int .i64 c4] 157)
        generalize hW7 : w2.alloc (Obj.cells #[.int .i64 c1, .int .i64 c2, .int .i64 c3, .int .i64 c4] 157) = W7 at *
        clear hW7
        have hb7 := hbw2.trans (HB7.mono hbw2.size)
        have hown7 := own_below (own_below HO.out hb2) HB7
        have G7 := Lib.hid H7
        clear H7
        have hs2 := hb2.size
        have hs7 := HB7.size
        go_wp2_with (at_builtin; go_loud (refine wpList_append_own _ rfl (.tmp 23) (.tmp 25) _ rfl w.heap.size 3 i0 _ 1 8 Try.underlying186 hi0 hz0 hz1 hz2 rfl (by have := HAL.out; omega) _ acc.length (iv acc) rfl (hown7.alloc _) ⟨W7.heap.size, 0, none⟩ 1 1 [.int .i64 c'] rfl rfl (cell_one_new _ _ _) (by simp [Value.oneCell']) (by have := HAL.out; simp only [maxLen]; omega) (by have := HAL.out; omega) (by have := HAL.out; simp; omega) ?_); intro v9 w9 hown9 hg9 _; have d3 := blk_cell (keep3 G7.out hg9 (fun e => by have := (HO.out.lt _ e.symm).2; omega)) 3)
        go_roundw
        case rel =>
          refine ⟨acc ++ [c'], c4, k + 1, f, ?_, by go_num, rfl, hab4.out, ?_, ?_, ?_, ?_⟩
          · have e1 : iv (acc ++ [c']) = iv acc ++ [.int .i64 c'] := by simp [iv]
            rw [e1, List.length_append]
            exact hown9
          · exact below_grown (hb7.alloc (by omega) _) hg9 (fun k hk => by have := (HO.out.lt _ hk).1; omega) (Nat.le_refl _)
          · have := HAL.out; simp only [List.length_append, List.length_cons, List.length_nil]; omega
          · omega
          · rw [← HUP.out]
            exact (upR_on HA.out).symm
        case measure =>
          have e : wrap64 ((k : Int) + 1) = ((k + 1 : Nat) : Int) := by unfold wrap64; omega
          simp only [intOf, e]
          exact meas_up hlt
    case neg =>
      have hltI : ¬ (k : Int) ≤ (n : Int) := by omega
      have hf0 : f = 0 := by omega
      have HF0 := Lib.hid hf0
      clear hf0
      go_wp2_with fail
      go_ret
      have e1 : R = acc := by rw [← HUP.out, HF0.out]; rfl
      rw [e1]
      exact ⟨_, rfl, HO.out, hb⟩
end Go.Proofs.Ytnigokmjehemaaa
