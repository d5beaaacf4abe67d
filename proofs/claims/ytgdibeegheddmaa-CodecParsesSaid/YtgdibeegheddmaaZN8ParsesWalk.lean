/- The walk of CodecParses. Written by gen_n8.py. -/
import Derived.Test.YtgdibeegheddmaaZN6RefParse
import Derived.Test.YtgdibeegheddmaaZN7SameW
import Derived.Test.YtgdibeegheddmaaZH8RefOwn
import Derived.Test.YtgdibeegheddmaaZIa
import Derived.Test.YtgdibeegheddmaaZI3Open
namespace Go.Proofs.Ytgdibeegheddmaa
open Go Go.RowKit
set_option linter.unusedVariables false
set_option linter.unusedSimpArgs false
attribute [local go_sem ↓] Go.wp_at_zero Go.wp_at_succ
theorem parses_long (A : Option Addr) (n c : Nat) (w : World) (h : 70000 < n) :
    Calls Try.prog 6 #[.slice A n c] w fun e w' => e = .returned (.bool true) ∧ Below w.heap.size w w' := by
  go_enter Try.func6, Try.ntmps6
  go_wp2_with fail
  refine (awake_c w).mono ?_
  rintro e w1 ⟨rfl, hb1⟩
  have hd : decide ((70000 : Int) < (n : Int)) = true := by simp; omega
  have hd' : (70000 : Int) < (n : Int) := by omega
  go_wp2_with fail
  go_ret
  exact ⟨rfl, hb1⟩
set_option maxHeartbeats 4000000 in
set_option maxRecDepth 100000 in
theorem parses_c (A : Option Addr) (c : Nat) (L : List UInt8) (w : World) (hr : Rd w (· < w.heap.size) A L.length 1 (bv L)) (hc : L.length ≤ c) :
    Calls Try.prog 6 #[.slice A L.length c] w fun e w' => e = .returned (.bool true) ∧ Below w.heap.size w w' := by
  by_cases hl : L.length ≤ 70000
  case neg => exact parses_long A _ c w (by omega)
  case pos =>
  have HL := Lib.hid hr
  clear hr
  go_enter Try.func6, Try.ntmps6
  go_wp2_with fail
  refine (awake_c w).mono ?_
  rintro e w1 ⟨rfl, hb1⟩
  have L1 := Lib.hid (HL.out.keep hb1)
  have hd : decide ((70000 : Int) < (L.length : Int)) = false := by simp; omega
  go_wp2_with fail
  refine (parseEvent_c A c L w1 L1.out hc (by omega)).mono ?_
  rintro e w2 ⟨cz, z, m, rfl, hz, hbz, hcase⟩
  have HCZ := Lib.hid (size45 hz.len)
  have HZS := Lib.hid (zsize hz)
  have HZO := Lib.hid hz.one
  have HZ := Lib.hid hz
  have HCS := Lib.hid hcase
  have L2 := Lib.hid (L1.out.keep hbz)
  have hb2 := hb1.trans (hbz.mono hb1.size)
  clear hz hcase hbz
  go_upto_region 6 with (refine wpList_store_fresh2 rfl 45 (.tmp 3) (.tmp 15) rfl rfl w2 zCells 45 cz.toArray rfl rfl HCZ.out HZS.out HZO.out ?_; intro w3 S1 S2 S3; replace S1 := Lib.hid S1)
  have hb3 := hb2.trans (S2.mono hb2.size)
  have L3 := Lib.hid (L2.out.keep S2)
  have Z3 := Lib.hid ((EventC.mono HZ.out (fun k hk => hk.2)).keep S2)
  clear HZ L2 S2
  go_wp2_with fail
  refine (rParseEvent_c A c L w3 L3.out hc (by omega)).mono ?_
  rintro e w4 ⟨cy, y, m2, rfl, hy, hby, hcase2⟩
  have HCY := Lib.hid (size45 hy.len)
  have HYS := Lib.hid (zsize hy)
  have HYO := Lib.hid hy.one
  have HY := Lib.hid hy
  have S4 := Lib.hid ((hby.block w2.heap.size (by omega)).trans S1.out)
  have Z4 := Lib.hid (Z3.out.keep hby)
  have hb4 := hb3.trans (hby.mono hb3.size)
  have h24 : w2.heap.size < w4.heap.size := by have := hby.size; omega
  have key : m2 = m ∧ y = z ∧ FewW z := by
    rcases HCS.out with ⟨q, hq, h1, h2⟩ | ⟨hq, h1, h2⟩ <;> rcases hcase2 with ⟨q', hq', g1, g2⟩ | ⟨hq', g1, g2⟩
    · rw [hq] at hq'
      injection hq' with hq'
      subst h1 h2 g1 g2 hq'
      exact ⟨rfl, rfl, fewW_of (eventR_of hq).2.1⟩
    · rw [hq] at hq'; cases hq'
    · rw [hq] at hq'; cases hq'
    · subst h1 h2 g1 g2
      exact ⟨rfl, rfl, fewWZ⟩
  obtain ⟨hm, hyz, hfw⟩ := key
  subst hm
  subst hyz
  have hmm : (m2 == m2) = true := by simp
  clear hy hcase2 hby S1 Z3 L3 S3
  go_upto_region 7 with (refine wpList_store_fresh2 rfl 45 (.tmp 5) (.tmp 20) rfl rfl w4 zCells 45 cy.toArray rfl rfl HCY.out HYS.out HYO.out ?_; intro w5 S5 S6 S7; replace S5 := Lib.hid S5)
  have hb5 := hb4.trans (S6.mono hb4.size)
  have Z5 := Lib.hid (Z4.out.keep S6)
  have Y5 := Lib.hid ((EventC.mono HY.out (fun k hk => hk.2)).keep S6)
  have G5 := Lib.hid ((S6.block w2.heap.size h24).trans S4.out)
  clear S4 S6 Z4 HY h24 S7
  go_wp2_with (first | refine wpList_load_row_g (by rfl) 45 (.tmp 3) rfl w2.heap.size rfl 45 cz.toArray (0, 0) _ G5.out Try.underlying45 rfl HCZ.out ?_ | refine wpList_load_row_g (by rfl) 45 (.tmp 5) rfl w4.heap.size rfl 45 cy.toArray (0, 0) _ S5.out Try.underlying45 rfl HCY.out ?_)
  refine (rSameW_c y y cz cy w5 Z5.out Y5.out hfw hfw).mono ?_
  rintro e w6 ⟨rfl, hb6⟩
  rw [decide_eq_true (rfl : encEvent y = encEvent y)]
  go_wp2_with fail
  go_ret
  exact ⟨rfl, hb5.trans (hb6.mono hb5.size)⟩
end Go.Proofs.Ytgdibeegheddmaa
