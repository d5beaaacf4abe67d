/- Whether groups and books are small. Written by gen_k4.py. -/
import Derived.Test.YtgdibeegheddmaaYK3RefBooks
namespace Go.Proofs.Ytgdibeegheddmaa
open Go Go.RowKit
set_option linter.unusedVariables false
set_option linter.unusedSimpArgs false
attribute [local go_sem ↓] Go.wp_at_zero Go.wp_at_succ
/-- A bool; if it is true, P holds. -/
def If (P : Prop) (w : World) (e : Ending) (w' : World) : Prop := ∃ r, e = .returned (.bool r) ∧ (r = true → P) ∧ Below w.heap.size w w'
theorem If.no {P : Prop} {w w' : World} (h : Below w.heap.size w w') : If P w (.returned (.bool false)) w' := ⟨false, rfl, (fun h => by cases h), h⟩
theorem If.yes {P : Prop} {w w' : World} (hp : P) (h : Below w.heap.size w w') : If P w (.returned (.bool true)) w' := ⟨true, rfl, fun _ => hp, h⟩
theorem Fr.setRow' {w W : World} {g : Nat} {cs : Array Value} (h : Below g w W) : Below g w (W.setRow g cs) :=
  (Fr.trans (Fr.ofBelow h) ((fr_setRow W g cs).mono (fun k hk => by omega))).below
set_option maxHeartbeats 4000000 in
set_option maxRecDepth 100000 in
theorem rFewGroup_c (x : XGroup) (cx : List Value) (w : World) (hx : GroupC w (· < w.heap.size) cx x) :
    Calls Try.prog 53 #[.agg cx.toArray] w (If (FewGrp x) w) := by
  have HX := Lib.hid hx
  clear hx
  go_enter Try.func53, Try.ntmps53
  go_upto_region 1 with fail
  have hbox : (w.alloc (Obj.cells cx.toArray 60)).heap[w.heap.size]? = some (Obj.cells cx.toArray 60) := heap_alloc_new w _
  generalize hW : w.alloc (Obj.cells cx.toArray 60) = W at *
  have hbW : Below w.heap.size w W := by rw [← hW]; exact below1 w _
  have hWs : w.heap.size < W.heap.size := by rw [← hW]; simp
  clear hW
  obtain ⟨C0, _, ⟨lch, fch, mch⟩, _, ⟨len_, fen, men⟩⟩ := GroupC.at_ (HX.out.keep hbW) (box_at hbox)
  obtain ⟨Ac, cac, rfl, _, hlc2, _⟩ := fch
  obtain ⟨Al, cal, rfl, hlc1, hlc3, hel⟩ := fen
  have C4 := mch.c (j := 0) rfl
  have C20 := men.c (j := 0) rfl
  simp only [Nat.zero_add, Nat.add_zero] at C0 C4 C20
  have HL20 := Lib.hid hel
  have hbig : x.entities.length ≤ 9223372036854775807 := by unfold maxLen at hlc3; omega
  clear hbox mch men hel
  go_wp2_with fail
  go_loopw [3] (fun i wr => ∃ k : Nat, k ≤ x.entities.length ∧ i = .int .i64 (k : Int) ∧ Below W.heap.size W wr ∧ (∀ (j : Nat) (hj : j < x.entities.length), j < k → FewEnt x.entities[j])) (fun i _ => x.entities.length - (intOf i).toNat)
  case atStart => exact ⟨0, by omega, rfl, Below.refl _ _, fun j _ h => absurd h (by omega)⟩
  case round =>
    obtain ⟨k, hk, rfl, hbR, hev⟩ := hrel
    have K20 := (hbR.cell (p := ⟨w.heap.size, 20, none⟩) hWs).trans C20
    have HEV := Lib.hid hev
    clear hev
    by_cases hlt : k < x.entities.length
    · have hltI : (k : Int) < (x.entities.length : Int) := by omega
      obtain ⟨b2, o2, rfl, hbb, hi⟩ := HL20.out (by omega)
      obtain ⟨es, hes, hae⟩ := hi k x.entities[k] (List.getElem?_eq_getElem hlt)
      have hrange := (hae.fr (Fr.ofBelow hbR)).range
      have hHE := Lib.hid (hes.keep hbR)
      have HIe := Lib.hid (show (Try.prog.info? 133).map (·.size) = some es.length by rw [info133, hes.len])
      have HIf := Lib.hid (show (Try.prog.info? 133).map (·.size) = some es.toArray.size by rw [info133, List.size_toArray, hes.len])
      have HSZ := Lib.hid (show (#[.string ⟨#[]⟩, .string ⟨#[]⟩, .slice none 0 0, .slice none 0 0, .bool false] : Array Value).size = es.toArray.size by have := hes.len; simp [this])
      have HONE : Hid (es.toArray.all (·.oneCell') = true) := Lib.hid (by
        obtain ⟨_, _, _, _, _, rfl, h0, h1, ⟨_, _, rfl, _⟩, ⟨_, _, rfl, _⟩, h4⟩ := hes
        cases h0; cases h1; cases h4; simp [Value.oneCell'])
      clear hi hae hes
      go_upto_region 5 with (first | refine wpList_load_mid rfl 133 (.tmp 15) rfl b2 (o2 + k * 5) rfl es _ hrange Try.underlying133 rfl HIe.out ?_ | refine wpList_store_row rfl 133 (.tmp 4) (.tmp 16) rfl wr.heap.size es.toArray rfl rfl 133 _ (heap_alloc_new wr _) HIf.out HSZ.out HONE.out ?_)
      generalize hV : (wr.alloc (.cells #[.string ⟨#[]⟩, .string ⟨#[]⟩, .slice none 0 0, .slice none 0 0, .bool false] 133)).setRow wr.heap.size es.toArray = V
      have HV : V.heap[wr.heap.size]? = some (.cells es.toArray 133 (0, 0)) := by rw [← hV]; exact heap_setRow (heap_alloc_new wr _) _
      have hbV : Below wr.heap.size wr V := by rw [← hV]; exact Fr.setRow' (below1 wr _)
      clear hV hrange
      obtain ⟨E0, E1, ⟨cc, ⟨A3, c3, rfl, _, _, _⟩, m3⟩, ⟨cl, ⟨A4, c4, rfl, _, _, _⟩, m4⟩, _⟩ := EntityC.at_ (hHE.out.keep hbV) (box_at HV)
      have E2 := m3.c (j := 0) rfl
      have E3 := m4.c (j := 0) rfl
      simp only [Nat.zero_add, Nat.add_zero] at E0 E1 E2 E3
      have hbR2 := hbR.trans (hbV.mono hbR.size)
      clear m3 m4 HV
      by_cases h0 : x.entities[k].name.size ≤ 1000
      case neg =>
        have k0 : (1000 : Int) < (x.entities[k].name.size : Int) := by omega
        clear h0
        go_wp2_with fail
        go_ret
        exact If.no (hbW.trans (hbR2.mono hbW.size))
      by_cases h1 : x.entities[k].currency.size ≤ 1000
      case neg =>
        have k0 : ¬ (1000 : Int) < (x.entities[k].name.size : Int) := by omega
        have k1 : (1000 : Int) < (x.entities[k].currency.size : Int) := by omega
        clear h0 h1
        go_wp2_with fail
        go_ret
        exact If.no (hbW.trans (hbR2.mono hbW.size))
      by_cases h2 : x.entities[k].chart.length ≤ 250
      case neg =>
        have k0 : ¬ (1000 : Int) < (x.entities[k].name.size : Int) := by omega
        have k1 : ¬ (1000 : Int) < (x.entities[k].currency.size : Int) := by omega
        have k2 : (250 : Int) < (x.entities[k].chart.length : Int) := by omega
        clear h0 h1 h2
        go_wp2_with fail
        go_ret
        exact If.no (hbW.trans (hbR2.mono hbW.size))
      by_cases h3 : x.entities[k].links.length ≤ 450
      case neg =>
        have k0 : ¬ (1000 : Int) < (x.entities[k].name.size : Int) := by omega
        have k1 : ¬ (1000 : Int) < (x.entities[k].currency.size : Int) := by omega
        have k2 : ¬ (250 : Int) < (x.entities[k].chart.length : Int) := by omega
        have k3 : (450 : Int) < (x.entities[k].links.length : Int) := by omega
        clear h0 h1 h2 h3
        go_wp2_with fail
        go_ret
        exact If.no (hbW.trans (hbR2.mono hbW.size))
      have k0 : ¬ (1000 : Int) < (x.entities[k].name.size : Int) := by omega
      have k1 : ¬ (1000 : Int) < (x.entities[k].currency.size : Int) := by omega
      have k2 : ¬ (250 : Int) < (x.entities[k].chart.length : Int) := by omega
      have k3 : ¬ (450 : Int) < (x.entities[k].links.length : Int) := by omega
      have HEK := Lib.hid (FewEnt.mk h0 h1 h2 h3)
      clear h0 h1 h2 h3
      go_wp2_with fail
      go_roundw
      case rel =>
        refine ⟨k + 1, by omega, by go_num, hbR2, fun j hj hjk => ?_⟩
        by_cases hjk2 : j < k
        · exact HEV.out j hj hjk2
        · obtain rfl : j = k := by omega
          exact HEK.out
      case measure => simp [intOf]; omega
    · have hkk : k = x.entities.length := by omega
      subst hkk
      have hltI : ¬ ((x.entities.length : Nat) : Int) < (x.entities.length : Int) := by omega
      have K0 := (hbR.cell (p := ⟨w.heap.size, 0, none⟩) hWs).trans C0
      have K4 := (hbR.cell (p := ⟨w.heap.size, 4, none⟩) hWs).trans C4
      by_cases h0 : x.currency.size ≤ 1000
      case neg =>
        have k0 : ¬ (x.currency.size : Int) ≤ 1000 := by omega
        have kd0 : decide ((x.currency.size : Int) ≤ 1000) = false := decide_eq_false k0
        clear h0
        go_wp2_with fail
        go_ret
        exact If.no (hbW.trans (hbR.mono hbW.size))
      by_cases h1 : x.chart.length ≤ 250
      case neg =>
        have k0 : (x.currency.size : Int) ≤ 1000 := by omega
        have k1 : ¬ (x.chart.length : Int) ≤ 250 := by omega
        have kd1 : decide ((x.chart.length : Int) ≤ 250) = false := decide_eq_false k1
        clear h0 h1
        go_wp2_with fail
        go_ret
        exact If.no (hbW.trans (hbR.mono hbW.size))
      by_cases h2 : x.entities.length ≤ 15
      case neg =>
        have k0 : (x.currency.size : Int) ≤ 1000 := by omega
        have k1 : (x.chart.length : Int) ≤ 250 := by omega
        have k2 : ¬ (x.entities.length : Int) ≤ 15 := by omega
        have kd2 : decide ((x.entities.length : Int) ≤ 15) = false := decide_eq_false k2
        clear h0 h1 h2
        go_wp2_with fail
        go_ret
        exact If.no (hbW.trans (hbR.mono hbW.size))
      have k0 : (x.currency.size : Int) ≤ 1000 := by omega
      have k1 : (x.chart.length : Int) ≤ 250 := by omega
      have k2 : (x.entities.length : Int) ≤ 15 := by omega
      have HP := Lib.hid (show FewGrp x from ⟨h0, h1, h2, fun y hy => by
        obtain ⟨i, hi, rfl⟩ := List.mem_iff_getElem.1 hy
        exact HEV.out i hi hi⟩)
      clear h0 h1 h2
      go_wp2_with fail
      go_ret
      exact If.yes HP.out (hbW.trans (hbR.mono hbW.size))
theorem rFew_a (x : XEvent) (cx : List Value) (arr : Array Value) (w : World) (hx : EventC w (· < w.heap.size) cx x) (h : arr = cx.toArray) :
    Calls Try.prog 16 #[.agg arr] w fun e w' => e = .returned (.bool (fewB x)) ∧ Below w.heap.size w w' := by subst h; exact rFew_c x cx w hx

set_option maxHeartbeats 8000000 in
set_option maxRecDepth 100000 in
theorem rFewBooks_c (x : XBooks) (cx : List Value) (w : World) (hx : BooksC w (· < w.heap.size) cx x) :
    Calls Try.prog 25 #[.agg cx.toArray] w (If (FewBks x) w) := by
  have HX := Lib.hid hx
  clear hx
  go_enter Try.func25, Try.ntmps25
  go_upto_region 1 with fail
  have hbox : (w.alloc (Obj.cells cx.toArray 67)).heap[w.heap.size]? = some (Obj.cells cx.toArray 67) := heap_alloc_new w _
  generalize hW : w.alloc (Obj.cells cx.toArray 67) = W at *
  have hbW : Below w.heap.size w W := by rw [← hW]; exact below1 w _
  have hWs : w.heap.size < W.heap.size := by rw [← hW]; simp
  clear hW
  obtain ⟨⟨lg, fg, mg⟩, ⟨l21, f21, m21⟩, ⟨l22, f22, m22⟩, ⟨l23, f23, m23⟩, ⟨l24, f24, m24⟩, ⟨l25, f25, m25⟩, C26⟩ := BooksC.at_ (HX.out.keep hbW) (box_at hbox)
  have FG := Lib.hid fg
  have RG := Lib.hid mg
  have HIg := Lib.hid (show (Try.prog.info? 60).map (·.size) = some lg.length by rw [info60, fg.len])
  obtain ⟨A21, c21, rfl, hlc21, hlm21, hel21⟩ := f21
  have C21 := m21.c (j := 0) rfl
  have HL21 := Lib.hid hel21
  obtain ⟨A22, c22, rfl, hlc22, hlm22, hel22⟩ := f22
  have C22 := m22.c (j := 0) rfl
  have HL22 := Lib.hid hel22
  obtain ⟨A23, c23, rfl, hlc23, hlm23, hel23⟩ := f23
  have C23 := m23.c (j := 0) rfl
  have HL23 := Lib.hid hel23
  obtain ⟨A24, c24, rfl, hlc24, hlm24, hel24⟩ := f24
  have C24 := m24.c (j := 0) rfl
  have HL24 := Lib.hid hel24
  obtain ⟨A25, c25, rfl, hlc25, hlm25, hel25⟩ := f25
  have C25 := m25.c (j := 0) rfl
  have HL25 := Lib.hid hel25
  unfold maxLen at hlm21 hlm22 hlm23 hlm24 hlm25
  have hn21 : x.entries.length ≤ 9223372036854775807 := by omega
  have hn22 : x.rates.length ≤ 9223372036854775807 := by omega
  have hn24 : x.matches_.length ≤ 9223372036854775807 := by omega
  simp only [Nat.zero_add, Nat.add_zero] at C21 C22 C23 C24 C25 C26
  clear hbox fg mg m21 m22 m23 m24 m25 hel21 hel22 hel23 hel24 hel25
  go_wp2_with fail
  go_loopw [3] (fun i wr => ∃ k : Nat, k ≤ x.entries.length ∧ i = .int .i64 (k : Int) ∧ Below W.heap.size W wr ∧ (∀ (j : Nat) (hj : j < x.entries.length), j < k → (x.entries[j].lines.length ≤ 100 ∧ x.entries[j].text.size ≤ 1000))) (fun i _ => x.entries.length - (intOf i).toNat)
  case atStart => exact ⟨0, by omega, rfl, Below.refl _ _, fun j _ h => absurd h (by omega)⟩
  case round =>
    obtain ⟨k, hk, rfl, hbR, hev⟩ := hrel
    have K21 := (hbR.cell (p := ⟨w.heap.size, 21, none⟩) hWs).trans C21
    have HEV21 := Lib.hid hev
    clear hev
    by_cases hlt : k < x.entries.length
    · have hltI : (k : Int) < (x.entries.length : Int) := by omega
      obtain ⟨b2, o2, rfl, hbb, hi⟩ := HL21.out (by omega)
      obtain ⟨es, hes, hae⟩ := hi k x.entries[k] (List.getElem?_eq_getElem hlt)
      have hrange := (hae.fr (Fr.ofBelow hbR)).range
      have hHE := Lib.hid (hes.keep hbR)
      have HIe := Lib.hid (show (Try.prog.info? 34).map (·.size) = some es.length by rw [info34, hes.len])
      obtain ⟨_, _, _, _, _, _, _, rfl, ⟨rfl, _⟩, ⟨rfl, _⟩, ⟨rfl, _⟩, ⟨rfl, _⟩, ⟨rfl, _⟩, rfl, ⟨_, _, rfl, _⟩⟩ := hes
      clear hi hae
      go_wp2_with (refine wpList_load_mid rfl 34 (.tmp 16) rfl b2 (o2 + k * 7) rfl _ _ hrange Try.underlying34 rfl HIe.out ?_)
      refine (rFew_a { entry := x.entries[k] } (evCells 0 _ zRate zHolding zMatch zStock 0 0 ⟨#[]⟩) _ wr (evC bd0 hHE.out (zRateC _ _) (zHoldingC _ _) (zMatchC _ _) (zStockC _ _) bd0 bd0) rfl).mono ?_
      rintro e w5 ⟨rfl, hb5⟩
      have hbR5 := hbR.trans (hb5.mono hbR.size)
      clear hrange
      have HFk := Lib.hid (show fewB { entry := x.entries[k] } = true → (x.entries[k].lines.length ≤ 100 ∧ x.entries[k].text.size ≤ 1000) by intro h; have := fewB_few h; exact ⟨this.lines, this.etext⟩)
      generalize fewB { entry := x.entries[k] } = r at *
      cases r
      · go_wp2_with fail
        go_ret
        exact If.no (hbW.trans (hbR5.mono hbW.size))
      · go_wp2_with fail
        go_roundw
        case rel =>
          refine ⟨k + 1, by omega, by go_num, hbR5, fun j hj hjk => ?_⟩
          by_cases hjk2 : j < k
          · exact HEV21.out j hj hjk2
          · obtain rfl : j = k := by omega
            exact HFk.out (by trivial)
        case measure => simp [intOf]; omega
    · have hkk : k = x.entries.length := by omega
      subst hkk
      have hltI : ¬ ((x.entries.length : Nat) : Int) < (x.entries.length : Int) := by omega
      go_wp2_with fail
      go_loopw [4] (fun i wr => ∃ k : Nat, k ≤ x.rates.length ∧ i = .int .i64 (k : Int) ∧ Below W.heap.size W wr ∧ (∀ (j : Nat) (hj : j < x.rates.length), j < k → x.rates[j].currency.size ≤ 1000)) (fun i _ => x.rates.length - (intOf i).toNat)
      case atStart => exact ⟨0, by omega, rfl, hbR, fun j _ h => absurd h (by omega)⟩
      case round =>
        obtain ⟨k, hk, rfl, hbR, hev⟩ := hrel
        have K22 := (hbR.cell (p := ⟨w.heap.size, 22, none⟩) hWs).trans C22
        have HEV22 := Lib.hid hev
        clear hev
        by_cases hlt : k < x.rates.length
        · have hltI : (k : Int) < (x.rates.length : Int) := by omega
          obtain ⟨b2, o2, rfl, hbb, hi⟩ := HL22.out (by omega)
          obtain ⟨es, hes, hae⟩ := hi k x.rates[k] (List.getElem?_eq_getElem hlt)
          have hcc := RateC.at_ (hes.keep hbR) (hae.fr (Fr.ofBelow hbR))
          obtain ⟨k0, _⟩ := hcc
          clear hi hae hes
          by_cases hs : x.rates[k].currency.size ≤ 1000
          case neg =>
            have hsI : (1000 : Int) < (x.rates[k].currency.size : Int) := by omega
            clear hs
            go_wp2_with fail
            go_ret
            exact If.no (hbW.trans (hbR.mono hbW.size))
          have hsI : ¬ (1000 : Int) < (x.rates[k].currency.size : Int) := by omega
          have HS := Lib.hid hs
          clear hs
          go_wp2_with fail
          go_roundw
          case rel =>
            refine ⟨k + 1, by omega, by go_num, hbR, fun j hj hjk => ?_⟩
            by_cases hjk2 : j < k
            · exact HEV22.out j hj hjk2
            · obtain rfl : j = k := by omega
              exact HS.out
          case measure => simp [intOf]; omega
        · have hkk : k = x.rates.length := by omega
          subst hkk
          have hltI : ¬ ((x.rates.length : Nat) : Int) < (x.rates.length : Int) := by omega
          go_wp2_with fail
          go_loopw [5] (fun i wr => ∃ k : Nat, k ≤ x.matches_.length ∧ i = .int .i64 (k : Int) ∧ Below W.heap.size W wr ∧ (∀ (j : Nat) (hj : j < x.matches_.length), j < k → (x.matches_[j].left.length ≤ 100 ∧ x.matches_[j].right.length ≤ 100))) (fun i _ => x.matches_.length - (intOf i).toNat)
          case atStart => exact ⟨0, by omega, rfl, hbR, fun j _ h => absurd h (by omega)⟩
          case round =>
            obtain ⟨k, hk, rfl, hbR, hev⟩ := hrel
            have K24 := (hbR.cell (p := ⟨w.heap.size, 24, none⟩) hWs).trans C24
            have HEV24 := Lib.hid hev
            clear hev
            by_cases hlt : k < x.matches_.length
            · have hltI : (k : Int) < (x.matches_.length : Int) := by omega
              obtain ⟨b2, o2, rfl, hbb, hi⟩ := HL24.out (by omega)
              obtain ⟨es, hes, hae⟩ := hi k x.matches_[k] (List.getElem?_eq_getElem hlt)
              have hrange := (hae.fr (Fr.ofBelow hbR)).range
              have hHE := Lib.hid (hes.keep hbR)
              have HIe := Lib.hid (show (Try.prog.info? 41).map (·.size) = some es.length by rw [info41, hes.len])
              obtain ⟨_, _, _, _, rfl, ⟨rfl, _⟩, ⟨_, _, rfl, _⟩, ⟨_, _, rfl, _⟩, ⟨rfl, _⟩⟩ := hes
              clear hi hae
              go_wp2_with (refine wpList_load_mid rfl 41 (.tmp 46) rfl b2 (o2 + k * 4) rfl _ _ hrange Try.underlying41 rfl HIe.out ?_)
              refine (rFew_a { match_ := x.matches_[k] } (evCells 0 zEntry zRate zHolding _ zStock 0 0 ⟨#[]⟩) _ wr (evC bd0 (zEntryC _ _) (zRateC _ _) (zHoldingC _ _) hHE.out (zStockC _ _) bd0 bd0) rfl).mono ?_
              rintro e w5 ⟨rfl, hb5⟩
              have hbR5 := hbR.trans (hb5.mono hbR.size)
              clear hrange
              have HFk := Lib.hid (show fewB { match_ := x.matches_[k] } = true → (x.matches_[k].left.length ≤ 100 ∧ x.matches_[k].right.length ≤ 100) by intro h; have := fewB_few h; exact ⟨this.left, this.right⟩)
              generalize fewB { match_ := x.matches_[k] } = r at *
              cases r
              · go_wp2_with fail
                go_ret
                exact If.no (hbW.trans (hbR5.mono hbW.size))
              · go_wp2_with fail
                go_roundw
                case rel =>
                  refine ⟨k + 1, by omega, by go_num, hbR5, fun j hj hjk => ?_⟩
                  by_cases hjk2 : j < k
                  · exact HEV24.out j hj hjk2
                  · obtain rfl : j = k := by omega
                    exact HFk.out (by trivial)
                case measure => simp [intOf]; omega
            · have hkk : k = x.matches_.length := by omega
              subst hkk
              have hltI : ¬ ((x.matches_.length : Nat) : Int) < (x.matches_.length : Int) := by omega
              have hrange := (RG.out.fr (Fr.ofBelow hbR)).range
              go_wp2_with (refine wpList_load_mid rfl 60 (.tmp 51) rfl w.heap.size 0 rfl lg _ hrange Try.underlying60 rfl HIg.out ?_)
              refine (rFewGroup_c x.group lg wr (FG.out.keep hbR)).mono ?_
              rintro e w5 ⟨r, rfl, hr, hb5⟩
              have hbR5 := hbR.trans (hb5.mono hbR.size)
              clear hrange K21 K22 K24
              have HGR := Lib.hid hr
              clear hr
              have K21 := (hbR5.cell (p := ⟨w.heap.size, 21, none⟩) hWs).trans C21
              have K22 := (hbR5.cell (p := ⟨w.heap.size, 22, none⟩) hWs).trans C22
              have K23 := (hbR5.cell (p := ⟨w.heap.size, 23, none⟩) hWs).trans C23
              have K24 := (hbR5.cell (p := ⟨w.heap.size, 24, none⟩) hWs).trans C24
              have K25 := (hbR5.cell (p := ⟨w.heap.size, 25, none⟩) hWs).trans C25
              have K26 := (hbR5.cell (p := ⟨w.heap.size, 26, none⟩) hWs).trans C26
              cases r
              case false =>
                go_wp2_with fail
                go_ret
                exact If.no (hbW.trans (hbR5.mono hbW.size))
              case true =>
                by_cases h0 : x.entries.length ≤ 100
                case neg =>
                  have k0 : ¬ (x.entries.length : Int) ≤ 100 := by omega
                  have kd0 : decide ((x.entries.length : Int) ≤ 100) = false := decide_eq_false k0
                  clear h0
                  go_wp2_with fail
                  go_ret
                  exact If.no (hbW.trans (hbR5.mono hbW.size))
                by_cases h1 : x.rates.length ≤ 200
                case neg =>
                  have k0 : (x.entries.length : Int) ≤ 100 := by omega
                  have k1 : ¬ (x.rates.length : Int) ≤ 200 := by omega
                  have kd1 : decide ((x.rates.length : Int) ≤ 200) = false := decide_eq_false k1
                  clear h0 h1
                  go_wp2_with fail
                  go_ret
                  exact If.no (hbW.trans (hbR5.mono hbW.size))
                by_cases h2 : x.holdings.length ≤ 200
                case neg =>
                  have k0 : (x.entries.length : Int) ≤ 100 := by omega
                  have k1 : (x.rates.length : Int) ≤ 200 := by omega
                  have k2 : ¬ (x.holdings.length : Int) ≤ 200 := by omega
                  have kd2 : decide ((x.holdings.length : Int) ≤ 200) = false := decide_eq_false k2
                  clear h0 h1 h2
                  go_wp2_with fail
                  go_ret
                  exact If.no (hbW.trans (hbR5.mono hbW.size))
                by_cases h3 : x.matches_.length ≤ 50
                case neg =>
                  have k0 : (x.entries.length : Int) ≤ 100 := by omega
                  have k1 : (x.rates.length : Int) ≤ 200 := by omega
                  have k2 : (x.holdings.length : Int) ≤ 200 := by omega
                  have k3 : ¬ (x.matches_.length : Int) ≤ 50 := by omega
                  have kd3 : decide ((x.matches_.length : Int) ≤ 50) = false := decide_eq_false k3
                  clear h0 h1 h2 h3
                  go_wp2_with fail
                  go_ret
                  exact If.no (hbW.trans (hbR5.mono hbW.size))
                by_cases h4 : x.stocks.length ≤ 200
                case neg =>
                  have k0 : (x.entries.length : Int) ≤ 100 := by omega
                  have k1 : (x.rates.length : Int) ≤ 200 := by omega
                  have k2 : (x.holdings.length : Int) ≤ 200 := by omega
                  have k3 : (x.matches_.length : Int) ≤ 50 := by omega
                  have k4 : ¬ (x.stocks.length : Int) ≤ 200 := by omega
                  have kd4 : decide ((x.stocks.length : Int) ≤ 200) = false := decide_eq_false k4
                  clear h0 h1 h2 h3 h4
                  go_wp2_with fail
                  go_ret
                  exact If.no (hbW.trans (hbR5.mono hbW.size))
                by_cases h5 : x.rules.size ≤ 9000
                case neg =>
                  have k0 : (x.entries.length : Int) ≤ 100 := by omega
                  have k1 : (x.rates.length : Int) ≤ 200 := by omega
                  have k2 : (x.holdings.length : Int) ≤ 200 := by omega
                  have k3 : (x.matches_.length : Int) ≤ 50 := by omega
                  have k4 : (x.stocks.length : Int) ≤ 200 := by omega
                  have k5 : ¬ (x.rules.size : Int) ≤ 9000 := by omega
                  have kd5 : decide ((x.rules.size : Int) ≤ 9000) = false := decide_eq_false k5
                  clear h0 h1 h2 h3 h4 h5
                  go_wp2_with fail
                  go_ret
                  exact If.no (hbW.trans (hbR5.mono hbW.size))
                have k0 : (x.entries.length : Int) ≤ 100 := by omega
                have k1 : (x.rates.length : Int) ≤ 200 := by omega
                have k2 : (x.holdings.length : Int) ≤ 200 := by omega
                have k3 : (x.matches_.length : Int) ≤ 50 := by omega
                have k4 : (x.stocks.length : Int) ≤ 200 := by omega
                have k5 : (x.rules.size : Int) ≤ 9000 := by omega
                have HP := Lib.hid (show FewBks x from ⟨HGR.out rfl, h0, h1, h2, h3, h4, h5, fun y hy => by
                  obtain ⟨i, hi, rfl⟩ := List.mem_iff_getElem.1 hy
                  exact HEV21.out i hi hi, fun y hy => by
                  obtain ⟨i, hi, rfl⟩ := List.mem_iff_getElem.1 hy
                  exact HEV22.out i hi hi, fun y hy => by
                  obtain ⟨i, hi, rfl⟩ := List.mem_iff_getElem.1 hy
                  exact HEV24.out i hi hi⟩)
                clear h0 h1 h2 h3 h4 h5
                go_wp2_with fail
                go_ret
                exact If.yes HP.out (hbW.trans (hbR5.mono hbW.size))
end Go.Proofs.Ytgdibeegheddmaa
