/- Plain laws of events: which are in bounds; two ways to write all fields, both tell events apart; proper ones. -/
import Derived.Test.YtgdibeegheddmaaI1Cod
import Derived.Test.YtgdibeegheddmaaH7Whole
namespace Go.Proofs.Ytgdibeegheddmaa
open Go Go.RowKit
set_option linter.unusedVariables false
set_option linter.unusedSimpArgs false
/-- All fields, in the order in which codec writes them. -/
def cAll : Cod XEvent := Cod.iso (Cod.pair cInt (Cod.pair cInt (Cod.pair cInt (Cod.pair cEntry (Cod.pair cRate (Cod.pair cHolding (Cod.pair cMatch (Cod.pair cStock cStr))))))))
  (fun p : Int × Int × Int × XEntry × XRate × XHolding × XMatch × XStock × ByteArray => { kind := p.1, a := p.2.1, b := p.2.2.1, entry := p.2.2.2.1, rate := p.2.2.2.2.1, holding := p.2.2.2.2.2.1, match_ := p.2.2.2.2.2.2.1, stock := p.2.2.2.2.2.2.2.1, text := p.2.2.2.2.2.2.2.2 })
  (fun x => (x.kind, x.a, x.b, x.entry, x.rate, x.holding, x.match_, x.stock, x.text)) encAll (fun x => by simp only [Cod.pair, encAll, List.append_assoc]; rfl) (fun _ => rfl) (fun _ => rfl)
theorem okAll {x : XEvent} (h : cEvent.ok x) : cAll.ok x := by
  obtain ⟨h1, h2, h3, h4, h5, h6, h7, h8, h9⟩ := h
  exact ⟨h1, h7, h8, h2, h3, h4, h5, h6, h9⟩
theorem intBd_nat {n : Nat} (h : n ≤ 9223372036854775807) : intBd (n : Int) := by unfold intBd; omega
theorem ListC.bd {α : Type} {El : World → (Nat → Prop) → List Value → α → Prop} {size : Nat} {w : World} {Q : Nat → Prop} {cs : List Value} {xs : List α} (h : ListC El size w Q cs xs) : intBd (xs.length : Int) := by
  obtain ⟨A, c, _, h1, h2, _⟩ := h
  unfold maxLen at h2
  exact intBd_nat (by omega)
theorem ListC.all {α : Type} {El : World → (Nat → Prop) → List Value → α → Prop} {size : Nat} {w : World} {Q : Nat → Prop} {cs : List Value} {xs : List α} {c : Cod α} (h : ListC El size w Q cs xs) (hE : ∀ es x, El w Q es x → c.ok x) : (cList c).ok xs := by
  refine ⟨h.bd, fun x hx => ?_⟩
  obtain ⟨A, c, _, _, _, h3⟩ := h
  obtain ⟨b, o, _, _, hi⟩ := h3 (List.length_pos_of_mem hx)
  obtain ⟨i, hi2, rfl⟩ := List.mem_iff_getElem.1 hx
  obtain ⟨es, he, _⟩ := hi i _ (List.getElem?_eq_getElem hi2)
  exact hE es _ he
theorem LineC.ok {w : World} {Q : Nat → Prop} {cs : List Value} {x : XLine} (h : LineC w Q cs x) : cLine.ok x := by
  obtain ⟨_, _, _, _, ⟨_, b0⟩, ⟨_, b1⟩, ⟨_, b2⟩⟩ := h
  exact ⟨b0, b1, b2⟩
theorem RefC.ok {w : World} {Q : Nat → Prop} {cs : List Value} {x : XRef} (h : RefC w Q cs x) : cRef.ok x := by
  obtain ⟨_, _, _, ⟨_, b0⟩, ⟨_, b1⟩⟩ := h
  exact ⟨b0, b1⟩
theorem EntryC.ok {w : World} {Q : Nat → Prop} {cs : List Value} {x : XEntry} (h : EntryC w Q cs x) (hs : x.text.size ≤ 9223372036854775807) : cEntry.ok x := by
  obtain ⟨_, _, _, _, _, _, _, _, ⟨_, b0⟩, ⟨_, b1⟩, ⟨_, b2⟩, ⟨_, b3⟩, ⟨_, b4⟩, _, h6⟩ := h
  exact ⟨b0, b1, b2, b3, b4, intBd_nat hs, h6.all fun _ _ h => LineC.ok h⟩
theorem RateC.ok {w : World} {Q : Nat → Prop} {cs : List Value} {x : XRate} (h : RateC w Q cs x) (hs : x.currency.size ≤ 9223372036854775807) : cRate.ok x := by
  obtain ⟨_, _, _, _, _, _, ⟨_, b1⟩, ⟨_, b2⟩, ⟨_, b3⟩⟩ := h
  exact ⟨intBd_nat hs, b1, b2, b3⟩
theorem HoldingC.ok {w : World} {Q : Nat → Prop} {cs : List Value} {x : XHolding} (h : HoldingC w Q cs x) : cHolding.ok x := by
  obtain ⟨_, _, _, _, _, ⟨_, b0⟩, ⟨_, b1⟩, ⟨_, b2⟩, ⟨_, b3⟩⟩ := h
  exact ⟨b0, b1, b2, b3⟩
theorem MatchC.ok {w : World} {Q : Nat → Prop} {cs : List Value} {x : XMatch} (h : MatchC w Q cs x) : cMatch.ok x := by
  obtain ⟨_, _, _, _, _, ⟨_, b0⟩, h1, h2, ⟨_, b3⟩⟩ := h
  exact ⟨b0, h1.all fun _ _ h => RefC.ok h, h2.all fun _ _ h => RefC.ok h, b3⟩
theorem StockC.ok {w : World} {Q : Nat → Prop} {cs : List Value} {x : XStock} (h : StockC w Q cs x) : cStock.ok x := by
  obtain ⟨_, _, _, _, _, _, ⟨_, b0⟩, ⟨_, b1⟩, ⟨_, b2⟩, ⟨_, b3⟩, ⟨_, b4⟩⟩ := h
  exact ⟨b0, b1, b2, b3, b4⟩
theorem EventC.ok {w : World} {Q : Nat → Prop} {cs : List Value} {x : XEvent} (h : EventC w Q cs x) (hf : Few x) : cEvent.ok x := by
  obtain ⟨_, _, _, _, _, _, _, _, _, _, ⟨_, b0⟩, h1, h2, h3, h4, h5, ⟨_, b6⟩, ⟨_, b7⟩, _⟩ := h
  have e1 := hf.etext
  have e2 := hf.cur
  have e3 := hf.text
  exact ⟨b0, h1.ok (by omega), h2.ok (by omega), h3.ok, h4.ok, h5.ok, b6, b7, intBd_nat (show x.text.size ≤ _ by omega)⟩
theorem okZEntry : cEntry.ok {} := ⟨bd0, bd0, bd0, bd0, bd0, by exact intBd_nat (n := 0) (by omega), bd0, fun x hx => by cases hx⟩
theorem okZRate : cRate.ok {} := ⟨by exact intBd_nat (n := 0) (by omega), bd0, bd0, bd0⟩
theorem okZHolding : cHolding.ok {} := ⟨bd0, bd0, bd0, bd0⟩
theorem okZMatch : cMatch.ok {} := ⟨bd0, ⟨bd0, fun x hx => by cases hx⟩, ⟨bd0, fun x hx => by cases hx⟩, bd0⟩
theorem okZStock : cStock.ok {} := ⟨bd0, bd0, bd0, bd0, bd0⟩
theorem okOwn {x : XEvent} (h : cEvent.ok x) : cEvent.ok (ownEv x) := by
  obtain ⟨h1, h2, h3, h4, h5, h6, h7, h8, h9⟩ := h
  have z9 : cStr.ok ByteArray.empty := intBd_nat (n := 0) (by omega)
  have e1 := okZEntry
  have e2 := okZRate
  have e3 := okZHolding
  have e4 := okZMatch
  have e5 := okZStock
  have e6 : cInt.ok 0 := bd0
  unfold ownEv
  (repeat' split) <;> exact ⟨h1, by assumption, by assumption, by assumption, by assumption, by assumption, by assumption, by assumption, by assumption⟩
theorem all_iff {x y : XEvent} (hx : cEvent.ok x) (hy : cEvent.ok y) : encAll x = encAll y ↔ x = y := cAll.inj_iff (okAll hx) (okAll hy)
theorem event_iff {x y : XEvent} (hx : cEvent.ok x) (hy : cEvent.ok y) : encEvent x = encEvent y ↔ x = y := cEvent.inj_iff hx hy
theorem same_eq {x y : XEvent} (hx : cEvent.ok x) (hy : cEvent.ok y) : decide (encEvent x = encEvent y) = decide (encAll x = encAll y) := by
  rw [Bool.eq_iff_iff, decide_eq_true_iff, decide_eq_true_iff, all_iff hx hy, event_iff hx hy]
theorem proper_eq {x : XEvent} (hx : cEvent.ok x) : (known x.kind && decide (encEvent x = encEvent (ownEv x))) = properB x := by
  unfold properB
  rw [same_eq hx (okOwn hx)]
theorem Few.own {x : XEvent} (h : Few x) : Few (ownEv x) := by
  have e1 := h.lines
  have e2 := h.etext
  have e3 := h.cur
  have e4 := h.left
  have e5 := h.right
  have e6 := h.text
  have z : ByteArray.empty.size = 0 := rfl
  unfold ownEv
  (repeat' split) <;> constructor <;> simp [z] <;> assumption
end Go.Proofs.Ytgdibeegheddmaa
