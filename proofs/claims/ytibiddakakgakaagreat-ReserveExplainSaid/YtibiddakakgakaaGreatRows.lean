/-
  No cell of these rows narrows 'for every input' (looked for: loops, veiled, ifaces, maps, wideKeys, modest, calm, conditions, laid).
  DERIVED. THE GIVEN ROWS OF THIS SEAT. 13 by the template 'for every input the law returns true; each argument reads behind the call as it read before'; 0 by the template 'total and deterministic' (their statements: YtibiddakakgakaaGreatTotals.lean).
  GIVEN WITH THE SEED: the statements are not yours to turn. If you find one false, say at which input.
  Laid BY PROGRAM, IN A SANDBOX (cutbox-rows.mjs): the forced cells as the released guide's own fill.sh prints them over the translation cf4ce4b235d54f2e… (all of the seat's roots in one cut). By AI agents, Wed Nov 11 2026. No macro, syntax, notation, axiom, sorry.
-/
import Derived.Test.YtibiddakakgakaaGreatChecked
import GoSem.Claim
import GoSem.ClaimJoined
import GoSem.ClaimMapViews
import Derived.JoinedTies
import Derived.KernelRfl
namespace Go.Proofs.YtibiddakakgakaaGreat
/- THE CELL 'sum', in the pinned program and in every row, IS THE sha256 OF THE DUMP (.gsa) THAT YtibiddakakgakaaGreatProg.lean LOADS. Nothing in Lean hashes anything: it is a label: what it is worth is what the hold of that sum in a sandbox is worth. -/
noncomputable def Tryz.pinned : Pinned := { name := "ytibiddakakgakaagreat", sum := "cf4ce4b235d54f2e563d9bd75d8b95baf8dcae5c14ba45bf30af16266501e349", checked := Tryz.checked }
namespace Rows
def none {H : Type} : Left H := { results := [], args := [] }

/-- 'tallystonelaw18.TranslateItem': WHATEVER THE INPUT: true; the input reads as it did. -/
def translateItemSpec : ChangeSpec := { name := "translateItem", fn := fun _ => fun
  | [d1, d2, d3] => { results := [.lit (.bool true)], args := [d1, d2, d3] }
  | _ => none }
def translateItemRow : OpenClaim := { program := "ytibiddakakgakaagreat", sum := "cf4ce4b235d54f2e563d9bd75d8b95baf8dcae5c14ba45bf30af16266501e349", func := "tallystone/tallystonelaw18.TranslateItem", spec := "translateItem", unfollowed := true, recurses := true, plainKeys := false, apart := false }
def TranslateItemSaid : Prop := translateItemRow.holds Tryz.pinned (OpenSpec.ofChange translateItemSpec)

/-- ITS FALSE NEIGHBOUR: 'it returns false'. Refute it at one input. -/
def translateItemWrong : ChangeSpec := { name := "translateItem", fn := fun _ => fun
  | [d1, d2, d3] => { results := [.lit (.bool false)], args := [d1, d2, d3] }
  | _ => none }
def TranslateItemWrongFalsely : Prop := translateItemRow.holds Tryz.pinned (OpenSpec.ofChange translateItemWrong)

/-- 'tallystonelaw18.TranslateReversed': WHATEVER THE INPUT: true; the input reads as it did. -/
def translateReversedSpec : ChangeSpec := { name := "translateReversed", fn := fun _ => fun
  | [d1, d2, d3] => { results := [.lit (.bool true)], args := [d1, d2, d3] }
  | _ => none }
def translateReversedRow : OpenClaim := { program := "ytibiddakakgakaagreat", sum := "cf4ce4b235d54f2e563d9bd75d8b95baf8dcae5c14ba45bf30af16266501e349", func := "tallystone/tallystonelaw18.TranslateReversed", spec := "translateReversed", unfollowed := true, recurses := true, plainKeys := false, apart := false }
def TranslateReversedSaid : Prop := translateReversedRow.holds Tryz.pinned (OpenSpec.ofChange translateReversedSpec)

/-- ITS FALSE NEIGHBOUR: 'it returns false'. Refute it at one input. -/
def translateReversedWrong : ChangeSpec := { name := "translateReversed", fn := fun _ => fun
  | [d1, d2, d3] => { results := [.lit (.bool false)], args := [d1, d2, d3] }
  | _ => none }
def TranslateReversedWrongFalsely : Prop := translateReversedRow.holds Tryz.pinned (OpenSpec.ofChange translateReversedWrong)

/-- 'tallystonelaw18.TranslateRate': WHATEVER THE INPUT: true; the input reads as it did. -/
def translateRateSpec : ChangeSpec := { name := "translateRate", fn := fun _ => fun
  | [d1, d2] => { results := [.lit (.bool true)], args := [d1, d2] }
  | _ => none }
def translateRateRow : OpenClaim := { program := "ytibiddakakgakaagreat", sum := "cf4ce4b235d54f2e563d9bd75d8b95baf8dcae5c14ba45bf30af16266501e349", func := "tallystone/tallystonelaw18.TranslateRate", spec := "translateRate", unfollowed := true, recurses := true, plainKeys := false, apart := false }
def TranslateRateSaid : Prop := translateRateRow.holds Tryz.pinned (OpenSpec.ofChange translateRateSpec)

/-- ITS FALSE NEIGHBOUR: 'it returns false'. Refute it at one input. -/
def translateRateWrong : ChangeSpec := { name := "translateRate", fn := fun _ => fun
  | [d1, d2] => { results := [.lit (.bool false)], args := [d1, d2] }
  | _ => none }
def TranslateRateWrongFalsely : Prop := translateRateRow.holds Tryz.pinned (OpenSpec.ofChange translateRateWrong)

/-- 'tallystonelaw18.TranslateNearest': WHATEVER THE INPUT: true; the input reads as it did. -/
def translateNearestSpec : ChangeSpec := { name := "translateNearest", fn := fun _ => fun
  | [d1, d2, d3] => { results := [.lit (.bool true)], args := [d1, d2, d3] }
  | _ => none }
def translateNearestRow : OpenClaim := { program := "ytibiddakakgakaagreat", sum := "cf4ce4b235d54f2e563d9bd75d8b95baf8dcae5c14ba45bf30af16266501e349", func := "tallystone/tallystonelaw18.TranslateNearest", spec := "translateNearest", unfollowed := true, recurses := true, plainKeys := false, apart := false }
def TranslateNearestSaid : Prop := translateNearestRow.holds Tryz.pinned (OpenSpec.ofChange translateNearestSpec)

/-- ITS FALSE NEIGHBOUR: 'it returns false'. Refute it at one input. -/
def translateNearestWrong : ChangeSpec := { name := "translateNearest", fn := fun _ => fun
  | [d1, d2, d3] => { results := [.lit (.bool false)], args := [d1, d2, d3] }
  | _ => none }
def TranslateNearestWrongFalsely : Prop := translateNearestRow.holds Tryz.pinned (OpenSpec.ofChange translateNearestWrong)

/-- 'tallystonelaw18.TranslateItems': WHATEVER THE INPUT: true; the input reads as it did. -/
def translateItemsSpec : ChangeSpec := { name := "translateItems", fn := fun _ => fun
  | [d1, d2, d3] => { results := [.lit (.bool true)], args := [d1, d2, d3] }
  | _ => none }
def translateItemsRow : OpenClaim := { program := "ytibiddakakgakaagreat", sum := "cf4ce4b235d54f2e563d9bd75d8b95baf8dcae5c14ba45bf30af16266501e349", func := "tallystone/tallystonelaw18.TranslateItems", spec := "translateItems", unfollowed := true, recurses := true, plainKeys := false, apart := false }
def TranslateItemsSaid : Prop := translateItemsRow.holds Tryz.pinned (OpenSpec.ofChange translateItemsSpec)

/-- ITS FALSE NEIGHBOUR: 'it returns false'. Refute it at one input. -/
def translateItemsWrong : ChangeSpec := { name := "translateItems", fn := fun _ => fun
  | [d1, d2, d3] => { results := [.lit (.bool false)], args := [d1, d2, d3] }
  | _ => none }
def TranslateItemsWrongFalsely : Prop := translateItemsRow.holds Tryz.pinned (OpenSpec.ofChange translateItemsWrong)

/-- 'tallystonelaw18.TranslateOrder': WHATEVER THE INPUT: true; the input reads as it did. -/
def translateOrderSpec : ChangeSpec := { name := "translateOrder", fn := fun _ => fun
  | [d1, d2, d3] => { results := [.lit (.bool true)], args := [d1, d2, d3] }
  | _ => none }
def translateOrderRow : OpenClaim := { program := "ytibiddakakgakaagreat", sum := "cf4ce4b235d54f2e563d9bd75d8b95baf8dcae5c14ba45bf30af16266501e349", func := "tallystone/tallystonelaw18.TranslateOrder", spec := "translateOrder", unfollowed := true, recurses := true, plainKeys := false, apart := false }
def TranslateOrderSaid : Prop := translateOrderRow.holds Tryz.pinned (OpenSpec.ofChange translateOrderSpec)

/-- ITS FALSE NEIGHBOUR: 'it returns false'. Refute it at one input. -/
def translateOrderWrong : ChangeSpec := { name := "translateOrder", fn := fun _ => fun
  | [d1, d2, d3] => { results := [.lit (.bool false)], args := [d1, d2, d3] }
  | _ => none }
def TranslateOrderWrongFalsely : Prop := translateOrderRow.holds Tryz.pinned (OpenSpec.ofChange translateOrderWrong)

/-- 'tallystonelaw18.TranslateRates': WHATEVER THE INPUT: true; the input reads as it did. -/
def translateRatesSpec : ChangeSpec := { name := "translateRates", fn := fun _ => fun
  | [d1, d2, d3] => { results := [.lit (.bool true)], args := [d1, d2, d3] }
  | _ => none }
def translateRatesRow : OpenClaim := { program := "ytibiddakakgakaagreat", sum := "cf4ce4b235d54f2e563d9bd75d8b95baf8dcae5c14ba45bf30af16266501e349", func := "tallystone/tallystonelaw18.TranslateRates", spec := "translateRates", unfollowed := true, recurses := true, plainKeys := false, apart := false }
def TranslateRatesSaid : Prop := translateRatesRow.holds Tryz.pinned (OpenSpec.ofChange translateRatesSpec)

/-- ITS FALSE NEIGHBOUR: 'it returns false'. Refute it at one input. -/
def translateRatesWrong : ChangeSpec := { name := "translateRates", fn := fun _ => fun
  | [d1, d2, d3] => { results := [.lit (.bool false)], args := [d1, d2, d3] }
  | _ => none }
def TranslateRatesWrongFalsely : Prop := translateRatesRow.holds Tryz.pinned (OpenSpec.ofChange translateRatesWrong)

/-- 'tallystonelaw18.TranslateYears': WHATEVER THE INPUT: true; the input reads as it did. -/
def translateYearsSpec : ChangeSpec := { name := "translateYears", fn := fun _ => fun
  | [d1, d2, d3] => { results := [.lit (.bool true)], args := [d1, d2, d3] }
  | _ => none }
def translateYearsRow : OpenClaim := { program := "ytibiddakakgakaagreat", sum := "cf4ce4b235d54f2e563d9bd75d8b95baf8dcae5c14ba45bf30af16266501e349", func := "tallystone/tallystonelaw18.TranslateYears", spec := "translateYears", unfollowed := true, recurses := true, plainKeys := false, apart := false }
def TranslateYearsSaid : Prop := translateYearsRow.holds Tryz.pinned (OpenSpec.ofChange translateYearsSpec)

/-- ITS FALSE NEIGHBOUR: 'it returns false'. Refute it at one input. -/
def translateYearsWrong : ChangeSpec := { name := "translateYears", fn := fun _ => fun
  | [d1, d2, d3] => { results := [.lit (.bool false)], args := [d1, d2, d3] }
  | _ => none }
def TranslateYearsWrongFalsely : Prop := translateYearsRow.holds Tryz.pinned (OpenSpec.ofChange translateYearsWrong)

/-- 'tallystonelaw18.TranslateSorted': WHATEVER THE INPUT: true; the input reads as it did. -/
def translateSortedSpec : ChangeSpec := { name := "translateSorted", fn := fun _ => fun
  | [d1, d2, d3] => { results := [.lit (.bool true)], args := [d1, d2, d3] }
  | _ => none }
def translateSortedRow : OpenClaim := { program := "ytibiddakakgakaagreat", sum := "cf4ce4b235d54f2e563d9bd75d8b95baf8dcae5c14ba45bf30af16266501e349", func := "tallystone/tallystonelaw18.TranslateSorted", spec := "translateSorted", unfollowed := true, recurses := true, plainKeys := false, apart := false }
def TranslateSortedSaid : Prop := translateSortedRow.holds Tryz.pinned (OpenSpec.ofChange translateSortedSpec)

/-- ITS FALSE NEIGHBOUR: 'it returns false'. Refute it at one input. -/
def translateSortedWrong : ChangeSpec := { name := "translateSorted", fn := fun _ => fun
  | [d1, d2, d3] => { results := [.lit (.bool false)], args := [d1, d2, d3] }
  | _ => none }
def TranslateSortedWrongFalsely : Prop := translateSortedRow.holds Tryz.pinned (OpenSpec.ofChange translateSortedWrong)

/-- 'tallystonelaw19.ReserveSteady': WHATEVER THE INPUT: true; the input reads as it did. -/
def reserveSteadySpec : ChangeSpec := { name := "reserveSteady", fn := fun _ => fun
  | [d1, d2, d3] => { results := [.lit (.bool true)], args := [d1, d2, d3] }
  | _ => none }
def reserveSteadyRow : OpenClaim := { program := "ytibiddakakgakaagreat", sum := "cf4ce4b235d54f2e563d9bd75d8b95baf8dcae5c14ba45bf30af16266501e349", func := "tallystone/tallystonelaw19.ReserveSteady", spec := "reserveSteady", unfollowed := true, recurses := true, plainKeys := false, apart := false }
def ReserveSteadySaid : Prop := reserveSteadyRow.holds Tryz.pinned (OpenSpec.ofChange reserveSteadySpec)

/-- ITS FALSE NEIGHBOUR: 'it returns false'. Refute it at one input. -/
def reserveSteadyWrong : ChangeSpec := { name := "reserveSteady", fn := fun _ => fun
  | [d1, d2, d3] => { results := [.lit (.bool false)], args := [d1, d2, d3] }
  | _ => none }
def ReserveSteadyWrongFalsely : Prop := reserveSteadyRow.holds Tryz.pinned (OpenSpec.ofChange reserveSteadyWrong)

/-- 'tallystonelaw19.ReserveReversed': WHATEVER THE INPUT: true; the input reads as it did. -/
def reserveReversedSpec : ChangeSpec := { name := "reserveReversed", fn := fun _ => fun
  | [d1, d2, d3] => { results := [.lit (.bool true)], args := [d1, d2, d3] }
  | _ => none }
def reserveReversedRow : OpenClaim := { program := "ytibiddakakgakaagreat", sum := "cf4ce4b235d54f2e563d9bd75d8b95baf8dcae5c14ba45bf30af16266501e349", func := "tallystone/tallystonelaw19.ReserveReversed", spec := "reserveReversed", unfollowed := true, recurses := true, plainKeys := false, apart := false }
def ReserveReversedSaid : Prop := reserveReversedRow.holds Tryz.pinned (OpenSpec.ofChange reserveReversedSpec)

/-- ITS FALSE NEIGHBOUR: 'it returns false'. Refute it at one input. -/
def reserveReversedWrong : ChangeSpec := { name := "reserveReversed", fn := fun _ => fun
  | [d1, d2, d3] => { results := [.lit (.bool false)], args := [d1, d2, d3] }
  | _ => none }
def ReserveReversedWrongFalsely : Prop := reserveReversedRow.holds Tryz.pinned (OpenSpec.ofChange reserveReversedWrong)

/-- 'tallystonelaw19.ReserveExplain': WHATEVER THE INPUT: true; the input reads as it did. -/
def reserveExplainSpec : ChangeSpec := { name := "reserveExplain", fn := fun _ => fun
  | [d1, d2, d3] => { results := [.lit (.bool true)], args := [d1, d2, d3] }
  | _ => none }
def reserveExplainRow : OpenClaim := { program := "ytibiddakakgakaagreat", sum := "cf4ce4b235d54f2e563d9bd75d8b95baf8dcae5c14ba45bf30af16266501e349", func := "tallystone/tallystonelaw19.ReserveExplain", spec := "reserveExplain", unfollowed := true, recurses := true, plainKeys := false, apart := false }
def ReserveExplainSaid : Prop := reserveExplainRow.holds Tryz.pinned (OpenSpec.ofChange reserveExplainSpec)

/-- ITS FALSE NEIGHBOUR: 'it returns false'. Refute it at one input. -/
def reserveExplainWrong : ChangeSpec := { name := "reserveExplain", fn := fun _ => fun
  | [d1, d2, d3] => { results := [.lit (.bool false)], args := [d1, d2, d3] }
  | _ => none }
def ReserveExplainWrongFalsely : Prop := reserveExplainRow.holds Tryz.pinned (OpenSpec.ofChange reserveExplainWrong)

/-- 'tallystonelaw19.ReservePeriods': WHATEVER THE INPUT: true; the input reads as it did. -/
def reservePeriodsSpec : ChangeSpec := { name := "reservePeriods", fn := fun _ => fun
  | [d1, d2, d3] => { results := [.lit (.bool true)], args := [d1, d2, d3] }
  | _ => none }
def reservePeriodsRow : OpenClaim := { program := "ytibiddakakgakaagreat", sum := "cf4ce4b235d54f2e563d9bd75d8b95baf8dcae5c14ba45bf30af16266501e349", func := "tallystone/tallystonelaw19.ReservePeriods", spec := "reservePeriods", unfollowed := true, recurses := true, plainKeys := false, apart := false }
def ReservePeriodsSaid : Prop := reservePeriodsRow.holds Tryz.pinned (OpenSpec.ofChange reservePeriodsSpec)

/-- ITS FALSE NEIGHBOUR: 'it returns false'. Refute it at one input. -/
def reservePeriodsWrong : ChangeSpec := { name := "reservePeriods", fn := fun _ => fun
  | [d1, d2, d3] => { results := [.lit (.bool false)], args := [d1, d2, d3] }
  | _ => none }
def ReservePeriodsWrongFalsely : Prop := reservePeriodsRow.holds Tryz.pinned (OpenSpec.ofChange reservePeriodsWrong)

/- THE SECOND FORM. 'bulk': how many values and letters a reading holds, each counted each time it is reached (what is shared counts as often as it is met; a slice's spare places count too). A statement '..UptoSaid' is the law's where the arguments, and the package variables that the reading takes, are together of bulk at most 1048576: NARROWER than '..Said'. Prove '..Said' where nothing that the law and all that it calls make is longer than what came in: it says more and counts as full. Else prove '..UptoSaid'. A law counts once. -/
mutual
def uptoBulk {H : Type} : DataW H → Nat
  | .lit (.string bytes) => bytes.length + 1
  | .lit _ => 1
  | .nil => 1
  | .ptr d => uptoBulk d + 1
  | .slice elems spare => uptoBulkAll elems + uptoBulkAll spare + 1
  | .agg parts => uptoBulkAll parts + 1
  | .iface _ d => uptoBulk d + 1
  | .map entries => uptoBulkEntries entries + 1
  | .held _ => 1
def uptoBulkAll {H : Type} : List (DataW H) → Nat
  | [] => 0
  | d :: r => uptoBulk d + uptoBulkAll r
def uptoBulkEntries {H : Type} : List (Lit × DataW H) → Nat
  | [] => 0
  | x :: r => uptoBulkEntry x + uptoBulkEntries r
def uptoBulkEntry {H : Type} : Lit × DataW H → Nat
  | (.string bytes, d) => bytes.length + uptoBulk d + 1
  | (_, d) => uptoBulk d + 1
 end
def uptoSmall : (H : Type) → List (DataW H) → Bool := fun _ ds => decide (uptoBulkAll ds ≤ 1048576)
def OpenSpec.upto (s : _root_.Go.ChangeSpec) : _root_.Go.OpenSpec := { _root_.Go.OpenSpec.ofChange s with cond := some uptoSmall }

/-- 'tallystonelaw18.TranslateItem', WHERE WHAT IT READS IS OF BULK AT MOST 1048576: true; the input reads as it did. -/
def translateItemUptoRow : OpenClaim := { program := "ytibiddakakgakaagreat", sum := "cf4ce4b235d54f2e563d9bd75d8b95baf8dcae5c14ba45bf30af16266501e349", func := "tallystone/tallystonelaw18.TranslateItem", spec := "translateItem", unfollowed := true, recurses := true, plainKeys := false, apart := false, narrowed := true }
def TranslateItemUptoSaid : Prop := translateItemUptoRow.holds Tryz.pinned (OpenSpec.upto translateItemSpec)

/-- 'tallystonelaw18.TranslateReversed', WHERE WHAT IT READS IS OF BULK AT MOST 1048576: true; the input reads as it did. -/
def translateReversedUptoRow : OpenClaim := { program := "ytibiddakakgakaagreat", sum := "cf4ce4b235d54f2e563d9bd75d8b95baf8dcae5c14ba45bf30af16266501e349", func := "tallystone/tallystonelaw18.TranslateReversed", spec := "translateReversed", unfollowed := true, recurses := true, plainKeys := false, apart := false, narrowed := true }
def TranslateReversedUptoSaid : Prop := translateReversedUptoRow.holds Tryz.pinned (OpenSpec.upto translateReversedSpec)

/-- 'tallystonelaw18.TranslateRate', WHERE WHAT IT READS IS OF BULK AT MOST 1048576: true; the input reads as it did. -/
def translateRateUptoRow : OpenClaim := { program := "ytibiddakakgakaagreat", sum := "cf4ce4b235d54f2e563d9bd75d8b95baf8dcae5c14ba45bf30af16266501e349", func := "tallystone/tallystonelaw18.TranslateRate", spec := "translateRate", unfollowed := true, recurses := true, plainKeys := false, apart := false, narrowed := true }
def TranslateRateUptoSaid : Prop := translateRateUptoRow.holds Tryz.pinned (OpenSpec.upto translateRateSpec)

/-- 'tallystonelaw18.TranslateNearest', WHERE WHAT IT READS IS OF BULK AT MOST 1048576: true; the input reads as it did. -/
def translateNearestUptoRow : OpenClaim := { program := "ytibiddakakgakaagreat", sum := "cf4ce4b235d54f2e563d9bd75d8b95baf8dcae5c14ba45bf30af16266501e349", func := "tallystone/tallystonelaw18.TranslateNearest", spec := "translateNearest", unfollowed := true, recurses := true, plainKeys := false, apart := false, narrowed := true }
def TranslateNearestUptoSaid : Prop := translateNearestUptoRow.holds Tryz.pinned (OpenSpec.upto translateNearestSpec)

/-- 'tallystonelaw18.TranslateItems', WHERE WHAT IT READS IS OF BULK AT MOST 1048576: true; the input reads as it did. -/
def translateItemsUptoRow : OpenClaim := { program := "ytibiddakakgakaagreat", sum := "cf4ce4b235d54f2e563d9bd75d8b95baf8dcae5c14ba45bf30af16266501e349", func := "tallystone/tallystonelaw18.TranslateItems", spec := "translateItems", unfollowed := true, recurses := true, plainKeys := false, apart := false, narrowed := true }
def TranslateItemsUptoSaid : Prop := translateItemsUptoRow.holds Tryz.pinned (OpenSpec.upto translateItemsSpec)

/-- 'tallystonelaw18.TranslateOrder', WHERE WHAT IT READS IS OF BULK AT MOST 1048576: true; the input reads as it did. -/
def translateOrderUptoRow : OpenClaim := { program := "ytibiddakakgakaagreat", sum := "cf4ce4b235d54f2e563d9bd75d8b95baf8dcae5c14ba45bf30af16266501e349", func := "tallystone/tallystonelaw18.TranslateOrder", spec := "translateOrder", unfollowed := true, recurses := true, plainKeys := false, apart := false, narrowed := true }
def TranslateOrderUptoSaid : Prop := translateOrderUptoRow.holds Tryz.pinned (OpenSpec.upto translateOrderSpec)

/-- 'tallystonelaw18.TranslateRates', WHERE WHAT IT READS IS OF BULK AT MOST 1048576: true; the input reads as it did. -/
def translateRatesUptoRow : OpenClaim := { program := "ytibiddakakgakaagreat", sum := "cf4ce4b235d54f2e563d9bd75d8b95baf8dcae5c14ba45bf30af16266501e349", func := "tallystone/tallystonelaw18.TranslateRates", spec := "translateRates", unfollowed := true, recurses := true, plainKeys := false, apart := false, narrowed := true }
def TranslateRatesUptoSaid : Prop := translateRatesUptoRow.holds Tryz.pinned (OpenSpec.upto translateRatesSpec)

/-- 'tallystonelaw18.TranslateYears', WHERE WHAT IT READS IS OF BULK AT MOST 1048576: true; the input reads as it did. -/
def translateYearsUptoRow : OpenClaim := { program := "ytibiddakakgakaagreat", sum := "cf4ce4b235d54f2e563d9bd75d8b95baf8dcae5c14ba45bf30af16266501e349", func := "tallystone/tallystonelaw18.TranslateYears", spec := "translateYears", unfollowed := true, recurses := true, plainKeys := false, apart := false, narrowed := true }
def TranslateYearsUptoSaid : Prop := translateYearsUptoRow.holds Tryz.pinned (OpenSpec.upto translateYearsSpec)

/-- 'tallystonelaw18.TranslateSorted', WHERE WHAT IT READS IS OF BULK AT MOST 1048576: true; the input reads as it did. -/
def translateSortedUptoRow : OpenClaim := { program := "ytibiddakakgakaagreat", sum := "cf4ce4b235d54f2e563d9bd75d8b95baf8dcae5c14ba45bf30af16266501e349", func := "tallystone/tallystonelaw18.TranslateSorted", spec := "translateSorted", unfollowed := true, recurses := true, plainKeys := false, apart := false, narrowed := true }
def TranslateSortedUptoSaid : Prop := translateSortedUptoRow.holds Tryz.pinned (OpenSpec.upto translateSortedSpec)

/-- 'tallystonelaw19.ReserveSteady', WHERE WHAT IT READS IS OF BULK AT MOST 1048576: true; the input reads as it did. -/
def reserveSteadyUptoRow : OpenClaim := { program := "ytibiddakakgakaagreat", sum := "cf4ce4b235d54f2e563d9bd75d8b95baf8dcae5c14ba45bf30af16266501e349", func := "tallystone/tallystonelaw19.ReserveSteady", spec := "reserveSteady", unfollowed := true, recurses := true, plainKeys := false, apart := false, narrowed := true }
def ReserveSteadyUptoSaid : Prop := reserveSteadyUptoRow.holds Tryz.pinned (OpenSpec.upto reserveSteadySpec)

/-- 'tallystonelaw19.ReserveReversed', WHERE WHAT IT READS IS OF BULK AT MOST 1048576: true; the input reads as it did. -/
def reserveReversedUptoRow : OpenClaim := { program := "ytibiddakakgakaagreat", sum := "cf4ce4b235d54f2e563d9bd75d8b95baf8dcae5c14ba45bf30af16266501e349", func := "tallystone/tallystonelaw19.ReserveReversed", spec := "reserveReversed", unfollowed := true, recurses := true, plainKeys := false, apart := false, narrowed := true }
def ReserveReversedUptoSaid : Prop := reserveReversedUptoRow.holds Tryz.pinned (OpenSpec.upto reserveReversedSpec)

/-- 'tallystonelaw19.ReserveExplain', WHERE WHAT IT READS IS OF BULK AT MOST 1048576: true; the input reads as it did. -/
def reserveExplainUptoRow : OpenClaim := { program := "ytibiddakakgakaagreat", sum := "cf4ce4b235d54f2e563d9bd75d8b95baf8dcae5c14ba45bf30af16266501e349", func := "tallystone/tallystonelaw19.ReserveExplain", spec := "reserveExplain", unfollowed := true, recurses := true, plainKeys := false, apart := false, narrowed := true }
def ReserveExplainUptoSaid : Prop := reserveExplainUptoRow.holds Tryz.pinned (OpenSpec.upto reserveExplainSpec)

/-- 'tallystonelaw19.ReservePeriods', WHERE WHAT IT READS IS OF BULK AT MOST 1048576: true; the input reads as it did. -/
def reservePeriodsUptoRow : OpenClaim := { program := "ytibiddakakgakaagreat", sum := "cf4ce4b235d54f2e563d9bd75d8b95baf8dcae5c14ba45bf30af16266501e349", func := "tallystone/tallystonelaw19.ReservePeriods", spec := "reservePeriods", unfollowed := true, recurses := true, plainKeys := false, apart := false, narrowed := true }
def ReservePeriodsUptoSaid : Prop := reservePeriodsUptoRow.holds Tryz.pinned (OpenSpec.upto reservePeriodsSpec)

end Rows
end Go.Proofs.YtibiddakakgakaaGreat
