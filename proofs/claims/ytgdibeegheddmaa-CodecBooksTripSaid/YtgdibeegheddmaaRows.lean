/-
  No cell of these rows narrows 'for every input' (looked for: loops, veiled, ifaces, maps, wideKeys, modest, calm, conditions, laid).
  DERIVED. THE GIVEN ROWS OF THIS SEAT. 8 by the template 'for every input the law returns true; each argument reads behind the call as it read before'; 0 by the template 'total and deterministic' (their statements: YtgdibeegheddmaaTotals.lean).
  GIVEN WITH THE SEED: the statements are not yours to turn. If you find one false, say at which input.
  Laid BY PROGRAM, IN A SANDBOX (cutbox-rows.mjs): the forced cells as the released guide's own fill.sh prints them over the translation ad48822a289417d1… (all of the seat's roots in one cut). By AI agents, Wed Nov 11 2026. No macro, syntax, notation, axiom, sorry.
-/
import Derived.Test.YtgdibeegheddmaaChecked
import GoSem.Claim
import GoSem.ClaimJoined
import GoSem.ClaimMapViews
import Derived.JoinedTies
import Derived.KernelRfl
namespace Go.Proofs.Ytgdibeegheddmaa
/- THE CELL 'sum', in the pinned program and in every row, IS THE sha256 OF THE DUMP (.gsa) THAT YtgdibeegheddmaaProg.lean LOADS. Nothing in Lean hashes anything: it is a label: what it is worth is what the hold of that sum in a sandbox is worth. -/
noncomputable def Try.pinned : Pinned := { name := "ytgdibeegheddmaa", sum := "ad48822a289417d14921e401b8bfa0a566db376f28a56b5887db707bb40db6d1", checked := Try.checked }
namespace Rows
def none {H : Type} : Left H := { results := [], args := [] }

/-- 'tallystonelaw54.CodecIntegers': WHATEVER THE INPUT: true; the input reads as it did. -/
def codecIntegersSpec : ChangeSpec := { name := "codecIntegers", fn := fun _ => fun
  | [d1, d2, d3] => { results := [.lit (.bool true)], args := [d1, d2, d3] }
  | _ => none }
def codecIntegersRow : OpenClaim := { program := "ytgdibeegheddmaa", sum := "ad48822a289417d14921e401b8bfa0a566db376f28a56b5887db707bb40db6d1", func := "tallystone/tallystonelaw54.CodecIntegers", spec := "codecIntegers", unfollowed := true, recurses := true, apart := false }
def CodecIntegersSaid : Prop := codecIntegersRow.holds Try.pinned (OpenSpec.ofChange codecIntegersSpec)

/-- ITS FALSE NEIGHBOUR: 'it returns false'. Refute it at one input. -/
def codecIntegersWrong : ChangeSpec := { name := "codecIntegers", fn := fun _ => fun
  | [d1, d2, d3] => { results := [.lit (.bool false)], args := [d1, d2, d3] }
  | _ => none }
def CodecIntegersWrongFalsely : Prop := codecIntegersRow.holds Try.pinned (OpenSpec.ofChange codecIntegersWrong)

/-- 'tallystonelaw54.CodecNext': WHATEVER THE INPUT: true; the input reads as it did. -/
def codecNextSpec : ChangeSpec := { name := "codecNext", fn := fun _ => fun
  | [d] => { results := [.lit (.bool true)], args := [d] }
  | _ => none }
def codecNextRow : OpenClaim := { program := "ytgdibeegheddmaa", sum := "ad48822a289417d14921e401b8bfa0a566db376f28a56b5887db707bb40db6d1", func := "tallystone/tallystonelaw54.CodecNext", spec := "codecNext", unfollowed := true, recurses := true, apart := false }
def CodecNextSaid : Prop := codecNextRow.holds Try.pinned (OpenSpec.ofChange codecNextSpec)

/-- ITS FALSE NEIGHBOUR: 'it returns false'. Refute it at one input. -/
def codecNextWrong : ChangeSpec := { name := "codecNext", fn := fun _ => fun
  | [d] => { results := [.lit (.bool false)], args := [d] }
  | _ => none }
def CodecNextWrongFalsely : Prop := codecNextRow.holds Try.pinned (OpenSpec.ofChange codecNextWrong)

/-- 'tallystonelaw54.CodecEvents': WHATEVER THE INPUT: true; the input reads as it did. -/
def codecEventsSpec : ChangeSpec := { name := "codecEvents", fn := fun _ => fun
  | [d1, d2] => { results := [.lit (.bool true)], args := [d1, d2] }
  | _ => none }
def codecEventsRow : OpenClaim := { program := "ytgdibeegheddmaa", sum := "ad48822a289417d14921e401b8bfa0a566db376f28a56b5887db707bb40db6d1", func := "tallystone/tallystonelaw54.CodecEvents", spec := "codecEvents", unfollowed := true, recurses := true, apart := false }
def CodecEventsSaid : Prop := codecEventsRow.holds Try.pinned (OpenSpec.ofChange codecEventsSpec)

/-- ITS FALSE NEIGHBOUR: 'it returns false'. Refute it at one input. -/
def codecEventsWrong : ChangeSpec := { name := "codecEvents", fn := fun _ => fun
  | [d1, d2] => { results := [.lit (.bool false)], args := [d1, d2] }
  | _ => none }
def CodecEventsWrongFalsely : Prop := codecEventsRow.holds Try.pinned (OpenSpec.ofChange codecEventsWrong)

/-- 'tallystonelaw54.CodecParses': WHATEVER THE INPUT: true; the input reads as it did. -/
def codecParsesSpec : ChangeSpec := { name := "codecParses", fn := fun _ => fun
  | [d] => { results := [.lit (.bool true)], args := [d] }
  | _ => none }
def codecParsesRow : OpenClaim := { program := "ytgdibeegheddmaa", sum := "ad48822a289417d14921e401b8bfa0a566db376f28a56b5887db707bb40db6d1", func := "tallystone/tallystonelaw54.CodecParses", spec := "codecParses", unfollowed := true, recurses := true, apart := false }
def CodecParsesSaid : Prop := codecParsesRow.holds Try.pinned (OpenSpec.ofChange codecParsesSpec)

/-- ITS FALSE NEIGHBOUR: 'it returns false'. Refute it at one input. -/
def codecParsesWrong : ChangeSpec := { name := "codecParses", fn := fun _ => fun
  | [d] => { results := [.lit (.bool false)], args := [d] }
  | _ => none }
def CodecParsesWrongFalsely : Prop := codecParsesRow.holds Try.pinned (OpenSpec.ofChange codecParsesWrong)

/-- 'tallystonelaw54.CodecEventTrip': WHATEVER THE INPUT: true; the input reads as it did. -/
def codecEventTripSpec : ChangeSpec := { name := "codecEventTrip", fn := fun _ => fun
  | [d1, d2, d3] => { results := [.lit (.bool true)], args := [d1, d2, d3] }
  | _ => none }
def codecEventTripRow : OpenClaim := { program := "ytgdibeegheddmaa", sum := "ad48822a289417d14921e401b8bfa0a566db376f28a56b5887db707bb40db6d1", func := "tallystone/tallystonelaw54.CodecEventTrip", spec := "codecEventTrip", unfollowed := true, recurses := true, apart := false }
def CodecEventTripSaid : Prop := codecEventTripRow.holds Try.pinned (OpenSpec.ofChange codecEventTripSpec)

/-- ITS FALSE NEIGHBOUR: 'it returns false'. Refute it at one input. -/
def codecEventTripWrong : ChangeSpec := { name := "codecEventTrip", fn := fun _ => fun
  | [d1, d2, d3] => { results := [.lit (.bool false)], args := [d1, d2, d3] }
  | _ => none }
def CodecEventTripWrongFalsely : Prop := codecEventTripRow.holds Try.pinned (OpenSpec.ofChange codecEventTripWrong)

/-- 'tallystonelaw54.CodecBooks': WHATEVER THE INPUT: true; the input reads as it did. -/
def codecBooksSpec : ChangeSpec := { name := "codecBooks", fn := fun _ => fun
  | [d1, d2] => { results := [.lit (.bool true)], args := [d1, d2] }
  | _ => none }
def codecBooksRow : OpenClaim := { program := "ytgdibeegheddmaa", sum := "ad48822a289417d14921e401b8bfa0a566db376f28a56b5887db707bb40db6d1", func := "tallystone/tallystonelaw54.CodecBooks", spec := "codecBooks", unfollowed := true, recurses := true, apart := false }
def CodecBooksSaid : Prop := codecBooksRow.holds Try.pinned (OpenSpec.ofChange codecBooksSpec)

/-- ITS FALSE NEIGHBOUR: 'it returns false'. Refute it at one input. -/
def codecBooksWrong : ChangeSpec := { name := "codecBooks", fn := fun _ => fun
  | [d1, d2] => { results := [.lit (.bool false)], args := [d1, d2] }
  | _ => none }
def CodecBooksWrongFalsely : Prop := codecBooksRow.holds Try.pinned (OpenSpec.ofChange codecBooksWrong)

/-- 'tallystonelaw54.CodecBooksTrip': WHATEVER THE INPUT: true; the input reads as it did. -/
def codecBooksTripSpec : ChangeSpec := { name := "codecBooksTrip", fn := fun _ => fun
  | [d1, d2] => { results := [.lit (.bool true)], args := [d1, d2] }
  | _ => none }
def codecBooksTripRow : OpenClaim := { program := "ytgdibeegheddmaa", sum := "ad48822a289417d14921e401b8bfa0a566db376f28a56b5887db707bb40db6d1", func := "tallystone/tallystonelaw54.CodecBooksTrip", spec := "codecBooksTrip", unfollowed := true, recurses := true, apart := false }
def CodecBooksTripSaid : Prop := codecBooksTripRow.holds Try.pinned (OpenSpec.ofChange codecBooksTripSpec)

/-- ITS FALSE NEIGHBOUR: 'it returns false'. Refute it at one input. -/
def codecBooksTripWrong : ChangeSpec := { name := "codecBooksTrip", fn := fun _ => fun
  | [d1, d2] => { results := [.lit (.bool false)], args := [d1, d2] }
  | _ => none }
def CodecBooksTripWrongFalsely : Prop := codecBooksTripRow.holds Try.pinned (OpenSpec.ofChange codecBooksTripWrong)

/-- 'tallystonelaw54.CodecCut': WHATEVER THE INPUT: true; the input reads as it did. -/
def codecCutSpec : ChangeSpec := { name := "codecCut", fn := fun _ => fun
  | [d1, d2, d3] => { results := [.lit (.bool true)], args := [d1, d2, d3] }
  | _ => none }
def codecCutRow : OpenClaim := { program := "ytgdibeegheddmaa", sum := "ad48822a289417d14921e401b8bfa0a566db376f28a56b5887db707bb40db6d1", func := "tallystone/tallystonelaw54.CodecCut", spec := "codecCut", unfollowed := true, recurses := true, apart := false }
def CodecCutSaid : Prop := codecCutRow.holds Try.pinned (OpenSpec.ofChange codecCutSpec)

/-- ITS FALSE NEIGHBOUR: 'it returns false'. Refute it at one input. -/
def codecCutWrong : ChangeSpec := { name := "codecCut", fn := fun _ => fun
  | [d1, d2, d3] => { results := [.lit (.bool false)], args := [d1, d2, d3] }
  | _ => none }
def CodecCutWrongFalsely : Prop := codecCutRow.holds Try.pinned (OpenSpec.ofChange codecCutWrong)

/- THE SECOND FORM. 'bulk': how many values and letters a reading holds, each counted each time it is reached (what is shared counts as often as it is met; a slice's spare places count too). A statement '..UptoSaid' is the law's where the arguments, and the package variables that the reading takes, are together of bulk at most 1048576: NARROWER than '..Said'. Prove '..Said' where nothing that the law and all that it calls make is longer than what came in: it says more and counts as full. Else prove '..UptoSaid'. A law counts once. -/
mutual
def uptoBulk {H : Type} : DataW H → Nat
  | .lit (.string bytes) => bytes.length + 1
  | .lit _ => 1
  | .nil => 1
  | .ptr d => uptoBulk d + 1
  | .slice elems spare => uptoBulkAll elems + uptoBulkAll spare + 1
  | .agg parts => uptoBulkAll parts + 1
  | .iface _ d => uptoBulk d + 1
  | .map entries => uptoBulkEntries entries + 1
  | .held _ => 1
def uptoBulkAll {H : Type} : List (DataW H) → Nat
  | [] => 0
  | d :: r => uptoBulk d + uptoBulkAll r
def uptoBulkEntries {H : Type} : List (Lit × DataW H) → Nat
  | [] => 0
  | x :: r => uptoBulkEntry x + uptoBulkEntries r
def uptoBulkEntry {H : Type} : Lit × DataW H → Nat
  | (.string bytes, d) => bytes.length + uptoBulk d + 1
  | (_, d) => uptoBulk d + 1
 end
def uptoSmall : (H : Type) → List (DataW H) → Bool := fun _ ds => decide (uptoBulkAll ds ≤ 1048576)
def OpenSpec.upto (s : _root_.Go.ChangeSpec) : _root_.Go.OpenSpec := { _root_.Go.OpenSpec.ofChange s with cond := some uptoSmall }

/-- 'tallystonelaw54.CodecIntegers', WHERE WHAT IT READS IS OF BULK AT MOST 1048576: true; the input reads as it did. -/
def codecIntegersUptoRow : OpenClaim := { program := "ytgdibeegheddmaa", sum := "ad48822a289417d14921e401b8bfa0a566db376f28a56b5887db707bb40db6d1", func := "tallystone/tallystonelaw54.CodecIntegers", spec := "codecIntegers", unfollowed := true, recurses := true, apart := false, narrowed := true }
def CodecIntegersUptoSaid : Prop := codecIntegersUptoRow.holds Try.pinned (OpenSpec.upto codecIntegersSpec)

/-- 'tallystonelaw54.CodecNext', WHERE WHAT IT READS IS OF BULK AT MOST 1048576: true; the input reads as it did. -/
def codecNextUptoRow : OpenClaim := { program := "ytgdibeegheddmaa", sum := "ad48822a289417d14921e401b8bfa0a566db376f28a56b5887db707bb40db6d1", func := "tallystone/tallystonelaw54.CodecNext", spec := "codecNext", unfollowed := true, recurses := true, apart := false, narrowed := true }
def CodecNextUptoSaid : Prop := codecNextUptoRow.holds Try.pinned (OpenSpec.upto codecNextSpec)

/-- 'tallystonelaw54.CodecEvents', WHERE WHAT IT READS IS OF BULK AT MOST 1048576: true; the input reads as it did. -/
def codecEventsUptoRow : OpenClaim := { program := "ytgdibeegheddmaa", sum := "ad48822a289417d14921e401b8bfa0a566db376f28a56b5887db707bb40db6d1", func := "tallystone/tallystonelaw54.CodecEvents", spec := "codecEvents", unfollowed := true, recurses := true, apart := false, narrowed := true }
def CodecEventsUptoSaid : Prop := codecEventsUptoRow.holds Try.pinned (OpenSpec.upto codecEventsSpec)

/-- 'tallystonelaw54.CodecParses', WHERE WHAT IT READS IS OF BULK AT MOST 1048576: true; the input reads as it did. -/
def codecParsesUptoRow : OpenClaim := { program := "ytgdibeegheddmaa", sum := "ad48822a289417d14921e401b8bfa0a566db376f28a56b5887db707bb40db6d1", func := "tallystone/tallystonelaw54.CodecParses", spec := "codecParses", unfollowed := true, recurses := true, apart := false, narrowed := true }
def CodecParsesUptoSaid : Prop := codecParsesUptoRow.holds Try.pinned (OpenSpec.upto codecParsesSpec)

/-- 'tallystonelaw54.CodecEventTrip', WHERE WHAT IT READS IS OF BULK AT MOST 1048576: true; the input reads as it did. -/
def codecEventTripUptoRow : OpenClaim := { program := "ytgdibeegheddmaa", sum := "ad48822a289417d14921e401b8bfa0a566db376f28a56b5887db707bb40db6d1", func := "tallystone/tallystonelaw54.CodecEventTrip", spec := "codecEventTrip", unfollowed := true, recurses := true, apart := false, narrowed := true }
def CodecEventTripUptoSaid : Prop := codecEventTripUptoRow.holds Try.pinned (OpenSpec.upto codecEventTripSpec)

/-- 'tallystonelaw54.CodecBooks', WHERE WHAT IT READS IS OF BULK AT MOST 1048576: true; the input reads as it did. -/
def codecBooksUptoRow : OpenClaim := { program := "ytgdibeegheddmaa", sum := "ad48822a289417d14921e401b8bfa0a566db376f28a56b5887db707bb40db6d1", func := "tallystone/tallystonelaw54.CodecBooks", spec := "codecBooks", unfollowed := true, recurses := true, apart := false, narrowed := true }
def CodecBooksUptoSaid : Prop := codecBooksUptoRow.holds Try.pinned (OpenSpec.upto codecBooksSpec)

/-- 'tallystonelaw54.CodecBooksTrip', WHERE WHAT IT READS IS OF BULK AT MOST 1048576: true; the input reads as it did. -/
def codecBooksTripUptoRow : OpenClaim := { program := "ytgdibeegheddmaa", sum := "ad48822a289417d14921e401b8bfa0a566db376f28a56b5887db707bb40db6d1", func := "tallystone/tallystonelaw54.CodecBooksTrip", spec := "codecBooksTrip", unfollowed := true, recurses := true, apart := false, narrowed := true }
def CodecBooksTripUptoSaid : Prop := codecBooksTripUptoRow.holds Try.pinned (OpenSpec.upto codecBooksTripSpec)

/-- 'tallystonelaw54.CodecCut', WHERE WHAT IT READS IS OF BULK AT MOST 1048576: true; the input reads as it did. -/
def codecCutUptoRow : OpenClaim := { program := "ytgdibeegheddmaa", sum := "ad48822a289417d14921e401b8bfa0a566db376f28a56b5887db707bb40db6d1", func := "tallystone/tallystonelaw54.CodecCut", spec := "codecCut", unfollowed := true, recurses := true, apart := false, narrowed := true }
def CodecCutUptoSaid : Prop := codecCutUptoRow.holds Try.pinned (OpenSpec.upto codecCutSpec)

end Rows
end Go.Proofs.Ytgdibeegheddmaa
