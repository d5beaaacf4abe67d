/-
  No cell of these rows narrows 'for every input' (looked for: loops, veiled, ifaces, maps, wideKeys, modest, calm, conditions, laid).
  DERIVED. THE GIVEN ROWS OF THIS SEAT. 2 by the template 'for every input the law returns true; each argument reads behind the call as it read before'; 0 by the template 'total and deterministic' (their statements: YtekelchdbkjjjaaTotals.lean).
  GIVEN WITH THE SEED: the statements are not yours to turn. If you find one false, say at which input.
  Laid BY PROGRAM, IN A SANDBOX (cutbox-rows.mjs): the forced cells as the released guide's own fill.sh prints them over the translation 564bc4b56e5ecfc7… (all of the seat's roots in one cut). By AI agents, Wed Nov 11 2026. No macro, syntax, notation, axiom, sorry.
-/
import Derived.Test.YtekelchdbkjjjaaChecked
import GoSem.Claim
import GoSem.ClaimJoined
import GoSem.ClaimMapViews
import Derived.JoinedTies
import Derived.KernelRfl
namespace Go.Proofs.Ytekelchdbkjjjaa
/- THE CELL 'sum', in the pinned program and in every row, IS THE sha256 OF THE DUMP (.gsa) THAT YtekelchdbkjjjaaProg.lean LOADS. Nothing in Lean hashes anything: it is a label: what it is worth is what the hold of that sum in a sandbox is worth. -/
noncomputable def Try.pinned : Pinned := { name := "ytekelchdbkjjjaa", sum := "564bc4b56e5ecfc776d476e32801e621e50bd3b5b4e92addcb9a68fc778a9ff9", checked := Try.checked }
namespace Rows
def none {H : Type} : Left H := { results := [], args := [] }

/-- 'tallystonelaw14.LedgerOrder': WHATEVER THE INPUT: true; the input reads as it did. -/
def ledgerOrderSpec : ChangeSpec := { name := "ledgerOrder", fn := fun _ => fun
  | [d1, d2, d3] => { results := [.lit (.bool true)], args := [d1, d2, d3] }
  | _ => none }
def ledgerOrderRow : OpenClaim := { program := "ytekelchdbkjjjaa", sum := "564bc4b56e5ecfc776d476e32801e621e50bd3b5b4e92addcb9a68fc778a9ff9", func := "tallystone/tallystonelaw14.LedgerOrder", spec := "ledgerOrder", unfollowed := true, recurses := true, plainKeys := false, apart := false }
def LedgerOrderSaid : Prop := ledgerOrderRow.holds Try.pinned (OpenSpec.ofChange ledgerOrderSpec)

/-- ITS FALSE NEIGHBOUR: 'it returns false'. Refute it at one input. -/
def ledgerOrderWrong : ChangeSpec := { name := "ledgerOrder", fn := fun _ => fun
  | [d1, d2, d3] => { results := [.lit (.bool false)], args := [d1, d2, d3] }
  | _ => none }
def LedgerOrderWrongFalsely : Prop := ledgerOrderRow.holds Try.pinned (OpenSpec.ofChange ledgerOrderWrong)

/-- 'tallystonelaw14.LedgerReversed': WHATEVER THE INPUT: true; the input reads as it did. -/
def ledgerReversedSpec : ChangeSpec := { name := "ledgerReversed", fn := fun _ => fun
  | [d1, d2, d3] => { results := [.lit (.bool true)], args := [d1, d2, d3] }
  | _ => none }
def ledgerReversedRow : OpenClaim := { program := "ytekelchdbkjjjaa", sum := "564bc4b56e5ecfc776d476e32801e621e50bd3b5b4e92addcb9a68fc778a9ff9", func := "tallystone/tallystonelaw14.LedgerReversed", spec := "ledgerReversed", unfollowed := true, recurses := true, plainKeys := false, apart := false }
def LedgerReversedSaid : Prop := ledgerReversedRow.holds Try.pinned (OpenSpec.ofChange ledgerReversedSpec)

/-- ITS FALSE NEIGHBOUR: 'it returns false'. Refute it at one input. -/
def ledgerReversedWrong : ChangeSpec := { name := "ledgerReversed", fn := fun _ => fun
  | [d1, d2, d3] => { results := [.lit (.bool false)], args := [d1, d2, d3] }
  | _ => none }
def LedgerReversedWrongFalsely : Prop := ledgerReversedRow.holds Try.pinned (OpenSpec.ofChange ledgerReversedWrong)

/- THE SECOND FORM. 'bulk': how many values and letters a reading holds, each counted each time it is reached (what is shared counts as often as it is met; a slice's spare places count too). A statement '..UptoSaid' is the law's where the arguments, and the package variables that the reading takes, are together of bulk at most 1048576: NARROWER than '..Said'. Prove '..Said' where nothing that the law and all that it calls make is longer than what came in: it says more and counts as full. Else prove '..UptoSaid'. A law counts once. -/
mutual
def uptoBulk {H : Type} : DataW H → Nat
  | .lit (.string bytes) => bytes.length + 1
  | .lit _ => 1
  | .nil => 1
  | .ptr d => uptoBulk d + 1
  | .slice elems spare => uptoBulkAll elems + uptoBulkAll spare + 1
  | .agg parts => uptoBulkAll parts + 1
  | .iface _ d => uptoBulk d + 1
  | .map entries => uptoBulkEntries entries + 1
  | .held _ => 1
def uptoBulkAll {H : Type} : List (DataW H) → Nat
  | [] => 0
  | d :: r => uptoBulk d + uptoBulkAll r
def uptoBulkEntries {H : Type} : List (Lit × DataW H) → Nat
  | [] => 0
  | x :: r => uptoBulkEntry x + uptoBulkEntries r
def uptoBulkEntry {H : Type} : Lit × DataW H → Nat
  | (.string bytes, d) => bytes.length + uptoBulk d + 1
  | (_, d) => uptoBulk d + 1
 end
def uptoSmall : (H : Type) → List (DataW H) → Bool := fun _ ds => decide (uptoBulkAll ds ≤ 1048576)
def OpenSpec.upto (s : _root_.Go.ChangeSpec) : _root_.Go.OpenSpec := { _root_.Go.OpenSpec.ofChange s with cond := some uptoSmall }

/-- 'tallystonelaw14.LedgerOrder', WHERE WHAT IT READS IS OF BULK AT MOST 1048576: true; the input reads as it did. -/
def ledgerOrderUptoRow : OpenClaim := { program := "ytekelchdbkjjjaa", sum := "564bc4b56e5ecfc776d476e32801e621e50bd3b5b4e92addcb9a68fc778a9ff9", func := "tallystone/tallystonelaw14.LedgerOrder", spec := "ledgerOrder", unfollowed := true, recurses := true, plainKeys := false, apart := false, narrowed := true }
def LedgerOrderUptoSaid : Prop := ledgerOrderUptoRow.holds Try.pinned (OpenSpec.upto ledgerOrderSpec)

/-- 'tallystonelaw14.LedgerReversed', WHERE WHAT IT READS IS OF BULK AT MOST 1048576: true; the input reads as it did. -/
def ledgerReversedUptoRow : OpenClaim := { program := "ytekelchdbkjjjaa", sum := "564bc4b56e5ecfc776d476e32801e621e50bd3b5b4e92addcb9a68fc778a9ff9", func := "tallystone/tallystonelaw14.LedgerReversed", spec := "ledgerReversed", unfollowed := true, recurses := true, plainKeys := false, apart := false, narrowed := true }
def LedgerReversedUptoSaid : Prop := ledgerReversedUptoRow.holds Try.pinned (OpenSpec.upto ledgerReversedSpec)

end Rows
end Go.Proofs.Ytekelchdbkjjjaa
