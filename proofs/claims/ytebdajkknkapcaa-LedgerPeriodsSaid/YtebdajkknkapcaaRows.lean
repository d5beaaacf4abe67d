/-
  No cell of these rows narrows 'for every input' (looked for: loops, veiled, ifaces, maps, wideKeys, modest, calm, conditions, laid).
  DERIVED. THE GIVEN ROWS OF THIS SEAT. 9 by the template 'for every input the law returns true; each argument reads behind the call as it read before'; 0 by the template 'total and deterministic' (their statements: YtebdajkknkapcaaTotals.lean).
  GIVEN WITH THE SEED: the statements are not yours to turn. If you find one false, say at which input.
  Laid BY PROGRAM, IN A SANDBOX (cutbox-rows.mjs): the forced cells as the released guide's own fill.sh prints them over the translation 394d8335685d72e8… (all of the seat's roots in one cut). By AI agents, Wed Nov 11 2026. No macro, syntax, notation, axiom, sorry.
-/
import Derived.Test.YtebdajkknkapcaaChecked
import GoSem.Claim
import GoSem.ClaimJoined
import GoSem.ClaimMapViews
import Derived.JoinedTies
import Derived.KernelRfl
namespace Go.Proofs.Ytebdajkknkapcaa
/- THE CELL 'sum', in the pinned program and in every row, IS THE sha256 OF THE DUMP (.gsa) THAT YtebdajkknkapcaaProg.lean LOADS. Nothing in Lean hashes anything: it is a label: what it is worth is what the hold of that sum in a sandbox is worth. -/
noncomputable def Try.pinned : Pinned := { name := "ytebdajkknkapcaa", sum := "394d8335685d72e804c9b98bb1d58f3e26438dd55244c4f905aa71a9e2838d82", checked := Try.checked }
namespace Rows
def none {H : Type} : Left H := { results := [], args := [] }

/-- 'tallystonelaw13.LockBeginnings': WHATEVER THE INPUT: true; the input reads as it did. -/
def lockBeginningsSpec : ChangeSpec := { name := "lockBeginnings", fn := fun _ => fun
  | [d1, d2, d3] => { results := [.lit (.bool true)], args := [d1, d2, d3] }
  | _ => none }
def lockBeginningsRow : OpenClaim := { program := "ytebdajkknkapcaa", sum := "394d8335685d72e804c9b98bb1d58f3e26438dd55244c4f905aa71a9e2838d82", func := "tallystone/tallystonelaw13.LockBeginnings", spec := "lockBeginnings", unfollowed := true, recurses := true, plainKeys := false, apart := false }
def LockBeginningsSaid : Prop := lockBeginningsRow.holds Try.pinned (OpenSpec.ofChange lockBeginningsSpec)

/-- ITS FALSE NEIGHBOUR: 'it returns false'. Refute it at one input. -/
def lockBeginningsWrong : ChangeSpec := { name := "lockBeginnings", fn := fun _ => fun
  | [d1, d2, d3] => { results := [.lit (.bool false)], args := [d1, d2, d3] }
  | _ => none }
def LockBeginningsWrongFalsely : Prop := lockBeginningsRow.holds Try.pinned (OpenSpec.ofChange lockBeginningsWrong)

/-- 'tallystonelaw12.JournalReverse': WHATEVER THE INPUT: true; the input reads as it did. -/
def journalReverseSpec : ChangeSpec := { name := "journalReverse", fn := fun _ => fun
  | [d1, d2, d3] => { results := [.lit (.bool true)], args := [d1, d2, d3] }
  | _ => none }
def journalReverseRow : OpenClaim := { program := "ytebdajkknkapcaa", sum := "394d8335685d72e804c9b98bb1d58f3e26438dd55244c4f905aa71a9e2838d82", func := "tallystone/tallystonelaw12.JournalReverse", spec := "journalReverse", unfollowed := true, recurses := true, plainKeys := false, apart := false }
def JournalReverseSaid : Prop := journalReverseRow.holds Try.pinned (OpenSpec.ofChange journalReverseSpec)

/-- ITS FALSE NEIGHBOUR: 'it returns false'. Refute it at one input. -/
def journalReverseWrong : ChangeSpec := { name := "journalReverse", fn := fun _ => fun
  | [d1, d2, d3] => { results := [.lit (.bool false)], args := [d1, d2, d3] }
  | _ => none }
def JournalReverseWrongFalsely : Prop := journalReverseRow.holds Try.pinned (OpenSpec.ofChange journalReverseWrong)

/-- 'tallystonelaw11.EntryLines': WHATEVER THE INPUT: true; the input reads as it did. -/
def entryLinesSpec : ChangeSpec := { name := "entryLines", fn := fun _ => fun
  | [d1, d2] => { results := [.lit (.bool true)], args := [d1, d2] }
  | _ => none }
def entryLinesRow : OpenClaim := { program := "ytebdajkknkapcaa", sum := "394d8335685d72e804c9b98bb1d58f3e26438dd55244c4f905aa71a9e2838d82", func := "tallystone/tallystonelaw11.EntryLines", spec := "entryLines", unfollowed := true, recurses := true, plainKeys := false, apart := false }
def EntryLinesSaid : Prop := entryLinesRow.holds Try.pinned (OpenSpec.ofChange entryLinesSpec)

/-- ITS FALSE NEIGHBOUR: 'it returns false'. Refute it at one input. -/
def entryLinesWrong : ChangeSpec := { name := "entryLines", fn := fun _ => fun
  | [d1, d2] => { results := [.lit (.bool false)], args := [d1, d2] }
  | _ => none }
def EntryLinesWrongFalsely : Prop := entryLinesRow.holds Try.pinned (OpenSpec.ofChange entryLinesWrong)

/-- 'tallystonelaw12.JournalNil': WHATEVER THE INPUT: true; the input reads as it did. -/
def journalNilSpec : ChangeSpec := { name := "journalNil", fn := fun _ => fun
  | [d1, d2] => { results := [.lit (.bool true)], args := [d1, d2] }
  | _ => none }
def journalNilRow : OpenClaim := { program := "ytebdajkknkapcaa", sum := "394d8335685d72e804c9b98bb1d58f3e26438dd55244c4f905aa71a9e2838d82", func := "tallystone/tallystonelaw12.JournalNil", spec := "journalNil", inPlace := ["maps.clone"], unfollowed := true, recurses := true, plainKeys := false, apart := false }
def JournalNilSaid : Prop := journalNilRow.holds Try.pinned (OpenSpec.ofChange journalNilSpec)

/-- ITS FALSE NEIGHBOUR: 'it returns false'. Refute it at one input. -/
def journalNilWrong : ChangeSpec := { name := "journalNil", fn := fun _ => fun
  | [d1, d2] => { results := [.lit (.bool false)], args := [d1, d2] }
  | _ => none }
def JournalNilWrongFalsely : Prop := journalNilRow.holds Try.pinned (OpenSpec.ofChange journalNilWrong)

/-- 'tallystonelaw14.LedgerOrder': WHATEVER THE INPUT: true; the input reads as it did. -/
def ledgerOrderSpec : ChangeSpec := { name := "ledgerOrder", fn := fun _ => fun
  | [d1, d2, d3] => { results := [.lit (.bool true)], args := [d1, d2, d3] }
  | _ => none }
def ledgerOrderRow : OpenClaim := { program := "ytebdajkknkapcaa", sum := "394d8335685d72e804c9b98bb1d58f3e26438dd55244c4f905aa71a9e2838d82", func := "tallystone/tallystonelaw14.LedgerOrder", spec := "ledgerOrder", unfollowed := true, recurses := true, plainKeys := false, apart := false }
def LedgerOrderSaid : Prop := ledgerOrderRow.holds Try.pinned (OpenSpec.ofChange ledgerOrderSpec)

/-- ITS FALSE NEIGHBOUR: 'it returns false'. Refute it at one input. -/
def ledgerOrderWrong : ChangeSpec := { name := "ledgerOrder", fn := fun _ => fun
  | [d1, d2, d3] => { results := [.lit (.bool false)], args := [d1, d2, d3] }
  | _ => none }
def LedgerOrderWrongFalsely : Prop := ledgerOrderRow.holds Try.pinned (OpenSpec.ofChange ledgerOrderWrong)

/-- 'tallystonelaw14.LedgerReversed': WHATEVER THE INPUT: true; the input reads as it did. -/
def ledgerReversedSpec : ChangeSpec := { name := "ledgerReversed", fn := fun _ => fun
  | [d1, d2, d3] => { results := [.lit (.bool true)], args := [d1, d2, d3] }
  | _ => none }
def ledgerReversedRow : OpenClaim := { program := "ytebdajkknkapcaa", sum := "394d8335685d72e804c9b98bb1d58f3e26438dd55244c4f905aa71a9e2838d82", func := "tallystone/tallystonelaw14.LedgerReversed", spec := "ledgerReversed", unfollowed := true, recurses := true, plainKeys := false, apart := false }
def LedgerReversedSaid : Prop := ledgerReversedRow.holds Try.pinned (OpenSpec.ofChange ledgerReversedSpec)

/-- ITS FALSE NEIGHBOUR: 'it returns false'. Refute it at one input. -/
def ledgerReversedWrong : ChangeSpec := { name := "ledgerReversed", fn := fun _ => fun
  | [d1, d2, d3] => { results := [.lit (.bool false)], args := [d1, d2, d3] }
  | _ => none }
def LedgerReversedWrongFalsely : Prop := ledgerReversedRow.holds Try.pinned (OpenSpec.ofChange ledgerReversedWrong)

/-- 'tallystonelaw14.LedgerPeriods': WHATEVER THE INPUT: true; the input reads as it did. -/
def ledgerPeriodsSpec : ChangeSpec := { name := "ledgerPeriods", fn := fun _ => fun
  | [d1, d2, d3] => { results := [.lit (.bool true)], args := [d1, d2, d3] }
  | _ => none }
def ledgerPeriodsRow : OpenClaim := { program := "ytebdajkknkapcaa", sum := "394d8335685d72e804c9b98bb1d58f3e26438dd55244c4f905aa71a9e2838d82", func := "tallystone/tallystonelaw14.LedgerPeriods", spec := "ledgerPeriods", unfollowed := true, recurses := true, plainKeys := false, apart := false }
def LedgerPeriodsSaid : Prop := ledgerPeriodsRow.holds Try.pinned (OpenSpec.ofChange ledgerPeriodsSpec)

/-- ITS FALSE NEIGHBOUR: 'it returns false'. Refute it at one input. -/
def ledgerPeriodsWrong : ChangeSpec := { name := "ledgerPeriods", fn := fun _ => fun
  | [d1, d2, d3] => { results := [.lit (.bool false)], args := [d1, d2, d3] }
  | _ => none }
def LedgerPeriodsWrongFalsely : Prop := ledgerPeriodsRow.holds Try.pinned (OpenSpec.ofChange ledgerPeriodsWrong)

/-- 'tallystonelaw13.LockOrder': WHATEVER THE INPUT: true; the input reads as it did. -/
def lockOrderSpec : ChangeSpec := { name := "lockOrder", fn := fun _ => fun
  | [d1, d2, d3] => { results := [.lit (.bool true)], args := [d1, d2, d3] }
  | _ => none }
def lockOrderRow : OpenClaim := { program := "ytebdajkknkapcaa", sum := "394d8335685d72e804c9b98bb1d58f3e26438dd55244c4f905aa71a9e2838d82", func := "tallystone/tallystonelaw13.LockOrder", spec := "lockOrder", unfollowed := true, recurses := true, plainKeys := false, apart := false }
def LockOrderSaid : Prop := lockOrderRow.holds Try.pinned (OpenSpec.ofChange lockOrderSpec)

/-- ITS FALSE NEIGHBOUR: 'it returns false'. Refute it at one input. -/
def lockOrderWrong : ChangeSpec := { name := "lockOrder", fn := fun _ => fun
  | [d1, d2, d3] => { results := [.lit (.bool false)], args := [d1, d2, d3] }
  | _ => none }
def LockOrderWrongFalsely : Prop := lockOrderRow.holds Try.pinned (OpenSpec.ofChange lockOrderWrong)

/-- 'tallystonelaw13.LockUntil': WHATEVER THE INPUT: true; the input reads as it did. -/
def lockUntilSpec : ChangeSpec := { name := "lockUntil", fn := fun _ => fun
  | [d1, d2, d3] => { results := [.lit (.bool true)], args := [d1, d2, d3] }
  | _ => none }
def lockUntilRow : OpenClaim := { program := "ytebdajkknkapcaa", sum := "394d8335685d72e804c9b98bb1d58f3e26438dd55244c4f905aa71a9e2838d82", func := "tallystone/tallystonelaw13.LockUntil", spec := "lockUntil", unfollowed := true, recurses := true, plainKeys := false, apart := false }
def LockUntilSaid : Prop := lockUntilRow.holds Try.pinned (OpenSpec.ofChange lockUntilSpec)

/-- ITS FALSE NEIGHBOUR: 'it returns false'. Refute it at one input. -/
def lockUntilWrong : ChangeSpec := { name := "lockUntil", fn := fun _ => fun
  | [d1, d2, d3] => { results := [.lit (.bool false)], args := [d1, d2, d3] }
  | _ => none }
def LockUntilWrongFalsely : Prop := lockUntilRow.holds Try.pinned (OpenSpec.ofChange lockUntilWrong)

/- THE SECOND FORM. 'bulk': how many values and letters a reading holds, each counted each time it is reached (what is shared counts as often as it is met; a slice's spare places count too). A statement '..UptoSaid' is the law's where the arguments, and the package variables that the reading takes, are together of bulk at most 1048576: NARROWER than '..Said'. Prove '..Said' where nothing that the law and all that it calls make is longer than what came in: it says more and counts as full. Else prove '..UptoSaid'. A law counts once. -/
mutual
def uptoBulk {H : Type} : DataW H → Nat
  | .lit (.string bytes) => bytes.length + 1
  | .lit _ => 1
  | .nil => 1
  | .ptr d => uptoBulk d + 1
  | .slice elems spare => uptoBulkAll elems + uptoBulkAll spare + 1
  | .agg parts => uptoBulkAll parts + 1
  | .iface _ d => uptoBulk d + 1
  | .map entries => uptoBulkEntries entries + 1
  | .held _ => 1
def uptoBulkAll {H : Type} : List (DataW H) → Nat
  | [] => 0
  | d :: r => uptoBulk d + uptoBulkAll r
def uptoBulkEntries {H : Type} : List (Lit × DataW H) → Nat
  | [] => 0
  | x :: r => uptoBulkEntry x + uptoBulkEntries r
def uptoBulkEntry {H : Type} : Lit × DataW H → Nat
  | (.string bytes, d) => bytes.length + uptoBulk d + 1
  | (_, d) => uptoBulk d + 1
 end
def uptoSmall : (H : Type) → List (DataW H) → Bool := fun _ ds => decide (uptoBulkAll ds ≤ 1048576)
def OpenSpec.upto (s : _root_.Go.ChangeSpec) : _root_.Go.OpenSpec := { _root_.Go.OpenSpec.ofChange s with cond := some uptoSmall }

/-- 'tallystonelaw13.LockBeginnings', WHERE WHAT IT READS IS OF BULK AT MOST 1048576: true; the input reads as it did. -/
def lockBeginningsUptoRow : OpenClaim := { program := "ytebdajkknkapcaa", sum := "394d8335685d72e804c9b98bb1d58f3e26438dd55244c4f905aa71a9e2838d82", func := "tallystone/tallystonelaw13.LockBeginnings", spec := "lockBeginnings", unfollowed := true, recurses := true, plainKeys := false, apart := false, narrowed := true }
def LockBeginningsUptoSaid : Prop := lockBeginningsUptoRow.holds Try.pinned (OpenSpec.upto lockBeginningsSpec)

/-- 'tallystonelaw12.JournalReverse', WHERE WHAT IT READS IS OF BULK AT MOST 1048576: true; the input reads as it did. -/
def journalReverseUptoRow : OpenClaim := { program := "ytebdajkknkapcaa", sum := "394d8335685d72e804c9b98bb1d58f3e26438dd55244c4f905aa71a9e2838d82", func := "tallystone/tallystonelaw12.JournalReverse", spec := "journalReverse", unfollowed := true, recurses := true, plainKeys := false, apart := false, narrowed := true }
def JournalReverseUptoSaid : Prop := journalReverseUptoRow.holds Try.pinned (OpenSpec.upto journalReverseSpec)

/-- 'tallystonelaw11.EntryLines', WHERE WHAT IT READS IS OF BULK AT MOST 1048576: true; the input reads as it did. -/
def entryLinesUptoRow : OpenClaim := { program := "ytebdajkknkapcaa", sum := "394d8335685d72e804c9b98bb1d58f3e26438dd55244c4f905aa71a9e2838d82", func := "tallystone/tallystonelaw11.EntryLines", spec := "entryLines", unfollowed := true, recurses := true, plainKeys := false, apart := false, narrowed := true }
def EntryLinesUptoSaid : Prop := entryLinesUptoRow.holds Try.pinned (OpenSpec.upto entryLinesSpec)

/-- 'tallystonelaw12.JournalNil', WHERE WHAT IT READS IS OF BULK AT MOST 1048576: true; the input reads as it did. -/
def journalNilUptoRow : OpenClaim := { program := "ytebdajkknkapcaa", sum := "394d8335685d72e804c9b98bb1d58f3e26438dd55244c4f905aa71a9e2838d82", func := "tallystone/tallystonelaw12.JournalNil", spec := "journalNil", inPlace := ["maps.clone"], unfollowed := true, recurses := true, plainKeys := false, apart := false, narrowed := true }
def JournalNilUptoSaid : Prop := journalNilUptoRow.holds Try.pinned (OpenSpec.upto journalNilSpec)

/-- 'tallystonelaw14.LedgerOrder', WHERE WHAT IT READS IS OF BULK AT MOST 1048576: true; the input reads as it did. -/
def ledgerOrderUptoRow : OpenClaim := { program := "ytebdajkknkapcaa", sum := "394d8335685d72e804c9b98bb1d58f3e26438dd55244c4f905aa71a9e2838d82", func := "tallystone/tallystonelaw14.LedgerOrder", spec := "ledgerOrder", unfollowed := true, recurses := true, plainKeys := false, apart := false, narrowed := true }
def LedgerOrderUptoSaid : Prop := ledgerOrderUptoRow.holds Try.pinned (OpenSpec.upto ledgerOrderSpec)

/-- 'tallystonelaw14.LedgerReversed', WHERE WHAT IT READS IS OF BULK AT MOST 1048576: true; the input reads as it did. -/
def ledgerReversedUptoRow : OpenClaim := { program := "ytebdajkknkapcaa", sum := "394d8335685d72e804c9b98bb1d58f3e26438dd55244c4f905aa71a9e2838d82", func := "tallystone/tallystonelaw14.LedgerReversed", spec := "ledgerReversed", unfollowed := true, recurses := true, plainKeys := false, apart := false, narrowed := true }
def LedgerReversedUptoSaid : Prop := ledgerReversedUptoRow.holds Try.pinned (OpenSpec.upto ledgerReversedSpec)

/-- 'tallystonelaw14.LedgerPeriods', WHERE WHAT IT READS IS OF BULK AT MOST 1048576: true; the input reads as it did. -/
def ledgerPeriodsUptoRow : OpenClaim := { program := "ytebdajkknkapcaa", sum := "394d8335685d72e804c9b98bb1d58f3e26438dd55244c4f905aa71a9e2838d82", func := "tallystone/tallystonelaw14.LedgerPeriods", spec := "ledgerPeriods", unfollowed := true, recurses := true, plainKeys := false, apart := false, narrowed := true }
def LedgerPeriodsUptoSaid : Prop := ledgerPeriodsUptoRow.holds Try.pinned (OpenSpec.upto ledgerPeriodsSpec)

/-- 'tallystonelaw13.LockOrder', WHERE WHAT IT READS IS OF BULK AT MOST 1048576: true; the input reads as it did. -/
def lockOrderUptoRow : OpenClaim := { program := "ytebdajkknkapcaa", sum := "394d8335685d72e804c9b98bb1d58f3e26438dd55244c4f905aa71a9e2838d82", func := "tallystone/tallystonelaw13.LockOrder", spec := "lockOrder", unfollowed := true, recurses := true, plainKeys := false, apart := false, narrowed := true }
def LockOrderUptoSaid : Prop := lockOrderUptoRow.holds Try.pinned (OpenSpec.upto lockOrderSpec)

/-- 'tallystonelaw13.LockUntil', WHERE WHAT IT READS IS OF BULK AT MOST 1048576: true; the input reads as it did. -/
def lockUntilUptoRow : OpenClaim := { program := "ytebdajkknkapcaa", sum := "394d8335685d72e804c9b98bb1d58f3e26438dd55244c4f905aa71a9e2838d82", func := "tallystone/tallystonelaw13.LockUntil", spec := "lockUntil", unfollowed := true, recurses := true, plainKeys := false, apart := false, narrowed := true }
def LockUntilUptoSaid : Prop := lockUntilUptoRow.holds Try.pinned (OpenSpec.upto lockUntilSpec)

end Rows
end Go.Proofs.Ytebdajkknkapcaa
