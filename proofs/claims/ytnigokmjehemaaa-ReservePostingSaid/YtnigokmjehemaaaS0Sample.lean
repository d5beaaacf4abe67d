/- The sample group, as a datum: it is valid. Written by gen_s0.py. -/
import Derived.Test.YtnigokmjehemaaaB20Plain
namespace Go.Proofs.Ytnigokmjehemaaa
open Go Go.RowKit
set_option linter.unusedVariables false
set_option linter.unusedSimpArgs false
def accOf (k b c : Int) : XAccount := ⟨c, k, b, if c = 1010 ∨ c = 1100 ∨ c = 1200 then 1000 else if c = 2100 ∨ c = 4100 then c - 100 else 0⟩
def rowsS : List (Int × Int × List Int) := [(1, 1, [1000, 1010, 1100, 1200]), (1, 3, [1300, 1500, 1600, 1700]), (2, 1, [2000, 2100]), (3, 3, [3000, 3100, 3200, 3300, 3400, 3500]), (4, 2, [4000, 4100, 4500, 4600, 4700]), (5, 2, [5000, 5100, 5500, 5600, 5700])]
def chartS : List XAccount := [⟨1000, 1, 1, 0⟩, ⟨1010, 1, 1, 1000⟩, ⟨1100, 1, 1, 1000⟩, ⟨1200, 1, 1, 1000⟩, ⟨1300, 1, 3, 0⟩, ⟨1500, 1, 3, 0⟩, ⟨1600, 1, 3, 0⟩, ⟨1700, 1, 3, 0⟩, ⟨2000, 2, 1, 0⟩, ⟨2100, 2, 1, 2000⟩, ⟨3000, 3, 3, 0⟩, ⟨3100, 3, 3, 0⟩, ⟨3200, 3, 3, 0⟩, ⟨3300, 3, 3, 0⟩, ⟨3400, 3, 3, 0⟩, ⟨3500, 3, 3, 0⟩, ⟨4000, 4, 2, 0⟩, ⟨4100, 4, 2, 4000⟩, ⟨4500, 4, 2, 0⟩, ⟨4600, 4, 2, 0⟩, ⟨4700, 4, 2, 0⟩, ⟨5000, 5, 2, 0⟩, ⟨5100, 5, 2, 0⟩, ⟨5500, 5, 2, 0⟩, ⟨5600, 5, 2, 0⟩, ⟨5700, 5, 2, 0⟩]
def kindsS : List Int := [1, 1, 1, 1, 1, 2, 2, 3, 3, 4, 4, 4, 5, 5]
def tosS : List Int := [1010, 1100, 1200, 1300, 1500, 2000, 2100, 3000, 3300, 4000, 4100, 4700, 5000, 5100]
def echartS : List XAccount := [⟨10, 1, 0, 0⟩, ⟨20, 1, 0, 0⟩, ⟨30, 1, 0, 0⟩, ⟨40, 1, 0, 0⟩, ⟨50, 1, 0, 0⟩, ⟨60, 2, 0, 0⟩, ⟨70, 2, 0, 0⟩, ⟨80, 3, 0, 0⟩, ⟨90, 3, 0, 0⟩, ⟨100, 4, 0, 0⟩, ⟨110, 4, 0, 0⟩, ⟨120, 4, 0, 0⟩, ⟨130, 5, 0, 0⟩, ⟨140, 5, 0, 0⟩]
def elinksS : List XLink := [⟨10, 1010, -25567⟩, ⟨20, 1100, -25567⟩, ⟨30, 1200, -25567⟩, ⟨40, 1300, -25567⟩, ⟨50, 1500, -25567⟩, ⟨60, 2000, -25567⟩, ⟨70, 2100, -25567⟩, ⟨80, 3000, -25567⟩, ⟨90, 3300, -25567⟩, ⟨100, 4000, -25567⟩, ⟨110, 4100, -25567⟩, ⟨120, 4700, -25567⟩, ⟨130, 5000, -25567⟩, ⟨140, 5100, -25567⟩]
def entS (n c : ByteArray) (j : Bool) : XEntity := { name := n, currency := c, chart := echartS, links := elinksS, joint := j }
def rolesS : XRoles := { investment := 1500, goodwill := 1600, associates := 1700, inventory := 1200, reserve := 3100, minority := 3200, retained := 3300, acquired := 3400, owners := 3500, disposal := 4500, associateProfit := 4600, dividends := 4700, minorityProfit := 5500, difference := 5600, margin := 5700 }
def sampleG : XGroup := { currency := ⟨#[69, 85, 82]⟩, calendar := ⟨2026, 1, 36⟩, chart := chartS, roles := rolesS, entities := [entS ⟨#[112, 97, 114, 101, 110, 116]⟩ ⟨#[69, 85, 82]⟩ false, entS ⟨#[110, 111, 114, 116, 104]⟩ ⟨#[69, 85, 82]⟩ false, entS ⟨#[119, 101, 115, 116]⟩ ⟨#[85, 83, 68]⟩ false, entS ⟨#[106, 111, 105, 110, 116]⟩ ⟨#[85, 83, 68]⟩ true] }
set_option maxRecDepth 100000 in
theorem sample_valid : groupB sampleG = true := by decide +kernel
theorem chartS_eq : chartS = rowsS.flatMap (fun q => q.2.2.map (accOf q.1 q.2.1)) := by decide +kernel
end Go.Proofs.Ytnigokmjehemaaa
