/- The walk of journal.Post. Written by gen_i16.py. -/
import Derived.Test.YtebdajkknkapcaaG7xB0B2
import Derived.Test.YtebdajkknkapcaaG7xB3B8
import Derived.Test.YtebdajkknkapcaaG7xB9B13
import Derived.Test.YtebdajkknkapcaaG7xB14
import Derived.Test.YtebdajkknkapcaaG7xB16
import Derived.Test.YtebdajkknkapcaaG7xB17B24
import Derived.Test.YtebdajkknkapcaaG7xB33C3
import Derived.Test.YtebdajkknkapcaaG7xC4I15
import Derived.Test.YtebdajkknkapcaaProg
set_option linter.unusedVariables false
set_option linter.unusedSimpArgs false
set_option maxRecDepth 4000
attribute [local go_sem ↓] Go.wp_at_zero Go.wp_at_succ
namespace Go.Proofs.Ytebdajkknkapcaa
open Go Go.RowKit
def entA (x : XEntry) (A : Option Addr) (c : Nat) : List Value := [.int .i64 x.id, .int .i64 x.entity, .int .i64 x.date, .int .i64 x.kind, .int .i64 x.of_, .string x.text, .slice A x.lines.length c]
def PC (B : Nat) (x : XEntry) (v : Value) (w : World) : Prop := ∃ A c, v = .agg (entA x A c).toArray ∧ ListC LineC 3 w (fun q => B ≤ q ∧ q < w.heap.size) [.slice A x.lines.length c] x.lines
def PS (B : Nat) (x : XEntry) (v : Value) (w : World) : Prop := ∃ gq A c, v = .slice (some ⟨gq, 0, none⟩) 1 1 ∧ B ≤ gq ∧ w.heap[gq]? = some (.cells (entA x A c).toArray 42 (0, 0)) ∧ ListC LineC 3 w (fun q => B ≤ q ∧ q < w.heap.size) [.slice A x.lines.length c] x.lines
def PA (V : World) (v0 : Value) (n : Nat) (cf : List Value) (x : XEntry) (v : Value) (w : World) : Prop := ∃ W3 A c, Fr (fun q => q < V.heap.size ∧ v0.ownBlock ≠ some q) V W3 ∧ ListC LineC 3 W3 (fun q => V.heap.size ≤ q ∧ q < W3.heap.size) [.slice A x.lines.length c] x.lines ∧ w.ownsRow 0 42 7 v (n + 1) (cf ++ entA x A c) ∧ W3.grownBy w v0.ownBlock ∧ (v.ownBlock = v0.ownBlock ∨ v.ownBlock = some W3.heap.size)
theorem lines_fr2 {w w' : World} {B : Nat} {cs : List Value} {l : List XLine} (h : ListC LineC 3 w (fun q => B ≤ q ∧ q < w.heap.size) cs l) (hf : Fr (fun q => B ≤ q ∧ q < w.heap.size) w w') : ListC LineC 3 w' (fun q => B ≤ q ∧ q < w'.heap.size) cs l :=
 (h.fr (fun h => LineC.fr h hf) hf).mono (fun h => LineC.mono h (fun q hq => ⟨hq.1, Nat.lt_of_lt_of_le hq.2 hf.size⟩)) (fun q hq => ⟨hq.1, Nat.lt_of_lt_of_le hq.2 hf.size⟩)
theorem lines_up {w w' : World} {B : Nat} {cs : List Value} {l : List XLine} (h : ListC LineC 3 w (fun q => B ≤ q ∧ q < w.heap.size) cs l) (hb : Below w.heap.size w w') : ListC LineC 3 w' (fun q => B ≤ q ∧ q < w'.heap.size) cs l := lines_fr2 h ((Fr.ofBelow hb).mono (fun q hq => hq.2))
theorem PC.keep (B : Nat) (x : XEntry) : ∀ v w w', Below w.heap.size w w' → PC B x v w → PC B x v w' := fun v w w' hb ⟨A, c, e, h⟩ => ⟨A, c, e, lines_up h hb⟩
theorem PS.keep (B : Nat) (x : XEntry) : ∀ v w w', Below w.heap.size w w' → PS B x v w → PS B x v w' := fun v w w' hb ⟨gq, A, c, e, h1, h2, h⟩ => ⟨gq, A, c, e, h1, (hb.block gq (blk_lt h2)).trans h2, lines_up h hb⟩
theorem PA.keep (V : World) (v0 : Value) (n : Nat) (cf : List Value) (x : XEntry) : ∀ v w w', Below w.heap.size w w' → PA V v0 n cf x v w → PA V v0 n cf x v w' := fun v w w' hb ⟨W3, A, c, h1, h2, h3, h4, h5⟩ => ⟨W3, A, c, h1, h2, own_below h3 hb, h4.andThen ((grown_of_below hb).but _) (fun j hj => .inr hj), h5⟩
theorem PC.grow {B : Nat} {x : XEntry} {v : Value} {w w' : World} {row : Option Nat} (h : PC B x v w) (hg : w.grownBy w' row) (hr : ∀ q, row = some q → q < B) : PC B x v w' := by
 obtain ⟨A, c, e, h⟩ := h
 exact ⟨A, c, e, lines_fr2 h ⟨hg.os, hg.tape, hg.output, hg.size, fun q hq => hg.block q hq.2 (fun e => by have := hr q e.symm; omega)⟩⟩
theorem PS.grow {B : Nat} {x : XEntry} {v : Value} {w w' : World} {row : Option Nat} (h : PS B x v w) (hg : w.grownBy w' row) (hr : ∀ q, row = some q → q < B) : PS B x v w' := by
 obtain ⟨gq, A, c, e, h1, h2, h⟩ := h
 exact ⟨gq, A, c, e, h1, (hg.block gq (blk_lt h2) (fun e => by have := hr gq e.symm; omega)).trans h2, lines_fr2 h ⟨hg.os, hg.tape, hg.output, hg.size, fun q hq => hg.block q hq.2 (fun e => by have := hr q e.symm; omega)⟩⟩
theorem JPost.of {w V W3 W5 : World} {D O : Nat → Prop} {J : Nat} {g : XGroup} {es es' : List XEntry} {gl : List Value} {css : List (List Value)} {v : Value} {bi br : Nat} (hb : Below w.heap.size w V) (h : JAt W5 (fun q => D q ∨ (V.heap.size ≤ q ∧ q < W3.heap.size)) (fun q => O q ∨ (W3.heap.size ≤ q ∧ q < W5.heap.size)) J g es' gl css v bi br)
 (hf : Fr (fun q => q < V.heap.size ∧ ¬ O q) V W5) (h1 : V.heap.size ≤ W3.heap.size) (h2 : W3.heap.size ≤ W5.heap.size) (hO : ∀ q, O q → q < w.heap.size) : JPost D O J g es es' w W5 := by
 have hs := hb.size
 refine ⟨W3.heap.size, by omega, h2, ⟨gl, css, v, bi, br, h.mono (fun q hq => hq.elim .inl (fun hq => .inr ⟨by omega, hq.2⟩)) (fun q hq => hq) (fun q hq ho => ?_) (fun q hq => ?_) h.ltO⟩, ((Fr.ofBelow hb).mono (fun q hq => hq.1)).trans (hf.mono (fun q hq => ⟨by omega, hq.2⟩))⟩
 · rcases hq with hq | hq
   · exact h.dis q (.inl hq) ho
   · rcases ho with ho | ho
     · have := hO q ho; omega
     · omega
 · rcases hq with hq | hq
   · exact h.ltD q (.inl hq)
   · omega
end Go.Proofs.Ytebdajkknkapcaa
namespace Go.Proofs.Ytebdajkknkapcaa
open Go Go.RowKit
def OutAt (B : Nat) (es : List XEntry) (v : Value) (w : World) : Prop := ∃ css : List (List Value), css.length = es.length ∧ w.ownsRow B 42 7 v es.length css.flatten ∧ (∀ cs ∈ css, cs.length = 7) ∧ ∀ (i : Nat) x, es[i]? = some x → ∃ cs, css[i]? = some cs ∧ EntryC w (fun q => q < B) cs x
theorem OutAt.same {B : Nat} {es : List XEntry} {v : Value} {w w' : World} (h : OutAt B es v w) (hf : Fr (fun q => q < B) w w') (hb : ∀ q, v.ownBlock = some q → w'.heap[q]? = w.heap[q]?) : OutAt B es v w' := by
 obtain ⟨css, h1, h2, h3, h4⟩ := h
 refine ⟨css, h1, own_same h2 hb, h3, fun i x hx => ?_⟩
 obtain ⟨cs, k1, k2⟩ := h4 i x hx
 exact ⟨cs, k1, EntryC.fr k2 hf⟩
end Go.Proofs.Ytebdajkknkapcaa
namespace Go.Proofs.Ytebdajkknkapcaa
open Go Go.RowKit
def IsLn (W : World) (cells : List Value) (v : Value) (w : World) : Prop := ∃ g, v = .slice (some ⟨g, 0, none⟩) 1 1 ∧ W.heap.size ≤ g ∧ w.heap[g]? = some (.cells cells.toArray 64 (0, 0))
theorem IsLn.keep (W : World) (cells : List Value) : ∀ v w w', Below w.heap.size w w' → IsLn W cells v w → IsLn W cells v w' := fun v w w' hb ⟨g, e, h1, h2⟩ => ⟨g, e, h1, (hb.block g (blk_lt h2)).trans h2⟩
theorem IsLn.grow {W w w' : World} {cells : List Value} {v : Value} {row : Option Nat} (h : IsLn W cells v w) (hg : w.grownBy w' row) (hr : ∀ q, row = some q → q < W.heap.size) : IsLn W cells v w' := by
 obtain ⟨g, e, h1, h2⟩ := h
 exact ⟨g, e, h1, (hg.block g (blk_lt h2) (fun e => by have := hr g e.symm; omega)).trans h2⟩
def PL (V : World) (base : Nat) (v0 : Value) (n : Nat) (cf : List Value) (v : Value) (w : World) : Prop := ∃ W3, Fr (fun q => q < V.heap.size ∧ v0.ownBlock ≠ some q) V W3 ∧ w.ownsRow base 64 3 v n cf ∧ W3.grownBy w v0.ownBlock ∧ (v.ownBlock = v0.ownBlock ∨ v.ownBlock = some W3.heap.size)
theorem PL.keep (V : World) (base : Nat) (v0 : Value) (n : Nat) (cf : List Value) : ∀ v w w', Below w.heap.size w w' → PL V base v0 n cf v w → PL V base v0 n cf v w' := fun v w w' hb ⟨W3, h1, h3, h4, h5⟩ => ⟨W3, h1, own_below h3 hb, h4.andThen ((grown_of_below hb).but _) (fun j hj => .inr hj), h5⟩
end Go.Proofs.Ytebdajkknkapcaa
