/- sorted of the reference. Written by gen_r12.py. -/
import Derived.Test.YtibiddakakgakaaGreatQdY13R9
set_option linter.unusedVariables false
set_option linter.unusedSimpArgs false
set_option maxRecDepth 4000
attribute [local go_sem ↓] Go.wp_at_zero Go.wp_at_succ
set_option maxHeartbeats 16000000
namespace Go.Proofs.YtibiddakakgakaaGreat
open Go Go.RowKit
def BB (W:World) (cells:List Value) (v:Value) (w:World):Prop:=∃g,v=.slice (some ⟨g,0,none⟩) 1 1/\W.heap.size<=g/\w.heap[g]? =some (.cells cells.toArray 51 (0,0))
theorem BB.keep (W:World) (cells:List Value):∀v w w',Below w.heap.size w w'->BB W cells v w->BB W cells v w':=λv w w' hb ⟨g,e,h1,h2⟩=>⟨g,e,h1,(hb.block g (ag h2)).trans h2⟩
theorem BB.grow {W w w':World} {cells:List Value} {v:Value} {row:Option Nat} (h:BB W cells v w) (hg:w.grownBy w' row) (hr:∀q,row=some q->q<W.heap.size):BB W cells v w':=by
 obtain⟨g,e,h1,h2⟩:=h;exact⟨g,e,h1,(hg.block g (ag h2) (λe=>by have:=hr g e.symm;omega)).trans h2⟩
def PE (V:World) (base:Nat) (v0:Value) (n:Nat) (cf:List Value) (v:Value) (w:World):Prop:=∃W3,Fr (λq=>q<V.heap.size/\v0.ownBlock≠some q) V W3/\w.ownsRow base 51 7 v n cf/\W3.grownBy w v0.ownBlock/\(v.ownBlock=v0.ownBlock\/v.ownBlock=some W3.heap.size)
theorem PE.keep (V:World) (base:Nat) (v0:Value) (n:Nat) (cf:List Value):∀v w w',Below w.heap.size w w'->PE V base v0 n cf v w->PE V base v0 n cf v w':=λv w w' hb ⟨W3,h1,h3,h4,h5⟩=>⟨W3,h1,bb h3 hb,h4.andThen ((fL hb).but _) (λj hj=> .inr hj),h5⟩
end Go.Proofs.YtibiddakakgakaaGreat
