/- The reference's less and Normal. Written by gen_q2.py. -/
import Derived.Test.YtibiddakakgakaaGreatQdI16A1
set_option linter.unusedVariables false
set_option linter.unusedSimpArgs false
set_option maxRecDepth 4000
attribute [local go_sem ↓] Go.wp_at_zero Go.wp_at_succ
set_option maxHeartbeats 16000000
namespace Go.Proofs.YtibiddakakgakaaGreat
open Go Go.RowKit
theorem alN {w:World} {base g n c j:Nat} {T:TypeId} {size:Nat} {xs:List Value} (h:w.ownsRow base T size (.slice (some ⟨g,0,none⟩) n c) n xs) (u:Value) (hj:j<n*size):(w.setCell ⟨g,j,none⟩ u).ownsRow base T size (.slice (some ⟨g,0,none⟩) n c) n (xs.set j u):=by
 refine⟨by rw[List.length_set];exact h.1,?_⟩;rcases h.2 with⟨e,_⟩|⟨g',cap,aw,e,h1,h2,h3,h4,h5,h6⟩
 ·simp at e
 ·simp only[Value.slice.injEq,Option.some.injEq,Addr.mk.injEq,and_true,true_and]at e;obtain⟨rfl,rfl⟩:=e;refine .inr ⟨g,c,aw.setIfInBounds j u,rfl,h1,aG h2 j u,h3,h4,by simpa using h5,?_⟩;rw[<-h6,Array.toList_setIfInBounds,List.take_set]
def KH (W:World) (cells:List Value) (v:Value) (w:World):Prop:=∃g,v=.slice (some ⟨g,0,none⟩) 1 1/\W.heap.size<=g/\w.heap[g]? =some (.cells cells.toArray 60 (0,0))
theorem KH.keep (W:World) (cells:List Value):∀v w w',Below w.heap.size w w'->KH W cells v w->KH W cells v w':=λv w w' hb ⟨g,e,h1,h2⟩=>⟨g,e,h1,(hb.block g (ag h2)).trans h2⟩
theorem KH.grow {W w w':World} {cells:List Value} {v:Value} {row:Option Nat} (h:KH W cells v w) (hg:w.grownBy w' row) (hr:∀q,row=some q->q<W.heap.size):KH W cells v w':=by
 obtain⟨g,e,h1,h2⟩:=h;exact⟨g,e,h1,(hg.block g (ag h2) (λe=>by have:=hr g e.symm;omega)).trans h2⟩
def PL (V:World) (base:Nat) (v0:Value) (n:Nat) (cf:List Value) (v:Value) (w:World):Prop:=∃W3,Fr (λq=>q<V.heap.size/\v0.ownBlock≠some q) V W3/\w.ownsRow base 60 3 v n cf/\W3.grownBy w v0.ownBlock/\(v.ownBlock=v0.ownBlock\/v.ownBlock=some W3.heap.size)
theorem PL.keep (V:World) (base:Nat) (v0:Value) (n:Nat) (cf:List Value):∀v w w',Below w.heap.size w w'->PL V base v0 n cf v w->PL V base v0 n cf v w':=λv w w' hb ⟨W3,h1,h3,h4,h5⟩=>⟨W3,h1,bb h3 hb,h4.andThen ((fL hb).but _) (λj hj=> .inr hj),h5⟩
end Go.Proofs.YtibiddakakgakaaGreat
