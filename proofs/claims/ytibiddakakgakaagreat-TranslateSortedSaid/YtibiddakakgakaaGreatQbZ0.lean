/- Lists that a call makes, seen from outside: entries with the slices of their lines, items. -/
import Derived.Test.YtibiddakakgakaaGreatQbY9C8
import Derived.Test.YtibiddakakgakaaGreatQbY13
import Derived.Test.YtibiddakakgakaaGreatQbY14
set_option linter.unusedVariables false
set_option linter.unusedSimpArgs false
set_option maxHeartbeats 16000000
namespace Go.Proofs.YtibiddakakgakaaGreat
open Go Go.RowKit
theorem AG {α:Type} {El:World->(Nat->Prop)->List Value->α->Prop} {f:α->List Value} {sz:Nat} (hf:∀x,(f x).length=sz) {w:World} {Q:Nat->Prop} {base:Nat} {e:TypeId} {v:Value} {xs:List α} (h:w.ownsRow base e sz v xs.length (xs.flatMap f)) (hE:∀x∈xs,El w Q (f x) x) (hQ:∀g,v.ownBlock=some g->Q g):aj El sz w Q [v] xs:=
 kO (css:=xs.map f) (λcs h=>by obtain⟨x,_,rfl⟩:=List.mem_map.1 h;exact hf x) (by rw[<-List.flatMap_def];exact h) (λi x hx=>⟨f x,by rw[List.getElem?_map,hx];rfl,hE x (List.mem_of_getElem? hx)⟩) hQ
theorem pX {w:World} {Q:Nat->Prop} {A:Option Addr} {c:Nat} {es:List ak} (h:aj ax 7 w Q [.slice A es.length c] es):
 ∃xs:List jS,xs.map (·.1)=es/\∀(i:Nat) (x:jS),xs[i]? =some x->ax w Q (bY x) x.1/\∃b o,A=some ⟨b,o,none⟩/\At w Q ⟨b,o+i*7,none⟩ (bY x):=by
 have ir:∀i:Fin es.length,∃p:Option Addr × Nat,ax w Q (bY (es[i.1],p)) es[i.1]/\∃b o,A=some ⟨b,o,none⟩/\At w Q ⟨b,o+i.1*7,none⟩ (bY (es[i.1],p)):=λi=>by
  obtain⟨b,o,cs,hA,_,hC,aS⟩:=aj.get h i.1 i.2;obtain⟨Al,cl,ft,_⟩:=hC.lit;subst ft;exact⟨(Al,cl),hC,b,o,hA,aS⟩
 obtain⟨f,hf⟩:=Classical.axiomOfChoice ir;refine⟨List.ofFn (λi:Fin es.length=>((es[i.1],f i):jS)),?_,λi x hx=>?_⟩
 ·apply List.ext_getElem
  ·simp
  ·intro i h1 h2;simp
 ·obtain⟨hi,e⟩:=List.getElem?_eq_some_iff.1 hx;rw[List.length_ofFn]at hi;rw[List.getElem_ofFn]at e;subst e;exact hf ⟨i,hi⟩
theorem xr:(Tryz.prog.info? 42).map (λi=>(i.zero,i.size,i.bytes))=some (some (.agg #[(),(),(),(),(),(),()]),7,56):=by kernel_rfl
theorem GI {α:Type} {f:α->List Value} {w:World} {Q:Nat->Prop} {cs:List Value} {c:α} (h:OB f w Q cs c):cs=f c:=h
abbrev ItV (w:World) (Q:Nat->Prop) (v:Value) (l:List bW):Prop:=aj (OB lq) 7 w Q [v] l
theorem ItV.fr {w w':World} {Q:Nat->Prop} {v:Value} {l:List bW} (h:ItV w Q v l) (hf:Fr Q w w'):ItV w' Q v l:=aj.fr h (λh=>h) hf
theorem ItV.mono {w:World} {Q Q':Nat->Prop} {v:Value} {l:List bW} (h:ItV w Q v l) (hq:∀k,Q k->Q' k):ItV w Q' v l:=aj.mono h (λh=>h) hq
theorem ItV.keep {w w':World} {v:Value} {l:List bW} (h:ItV w (·<w.heap.size) v l) (hb:Below w.heap.size w w'):ItV w' (·<w'.heap.size) v l:=(h.fr (Fr.ofBelow hb)).mono (λ_ hk=>Nat.lt_of_lt_of_le hk hb.size)
def rX (R:List bW × Int) (w:World) (e:Ending) (w':World):Prop:=∃(A:Option Addr) (c:Nat),e=.returned (.tuple #[.slice A R.1.length c,R.2])/\ItV w' (·<w'.heap.size) (.slice A R.1.length c) R.1/\Below w.heap.size w w'
end Go.Proofs.YtibiddakakgakaaGreat
