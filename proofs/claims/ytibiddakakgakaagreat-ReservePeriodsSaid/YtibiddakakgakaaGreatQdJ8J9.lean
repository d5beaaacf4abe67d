/- slices.DeleteFunc at entries, Of. Written by gen_j8.py. -/
import Derived.Test.YtibiddakakgakaaGreatQdA3A18
set_option linter.unusedVariables false
set_option linter.unusedSimpArgs false
set_option maxRecDepth 4000
attribute [local go_sem ↓] Go.wp_at_zero Go.wp_at_succ
set_option maxHeartbeats 16000000
namespace Go.Proofs.YtibiddakakgakaaGreat
open Go Go.RowKit
def rZ (w:World) (g:Nat) (R:List (List Value)):Prop:=∀(i:Nat) cs,R[i]? =some cs->At w (λq=>q=g) ⟨g,i*7,none⟩ cs
theorem vK {w:World} {g o:Nat} {cs:List Value} (h:At w (λq=>q=g) ⟨g,o,none⟩ cs) (j:Nat) (u:Value) (hu:cs[j]? =some u):w.cell? ⟨g,o+j,none⟩=some u/\w.frozen? ⟨g,o+j,none⟩=false:=by
 have:=h.2 j u hu;rw[Addr.add_lit]at this;exact this
theorem Zm {w:World} {g o o2:Nat} {cs vs:List Value} (h:At w (λq=>q=g) ⟨g,o,none⟩ cs) (hap:o+cs.length<=o2\/o2+vs.length<=o):At (w.setCells g o2 vs) (λq=>q=g) ⟨g,o,none⟩ cs:=by
 refine⟨rfl,λj u hu=>?_⟩;have hj:j<cs.length:=(List.getElem?_eq_some_iff.1 hu).1;have:=vK h j u hu;rw[Addr.add_lit,World.cell?_setCells_out g vs o2 w _ (λ_ _=>by show o+j<o2\/o2+vs.length<=o+j;omega),World.frozen?_setCells];exact this
theorem ab1 {w:World} {g o:Nat} {cs vs:List Value} (h:At w (λq=>q=g) ⟨g,o,none⟩ cs) (hl:vs.length=cs.length):At (w.setCells g o vs) (λq=>q=g) ⟨g,o,none⟩ vs:=by
 refine⟨rfl,λj u hu=>?_⟩;have hj:j<vs.length:=(List.getElem?_eq_some_iff.1 hu).1;have hs:∀j,j<vs.length->(w.cell? ⟨g,o+j,none⟩).isSome=true:=λj hj=>by
  have:=(vK h j cs[j] (List.getElem?_eq_getElem (by omega))).1;rw[this];rfl
 rw[Addr.add_lit,World.cell?_setCells_in g vs o w hs j hj,World.frozen?_setCells];have h2:=(vK h j cs[j] (List.getElem?_eq_getElem (by omega))).2;rw[List.getElem?_eq_getElem hj]at hu;exact⟨hu,h2⟩
theorem rZ.set {w:World} {g i:Nat} {R:List (List Value)} {cs:List Value} (h:rZ w g R) (hR:∀r∈R,r.length=7) (hi:i<R.length) (hc:cs.length=7):rZ (w.setCells g (i*7) cs) g (R.set i cs):=by
 intro q r hr;by_cases hq:q=i
 ·subst hq;rw[List.getElem?_set_self hi]at hr;obtain rfl:=Option.some.inj hr;exact ab1 (h q R[q] (List.getElem?_eq_getElem hi)) (by rw[hc,hR _ (List.getElem_mem hi)])
 ·rw[List.getElem?_set_ne (λe=>hq e.symm)]at hr;have hl:r.length=7:=hR r (List.mem_of_getElem? hr);refine Zm (h q r hr) ?_;rw[hl,hc];rcases Nat.lt_or_gt_of_ne hq with h1|h1
  ·exact .inl (by omega)
  ·exact .inr (by omega)
theorem rZ.fr {w w':World} {g:Nat} {R:List (List Value)} {Q:Nat->Prop} (h:rZ w g R) (hf:Fr Q w w') (hg:Q g):rZ w' g R:=λi cs hi=>
 ((h i cs hi).mono (Q':=λq=>q=g/\Q q) (λq hq=>⟨hq,by rw[hq];exact hg⟩)).fr (hf.mono (λq hq=>hq.2))|>.mono (λq hq=>hq.1)
theorem ph.list {B:Nat} {es:List ak} {v:Value} {w:World} (h:ph B es v w) (hB:B<=w.heap.size):aj ax 7 w (·<w.heap.size) [v] es:=by
 obtain⟨css,h1,h2,h3,h4⟩:=h;exact kO h3 h2 (λi x hx=>by
  obtain⟨cs,k1,k2⟩:=h4 i x hx;exact⟨cs,k1,ax.mono k2 (λq hq=>by omega)⟩) (λq hq=>(h2.lt _ hq).2)
end Go.Proofs.YtibiddakakgakaaGreat
