/- slices.DeleteFunc at entries, Of. Written by gen_j8.py. -/
import Derived.Test.YtibiddakakgakaaGreatJA3A18
set_option linter.unusedVariables false
set_option linter.unusedSimpArgs false
set_option maxRecDepth 4000
attribute [local go_sem ↓] Go.wp_at_zero Go.wp_at_succ
set_option maxHeartbeats 16000000
namespace Go.Proofs.YtibiddakakgakaaGreat
open Go Go.RowKit
def rZ (w:World) (g:Nat) (R:List (List Value)):Prop:=∀(i:Nat) cs,R[i]? =some cs->At w (λq=>q=g) ⟨g,i*7,none⟩ cs
theorem vK {w:World} {g o:Nat} {cs:List Value} (h:At w (λq=>q=g) ⟨g,o,none⟩ cs) (j:Nat) (u:Value) (hu:cs[j]? =some u):w.cell? ⟨g,o+j,none⟩=some u/\w.frozen? ⟨g,o+j,none⟩=false:=by
 have:=h.2 j u hu;rw[Addr.add_lit]at this;exact this
theorem Zm {w:World} {g o o2:Nat} {cs vs:List Value} (h:At w (λq=>q=g) ⟨g,o,none⟩ cs) (hap:o+cs.length<=o2\/o2+vs.length<=o):At (w.setCells g o2 vs) (λq=>q=g) ⟨g,o,none⟩ cs:=by
 refine⟨rfl,λj u hu=>?_⟩;have hj:j<cs.length:=(List.getElem?_eq_some_iff.1 hu).1;have:=vK h j u hu;rw[Addr.add_lit,World.cell?_setCells_out g vs o2 w _ (λ_ _=>by show o+j<o2\/o2+vs.length<=o+j;omega),World.frozen?_setCells];exact this
theorem ab1 {w:World} {g o:Nat} {cs vs:List Value} (h:At w (λq=>q=g) ⟨g,o,none⟩ cs) (hl:vs.length=cs.length):At (w.setCells g o vs) (λq=>q=g) ⟨g,o,none⟩ vs:=by
 refine⟨rfl,λj u hu=>?_⟩;have hj:j<vs.length:=(List.getElem?_eq_some_iff.1 hu).1;have hs:∀j,j<vs.length->(w.cell? ⟨g,o+j,none⟩).isSome=true:=λj hj=>by
  have:=(vK h j cs[j] (List.getElem?_eq_getElem (by omega))).1;rw[this];rfl
 rw[Addr.add_lit,World.cell?_setCells_in g vs o w hs j hj,World.frozen?_setCells];have h2:=(vK h j cs[j] (List.getElem?_eq_getElem (by omega))).2;rw[List.getElem?_eq_getElem hj]at hu;exact⟨hu,h2⟩
theorem rZ.set {w:World} {g i:Nat} {R:List (List Value)} {cs:List Value} (h:rZ w g R) (hR:∀r∈R,r.length=7) (hi:i<R.length) (hc:cs.length=7):rZ (w.setCells g (i*7) cs) g (R.set i cs):=by
 intro q r hr;by_cases hq:q=i
 ·subst hq;rw[List.getElem?_set_self hi]at hr;obtain rfl:=Option.some.inj hr;exact ab1 (h q R[q] (List.getElem?_eq_getElem hi)) (by rw[hc,hR _ (List.getElem_mem hi)])
 ·rw[List.getElem?_set_ne (λe=>hq e.symm)]at hr;have hl:r.length=7:=hR r (List.mem_of_getElem? hr);refine Zm (h q r hr) ?_;rw[hl,hc];rcases Nat.lt_or_gt_of_ne hq with h1|h1
  ·exact .inl (by omega)
  ·exact .inr (by omega)
theorem rZ.fr {w w':World} {g:Nat} {R:List (List Value)} {Q:Nat->Prop} (h:rZ w g R) (hf:Fr Q w w') (hg:Q g):rZ w' g R:=λi cs hi=>
 ((h i cs hi).mono (Q':=λq=>q=g/\Q q) (λq hq=>⟨hq,by rw[hq];exact hg⟩)).fr (hf.mono (λq hq=>hq.2))|>.mono (λq hq=>hq.1)
def ofE (k:Int) (es:List ak):List ak:=es.filter (λx=>decide (x.entity=k))
theorem Pk {k:Int} {es:List ak} {j:Nat} (hj:j<es.length):ofE k (es.take (j+1))=if es[j].entity=k then ofE k (es.take j)++[es[j]]else ofE k (es.take j):=by
 rw[List.take_add_one,List.getElem?_eq_getElem hj];unfold ofE;rw[List.filter_append];split
 ·rename_i h;rw[show(some es[j]).toList=[es[j]]from rfl,List.filter_cons_of_pos (by simpa using h)];rfl
 ·rename_i h;rw[show(some es[j]).toList=[es[j]]from rfl,List.filter_cons_of_neg (by simpa using h),List.filter_nil,List.append_nil]
def Zd (k:Int) (es:List ak) (w:World) (e:Ending) (w':World):Prop:=∃(A:Option Addr) (c:Nat),e=.returned (.slice A (ofE k es).length c)/\aj ax 7 w' (·<w'.heap.size) [.slice A (ofE k es).length c] (ofE k es)/\Below w.heap.size w w'
theorem ph.app {B:Nat} {es:List ak} {css:List (List Value)} {v v2:Value} {w w1 w2:World} {x:ak} {cs:List Value} (h1:css.length=es.length) (h2:w.ownsRow B 51 7 v es.length css.flatten) (h3:∀cs∈css,cs.length=7)
 (h4:∀(i:Nat) x,es[i]? =some x->∃cs,css[i]? =some cs/\ax w (λq=>q<B) cs x) (hb:Below w.heap.size w w1) (hBw:B<=w.heap.size)
 (hx:ax w (λq=>q<B) cs x) (hg:w1.grownBy w2 v.ownBlock) (bv:w2.ownsRow B 51 7 v2 (es.length+1) (css.flatten++cs)):ph B (es++[x]) v2 w2:=by
 have hs:=hb.size;have hF:Fr (λq=>q<B) w w2:=((Fr.ofBelow hb).mono (λq hq=>Nat.lt_of_lt_of_le hq hBw)).grown hg (λq hq=>Nat.lt_of_lt_of_le hq hBw) (λq hq hr=>by have h:B<=q:=(h2.lt _ hq).1;omega);refine⟨css++[cs],by simp[h1],by rw[List.length_append];simpa using bv,λc hc=>?_,λi y hy=>?_⟩
 ·rcases List.mem_append.1 hc with hc|hc
  ·exact h3 c hc
  ·simp at hc;subst hc;exact hx.len
 ·rcases Nat.lt_or_ge i es.length with hi|hi
  ·rw[List.getElem?_append_left hi]at hy;obtain⟨c,k1,k2⟩:=h4 i y hy;exact⟨c,by rw[List.getElem?_append_left (by omega)];exact k1,ax.fr k2 hF⟩
  ·have hie:i=es.length:=by
    have:=(List.getElem?_eq_some_iff.1 hy).1;simp at this;omega
   subst hie;simp at hy;subst hy;exact⟨cs,by rw[List.getElem?_append_right (by omega)];simp[h1],ax.fr hx hF⟩
theorem ph.list {B:Nat} {es:List ak} {v:Value} {w:World} (h:ph B es v w) (hB:B<=w.heap.size):aj ax 7 w (·<w.heap.size) [v] es:=by
 obtain⟨css,h1,h2,h3,h4⟩:=h;exact kO h3 h2 (λi x hx=>by
  obtain⟨cs,k1,k2⟩:=h4 i x hx;exact⟨cs,k1,ax.mono k2 (λq hq=>by omega)⟩) (λq hq=>(h2.lt _ hq).2)
theorem aci (es:List ak) (A:Option Addr) (c:Nat) (k:Int) (w:World) (hl:aj ax 7 w (·<w.heap.size) [.slice A es.length c] es) (bL:es.length<=100000):Calls Tryz.prog 63 #[.slice A es.length c,k] w (Zd k es w):=by
 obtain⟨ia,oR,ge,gg,gh⟩:=info_parts ll;have HL:=H_ hl;have gr:=hl.cap;unfold maxLen at gr;obtain⟨n,bj⟩:=x_ (es.length);have HN:=H_ bj;rw[bj]at gr bL |-;clear hl bj;go_enter Tryz.func63,Tryz.ntmps63;go_wp2_with fail
 go_loopw [5,6] (λv i wr=>∃j:Nat,j<=n/\i=.int .i64 (j:Int)/\ph w.heap.size (ofE k (es.take j)) v wr/\Below w.heap.size w wr) (λ_ i _=>n- (intOf i).toNat)
 case atStart=>exact⟨0,by omega,rfl,⟨[],rfl,World.ownsRow_nil _ _ _ _,by simp,λi x h=>by simp[ofE]at h⟩,Below.refl _ _⟩
 case round=>
  obtain⟨j,hj,rfl,aei,jX⟩:=hrel;generalize wr=w8 at*;have o9:=H_ jX;obtain⟨cs3,q1,q2,q3,q4⟩:=aei;have Yw:=H_ (show ph w.heap.size (ofE k (es.take j)) u5 w8 from⟨cs3,q1,q2,q3,q4⟩);by_cases aU:j<n
  case pos=>
   have bq:(j:Int)< (n:Int):=by omega
   have vn:j<es.length:=by rw[HN.o];exact aU
   obtain⟨b,o,cs,dj,ed,Be,aS⟩:=aj.get HL.o j vn;subst dj;have tA:=H_ (Pk (k:=k) vn);obtain⟨Al,cl,ft,oY,lP⟩:=ax.lit Be;subst ft;obtain⟨x,hx⟩:=x_ (es[j]);rw[hx]at Be tA aS;obtain⟨xi,xe,xd,xk,xo,xt,ls⟩:=x;obtain⟨nl,bj⟩:∃n,ls.length=n:=⟨_,rfl⟩;simp only[bj]at aS Be;have dt:=aS.fr (Fr.ofBelow jX);have fP:w8.cell? ⟨b,o+j*7+1,none⟩=some (.int .i64 xe):=dt.c (j:=1) rfl;have eZ:=H_ dt.range;have MB:=H_ (ax.fr Be (Fr.ofBelow jX));have TN:0<n:=by omega
   have HQ:=H_ (And.intro q1 (And.intro q2 (And.intro q3 q4)));have Kx:(ofE k (es.take j)).length<=100000:=Nat.le_trans (List.length_filter_le _ _) (by rw[List.length_take];omega);have QC:=jX.size;clear Be aS dt lP oY hx ed bj q1 q2 q3 q4 jX;by_cases rQ:xe=k
   case neg=>
    have oY:(xe==k)=false:=by simpa using rQ
    have Cx:=H_ (show ofE k (es.take (j+1))=ofE k (es.take j) by rw[tA.o,if_neg rQ]);clear rQ;go_wp2_with fail;go_roundw
    case rel=>exact⟨j+1,by omega,by go_num,by rw[Cx.o];exact Yw.o,o9.o⟩
    case measure=>first|exact aQ aU|(simp only[intOf];omega)
   case pos=>
    have oY:(xe==k)=true:=by simpa using rQ
    have Cx:=H_ (show ofE k (es.take (j+1))=ofE k (es.take j)++[⟨xi,xe,xd,xk,xo,xt,ls⟩] by rw[tA.o,if_pos rQ]);clear rQ;go_wp2_with (first|(refine w_ 24 51 23 b (o+j*7) [xi,xe,xd,xk,xo,xt,.slice Al nl cl] eZ.o aY Tryz.underlying51 ?_)|(at_builtin;go_loud (refine cq _ rfl (.tmp 20) (.tmp 25) 30 rfl w.heap.size 51 ia _ 7 80 Tryz.underlying30 oR ge gg gh rfl (by decide) u5 (ofE k (es.take j)).length cs3.flatten rfl (HQ.o.2.1.alloc _) (λ_=>True) (some ⟨w8.heap.size,0,none⟩) 1 1 [xi,xe,xd,xk,xo,xt,.slice Al nl cl] rfl (fq (heap_alloc_new _ _) rfl) (by simp[Value.oneCell']) (by simp only[maxLen];omega) (by omega) (by simp;omega) ?_);intro v9 wa cj gk qw));go_roundw
    case rel=>
     refine⟨j+1,by omega,by go_num,?_,bK (o9.o.alloc (by omega) _) gk (λq hq=>(HQ.o.2.1.lt _ hq).1) (Nat.le_refl _)⟩;rw[Cx.o];exact ph.app HQ.o.1 HQ.o.2.1 HQ.o.2.2.1 HQ.o.2.2.2 (ai w8 _) QC MB.o gk cj
    case measure=>first|exact aQ aU|(simp only[intOf];omega)
  case neg=>
   have bq:¬(j:Int)< (n:Int):=by omega
   have FE:j=es.length:=by have:=HN.o;omega
   have hl:=Yw.o.list jX.size;rw[FE,List.take_length]at hl q2;obtain⟨Ao,no,co,rfl⟩:=bS q2;obtain rfl:no=(ofE k es).length:=fV q2;have Rh:=H_ hl;obtain⟨no,fg⟩:∃x,(ofE k es).length=x:=⟨_,rfl⟩;have Ka:=H_ fg;rw[fg];clear FE hl fg q1 q2 q3 q4 Yw;go_wp2_with fail;go_ret;exact⟨Ao,co,by rw[Ka.o];rfl,Rh.o,o9.o⟩
end Go.Proofs.YtibiddakakgakaaGreat
