/- What the law JournalClone needs: cells that are changed, beginnings of lists, appends. -/
import Derived.Test.YtibiddakakgakaaGreatQdH2
import Derived.Test.YtibiddakakgakaaGreatQdA4V3
import Derived.Test.YtibiddakakgakaaGreatQdJ8J9
import Derived.Laws.IdiomStrings
set_option linter.unusedVariables false
set_option linter.unusedSimpArgs false
set_option maxRecDepth 4000
attribute [local go_sem ↓] Go.wp_at_zero Go.wp_at_succ
set_option maxHeartbeats 16000000
namespace Go.Proofs.YtibiddakakgakaaGreat
open Go Go.RowKit
def IC (w:World) (p:Addr):Prop:=∃z:Int,w.cell? p=some (.int .i64 z)/\w.frozen? p=false
theorem IC.set {w:World} {p q:Addr} {z:Int} (hp:IC w p) (hq:IC w q):IC (w.setCell q (.int .i64 z)) p:=by
 obtain⟨a,h1,h2⟩:=hp;obtain⟨b,h3,h4⟩:=hq;by_cases e:q=p
 ·subst e;exact⟨z,World.cell?_setCell_same _ _ _ h1,(World.frozen?_setCell _ _ _ _).trans h2⟩
 ·exact⟨a,(World.cell?_setCell_other _ _ _ _ e).trans h1,(World.frozen?_setCell _ _ _ _).trans h2⟩
theorem At.ic {w:World} {Q:Nat->Prop} {b o j:Nat} {cs:List Value} {z:Int} (h:At w Q ⟨b,o,none⟩ cs) (hj:cs[j]? =some (.int .i64 z)):IC w ⟨b,o+j,none⟩:=by
 have h2:=h.2 j _ hj;have e:(⟨b,o,none⟩:Addr).add j=⟨b,o+j,none⟩:=by
  unfold Addr.add;split
  ·rename_i h0;subst h0;rfl
  ·rfl
 rw[e]at h2;exact⟨z,h2⟩
def KL (A:Option Addr) (g n:Nat) (w:World):Prop:=∀k,k<n->A=some ⟨g,0,none⟩/\IC w ⟨g,k*3+1,none⟩
theorem KL.set {A:Option Addr} {g n k:Nat} {w:World} {z:Int} (h:KL A g n w) (hk:k<n):KL A g n (w.setCell ⟨g,k*3+1,none⟩ (.int .i64 z)):=λj hj=>⟨(h j hj).1,(h j hj).2.set (h k hk).2⟩
def BD (B:Nat) (A:Option Addr) (es:List ak) (w:World):Prop:=∀(i:Nat) x,es[i]? =some x->∃b o Al cl,A=some ⟨b,o,none⟩/\w.cell? ⟨b,o+i*7+6,none⟩=some (.slice Al x.lines.length cl)/\
 ∀k,k<x.lines.length->∃bl ol,Al=some ⟨bl,ol,none⟩/\B<=bl/\bl≠b/\IC w ⟨bl,ol+k*3+1,none⟩
theorem BD.set {B:Nat} {A:Option Addr} {es:List ak} {w:World} {q:Addr} {z:Int} (h:BD B A es w) (hq:IC w q) (hb:∀b o,A=some ⟨b,o,none⟩->q.block≠b):BD B A es (w.setCell q (.int .i64 z)):=λi x hx=>by
 obtain⟨b,o,Al,cl,h1,h2,h3⟩:=h i x hx;refine⟨b,o,Al,cl,h1,(World.cell?_setCell_far _ _ _ _ (hb b o h1)).trans h2,λk hk=>?_⟩;obtain⟨bl,ol,k1,k2,k3,k4⟩:=h3 k hk;exact⟨bl,ol,k1,k2,k3,k4.set hq⟩
theorem KJ.shown {B:Nat} {A:Option Addr} {c:Nat} {es:List ak} {w:World} (h:KJ B es (.slice A es.length c) w):BD B A es w:=λi x hx=>by
 obtain⟨css,h1,h2,h3,h4⟩:=h;obtain⟨cs,hc,hE⟩:=h4 i x hx;rcases h2.2 with⟨he,h0⟩|⟨g,cap,aw,he,hb,hg,_⟩
 ·have:es=[]:=List.eq_nil_of_length_eq_zero h0;subst this;simp at hx
 ·simp only[Value.slice.injEq]at he;obtain⟨rfl,_,rfl⟩:=he;obtain⟨Al,cl,rfl,_,hl⟩:=hE.lit;have aS:=At.flat h3 0 (xN (Q:=λ_=>True) h2 trivial) i _ hc;refine⟨g,0,Al,cl,rfl,(aS.2 6 _ rfl).1,λk hk=>?_⟩;obtain⟨bl,ol,Kb,hA,hQ,hL,hA2⟩:=aj.get hl k hk;obtain⟨rfl,_⟩:=bc.lit hL;exact⟨bl,ol,hA,hQ.1.1,λe=>hQ.2 (by rw[e];rfl),hA2.ic (j:=1) rfl⟩
theorem aj.take {α:Type} {El:World->(Nat->Prop)->List Value->α->Prop} {size:Nat} {w:World} {Q:Nat->Prop} {A:Option Addr} {c m:Nat} {l:List α} (h:aj El size w Q [.slice A l.length c] l) (hm:m<=l.length):aj El size w Q [.slice A (l.take m).length c] (l.take m):=by
 obtain⟨A',c',he,h1,h2,h3⟩:=h;simp only[List.cons.injEq,and_true,Value.slice.injEq]at he;obtain⟨rfl,_,rfl⟩:=he;have hl:(l.take m).length=m:=by rw[List.length_take];omega
 refine⟨_,_,rfl,by omega,h2,λhp=>?_⟩;obtain⟨b,o,hA,hQ,hx⟩:=h3 (by omega);refine⟨b,o,hA,hQ,λi x hi=>hx i x ?_⟩;have sO:i<m:=by
  have:=(List.getElem?_eq_some_iff.1 hi).1;omega
 rw[List.getElem?_take_of_lt sO]at hi;exact hi
theorem GK.take {g:au} {l:List ak} (h:GK g l) (m:Nat):GK g (l.take m):=⟨λx hx=>h.1 x (List.mem_of_mem_take hx),by have:=h.2.1;rw[List.length_take];omega,h.2.2⟩
def OD (B:Nat) (g:au) (l:List ak) (v:Value) (w:World):Prop:=v=.tuple #[.pointer none,.slice none 0 0,true]\/
 ∃(J:Nat) (D O:Nat->Prop) (A:Option Addr) (c:Nat),v=.tuple #[.pointer (some ⟨J,0,none⟩),.slice A (DD g l).length c,true]/\JC w D O J g (DD g l)/\(∀q,D q\/O q->B<=q)/\aj ax 7 w (λq=>q<w.heap.size/\¬(D q\/O q)) [.slice A (DD g l).length c] (DD g l)
theorem OD.keep {B:Nat} {g:au} {l:List ak}:∀v w w',Below w.heap.size w w'->OD B g l v w->OD B g l v w':=λv w w' hb h=>by
 rcases h with h|⟨J,D,O,A,c,h1,h2,h3,h4⟩
 ·exact .inl h
 ·have hf:Fr (λq=>q<w.heap.size/\¬(D q\/O q)) w w':=(Fr.ofBelow hb).mono (λq hq=>hq.1);exact .inr ⟨J,D,O,A,c,h1,h2.below hb,h3,(h4.fr (λh=>ax.fr h hf) hf).mono (λh=>ax.mono h (λq hq=>⟨Nat.lt_of_lt_of_le hq.1 hb.size,hq.2⟩)) (λq hq=>⟨Nat.lt_of_lt_of_le hq.1 hb.size,hq.2⟩)⟩
theorem OD.of {g:au} {l:List ak} {w0 w w':World} {e:Ending} (h:Gy g l w e w') (hB:w0.heap.size<=w.heap.size):∃v,e=.returned v/\OD w0.heap.size g l v w'/\Below w.heap.size w w':=by
 obtain⟨hb,⟨_,rfl⟩|⟨_,J,D,O,A,c,rfl,h1,h2,h3⟩⟩:=h
 ·exact⟨_,rfl,.inl rfl,hb⟩
 ·exact⟨_,rfl,.inr ⟨J,D,O,A,c,rfl,h1,λq hq=>Nat.le_trans hB (h2 q hq),h3⟩,hb⟩
section
variable {P:Program} {w:World}
theorem ahc {o:Oper} {a:Act} {K:Act->World->Prop} {Q':Exit->Act->World->Prop} (s x:Operand) (t:TypeId)
 (ho:o.op=.call {callee:=.builtin .append,args:=#[s,x],argTypes:=#[t,t]})
 (base:Nat) (e:TypeId) (i:TypeInfo) (z:Value) (size fF:Nat) (ht:P.underlying t=some (.slice e)) (hi:P.info? e=some i) (hz:i.zero=some z)
 (lf:i.size=size) (MM:i.bytes=fF) (Ns:z.cells.size=size) (bP:0<size)
 (g:Nat) (hs:a.eval s=.slice (some ⟨g,0,none⟩) 0 0) (hg:w.heap[g]? =some (.cells #[] e (0,0))) (hgb:base<=g)
 (Q:Nat->Prop) (A:Option Addr) (m c:Nat) (gd:List Value) (hx:a.eval x=.slice A m c) (hr:Rd w Q A m size gd) (h1:∀u∈gd,u.oneCell'=true)
 (Mu:m<=maxLen) (jF:m*fF<=140737488355328) (jR:base<=w.heap.size)
 (h:∀v' w',w'.ownsRow base e size v' m gd->Below w.heap.size w w'->K (a.put o.dst v') w'):o.wp P a w K Q':=by
 rcases Nat.eq_zero_or_pos m with h0|hm
 ·subst h0;have hn:gd=[]:=List.eq_nil_of_length_eq_zero (by simpa using hr.1);subst hn;have bv:w.ownsRow base e size (.slice (some ⟨g,0,none⟩) 0 0) 0 []:=⟨by simp,.inr ⟨g,0,#[],rfl,hgb,hg,Nat.le_refl _,by simp[maxLen],by simp,by simp⟩⟩;have eC:(Builtin.append_ #[t,t] o.type #[.slice (some ⟨g,0,none⟩) 0 0,.slice A 0 c]).run P w=.ok (.slice (some ⟨g,0,none⟩) 0 0) w:=by
   cases A with
   |none=>exact Cl w base t o.type e i size ht hi _ 0 [] bv c
   |some ad=>
    have:=run_append_room_cells (P:=P) w t o.type e i ht hi g 0 0 0 ad 0 c [] (by simp) (by simp) (by simp) (Nat.le_refl _) (by simp) (by simp);simpa[World.setCells]using this
  unfold Oper.wp execOp;simp only[ho,resolve,invoke,builtin,Sem.run_bind,Sem.run_pure,Result.andThen_ok,List.map_toArray,List.map_cons,List.map_nil,hs,hx,eC];exact h _ w bv (Below.refl _ _)
 ·exact ahT w s x t ho base e i z size fF ht hi hz lf MM Ns bP g hs hg hgb Q A m c gd hx hr h1 hm Mu jF jR h
end
def Dy (B:Nat) (v:Value) (w:World):Prop:=∃g,v=.slice (some ⟨g,0,none⟩) 0 0/\B<=g/\w.heap[g]? =some (.cells #[] 51 (0,0))
theorem Dy.keep {B:Nat}:∀v w w',Below w.heap.size w w'->Dy B v w->Dy B v w':=λv w w' hb ⟨g,e,h1,h2⟩=>⟨g,e,h1,(hb.block g (ag h2)).trans h2⟩
theorem Dy.made {B:Nat} {w:World} (h:B<=w.heap.size):Dy B (.slice (some ⟨w.heap.size,0,none⟩) 0 0) (w.alloc (.cells #[] 51)):=⟨_,rfl,h,heap_alloc_new _ _⟩
def Gx (B:Nat) (cs:List Value) (v:Value) (w:World):Prop:=∃g,v=.slice (some ⟨g,0,none⟩) 1 1/\B<=g/\w.heap[g]? =some (.cells cs.toArray 51 (0,0))
theorem Gx.keep {B:Nat} {cs:List Value}:∀v w w',Below w.heap.size w w'->Gx B cs v w->Gx B cs v w':=λv w w' hb ⟨g,e,h1,h2⟩=>⟨g,e,h1,(hb.block g (ag h2)).trans h2⟩
theorem KL.fr {A:Option Addr} {g n:Nat} {w w':World} {Q:Nat->Prop} (h:KL A g n w) (hf:Fr Q w w') (hg:Q g):KL A g n w':=λk hk=>by
 obtain⟨h1,z,h2,h3⟩:=h k hk;exact⟨h1,z,(hf.cell (p:=⟨g,k*3+1,none⟩) hg).trans h2,(hf.frozen (p:=⟨g,k*3+1,none⟩) hg).trans h3⟩
def iG (a r:Int):Int:=a*(r/ 1000000)+(2*(a*(r%1000000))+1000000) / 2000000
def cN (n r:Int):Int × Int:=
 if n< -1000000000000\/1000000000000<n\/r<1\/1000000000000<r then(0,1)
 else if 1000000000000< (n.natAbs:Int)*(r/ 1000000)then(0,2)
 else if 1000000000000<iG n.natAbs r then(0,2)
 else(if n<0 then -iG n.natAbs r else iG n.natAbs r,0)
theorem Pg {a b c d:Int} (h0:0<=a) (h1:a<=b) (h2:0<=c) (h3:c<=d):a*c<=b*d:=Int.mul_le_mul h1 h3 h2 (by omega)
theorem sx {a b:Int} (h:0<=a) (k:0<=b):0<=a*b:=Int.mul_nonneg h k
theorem BL {m a b:Int} (hb:0<b):m/ b<a↔m<a*b:=by
 rw[Int.ediv_lt_iff_lt_mul hb]
theorem OP {a r:Int} (ha:0<=a) (hr:0<=r):0<=iG a r:=by
 unfold iG;have h1:=sx ha (Int.ediv_nonneg hr (show(0:Int)<=1000000 by omega));have h2:=sx ha (Int.emod_nonneg r (show(1000000:Int)≠0 by omega));generalize a*(r/ 1000000)=x at*;generalize a*(r%1000000)=y at*;omega
theorem akX (a r:Int): -1000000<=2*(iG a r*1000000- a*r)/\2*(iG a r*1000000- a*r)<=1000000:=by
 unfold iG;have e:a*r=(a*(r/ 1000000))*1000000+a*(r%1000000):=by
  have h:=Int.mul_ediv_add_emod r 1000000
  conv=>lhs;rw[<-h]
  rw[Int.mul_add,<-Int.mul_assoc,Int.mul_comm a 1000000,Int.mul_assoc,Int.mul_comm 1000000]
 rw[e];generalize a*(r/ 1000000)=x;generalize a*(r%1000000)=y;omega
theorem Ay {n r:Int} (h:(cN n r).2=0):(-1000000000000<=n/\n<=1000000000000/\1<=r/\r<=1000000000000)/\(cN n r).1=(if n<0 then -iG n.natAbs r else iG n.natAbs r):=by
 unfold cN at h |-;split at h
 ·cases h
 rename_i h1;rw[if_neg h1];split at h
 ·cases h
 rename_i h2;rw[if_neg h2];split at h
 ·cases h
 rename_i h3;rw[if_neg h3];exact⟨by omega,rfl⟩
theorem akY {n r:Int} (h:(cN n r).2=0): -1000000<=2*((cN n r).1*1000000- n*r)/\2*((cN n r).1*1000000- n*r)<=1000000:=by
 obtain⟨_,e⟩:=Ay h;have h1:=akX n.natAbs r;rw[e];rcases Int.lt_or_le n 0 with hn|hn
 ·rw[if_pos hn];have e1:(n.natAbs:Int)= -n:=by omega
  rw[e1]at h1 |-;rw[Int.neg_mul]at h1 |-;omega
 ·rw[if_neg (by omega)];have e1:(n.natAbs:Int)=n:=by omega
  rw[e1]at h1 |-;exact h1
theorem Lc (n r:Int):cN (-n) r=(-(cN n r).1,(cN n r).2):=by
 unfold cN;rw[Int.natAbs_neg];by_cases h1:n< -1000000000000\/1000000000000<n\/r<1\/1000000000000<r
 ·have h1': -n< -1000000000000\/1000000000000< -n\/r<1\/1000000000000<r:=by omega
  simp only[if_pos h1,if_pos h1'];rfl
 have h1':¬(-n< -1000000000000\/1000000000000< -n\/r<1\/1000000000000<r):=by omega
 simp only[if_neg h1,if_neg h1'];by_cases h2:1000000000000< (n.natAbs:Int)*(r/ 1000000)
 ·simp only[if_pos h2];rfl
 simp only[if_neg h2];by_cases h3:1000000000000<iG n.natAbs r
 ·simp only[if_pos h3];rfl
 simp only[if_neg h3];by_cases h4:n<0
 ·have h5:¬-n<0:=by omega
  simp only[if_pos h4,if_neg h5,Int.neg_neg]
 ·by_cases h5:n=0
  ·subst h5;have:iG ((0:Int).natAbs:Int) r=0:=by unfold iG;simp
   rw[this];rfl
  ·have h6: -n<0:=by omega
   simp only[if_neg h4,if_pos h6]
theorem OQ (n r:Int): -1000000000000<=(cN n r).1/\(cN n r).1<=1000000000000:=by
 unfold cN;by_cases h1:n< -1000000000000\/1000000000000<n\/r<1\/1000000000000<r
 ·rw[if_pos h1];simp
 rw[if_neg h1];by_cases h2:1000000000000< (n.natAbs:Int)*(r/ 1000000)
 ·rw[if_pos h2];simp
 rw[if_neg h2];by_cases h3:1000000000000<iG n.natAbs r
 ·rw[if_pos h3];simp
 rw[if_neg h3];have h4:=OP (a:=n.natAbs) (r:=r) (by omega) (by omega);simp only;split<;>omega
def cW (r:aC):ByteArray × Int × Int:=(r.currency,r.kind,r.when_)
def eO (grp:ByteArray) (r:aC):Bool:=cQ r.currency&&decide (r.currency≠grp)&&decide (1<=r.value/\r.value<=1000000000000)&&(decide (r.kind=1/\ -25567<=r.when_/\r.when_<=84005)||decide (r.kind=2/\0<=r.when_/\r.when_<120))
def dJ (grp:ByteArray) (rs:List aC):Prop:=(∀r∈rs,eO grp r=true)/\(rs.map cW).Nodup/\cQ grp=true/\rs.length<=1000
instance (grp:ByteArray) (rs:List aC):Decidable (dJ grp rs):=inferInstanceAs (Decidable (_/\_/\_/\_))
theorem EE {grp:ByteArray} {r:aC} (h:eO grp r=true):cQ r.currency=true/\r.currency≠grp/\(1<=r.value/\r.value<=1000000000000)/\((r.kind=1/\ -25567<=r.when_/\r.when_<=84005)\/(r.kind=2/\0<=r.when_/\r.when_<120)):=by
 unfold eO at h;simp only[Bool.and_eq_true,Bool.or_eq_true,decide_eq_true_eq]at h;exact⟨h.1.1.1,h.1.1.2,h.1.2,h.2⟩
theorem SZ {rs:List aC} (hn:(rs.map cW).Nodup) {r s:aC} (hr:r∈rs) (hs:s∈rs) (h:cW r=cW s):r=s:=by
 obtain⟨i,hi,rfl⟩:=List.getElem_of_mem hr;obtain⟨j,hj,rfl⟩:=List.getElem_of_mem hs;have e:i=j:=(List.getElem_inj (i:=i) (j:=j) (h₀:=by simpa using hi) (h₁:=by simpa using hj) hn).1 (by simpa using h);subst e;rfl
def dq (rs:List aC) (c:ByteArray) (k w:Int):Option Int:=(rs.find? (λr=>decide (cW r=(c,k,w)))).map (·.value)
theorem pL (r:aC) (rs:List aC) (c:ByteArray) (k w:Int):dq (r::rs) c k w=if cW r=(c,k,w)then some r.value else dq rs c k w:=by
 unfold dq;by_cases h:cW r=(c,k,w)
 ·rw[if_pos h,List.find?_cons_of_pos (by simpa using h)];rfl
 ·rw[if_neg h,List.find?_cons_of_neg (by simpa using h)]
theorem pM {rs:List aC} {c:ByteArray} {k w v:Int} (h:dq rs c k w=some v):∃r∈rs,cW r=(c,k,w)/\r.value=v:=by
 induction rs with
 |nil=>cases h
 |cons r rs ih=>
  rw[pL]at h;by_cases hk:cW r=(c,k,w)
  ·rw[if_pos hk]at h;exact⟨r,List.mem_cons_self ..,hk,by simpa using h⟩
  ·rw[if_neg hk]at h;obtain⟨s,h1,h2⟩:=ih h;exact⟨s,List.mem_cons_of_mem _ h1,h2⟩
def inW (c:ByteArray) (a b:Int) (r:aC):Prop:=r.currency=c/\r.kind=1/\a<=r.when_/\r.when_<=b
instance (c:ByteArray) (a b:Int) (r:aC):Decidable (inW c a b r):=inferInstanceAs (Decidable (_/\_/\_/\_))
def jT (rs:List aC) (c:ByteArray) (a b:Int):Option aC->Prop
 |none=>∀r∈rs,¬inW c a b r
 |some r=>r∈rs/\inW c a b r/\∀s∈rs,inW c a b s->s.when_<=r.when_
theorem jT.uniq {rs:List aC} (hn:(rs.map cW).Nodup) {c:ByteArray} {a b:Int} {o p:Option aC} (h:jT rs c a b o) (k:jT rs c a b p):o=p:=by
 cases o with
 |none=>
  cases p with
  |none=>rfl
  |some r=>exact absurd k.2.1 (h r k.1)
 |some r=>
  cases p with
  |none=>exact absurd h.2.1 (k r h.1)
  |some s=>
   have h1:=h.2.2 s k.1 k.2.1;have h2:=k.2.2 r h.1 h.2.1;have e:cW r=cW s:=by
    unfold cW;rw[h.2.1.1,k.2.1.1,h.2.1.2.1,k.2.1.2.1,show r.when_=s.when_ by omega]
   rw[SZ hn h.1 k.1 e]
theorem jT.next {rs:List aC} {c:ByteArray} {a b:Int} {o:Option aC} (h:jT rs c a b o) (r:aC):jT (rs++[r]) c a b (if inW c a b r/\(∀s,o=some s->s.when_<r.when_)then some r else o):=by
 by_cases hw:inW c a b r/\∀s,o=some s->s.when_<r.when_
 ·rw[if_pos hw];refine⟨by simp,hw.1,λs hs CR=>?_⟩;rcases List.mem_append.1 hs with hs|hs
  ·cases o with
   |none=>exact absurd CR (h s hs)
   |some t=>
    have:=h.2.2 s hs CR;have:=hw.2 t rfl;omega
  ·rw[List.mem_singleton]at hs;rw[hs];exact Int.le_refl _
 ·rw[if_neg hw];cases o with
  |none=>
   intro s hs CR;rcases List.mem_append.1 hs with hs|hs
   ·exact h s hs CR
   ·rw[List.mem_singleton]at hs;subst hs;exact hw ⟨CR,λt ht=>by cases ht⟩
  |some t=>
   refine⟨List.mem_append_left _ h.1,h.2.1,λs hs CR=>?_⟩;rcases List.mem_append.1 hs with hs|hs
   ·exact h.2.2 s hs CR
   ·rw[List.mem_singleton]at hs;subst hs;refine Decidable.byContradiction λaU=>hw ⟨CR,λt' ht'=>?_⟩
    cases ht';omega
def qh (rs:List aC) (c:ByteArray) (a b:Int):Int:=((rs.filter (λr=>decide (inW c a b r))).map (·.value)).sum
def ml (rs:List aC) (c:ByteArray) (a b:Int):Nat:=(rs.filter (λr=>decide (inW c a b r))).length
theorem Qk {l m:List Int} (h:l.Perm m):l.sum=m.sum:=by
 induction h with
 |nil=>rfl
 |cons x _ ih=>simp[ih]
 |swap x y l=>simp;omega
 |trans _ _ ih1 ih2=>exact ih1.trans ih2
theorem Mk {rs ss:List aC} {c:ByteArray} {a b:Int} (h:ss.Perm (rs.filter (λr=>decide (inW c a b r)))):(ss.map (·.value)).sum=qh rs c a b/\ss.length=ml rs c a b:=by
 unfold qh ml;exact⟨Qk (h.map _),h.length_eq⟩
structure XBk where
 g:au:={}
 es:List ak:=[]
 rs:List aC:=[]
def kJ:Option aC->aC->Bool
 |none,_=>true
 |some s,r=>decide (s.when_<r.when_)
def Ie (c:ByteArray) (a b:Int) (o:Option aC) (r:aC):Option aC:=if inW c a b r/\kJ o r=true then some r else o
def og (rs:List aC) (c:ByteArray) (a b:Int):Option aC:=rs.foldl (Ie c a b) none
theorem Mf {rs:List aC} {c:ByteArray} {a b:Int} {o:Option aC} (h:jT rs c a b o) (r:aC):jT (rs++[r]) c a b (Ie c a b o r):=by
 have h1:=h.next r;have e:(inW c a b r/\kJ o r=true)↔(inW c a b r/\∀s,o=some s->s.when_<r.when_):=by
  cases o with
  |none=>simp[kJ]
  |some s=>simp[kJ]
 unfold Ie;by_cases h2:inW c a b r/\kJ o r=true
 ·rw[if_pos h2];rw[if_pos (e.1 h2)]at h1;exact h1
 ·rw[if_neg h2];rw[if_neg (λh=>h2 (e.2 h))]at h1;exact h1
theorem Im (rs:List aC) (r:aC) (c:ByteArray) (a b:Int):og (rs++[r]) c a b=Ie c a b (og rs c a b) r:=by
 unfold og;rw[List.foldl_append];rfl
theorem E9 (c:ByteArray) (a b:Int) (rs:List aC):jT rs c a b (og rs c a b):=by
 have h:∀(m:Nat) (rs:List aC),rs.length=m->jT rs c a b (og rs c a b):=by
  intro m
  induction m with
  |zero=>
   intro rs hl;have:rs=[]:=List.eq_nil_of_length_eq_zero hl;subst this;intro r hr;cases hr
  |succ m ih=>
   intro rs hl;have bT:rs≠[]:=λe=>by rw[e]at hl;cases hl
   have e:=List.dropLast_concat_getLast bT;have h1:=ih rs.dropLast (by rw[List.length_dropLast];omega);have h2:=Mf h1 (rs.getLast bT);rw[<-Im,e]at h2;exact h2
 exact h _ rs rfl
def E8 (rs:List aC) (c:ByteArray) (d:Int):Int × Int:=match og rs c (d- 40) d with
 |some r=>(r.value,0)
 |none=>(0,13)
def DG (rs:List aC) (c:ByteArray) (a b q:Int):Int × Int:=match dq rs c 2 q with
 |some v=>(v,0)
 |none=>if ml rs c a b=0 then(0,13)else((2*qh rs c a b+ml rs c a b) / (2*ml rs c a b),0)
def bA (g:au) (p:Int):Int:=(bH g.calendar.year g.calendar.month g.calendar.periods p).1
def lJ (g:au) (p:Int):Int:=(aX g.calendar.year g.calendar.month g.calendar.periods p).1
def iC (g:au) (d:Int):Int:=(cT g.calendar.year g.calendar.month g.calendar.periods d).1
def kP (b:XBk) (aw:ByteArray) (basis date p:Int):Int × Int:=
 if aw=b.g.currency then(1000000,0)
 else if basis=2 then DG b.rs aw (lJ b.g (iC b.g date)) (bA b.g (iC b.g date)) (iC b.g date)
 else E8 b.rs aw (if basis=1 then bA b.g p else date)
def sn:Option bu->bu->Bool
 |none,_=>true
 |some s,r=>decide (s.since<r.since)
def zw (code gA:Int) (o:Option bu) (l:bu):Option bu:=if l.from_=code/\l.since<=gA/\sn o l=true then some l else o
def js (ls:List bu) (code gA:Int):Option bu:=ls.foldl (zw code gA) none
theorem GX (ls:List bu) (l:bu) (code gA:Int):js (ls++[l]) code gA=zw code gA (js ls code gA) l:=by
 unfold js;rw[List.foldl_append];rfl
def gz (e:aV) (code gA:Int):Int × Int:=
 if ¬(-25567<=gA/\gA<=84005)then(0,2)
 else if(aK e.chart code).isSome=false then(0,8)
 else match js e.links code gA with
  |some l=>(l.to_,0)
  |none=>(0,15)
def xV (g:au) (code:Int):Bool:=match aK g.chart code with
 |some a=>decide (a.kind=4\/a.kind=5)
 |none=>false
def tG (g:au) (p:Int):Int:=lJ g (p- p%12)
def lK (g:au) (code date p:Int):Int:=if date<tG g p/\xV g code=true then g.roles.retained else code
def dM (b:XBk) (ent code date p:Int):Int × Int × Int:=
 let e:=b.g.entities.getD ent.toNat {}
 let m:=gz e code (bA b.g p)
 if m.2≠0 then(0,0,15)
 else match aK b.g.chart m.1 with
  |none=>(0,0,15)
  |some a=>(m.1,kP b e.currency a.basis date p)
def jr (b:XBk) (x:ak) (k:Nat) (p:Int):bW × Int:=
 let l:=x.lines.getD k {}
 let m:=dM b x.entity l.account x.date p
 if m.2.2≠0 then({},m.2.2)
 else
  let n:=cN l.amount m.2.1
  if n.2≠0 then({},2)
  else(⟨⟨x.id,(k:Int)⟩,x.entity,lK b.g m.1 x.date p,l.partner,x.date,n.1⟩,0)
def kx (b:XBk) (p:Int) (x:ak):List (bW × Int):=(List.range x.lines.length).map (λj=>jr b x j p)
def kH (l:List (bW × Int)):List bW × Int:=match l.find? (λi=>i.2 !=0)with
 |some i=>([],i.2)
 |none=>(l.map (·.1),0)
theorem DP {l:List (bW × Int)} (h:∀i∈l,i.2=0):kH l=(l.map (·.1),0):=by
 unfold kH;rw[List.find?_eq_none.2 (λi hi=>by simpa using h i hi)]
theorem Ai {l m:List (bW × Int)} {i:bW × Int} (h:∀x∈l,x.2=0) (hi:i.2≠0):kH (l++i::m)=([],i.2):=by
 unfold kH;rw[List.find?_append,List.find?_eq_none.2 (λi hi=>by simpa using h i hi),Option.none_or,List.find?_cons_of_pos (by simpa using hi)]
theorem ale {l:List (bW × Int)} (h:(kH l).2=0):(∀i∈l,i.2=0)/\(kH l).1=l.map (·.1):=by
 unfold kH at h |-;cases e:l.find? (λi=>i.2 !=0)with
 |some i=>
  rw[e]at h;have:=List.find?_some e;simp only at h;rw[h]at this;simp at this
 |none=>
  exact⟨λi hi=>by simpa using List.find?_eq_none.1 e i hi,rfl⟩
theorem agw {l:List (bW × Int)} (h:(kH l).2≠0):(kH l).1=[]:=by
 unfold kH at h |-;cases e:l.find? (λi=>i.2 !=0)with
 |some i=>rfl
 |none=>rw[e]at h;exact absurd rfl h
def ZA (b:XBk) (p:Int) (es:List ak):List bW × Int:=kH (es.flatMap (kx b p))
def ltX (x y:ak):Prop:=x.date<y.date\/x.date=y.date/\x.id<y.id
instance (x y:ak):Decidable (ltX x y):=inferInstanceAs (Decidable (_\/_/\_))
theorem alL (x:ak):¬ltX x x:=λh=>by unfold ltX at h;omega
theorem akE {x y z:ak} (h:ltX x y) (k:ltX y z):ltX x z:=by unfold ltX at*;omega
def xw (es fs:List ak):Prop:=fs.Perm es/\fs.Pairwise ltX
theorem yx:∀{a b:List ak},a.Pairwise ltX->b.Pairwise ltX->a.Perm b->a=b
 |[],b,_,_,h=>(List.nil_perm.1 h).symm
 |x::a,[],_,_,h=>absurd h.symm (by simp)
 |x::a,y::b,ha,hb,h=>by
  rw[List.pairwise_cons]at ha hb;have e:x=y:=by
   rcases List.mem_cons.1 (h.mem_iff.1 (List.mem_cons_self (a:=x) (l:=a)))with e|hx
   ·exact e
   ·rcases List.mem_cons.1 (h.mem_iff.2 (List.mem_cons_self (a:=y) (l:=b)))with e|hy
    ·exact e.symm
    ·exact absurd (akE (ha.1 y hy) (hb.1 x hx)) (alL x)
  subst e;rw[yx ha.2 hb.2 (List.Perm.cons_inv h)]
theorem xw.uniq {es fs gs:List ak} (h:xw es fs) (k:xw es gs):fs=gs:=yx h.2 k.2 (h.1.trans k.1.symm)
theorem Ey (n:Int) (w:World):Calls Tryz.prog 104 #[n] w (ap w (.bool (decide (-1000000000000<=n/\n<=1000000000000)))):=by
 obtain⟨R,hR⟩:∃b:Bool,decide (-1000000000000<=n/\n<=1000000000000)=b:=⟨_,rfl⟩;have HR:=H_ hR;rw[hR];clear hR;go_enter Tryz.func104,Tryz.ntmps104;by_cases h1: -1000000000000<=n
 case neg=>
  have hf:=H_ (show R=false by rw[<-HR.o];exact decide_eq_false (λh=>h1 h.1));have tR:decide (n≥ -1000000000000)=false:=decide_eq_false h1;have h1e:decide (-1000000000000<=n)=false:=decide_eq_false h1;clear h1;go_wp2_with fail;go_ret;exact⟨by rw[hf.o];rfl,Below.refl _ _⟩
 case pos=>
 have tR:decide (n≥ -1000000000000)=true:=decide_eq_true h1;have h1e:decide (-1000000000000<=n)=true:=decide_eq_true h1;by_cases h2:n<=1000000000000
 case pos=>
  have hf:=H_ (show R=true by rw[<-HR.o];exact decide_eq_true ⟨h1,h2⟩);have tt:decide (n<=1000000000000)=true:=decide_eq_true h2;clear h1 h2;go_wp2_with fail;go_ret;exact⟨by rw[hf.o];rfl,Below.refl _ _⟩
 case neg=>
  have hf:=H_ (show R=false by rw[<-HR.o];exact decide_eq_false (λh=>h2 h.2));have tt:decide (n<=1000000000000)=false:=decide_eq_false h2;clear h1 h2;go_wp2_with fail;go_ret;exact⟨by rw[hf.o];rfl,Below.refl _ _⟩
theorem kM (n:Int) (w:World):Calls Tryz.prog 156 #[n] w (ap w (.tuple #[.int .i64 (if -1000000000000<=n/\n<=1000000000000 then n else 0),.int .i64 (if -1000000000000<=n/\n<=1000000000000 then 0 else 2)])):=by
 have HV:=H_ (Ey n w);go_enter Tryz.func156,Tryz.ntmps156;by_cases h: -1000000000000<=n/\n<=1000000000000
 case pos=>
  rw[if_pos h,if_pos h];have hd:decide (-1000000000000<=n/\n<=1000000000000)=true:=decide_eq_true h;rw[hd]at HV;clear hd h;go_wp2_with fail;refine HV.o.mono ?_;rintro e w2 ⟨rfl,hb⟩;go_wp2_with fail;go_ret2;exact⟨rfl,hb⟩
 case neg=>
  rw[if_neg h,if_neg h];have hd:decide (-1000000000000<=n/\n<=1000000000000)=false:=decide_eq_false h;rw[hd]at HV;clear hd h;go_wp2_with fail;refine HV.o.mono ?_;rintro e w2 ⟨rfl,hb⟩;go_wp2_with fail;go_ret2;exact⟨rfl,hb⟩
theorem vW {n r o v:Int} (hn: -1000000000000<=n/\n<=1000000000000) (hr:1<=r/\r<=1000000000000) (Cy:¬1000000000000< (n.natAbs:Int)*(r/ 1000000)) (ho:iG n.natAbs r=o) (h0:0<=o) (hv:v=if n<0 then -o else o):cN n r=(if -1000000000000<=v/\v<=1000000000000 then v else 0,if -1000000000000<=v/\v<=1000000000000 then 0 else 2):=by
 unfold cN;rw[if_neg (by omega),if_neg Cy,ho,<-hv];by_cases h:1000000000000<o
 ·rw[if_pos h,if_neg (by rw[hv];split<;>omega),if_neg (by rw[hv];split<;>omega)]
 ·rw[if_neg h,if_pos (by rw[hv];split<;>omega),if_pos (by rw[hv];split<;>omega)]
theorem Hj (n:Int):max n (-n)=(n.natAbs:Int):=by omega
theorem LQ (n r:Int) (w:World) (hn: -1000000000000<=n/\n<=1000000000000) (hr:1<=r/\r<=1000000000000):Calls Tryz.prog 114 #[n,r,(1000000:Int)] w (ap w (.tuple #[.int .i64 (cN n r).1,.int .i64 (cN n r).2])):=by
 obtain⟨a,ha⟩:=x_ ((n.natAbs:Int));obtain⟨q,hq⟩:∃a:Int,r/ 1000000=a:=⟨_,rfl⟩;obtain⟨s,hs⟩:∃a:Int,r%1000000=a:=⟨_,rfl⟩;have m3:0<=a/\a<=1000000000000:=by omega
 have zO:0<=q/\q<=1000000:=by omega
 have Bi:0<=s/\s<1000000:=by omega
 have HMX:=H_ (show max n (-n)=a by rw[Hj];exact ha);have HQ:=H_ (show r.tdiv 1000000=q by rw[Int.tdiv_eq_ediv_of_nonneg (by omega)];exact hq);have HS:=H_ (show r.tmod 1000000=s by rw[Int.tmod_eq_emod_of_nonneg (by omega)];exact hs);have Yr:=H_ (show iG n.natAbs r=a*q+(2*(a*s)+1000000) / 2000000 by unfold iG;rw[ha,hq,hs]);have HAA:=H_ ha;have Z0:=H_ hq;have HWQ:=H_ (show IntKind.i64.wrap q=q by rw[IntKind.wrap_i64];omega);have TH:=H_ (show IntKind.i64.wrap s=s by rw[IntKind.wrap_i64];omega);clear ha hq hs;go_enter Tryz.func114,Tryz.ntmps114;have hmx:=HMX.o;go_upto_region 2 with fail;refine bp (Ks w [r,(1000000:Int),q,r,(1000000:Int),s,q,s])
  (λw'=>w'=w.drew) K_ K_ K_ rfl ?_ ?_
 ·refine⟨b_ (q_ 1),b_ (q_ 2),?_,b_ (q_ 1),b_ (q_ 2),?_,b_ (p_ 2 18),b_ (p_ 5 21),trivial⟩
  ·intro _ A0 w2 hI hd hnd K hK;have e0:=hI.p hd 0 16;have e1:=hI.p hd 1 17;have hS:=H_ (show w2=w.drew from hI.world);have hq:=HQ.o;have hwq:=HWQ.o;exact hI.z hK
  ·intro _ A0 w2 hI hd hnd K hK;have e0:=hI.p hd 3 19;have e1:=hI.p hd 4 20;have hS:=H_ (show w2=w.drew from hI.world);have hs:=HS.o;have hws:=TH.o;exact hI.z hK
 ·intro _ A0 w2 hI hall;obtain⟨x0,g0,h0⟩:=hI.got 0 _ 16 rfl rfl (hall 0 (by decide));obtain⟨x1,g1,h1⟩:=hI.got 1 _ 17 rfl rfl (hall 1 (by decide));obtain⟨x2,g2,h2⟩:=hI.got 2 _ 18 rfl rfl (hall 2 (by decide));obtain⟨x3,g3,h3⟩:=hI.got 3 _ 19 rfl rfl (hall 3 (by decide));obtain⟨x4,g4,h4⟩:=hI.got 4 _ 20 rfl rfl (hall 4 (by decide));obtain⟨x5,g5,h5⟩:=hI.got 5 _ 21 rfl rfl (hall 5 (by decide));obtain⟨x6,g6,h6⟩:=hI.got 6 _ 9 rfl rfl (hall 6 (by decide));obtain⟨x7,g7,h7⟩:=hI.got 7 _ 10 rfl rfl (hall 7 (by decide));obtain rfl:w2=w.drew:=hI.world;have hA:A0=_:=hI.tmps [(16,x0),(17,x1),(18,x2),(19,x3),(20,x4),(21,x5),(9,x6),(10,x7)] (by simp only[List.mem_cons,List.not_mem_nil,or_false,forall_eq_or_imp,forall_eq];exact⟨g0,g1,g2,g3,g4,g5,g6,g7⟩) K_;obtain rfl:x0=.int .i64 r:=h0 _ rfl;obtain rfl:x1=.int .i64 1000000:=h1 _ rfl;obtain rfl:x2=.int .i64 q:=h2 _ rfl;obtain rfl:x3=.int .i64 r:=h3 _ rfl;obtain rfl:x4=.int .i64 1000000:=h4 _ rfl;obtain rfl:x5=.int .i64 s:=h5 _ rfl;obtain rfl:x6=.int .i64 q:=h6 _ rfl;obtain rfl:x7=.int .i64 s:=h7 _ rfl;clear h0 g0 h1 g1 h2 g2 h3 g3 h4 g4 h5 g5 h6 g6 h7 g7 hI hall;simp only[ba,List.foldl,List.setIfInBounds_toArray,List.set_cons_zero,List.set_cons_succ]at hA;rw[hA];clear hA;clear hmx;by_cases Cy:1000000000000<a*q
  case pos=>
   have Gn:=H_ Cy;have hC:=H_ (show cN n r=(0,2) by unfold cN;rw[if_neg (by omega),HAA.o,Z0.o,if_pos Gn.o]);have zG:0<q:=by
    rcases Int.lt_or_le 0 q with h|h
    ·exact h
    ·have:q=0:=by omega
     rw[this]at Cy;simp at Cy
   have Xn:=H_ (show(1000000000000:Int).tdiv q<a by rw[Int.tdiv_eq_ediv_of_nonneg (by omega)];exact(BL zG).2 Cy);have aaR:decide (q>0)=true:=decide_eq_true zG;obtain⟨mq,Sj⟩:∃z:Int,(1000000000000:Int).tdiv q=z:=⟨_,rfl⟩;have hmb:0<=mq/\mq<=1000000000000:=by
    rw[<-Sj,Int.tdiv_eq_ediv_of_nonneg (by omega)];exact⟨Int.ediv_nonneg (by omega) (by omega),Int.ediv_le_self _ (by omega)⟩
   have hwm:IntKind.i64.wrap mq=mq:=by rw[IntKind.wrap_i64];omega
   have JZ:=Xn.o;rw[Sj]at JZ;have Y7:decide (a>mq)=true:=decide_eq_true JZ;have aeh:¬q=0:=by omega
   clear Cy JZ zG hmb;go_wp2_with fail;go_ret2;exact⟨by rw[hC.o];rfl,(Below.refl _ _).drew⟩
  case neg=>
   have YO:=H_ (show 0<=a*q from sx m3.1 zO.1);have Xj:0<=a*s/\a*s<=1000000000000*999999:=⟨sx m3.1 Bi.1,Pg m3.1 m3.2 Bi.1 (by omega)⟩;obtain⟨X,hX⟩:∃z:Int,a*q=z:=⟨_,rfl⟩;obtain⟨Y,hY⟩:∃z:Int,2*a*s=z:=⟨_,rfl⟩;have hY2:Y=2*(a*s):=by rw[<-hY,Int.mul_assoc]
   have hcx:0<=X/\X<=1000000000000:=by rw[<-hX];exact⟨YO.o,by omega⟩
   have Sk:0<=Y/\Y<=2000000000000000000:=by omega
   obtain⟨Z,hZ⟩:∃z:Int,(Y+1000000).tdiv 2000000=z:=⟨_,rfl⟩;have hZ2:Z=(Y+1000000) / 2000000:=by rw[<-hZ,Int.tdiv_eq_ediv_of_nonneg (by omega)]
   have TV:0<=Z/\Z<=1000000000001:=by omega
   have HCO:=H_ (show iG n.natAbs r=X+Z by rw[Yr.o,hX,hZ2,hY2]);have Gn:=H_ Cy;have HQ0:=H_ (show 0<q->¬(1000000000000:Int).tdiv q<a from λh0=>by
    rw[Int.tdiv_eq_ediv_of_nonneg (by omega)];exact λh=>Gn.o ((BL h0).1 h))
   have HXX:=H_ hX;have HYY:=H_ hY;have RA:=H_ hZ;have vt:=H_ (And.intro hcx (And.intro Sk TV));clear Cy hX hY hY2 hZ hZ2 Xj hcx Sk TV;have dA:=vt.o;have hX:=HXX.o;have hY:=HYY.o;have hZ:=RA.o;obtain⟨hx,hy,hz⟩:=dA;have hcut:∀(t9:Prop),True:=λ_=>trivial
   have lg:=H_ (λ(z:Int) (w2:World)=>kM z w2);have hMQ:∃mq:Int,(1000000000000:Int).tdiv q=mq/\(0<q->IntKind.i64.wrap mq=mq/\¬mq<a):=⟨_,rfl,λh0=>by
    refine⟨?_,HQ0.o h0⟩;have h1:0<=(1000000000000:Int) / q:=Int.ediv_nonneg (by omega) (by omega);have h2:(1000000000000:Int) / q<=1000000000000:=Int.ediv_le_self _ (by omega);rw[Int.tdiv_eq_ediv_of_nonneg (by omega),IntKind.wrap_i64];omega⟩
   obtain⟨mq,Sj,abC⟩:=hMQ;have Oh:=H_ abC;clear abC hcut;have Vl:True:=trivial;rcases Int.lt_or_le 0 q with zG|zG
   case inl=>
    have aaR:decide (q>0)=true:=decide_eq_true zG;have aeh:¬q=0:=by omega
    obtain⟨hwm,nz⟩:=Oh.o zG;have Y7:decide (a>mq)=false:=decide_eq_false nz;clear zG nz Vl;go_upto_region 6 with fail;obtain⟨o,ho⟩:∃z:Int,X+Z=z:=⟨_,rfl⟩;rw[ho];have HO:=H_ (show iG n.natAbs r=o/\0<=o/\o<=3000000000000 from⟨HCO.o.trans ho,by omega,by omega⟩);have Fl:=H_ (λ(v:Int) (hv:v=if n<0 then -o else o)=>vW (n:=n) (r:=r) hn hr (by rw[HAA.o,Z0.o];exact Gn.o) HO.o.1 HO.o.2.1 hv);clear ho hx hy hz hX hY hZ;by_cases rI:n<0
    case pos=>
     have hnd:decide (n<0)=true:=decide_eq_true rI;have fg:IntKind.i64.wrap (-o)= -o:=by have:=HO.o.2;rw[IntKind.wrap_i64];omega
     have jY:=Fl.o (-o) (by rw[if_pos rI]);have hc:=kM (-o) w.drew;obtain⟨r1,qI⟩:∃z:Int,(if -1000000000000<=(-o)/\(-o)<=1000000000000 then(-o)else 0)=z:=⟨_,rfl⟩;obtain⟨r2,nJ⟩:∃z:Int,(if -1000000000000<=(-o)/\(-o)<=1000000000000 then(0:Int)else 2)=z:=⟨_,rfl⟩;rw[qI,nJ]at hc jY;have FK:=H_ hc;have Fw:=H_ jY;clear rI jY hc qI nJ;go_wp2_with fail;refine FK.o.mono ?_;rintro e w3 ⟨rfl,aZ⟩;go_wp2_with fail;go_ret2;exact⟨by rw[Fw.o];rfl,(Below.refl _ _).drew.trans aZ⟩
    case neg=>
     have hnd:decide (n<0)=false:=decide_eq_false rI;have jY:=Fl.o o (by rw[if_neg rI]);have hc:=kM o w.drew;obtain⟨r1,qI⟩:∃z:Int,(if -1000000000000<=o/\o<=1000000000000 then o else 0)=z:=⟨_,rfl⟩;obtain⟨r2,nJ⟩:∃z:Int,(if -1000000000000<=o/\o<=1000000000000 then(0:Int)else 2)=z:=⟨_,rfl⟩;rw[qI,nJ]at hc jY;have FK:=H_ hc;have Fw:=H_ jY;clear rI jY hc qI nJ;go_wp2_with fail;refine FK.o.mono ?_;rintro e w3 ⟨rfl,aZ⟩;go_wp2_with fail;go_ret2;exact⟨by rw[Fw.o];rfl,(Below.refl _ _).drew.trans aZ⟩
   case inr=>
    have act:q=0:=by omega
    have aaR:decide (q>0)=false:=decide_eq_false (by omega);clear zG Vl;go_upto_region 6 with fail;obtain⟨o,ho⟩:∃z:Int,X+Z=z:=⟨_,rfl⟩;have hxz:X=0:=by rw[<-hX,act];simp
    obtain rfl:o=Z:=by rw[<-ho,hxz];simp
    have HO:=H_ (show iG n.natAbs r=o/\0<=o/\o<=3000000000000 from⟨HCO.o.trans ho,by omega,by omega⟩);have Fl:=H_ (λ(v:Int) (hv:v=if n<0 then -o else o)=>vW (n:=n) (r:=r) hn hr (by rw[HAA.o,Z0.o];exact Gn.o) HO.o.1 HO.o.2.1 hv);clear ho hx hy hz hX hY hZ;by_cases rI:n<0
    case pos=>
     have hnd:decide (n<0)=true:=decide_eq_true rI;have fg:IntKind.i64.wrap (-o)= -o:=by have:=HO.o.2;rw[IntKind.wrap_i64];omega
     have jY:=Fl.o (-o) (by rw[if_pos rI]);have hc:=kM (-o) w.drew;obtain⟨r1,qI⟩:∃z:Int,(if -1000000000000<=(-o)/\(-o)<=1000000000000 then(-o)else 0)=z:=⟨_,rfl⟩;obtain⟨r2,nJ⟩:∃z:Int,(if -1000000000000<=(-o)/\(-o)<=1000000000000 then(0:Int)else 2)=z:=⟨_,rfl⟩;rw[qI,nJ]at hc jY;have FK:=H_ hc;have Fw:=H_ jY;clear rI jY hc qI nJ;go_wp2_with fail;refine FK.o.mono ?_;rintro e w3 ⟨rfl,aZ⟩;go_wp2_with fail;go_ret2;exact⟨by rw[Fw.o];rfl,(Below.refl _ _).drew.trans aZ⟩
    case neg=>
     have hnd:decide (n<0)=false:=decide_eq_false rI;have jY:=Fl.o o (by rw[if_neg rI]);have hc:=kM o w.drew;obtain⟨r1,qI⟩:∃z:Int,(if -1000000000000<=o/\o<=1000000000000 then o else 0)=z:=⟨_,rfl⟩;obtain⟨r2,nJ⟩:∃z:Int,(if -1000000000000<=o/\o<=1000000000000 then(0:Int)else 2)=z:=⟨_,rfl⟩;rw[qI,nJ]at hc jY;have FK:=H_ hc;have Fw:=H_ jY;clear rI jY hc qI nJ;go_wp2_with fail;refine FK.o.mono ?_;rintro e w3 ⟨rfl,aZ⟩;go_wp2_with fail;go_ret2;exact⟨by rw[Fw.o];rfl,(Below.refl _ _).drew.trans aZ⟩
theorem He (n r:Int) (w:World):Calls Tryz.prog 81 #[n,r] w (ap w (.tuple #[.int .i64 (cN n r).1,.int .i64 (cN n r).2])):=by
 obtain⟨c1,fP⟩:∃z,(cN n r).1=z:=⟨_,rfl⟩;obtain⟨c2,gn⟩:∃z,(cN n r).2=z:=⟨_,rfl⟩;have HC:=H_ (And.intro fP gn);rw[fP,gn];have HB:=H_ (show ¬((-1000000000000<=n/\n<=1000000000000)/\1<=r/\r<=1000000000000)->c1=0/\c2=1 from λh=>by
  rw[<-fP,<-gn];unfold cN;rw[if_pos (by omega)];exact⟨rfl,rfl⟩)
 have zU:=H_ (λ(h1: -1000000000000<=n/\n<=1000000000000) (h2:1<=r/\r<=1000000000000) (w2:World)=>show Calls Tryz.prog 114 #[n,r,(1000000:Int)] w2 (ap w2 (.tuple #[c1,c2])) by
  have h:=LQ n r w2 h1 h2
  rwa[fP,gn]at h)
 clear fP gn;obtain⟨b,hb⟩:=x_ (decide (-1000000000000<=n/\n<=1000000000000));have hv:=Ey n w;rw[hb]at hv;have HV:=H_ hv;have vt:=H_ hb;clear hv hb;go_enter Tryz.func81,Tryz.ntmps81;go_wp2_with fail;refine HV.o.mono ?_;rintro e w2 ⟨rfl,aH⟩;cases b with
 |false=>
  obtain⟨rfl,rfl⟩:=HB.o (λh=>of_decide_eq_false vt.o h.1);go_wp2_with fail;go_ret2;exact⟨rfl,aH⟩
 |true=>
 have HN:=H_ (of_decide_eq_true vt.o);by_cases h1:r<1
 case pos=>
  have tR:decide (r<1)=true:=decide_eq_true h1;obtain⟨rfl,rfl⟩:=HB.o (λh=>by omega);clear h1;go_wp2_with fail;go_ret2;exact⟨rfl,aH⟩
 case neg=>
 have tR:decide (r<1)=false:=decide_eq_false h1;by_cases h2:1000000000000<r
 case pos=>
  have tt:decide (r>1000000000000)=true:=decide_eq_true h2;obtain⟨rfl,rfl⟩:=HB.o (λh=>by omega);clear h1 h2;go_wp2_with fail;go_ret2;exact⟨rfl,aH⟩
 case neg=>
 have tt:decide (r>1000000000000)=false:=decide_eq_false h2;have HR:=H_ (show 1<=r/\r<=1000000000000 by omega);clear h1 h2;go_wp2_with fail;refine(zU.o HN.o HR.o w2).mono ?_;rintro e w3 ⟨rfl,aZ⟩;go_wp2_with fail;go_ret2;exact⟨rfl,aH.trans (aZ.mono aH.size)⟩
theorem Zp (c:Nat) (w:World):Calls Tryz.prog 154 #[.int .u8 (c:Int)] w (ap w (.bool (!akd c))):=by
 obtain⟨R,hR⟩:∃b:Bool,(!akd c)=b:=⟨_,rfl⟩;have HR:=H_ hR;rw[hR];clear hR;go_enter Tryz.func154,Tryz.ntmps154;by_cases h1:(c:Int)<65
 case pos=>
  have hf:=H_ (show R=true by rw[<-HR.o];unfold akd;simp;omega);have tR:decide ((c:Int)<65)=true:=decide_eq_true h1;clear h1;go_wp2_with fail;go_ret;exact⟨by rw[hf.o];rfl,Below.refl _ _⟩
 case neg=>
 have tR:decide ((c:Int)<65)=false:=decide_eq_false h1;by_cases h2:90< (c:Int)
 case pos=>
  have hf:=H_ (show R=true by rw[<-HR.o];unfold akd;simp;omega);have tt:decide ((c:Int)>90)=true:=decide_eq_true h2;clear h1 h2;go_wp2_with fail;go_ret;exact⟨by rw[hf.o];rfl,Below.refl _ _⟩
 case neg=>
  have hf:=H_ (show R=false by rw[<-HR.o];unfold akd;simp;omega);have tt:decide ((c:Int)>90)=false:=decide_eq_false h2;clear h1 h2;go_wp2_with fail;go_ret;exact⟨by rw[hf.o];rfl,Below.refl _ _⟩
def ncI (s:ByteArray):Int:=iB (λk=> !akd (bat s k)) (List.range s.size)
theorem Zw (s:ByteArray) (g cap:Nat) (w:World) (hc:∀k,k<s.size->w.cell? ⟨g,k,none⟩=some (.int .u8 (bat s k:Int))) (hg:g<w.heap.size) (hs:s.size<=cap) (KD:cap<=maxLen):Calls Tryz.prog 197 #[.slice (some ⟨g,0,none⟩) s.size cap,.func (.func 154) #[] #[]] w (ap w (.int .i64 (ncI s))):=by
 obtain⟨R,hR⟩:∃z,ncI s=z:=⟨_,rfl⟩;have HR:=H_ hR;have HC:=H_ hc;have HG:=H_ hg;unfold maxLen at KD;obtain⟨n,hn⟩:=x_ (s.size);have HN:=H_ hn;rw[hR];rw[hn]at hs |-;clear hR hc hg hn;go_enter Tryz.func197,Tryz.ntmps197;go_wp2_with fail
 go_loopw [8] (λi wr=>∃k:Nat,k<=n/\i=.int .i64 (k:Int)/\Below w.heap.size w wr/\∀j,j<k->akd (bat s j)=true) (λi _=>n- (intOf i).toNat)
 case atStart=>exact⟨0,by omega,rfl,Below.refl _ _,λj h=>by omega⟩
 case round=>
  obtain⟨k,hk,rfl,hb,hall⟩:=hrel;have HA:=H_ hall;clear hall;have bP:=hb.size;by_cases aU:k<n
  case pos=>
   have bq:(k:Int)< (n:Int):=by omega
   have CP:wr.cell? ⟨g,k,none⟩=some (.int .u8 (bat s k:Int)):=(hb.cell (p:=⟨g,k,none⟩) HG.o).trans (HC.o k (by rw[HN.o];exact aU));obtain⟨cb,lS⟩:∃q,bat s k=q:=⟨_,rfl⟩;rw[lS]at CP;have Sh:=H_ lS;clear lS;go_wp2_with fail;refine(Zp cb wr).mono ?_;rintro e w2 ⟨rfl,aH⟩;have dA:=hb.trans (aH.mono hb.size);cases hp:akd cb with
   |false=>
    have hf:=H_ (show R=(k:Int) by
     rw[<-HR.o];unfold ncI;refine nW (by simp[HN.o,aU]) (by simp[Sh.o,hp]) (λj hj m7=>?_);simp[HA.o j m7])
    clear hp;simp only[Bool.not_false];go_wp2_with fail;go_ret;exact⟨hf.o.symm▸rfl,dA⟩
   |true=>
    have HP:=H_ hp;clear hp;simp only[Bool.not_true];go_wp2_with fail;go_roundw
    case rel=>exact⟨k+1,by omega,by go_num,dA,λj m7=>by
     rcases Nat.lt_or_ge j k with h|h
     ·exact HA.o j h
     ·have:j=k:=by omega
      subst this;rw[Sh.o];exact HP.o⟩
    case measure=>
     have e:wrap64 ((k:Int)+1)=((k+1:Nat):Int):=by unfold wrap64;omega
     simp only[intOf,e];omega
  case neg=>
   have bq:¬(k:Int)< (n:Int):=by omega
   have hf:=H_ (show R= -1 by
    rw[<-HR.o];unfold ncI;refine mf (λj hj=>?_);rw[List.length_range,HN.o]at hj;simp[HA.o j (by omega)])
   go_wp2_with fail;go_ret;exact⟨hf.o.symm▸rfl,hb⟩
theorem S9 {s:ByteArray}:decide (0<=ncI s)= !((List.range s.size).all (λk=>akd (bat s k))):=by
 cases h:(List.range s.size).all (λk=>akd (bat s k))with
 |true=>
  rw[List.all_eq_true]at h;have:ncI s= -1:=mf (λj hj=>by
   rw[List.length_range]at hj;simp[h j (List.mem_range.2 hj)])
  rw[this];rfl
 |false=>
  have h2:¬ncI s<0:=λaU=>by
   unfold ncI iB at aU;cases e:(List.range s.size).findIdx? (λk=> !akd (bat s k))with
   |some q=>rw[e]at aU;simp at aU;omega
   |none=>
    rw[List.findIdx?_eq_none_iff]at e;rw[List.all_eq_false]at h;obtain⟨k,hk,hc⟩:=h;have:=e k hk;simp at this;rw[this]at hc;exact hc rfl
  simp;omega
theorem Zg (s:ByteArray) (g cap:Nat) (w:World) (hc:∀k,k<s.size->w.cell? ⟨g,k,none⟩=some (.int .u8 (bat s k:Int))) (hg:g<w.heap.size) (hs:s.size<=cap) (KD:cap<=maxLen):Calls Tryz.prog 153 #[.slice (some ⟨g,0,none⟩) s.size cap,.func (.func 154) #[] #[]] w (ap w (.bool (decide (0<=ncI s)))):=by
 have aM:=Zw s g cap w hc hg hs KD;obtain⟨n,hn⟩:=x_ (s.size);obtain⟨R,hR⟩:∃z,ncI s=z:=⟨_,rfl⟩;rw[hn,hR]at aM;rw[hn,hR];have XA:=H_ aM;clear aM hc hg hs KD hn hR;go_enter Tryz.func153,Tryz.ntmps153;go_wp2_with fail;refine XA.o.mono ?_;rintro e w2 ⟨rfl,aH⟩;go_wp2_with fail;go_ret;exact⟨by first|rfl|simp,aH⟩
theorem Cq {ops:Array Oper} {rest:List Oper} {o:Oper} {a:Act} {w:World} {Q:Exit->Act->World->Prop} (hw:Region.wanted o (yielded ops a.tmps)=true) (x:Operand) (pC:o.op=Op.convert 9 198 x) (s:ByteArray) (hx:a.eval x=.string s) (hs:s.size<=maxLen)
 (hK:∀(cap:Nat) (w2:World),(∀k,k<s.size->w2.cell? ⟨w.heap.size,k,none⟩=some (.int .u8 (bat s k:Int)))->w.heap.size<w2.heap.size->s.size<=cap->cap<=maxLen->Below w.heap.size w w2->wpList Tryz.prog ops Q rest (a.put o.dst (.slice (some ⟨w.heap.size,0,none⟩) s.size cap)) w2):wpList Tryz.prog ops Q (o::rest) a w:=
 wpList_step λK' hK'=>by
  rw[if_pos hw];have eC:=run_bytes_of_string (P:=Tryz.prog) w 9 198 5 s K_ K_ K_;unfold Oper.wp;simp[execOp,pC,hx,eC,Result.andThen];refine hK' _ _ (hK _ _ (λk hk=>?_) ?_ (grownCap_ge _ _ _ _) (grownCap_le_maxLen _ _ _ _ hs) ?_)
  ·have h1:=heap_alloc_new w.drew (.cells (bytesRow s (grownCap w s.size 0 5)) 5 ((bytesRow s (grownCap w s.size 0 5)).size,(bytesRow s (grownCap w s.size 0 5)).size+1));have h2:=bytesRow_at s (grownCap w s.size 0 5) k hk;rw[show(w.drew.heap.size)=w.heap.size from rfl]at h1;have h3:(w.drew.alloc (.cells (bytesRow s (grownCap w s.size 0 5)) 5 ((bytesRow s (grownCap w s.size 0 5)).size,(bytesRow s (grownCap w s.size 0 5)).size+1))).cell? ⟨w.heap.size,k,none⟩=(bytesRow s (grownCap w s.size 0 5))[k]? :=by
    simp only[World.cell?,h1];rfl
   have h4:=h3.trans h2;refine Eq.trans ?_ (h4.trans ?_)
   ·rfl
   ·unfold bat
    rw[Array.getD_eq_getD_getElem?,Array.getElem?_eq_getElem (show k<s.data.size from hk)];rfl
  ·have:=ag (heap_alloc_new w.drew (.cells (bytesRow s (grownCap w s.size 0 5)) 5 ((bytesRow s (grownCap w s.size 0 5)).size,(bytesRow s (grownCap w s.size 0 5)).size+1)));exact this
  ·exact((Below.refl _ _).drew).alloc (Nat.le_refl _) _
theorem BK (s:ByteArray) (w:World) (hs:s.size<=140737488355328):Calls Tryz.prog 112 #[s] w (ap w (.bool (cQ s))):=by
 obtain⟨R,hR⟩:∃b,cQ s=b:=⟨_,rfl⟩;have HR:=H_ hR;rw[hR];clear hR;go_enter Tryz.func112,Tryz.ntmps112;by_cases h3:s.size=3
 case neg=>
  have hf:=H_ (show R=false by rw[<-HR.o];unfold cQ;simp[h3]);have QD:((s.size:Int)==3)=false:=by simp;omega
  clear h3;go_wp2_with fail;go_ret;exact⟨by rw[hf.o];rfl,Below.refl _ _⟩
 case pos=>
  have HS:=H_ h3;have QD:((s.size:Int)==3)=true:=by simp;omega
  have yP:=H_ (show R= !(decide (0<=ncI s)) by rw[<-HR.o,S9];unfold cQ;simp[h3]);clear h3;go_wp2_with (show wpList _ _ _ (Oper.mk (some 8) _ _ _ _ _::_) _ _;refine Cq (by rfl) (.tmp 7) rfl s rfl (by unfold maxLen;omega) ?_;intro cap w2 hc aU gr KD aH;replace hc:=H_ hc);refine(Zg s w.heap.size cap w2 hc.o aU gr KD).mono ?_;rintro e w3 ⟨rfl,aZ⟩;go_wp2_with fail;go_ret;exact⟨by rw[yP.o];first|rfl|simp,aH.trans (aZ.mono aH.size)⟩
theorem Hp (grp:ByteArray) (aw:ByteArray) (k t v:Int) (w:World) (hs:aw.size<=140737488355328):Calls Tryz.prog 110 #[grp,.agg #[aw,k,t,v]] w (ap w (.bool (eO grp ⟨aw,k,t,v⟩))):=by
 obtain⟨R,hR⟩:∃b,eO grp ⟨aw,k,t,v⟩=b:=⟨_,rfl⟩;have HR:=H_ hR;rw[hR];obtain⟨b1,eL⟩:∃b,cQ aw=b:=⟨_,rfl⟩;have bC:=H_ eL;have HCU:=H_ (λw2:World=>BK aw w2 hs);rw[eL]at HCU;clear hR eL;go_enter Tryz.func110,Tryz.ntmps110;go_upto_region 1 with fail;obtain⟨W,hW,H,HB,HS,ewx⟩:=B_ w (.cells #[aw,k,t,v] 70);rw[hW];clear ewx;clear hW;have HX:=H_ H;have e0:=ab H 0;clear H;go_wp2_with fail;refine(HCU.o W).mono ?_;rintro e w2 ⟨rfl,aH⟩;have aF:=HB.trans (aH.mono HB.size);have hx2:=(aH.block _ HS).trans HX.o;have Fv:=H_ hx2;have IP:=H_ (ag hx2);have c0:=ab hx2 0;have c1:=ab hx2 1;have c2:=ab hx2 2;have c3:=ab hx2 3;clear hx2 e0;cases b1 with
 |false=>
  have hf:=H_ (show R=false by rw[<-HR.o];unfold eO;simp[bC.o]);go_wp2_with fail;go_ret;exact⟨hf.o.symm▸rfl,aF⟩
 |true=>
 by_cases h1:aw=grp
 case pos=>
  have tR:(aw.toList==grp.toList)=true:=by rw[gI,decide_eq_true h1]
  have H1:=H_ h1;clear h1;have hf:=H_ (show R=false by rw[<-HR.o];unfold eO;simp[H1.o]);go_wp2_with fail;go_ret;exact⟨hf.o.symm▸rfl,aF⟩
 case neg=>
 have tR:(aw.toList==grp.toList)=false:=by rw[gI,decide_eq_false h1]
 have H1:=H_ h1;clear h1;by_cases h2:v<1
 case pos=>
  have tt:decide (v<1)=true:=decide_eq_true h2;have H2:=H_ h2;clear h2;have hf:=H_ (show R=false by rw[<-HR.o];unfold eO;rw[decide_eq_false (show ¬(1<=v/\v<=1000000000000) by have:=H2.o;omega)];simp);go_wp2_with fail;go_ret;exact⟨hf.o.symm▸rfl,aF⟩
 case neg=>
 have tt:decide (v<1)=false:=decide_eq_false h2;by_cases h3:1000000000000<v
 case pos=>
  have QD:decide (v>1000000000000)=true:=decide_eq_true h3;have H3:=H_ h3;clear h2 h3;have hf:=H_ (show R=false by rw[<-HR.o];unfold eO;rw[decide_eq_false (show ¬(1<=v/\v<=1000000000000) by have:=H3.o;omega)];simp);go_wp2_with fail;go_ret;exact⟨hf.o.symm▸rfl,aF⟩
 case neg=>
 have QD:decide (v>1000000000000)=false:=decide_eq_false h3;have sU:=H_ (show R=(decide (k=1/\ -25567<=t/\t<=84005)||decide (k=2/\0<=t/\t<120)) by
  rw[<-HR.o];unfold eO;rw[bC.o,decide_eq_true H1.o,decide_eq_true (show 1<=v/\v<=1000000000000 by omega)];simp)
 clear h2 h3;by_cases h4:k=1
 case pos=>
  subst h4;obtain⟨db,Mv⟩:∃b:Bool,decide (inD t)=b:=⟨_,rfl⟩;have hd:=nS t w2;rw[Mv]at hd;have HD:=H_ hd;have hf:=H_ (show R=db by
   rw[sU.o,<-Mv,decide_eq_false (show ¬((1:Int)=2/\0<=t/\t<120) by omega),Bool.or_false];exact decide_eq_decide.2 ⟨λh=>h.2,λh=>⟨rfl,h⟩⟩)
  clear hd Mv;go_wp2_with fail;refine HD.o.mono ?_;rintro e w3 ⟨rfl,aZ⟩;have aR:=aF.trans (aZ.mono aF.size);go_wp2_with fail;go_ret;exact⟨hf.o.symm▸rfl,aR⟩
 case neg=>
 have h4d:(k==1)=false:=by simpa using h4
 by_cases h7:k=2
 case neg=>
  have h7d:(k==2)=false:=by simpa using h7
  have H4:=H_ (And.intro h4 h7);clear h4 h7;have hf:=H_ (show R=false by rw[sU.o];have:=H4.o;simp;omega);go_wp2_with fail;go_ret;exact⟨hf.o.symm▸rfl,aF⟩
 case pos=>
 subst h7;clear h4 h4d;by_cases h5:0<=t
 case neg=>
  have h5d:decide (t≥0)=false:=decide_eq_false h5;have h5e:decide (0<=t)=false:=decide_eq_false h5;have H5:=H_ h5;clear h5;have hf:=H_ (show R=false by rw[sU.o];have:=H5.o;simp;omega);go_wp2_with fail;go_ret;exact⟨hf.o.symm▸rfl,aF⟩
 case pos=>
 have h5d:decide (t≥0)=true:=decide_eq_true h5;have h5e:decide (0<=t)=true:=decide_eq_true h5;have H5:=H_ h5;clear h5;by_cases h6:t<120
 case pos=>
  have h6d:decide (t<120)=true:=decide_eq_true h6;have H6:=H_ h6;clear h6;have hf:=H_ (show R=true by rw[sU.o];have:=H5.o;have:=H6.o;simp;omega);go_wp2_with fail;go_ret;exact⟨hf.o.symm▸rfl,aF⟩
 case neg=>
  have h6d:decide (t<120)=false:=decide_eq_false h6;have H6:=H_ h6;clear h6;have hf:=H_ (show R=false by rw[sU.o];have:=H6.o;simp;omega);go_wp2_with fail;go_ret;exact⟨hf.o.symm▸rfl,aF⟩
theorem EQ (grp:ByteArray) (aw:ByteArray) (k t v:Int) (w:World) (hs:aw.size<=140737488355328):Calls Tryz.prog 67 #[grp,.agg #[aw,k,t,v]] w (ap w (.bool (eO grp ⟨aw,k,t,v⟩))):=by
 obtain⟨R,hR⟩:∃b,eO grp ⟨aw,k,t,v⟩=b:=⟨_,rfl⟩;have HR:=H_ hR;rw[hR];obtain⟨b1,eL⟩:∃b,cQ aw=b:=⟨_,rfl⟩;have bC:=H_ eL;have HCU:=H_ (λw2:World=>xU aw w2 hs);rw[eL]at HCU;clear hR eL;go_enter Tryz.func67,Tryz.ntmps67;go_upto_region 1 with fail;obtain⟨W,hW,H,HB,HS,ewx⟩:=B_ w (.cells #[aw,k,t,v] 70);rw[hW];clear ewx;clear hW;have HX:=H_ H;have e0:=ab H 0;clear H;go_wp2_with fail;refine(HCU.o W).mono ?_;rintro e w2 ⟨rfl,aH⟩;have aF:=HB.trans (aH.mono HB.size);have hx2:=(aH.block _ HS).trans HX.o;have Fv:=H_ hx2;have IP:=H_ (ag hx2);have c0:=ab hx2 0;have c1:=ab hx2 1;have c2:=ab hx2 2;have c3:=ab hx2 3;clear hx2 e0;cases b1 with
 |false=>
  have hf:=H_ (show R=false by rw[<-HR.o];unfold eO;simp[bC.o]);go_wp2_with fail;go_ret;exact⟨hf.o.symm▸rfl,aF⟩
 |true=>
 by_cases h1:aw=grp
 case pos=>
  have tR:(aw.toList==grp.toList)=true:=by rw[gI,decide_eq_true h1]
  have H1:=H_ h1;clear h1;have hf:=H_ (show R=false by rw[<-HR.o];unfold eO;simp[H1.o]);go_wp2_with fail;go_ret;exact⟨hf.o.symm▸rfl,aF⟩
 case neg=>
 have tR:(aw.toList==grp.toList)=false:=by rw[gI,decide_eq_false h1]
 have H1:=H_ h1;clear h1;by_cases h2:v<1
 case pos=>
  have tt:decide (v<1)=true:=decide_eq_true h2;have H2:=H_ h2;clear h2;have hf:=H_ (show R=false by rw[<-HR.o];unfold eO;rw[decide_eq_false (show ¬(1<=v/\v<=1000000000000) by have:=H2.o;omega)];simp);go_wp2_with fail;go_ret;exact⟨hf.o.symm▸rfl,aF⟩
 case neg=>
 have tt:decide (v<1)=false:=decide_eq_false h2;by_cases h3:1000000000000<v
 case pos=>
  have QD:decide (v>1000000000000)=true:=decide_eq_true h3;have H3:=H_ h3;clear h2 h3;have hf:=H_ (show R=false by rw[<-HR.o];unfold eO;rw[decide_eq_false (show ¬(1<=v/\v<=1000000000000) by have:=H3.o;omega)];simp);go_wp2_with fail;go_ret;exact⟨hf.o.symm▸rfl,aF⟩
 case neg=>
 have QD:decide (v>1000000000000)=false:=decide_eq_false h3;have sU:=H_ (show R=(decide (k=1/\ -25567<=t/\t<=84005)||decide (k=2/\0<=t/\t<120)) by
  rw[<-HR.o];unfold eO;rw[bC.o,decide_eq_true H1.o,decide_eq_true (show 1<=v/\v<=1000000000000 by omega)];simp)
 clear h2 h3;by_cases h4:k=1
 case pos=>
  subst h4;obtain⟨db,Mv⟩:∃b:Bool,decide (inD t)=b:=⟨_,rfl⟩;have hd:=mt t w2;rw[Mv]at hd;have HD:=H_ hd;have hf:=H_ (show R=db by
   rw[sU.o,<-Mv,decide_eq_false (show ¬((1:Int)=2/\0<=t/\t<120) by omega),Bool.or_false];exact decide_eq_decide.2 ⟨λh=>h.2,λh=>⟨rfl,h⟩⟩)
  clear hd Mv;go_wp2_with fail;refine HD.o.mono ?_;rintro e w3 ⟨rfl,aZ⟩;have aR:=aF.trans (aZ.mono aF.size);have Bq:=(aZ.block _ IP.o).trans Fv.o;have d1:=ab Bq 1;have d2:=ab Bq 2;clear Bq;cases db with
  |true=>
   go_wp2_with fail;go_ret;exact⟨hf.o.symm▸rfl,aR⟩
  |false=>
   go_wp2_with fail;go_ret;exact⟨hf.o.symm▸rfl,aR⟩
 case neg=>
 have h4d:(k==1)=false:=by simpa using h4
 by_cases h7:k=2
 case neg=>
  have h7d:(k==2)=false:=by simpa using h7
  have H4:=H_ (And.intro h4 h7);clear h4 h7;have hf:=H_ (show R=false by rw[sU.o];have:=H4.o;simp;omega);go_wp2_with fail;go_ret;exact⟨hf.o.symm▸rfl,aF⟩
 case pos=>
 subst h7;clear h4 h4d;by_cases h5:0<=t
 case neg=>
  have h5d:decide (t≥0)=false:=decide_eq_false h5;have h5e:decide (0<=t)=false:=decide_eq_false h5;have H5:=H_ h5;clear h5;have hf:=H_ (show R=false by rw[sU.o];have:=H5.o;simp;omega);go_wp2_with fail;go_ret;exact⟨hf.o.symm▸rfl,aF⟩
 case pos=>
 have h5d:decide (t≥0)=true:=decide_eq_true h5;have h5e:decide (0<=t)=true:=decide_eq_true h5;have H5:=H_ h5;clear h5;by_cases h6:t<120
 case pos=>
  have h6d:decide (t<120)=true:=decide_eq_true h6;have H6:=H_ h6;clear h6;have hf:=H_ (show R=true by rw[sU.o];have:=H5.o;have:=H6.o;simp;omega);go_wp2_with fail;go_ret;exact⟨hf.o.symm▸rfl,aF⟩
 case neg=>
  have h6d:decide (t<120)=false:=decide_eq_false h6;have H6:=H_ h6;clear h6;have hf:=H_ (show R=false by rw[sU.o];have:=H6.o;simp;omega);go_wp2_with fail;go_ret;exact⟨hf.o.symm▸rfl,aF⟩
theorem Ef:(Tryz.prog.info? 161).map (·.size)=some 3:=by kernel_rfl
theorem xS (aw:ByteArray) (k t v:Int) (w:World):Calls Tryz.prog 111 #[.agg #[aw,k,t,v]] w (ap w (.agg #[aw,k,t])):=by
 go_enter Tryz.func111,Tryz.ntmps111;go_upto_region 1 with fail;obtain⟨W,hW,H,HB,HS,ewx⟩:=B_ w (.cells #[aw,k,t,v] 70);rw[hW];clear ewx;obtain⟨W2,fR,H2,dz,jK,ewx⟩:=B_ W (.cells #[.string ⟨#[]⟩,(),()] 161);rw[fR];replace H:=(dz.block _ (ag H)).trans H;clear ewx;clear fR;have eW:W.heap.size=w.heap.size+1:=by rw[<-hW];simp
 rw[eW]at H2;clear hW;have aH:=HB.trans (dz.mono HB.size);have dW:=dz.size;have lV:=ag H2;have nf:w.heap.size<W2.heap.size:=by omega
 have HH:=H_ H;have HZ:=H_ H2;have EW:=H_ eW;clear H H2 eW;have aF:=aH;have ku:=nf;have kt:=lV;have dn:=HH;have qN:=HZ;have c0:=ab dn.o 0;have c1:=ab dn.o 1;have c2:=ab dn.o 2;go_wp2_with (show wpList _ _ _ (Oper.mk none (Op.store _ (Operand.tmp 2) _) _ _ _ _::_) _ _;refine wpList_store_row rfl 161 (.tmp 2) (.tmp 9) rfl (w.heap.size+1) #[aw,k,t] rfl rfl 161 #[.string ⟨#[]⟩,(),()] qN.o (by rw[Ef];rfl) rfl (by simp[Value.oneCell']) ?_);refine bodyPost_ret (v:=_) (eT rfl _ _ (w.heap.size+1) 161 _ (0,0) _ rfl (aB qN.o _) Tryz.underlying161 rfl Ef) rfl ?_;exact⟨rfl,aD aF (by omega) _⟩
theorem AT (aw M4:ByteArray) (k t v k2 t2 v2:Int) (w:World):Calls Tryz.prog 68 #[.agg #[aw,k,t,v],.agg #[M4,k2,t2,v2]] w (ap w (.bool (decide (aw=M4/\k=k2/\t=t2)))):=by
 obtain⟨R,hR⟩:∃b:Bool,decide (aw=M4/\k=k2/\t=t2)=b:=⟨_,rfl⟩;have HR:=H_ hR;rw[hR];clear hR;go_enter Tryz.func68,Tryz.ntmps68;go_upto_region 1 with fail;obtain⟨W,hW,H,HB,HS,ewx⟩:=B_ w (.cells #[aw,k,t,v] 70);rw[hW];clear ewx;obtain⟨W2,fR,H2,dz,jK,ewx⟩:=B_ W (.cells #[M4,k2,t2,v2] 70);rw[fR];replace H:=(dz.block _ (ag H)).trans H;clear ewx;clear fR;have eW:W.heap.size=w.heap.size+1:=by rw[<-hW];simp
 rw[eW]at H2;clear hW;have aH:=HB.trans (dz.mono HB.size);have dW:=dz.size;have lV:=ag H2;have nf:w.heap.size<W2.heap.size:=by omega
 have HH:=H_ H;have HZ:=H_ H2;have EW:=H_ eW;clear H H2 eW;have aF:=aH;have ku:=nf;have kt:=lV;have dn:=HH;have qN:=HZ;have c0:=ab dn.o 0;have c1:=ab dn.o 1;have c2:=ab dn.o 2;have d0:=ab qN.o 0;have d1:=ab qN.o 1;have d2:=ab qN.o 2;by_cases h1:aw=M4
 case neg=>
  have tR:(aw.toList==M4.toList)=false:=by rw[gI,decide_eq_false h1]
  have H1:=H_ h1;clear h1;have hf:=H_ (show R=false by rw[<-HR.o];exact decide_eq_false (λh=>H1.o h.1));go_wp2_with fail;go_ret;exact⟨hf.o.symm▸rfl,aF⟩
 case pos=>
 have tR:(aw.toList==M4.toList)=true:=by rw[gI,decide_eq_true h1]
 have H1:=H_ h1;clear h1;by_cases h2:k=k2
 case neg=>
  have tt:(k==k2)=false:=by simpa using h2
  have H2:=H_ h2;clear h2;have hf:=H_ (show R=false by rw[<-HR.o];exact decide_eq_false (λh=>H2.o h.2.1));go_wp2_with fail;go_ret;exact⟨hf.o.symm▸rfl,aF⟩
 case pos=>
 have tt:(k==k2)=true:=by simpa using h2
 have H2:=H_ h2;clear h2;by_cases h3:t=t2
 case neg=>
  have QD:(t==t2)=false:=by simpa using h3
  have H3:=H_ h3;clear h3;have hf:=H_ (show R=false by rw[<-HR.o];exact decide_eq_false (λh=>H3.o h.2.2));go_wp2_with fail;go_ret;exact⟨hf.o.symm▸rfl,aF⟩
 case pos=>
  have QD:(t==t2)=true:=by simpa using h3
  have H3:=H_ h3;clear h3;have hf:=H_ (show R=true by rw[<-HR.o];exact decide_eq_true ⟨H1.o,H2.o,H3.o⟩);go_wp2_with fail;go_ret;exact⟨hf.o.symm▸rfl,aF⟩
theorem aT:(Tryz.prog.info? 70).map (·.size)=some 4:=by kernel_rfl
def fN (x:aC):List Value:=[.string x.currency,.int .i64 x.kind,.int .i64 x.when_,.int .i64 x.value]
theorem io {w:World} {Q:Nat->Prop} {cs:List Value} {x:aC} (h:bN w Q cs x):cs=fN x/\cx x.kind/\cx x.when_/\cx x.value:=by
 obtain⟨c0,c1,c2,c3,e,h0,h1,h2,h3⟩:=h;have h0:c0=[.string x.currency]:=h0;obtain⟨h1,b1⟩:=h1;obtain⟨h2,b2⟩:=h2;obtain⟨h3,b3⟩:=h3;subst h0 h1 h2 h3;exact⟨e,b1,b2,b3⟩
theorem D4 {rs:List aC} {c:ByteArray} {k w:Int} {i:Nat} (hi:i<rs.length) (he:cW rs[i]=(c,k,w)) (h:∀j (hj:j<rs.length),j<i->cW rs[j]≠(c,k,w)):dq rs c k w=some rs[i].value:=by
 have e:rs.find? (λr=>decide (cW r=(c,k,w)))=some rs[i]:=by
  rw[List.find?_eq_some_iff_getElem];exact⟨by simpa using he,i,hi,rfl,λj hj=>by simpa using h j (by omega) hj⟩
 unfold dq;rw[e];rfl
theorem D5 {rs:List aC} {c:ByteArray} {k w:Int} (h:∀j (hj:j<rs.length),cW rs[j]≠(c,k,w)):dq rs c k w=none:=by
 unfold dq;rw[List.find?_eq_none.2]
 ·rfl
 ·intro r hr;obtain⟨j,hj,rfl⟩:=List.getElem_of_mem hr;simpa using h j hj
def oT (x:ak) (l:List ak):List ak:=l.takeWhile (λy=>decide (ltX y x))++x::l.dropWhile (λy=>decide (ltX y x))
def jV (l:List ak):List ak:=l.foldl (λo x=>oT x o) []
theorem sl (x:ak) (l:List ak):(oT x l).Perm (x::l):=by
 unfold oT;refine List.perm_middle.trans ?_;rw[List.takeWhile_append_dropWhile]
theorem sj (x y:ak) (l:List ak):oT x (y::l)=if ltX y x then y::oT x l else x::y::l:=by
 unfold oT;by_cases h:ltX y x
 ·rw[if_pos h,List.takeWhile_cons_of_pos (by simpa using h),List.dropWhile_cons_of_pos (by simpa using h)];rfl
 ·rw[if_neg h,List.takeWhile_cons_of_neg (by simpa using h),List.dropWhile_cons_of_neg (by simpa using h)];rfl
theorem tf (x:ak):∀(l:List ak),l.Pairwise ltX->(∀y∈l,y.id≠x.id)->(oT x l).Pairwise ltX
 |[],_,_=>by simp[oT]
 |y::l,h,hd=>by
  rw[sj];rw[List.pairwise_cons]at h;split
  ·rename_i hl;rw[List.pairwise_cons];refine⟨λz hz=>?_,tf x l h.2 (λz hz=>hd z (List.mem_cons_of_mem _ hz))⟩;rcases List.mem_cons.1 ((sl x l).mem_iff.1 hz)with e|hz
   ·rw[e];exact hl
   ·exact h.1 z hz
  ·rename_i hl;have hx:ltX x y:=by
    have:=hd y (List.mem_cons_self ..);unfold ltX at hl |-;omega
   rw[List.pairwise_cons,List.pairwise_cons];refine⟨λz hz=>?_,h⟩;rcases List.mem_cons.1 hz with e|hz
   ·rw[e];exact hx
   ·exact akE hx (h.1 z hz)
theorem AU:∀(l o:List ak),o.Pairwise ltX->((o++l).map (·.id)).Nodup->(l.foldl (λo x=>oT x o) o).Perm (o++l)/\(l.foldl (λo x=>oT x o) o).Pairwise ltX
 |[],o,h,_=>⟨by simp,h⟩
 |x::l,o,h,hn=>by
  have hp:(oT x o++l).Perm (o++x::l):=((sl x o).append_right l).trans List.perm_middle.symm;have hd:∀y∈o,y.id≠x.id:=λy hy e=>by
   rw[List.map_append,List.map_cons]at hn;have h1:=(List.nodup_append.1 hn).2.2;exact h1 y.id (List.mem_map.2 ⟨y,hy,rfl⟩) x.id (List.mem_cons_self ..) e
  obtain⟨i1,i2⟩:=AU l (oT x o) (tf x o h hd) ((hp.map _).nodup_iff.2 hn);exact⟨i1.trans hp,i2⟩
theorem mu {l:List ak} (hn:(l.map (·.id)).Nodup):xw l (jV l):=by
 have:=AU l [] List.Pairwise.nil (by simpa using hn);rw[List.nil_append]at this;exact this
theorem xw.filter {es fs:List ak} (h:xw es fs) (q:ak->Bool):xw (es.filter q) (fs.filter q):=⟨h.1.filter q,h.2.filter q⟩
theorem ri {g:au} {es:List ak} (h:okJ g es):(es.map (·.id)).Nodup:=by
 rw[List.nodup_iff_pairwise_ne,List.pairwise_iff_getElem];intro i j hi hj Gb e;simp only[List.length_map]at hi hj;simp only[List.getElem_map]at e;have h1:=(rp (h j hj)).2.1;have h2:=Lw h1 es[i] (List.mem_take_iff_getElem.2 ⟨i,by omega,rfl⟩);exact h2 e
theorem fU {l:List ak} (q:ak->Bool) (h:(l.map (·.id)).Nodup):((l.filter q).map (·.id)).Nodup:=h.sublist (List.filter_sublist.map _)
instance (g:au) (es:List ak):Decidable (okJ g es):=inferInstanceAs (Decidable (∀k (h:k<es.length),eF g (es.take k) es[k]=0))
def cE (b:XBk):Prop:=bh b.g=true/\okJ b.g b.es/\dJ b.g.currency b.rs
instance (b:XBk):Decidable (cE b):=inferInstanceAs (Decidable (_/\_/\_))
theorem cE.j {b:XBk} (h:cE b):kQ b.g b.es:=⟨h.1,h.2.1⟩
def eN (b:XBk) (p:Int):Prop:=0<=p/\p<b.g.calendar.periods
def dZ (b:XBk) (ent:Int):Prop:=0<=ent/\ent<b.g.entities.length
instance (b:XBk) (p:Int):Decidable (eN b p):=inferInstanceAs (Decidable (_/\_))
instance (b:XBk) (p:Int):Decidable (dZ b p):=inferInstanceAs (Decidable (_/\_))
def fH (b:XBk) (ent p:Int):Int:=if cE b then(if dZ b ent/\eN b p then 0 else 2)else 1
def gJ (es:List ak) (ent t:Int):List ak:=es.filter (λx=>decide (x.entity=ent/\x.date<=t))
def Je (b:XBk) (ent p:Int):List ak:=jV (gJ b.es ent (bA b.g p))
def pQ (b:XBk) (ent p:Int):List bW × Int:=if fH b ent p=0 then ZA b p (Je b ent p)else([],fH b ent p)
theorem OY {b:XBk} (h:cE b) (ent p:Int):xw (gJ b.es ent (bA b.g p)) (Je b ent p):=mu (fU _ (ri h.2.1))
theorem Lj {b:XBk} (h:cE b) {ent p:Int} {x:ak}:x∈Je b ent p↔x∈b.es/\x.entity=ent/\x.date<=bA b.g p:=by
 rw[(OY h ent p).1.mem_iff];unfold gJ;rw[List.mem_filter,decide_eq_true_iff]
theorem vN {b:XBk} {ent p:Int} (h:fH b ent p=0):cE b/\dZ b ent/\eN b p:=by
 unfold fH at h;by_cases h1:cE b
 ·rw[if_pos h1]at h;by_cases h2:dZ b ent/\eN b p
  ·exact⟨h1,h2⟩
  ·rw[if_neg h2]at h;cases h
 ·rw[if_neg h1]at h;cases h
end Go.Proofs.YtibiddakakgakaaGreat
