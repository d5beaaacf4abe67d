/- Translation: reserves; the entries in another order. -/
import Derived.Test.YtibiddakakgakaaGreatQdW4
set_option linter.unusedVariables false
set_option linter.unusedSimpArgs false
set_option maxHeartbeats 16000000
namespace Go.Proofs.YtibiddakakgakaaGreat
open Go Go.RowKit
def akP (b:XBk) (p:Int) (x:ak):Int:=f9 ((List.range x.lines.length).map (λj=>(jr b x j p).1))
theorem akz {b:XBk} {ent p:Int} (h:(pQ b ent p).2=0):f9 (pQ b ent p).1=((gJ b.es ent (bA b.g p)).map (akP b p)).sum:=by
 obtain⟨h1,h2,h3⟩:=rl h;obtain⟨hb,he,hp⟩:=vN h1;rw[h3,akG];exact Qk ((OY hb ent p).1.map _)
theorem alA (b:XBk) (p:Int) (x:ak) (id:Int):akP b p (agW x id x.date)= -akP b p x:=by
 unfold akP f9;rw[List.map_map,List.map_map];have hl:(agW x id x.date).lines.length=x.lines.length:=by unfold agW;simp
 rw[hl];have ir:∀m,m<=x.lines.length->((List.range m).map ((λi:bW=>i.amount) ∘ λj=>(jr b (agW x id x.date) j p).1)).sum= -((List.range m).map ((λi:bW=>i.amount) ∘ λj=>(jr b x j p).1)).sum:=by
  intro m
  induction m with
  |zero=>intro _;rfl
  |succ m ih=>
   intro hm;have h1:=(aie b x id (j:=m) (by omega) p).2.2.1;have h2:=ih (by omega);rw[List.range_succ,List.map_append,List.map_append,List.sum_append,List.sum_append,h2];simp only[List.map_cons,List.map_nil,List.sum_cons,List.sum_nil,Function.comp];rw[h1];omega
 exact ir _ (Nat.le_refl _)
theorem akU {b:XBk} {x:ak} {id p ent:Int} (h1:(pQ b ent p).2=0) (h2:(pQ ⟨b.g,b.es++[x,agW x id x.date],b.rs⟩ ent p).2=0):f9 (pQ ⟨b.g,b.es++[x,agW x id x.date],b.rs⟩ ent p).1=f9 (pQ b ent p).1:=by
 rw[akz h1,akz h2];show((gJ (b.es++[x,agW x id x.date]) ent (bA b.g p)).map (akP b p)).sum=_;unfold gJ;rw[List.filter_append,List.map_append,List.sum_append];have e:([x,agW x id x.date].filter (λy=>decide (y.entity=ent/\y.date<=bA b.g p))).map (akP b p)=if x.entity=ent/\x.date<=bA b.g p then[akP b p x,-akP b p x]else[]:=by
  have e2:decide ((agW x id x.date).entity=ent/\(agW x id x.date).date<=bA b.g p)=decide (x.entity=ent/\x.date<=bA b.g p):=rfl;by_cases h:x.entity=ent/\x.date<=bA b.g p
  ·rw[if_pos h,List.filter_cons_of_pos (by simpa using h),List.filter_cons_of_pos (by rw[e2];simpa using h),List.filter_nil,List.map_cons,List.map_cons,List.map_nil,alA]
  ·rw[if_neg h,List.filter_cons_of_neg (by simpa using h),List.filter_cons_of_neg (by rw[e2];simpa using h),List.filter_nil,List.map_nil]
 rw[e];split
 ·simp only[List.sum_cons,List.sum_nil];omega
 ·simp
theorem akq {t:Int}:∀{l:List ak},l.Pairwise ltX->l=l.filter (λx=>decide (x.date<=t))++l.filter (λx=> !decide (x.date<=t))
 |[],_=>rfl
 |x::l,h=>by
  rw[List.pairwise_cons]at h;have ih:=akq (t:=t) h.2;by_cases hx:x.date<=t
  ·rw[List.filter_cons_of_pos (by simpa using hx),List.filter_cons_of_neg (by simpa using hx),List.cons_append,<-ih]
  ·have hn:l.filter (λx=>decide (x.date<=t))=[]:=by
    rw[List.filter_eq_nil_iff];intro y hy;have:=h.1 y hy;unfold ltX at this;simp only[decide_eq_true_eq];omega
   rw[hn,List.nil_append]at ih;rw[List.filter_cons_of_neg (by simpa using hx),List.filter_cons_of_pos (by simpa using hx),hn,List.nil_append,<-ih]
theorem aku {g:au} (hg:bh g=true) {p:Int} (hp:0<=p/\p<g.calendar.periods) (h1:1<=p):bA g (p- 1)+1=lJ g p:=by
 have QQ:0<=p- 1/\p- 1<g.calendar.periods:=by omega
 rw[Ei hg QQ,An hg hp,Ex (Tm hg QQ)];unfold bw;rw[show 12*g.calendar.year+g.calendar.month- 1+(p- 1)+1=12*g.calendar.year+g.calendar.month- 1+p by omega]
theorem alB {g:au} (hg:bh g=true) {p:Int} (hp:0<=p/\p<g.calendar.periods):lJ g p<=bA g p:=by
 rw[Ei hg hp,An hg hp];exact Jl (Tm hg hp)
theorem akQ {b:XBk} (hb:cE b) {ent p:Int} (hp:eN b p) (h1:1<=p):Je b ent p=Je b ent (p- 1)++(Je b ent p).filter (λx=>decide (lJ b.g p<=x.date)):=by
 have hs:=(OY hb ent p).2;have h2:=akq (t:=bA b.g (p- 1)) hs;have hlb:=aku hb.1 hp h1;have ID:=alB hb.1 hp;have h3:xw (gJ b.es ent (bA b.g (p- 1))) ((Je b ent p).filter (λx=>decide (x.date<=bA b.g (p- 1)))):=by
  have h4:=(OY hb ent p).filter (λx=>decide (x.date<=bA b.g (p- 1)));have e:(gJ b.es ent (bA b.g p)).filter (λx=>decide (x.date<=bA b.g (p- 1)))=gJ b.es ent (bA b.g (p- 1)):=by
   unfold gJ;rw[List.filter_filter];refine List.filter_congr (λx _=>?_);rw[<-Bool.decide_and];refine decide_eq_decide.2 ⟨λh=>⟨h.2.1,h.1⟩,λh=>⟨h.2,h.1,by omega⟩⟩
  rw[e]at h4;exact h4
 rw[h3.uniq (OY hb ent (p- 1))]at h2;have e:(Je b ent p).filter (λx=> !decide (x.date<=bA b.g (p- 1)))=(Je b ent p).filter (λx=>decide (lJ b.g p<=x.date)):=by
  refine List.filter_congr (λx _=>?_);rw[<-decide_not];exact decide_eq_decide.2 ⟨λh=>by omega,λh=>by omega⟩
 rw[e]at h2;exact h2
def ako (b:XBk) (p:Int) (l:List ak):List bW:=l.flatMap (λx=>(List.range x.lines.length).map (λj=>(jr b x j p).1))
theorem akZ {b:XBk} {ent p:Int} {B:List bW} (h:(pQ b ent p).2=0) (hB:(p=0/\B=[])\/(1<=p/\pQ b ent (p- 1)=(B,0))):
 B.length<=(pQ b ent p).1.length/\(∀i (h1:i<B.length) (h2:i< (pQ b ent p).1.length),(pQ b ent p).1[i].date<lJ b.g p/\(pQ b ent p).1[i].ref=B[i].ref)/\
  ∀i (h2:i< (pQ b ent p).1.length),B.length<=i->lJ b.g p<=(pQ b ent p).1[i].date:=by
 obtain⟨h1,h2,h3⟩:=rl h;obtain⟨hb,he,hp⟩:=vN h1;have alr:∀x∈Je b ent p,∀i∈(List.range x.lines.length).map (λj=>(jr b x j p).1),i.date=x.date:=by
  intro x hx i hi;obtain⟨j,hj,rfl⟩:=List.mem_map.1 hi;rw[(aki (h2 x hx j (List.mem_range.1 hj))).2.2]
 rcases hB with⟨rfl,rfl⟩|⟨QQ,hB⟩
 ·refine⟨Nat.zero_le _,λi h1=>absurd h1 (by simp),λi hi _=>?_⟩;obtain⟨it,RN⟩:=x_ ((pQ b ent 0).1[i]);have hm:it∈(pQ b ent 0).1:=RN▸List.getElem_mem hi;rw[RN];rw[h3]at hm;obtain⟨x,hx,ja⟩:=List.mem_flatMap.1 hm;rw[alr x hx _ ja];have QJ:=((Lj (p:=0) (ent:=ent) hb).1 hx).1;have lN:=(zx hb.j QJ).2.1;rw[An hb.1 hp];exact(of_decide_eq_true lN).1
 ·have yH:(pQ b ent (p- 1)).2=0:=by rw[hB]
  obtain⟨k1,k2,k3⟩:=rl yH;rw[hB]at k3;simp only at k3;have hsp:=akQ hb hp QQ (ent:=ent);have hlb:=aku hb.1 hp QQ;obtain⟨N,hN⟩:=x_ ((Je b ent p).filter (λx=>decide (lJ b.g p<=x.date)));rw[hN]at hsp;have hNd:∀x∈N,lJ b.g p<=x.date/\x∈Je b ent p:=λx hx=>by
   rw[<-hN]at hx;have:=List.mem_filter.1 hx;exact⟨by simpa using this.2,this.1⟩
  have hPd:∀x∈Je b ent (p- 1),x.date<lJ b.g p/\x∈Je b ent p:=λx hx=>by
   have:=((Lj (p:=p- 1) (ent:=ent) hb).1 hx).2.2;exact⟨by omega,by rw[hsp];exact List.mem_append_left _ hx⟩
  have e:(pQ b ent p).1=ako b p (Je b ent (p- 1))++ako b p N:=by
   rw[h3,hsp];unfold ako;rw[List.flatMap_append]
  obtain⟨O,hO⟩:=x_ (ako b p (Je b ent (p- 1)));have hrel:∀l:List ak,(∀x∈l,x∈Je b ent (p- 1))->(ako b p l).map (·.ref)=(ako b (p- 1) l).map (·.ref):=by
   intro l hl;unfold ako;rw[List.map_flatMap,List.map_flatMap,List.flatMap_def,List.flatMap_def]
   congr 1
   refine List.map_congr_left (λx hx=>?_);rw[List.map_map,List.map_map];refine List.map_congr_left (λj hj=>?_);have hj:=List.mem_range.1 hj;show(jr b x j p).1.ref=(jr b x j (p- 1)).1.ref;rw[(aki (h2 x (hPd x (hl x hx)).2 j hj)).2.2,(aki (k2 x (hl x hx) j hj)).2.2]
  have ak6:=hrel _ (λx hx=>hx);rw[hO]at ak6 e;have hBe:ako b (p- 1) (Je b ent (p- 1))=B:=k3.symm;rw[hBe]at ak6;have eX:O.length=B.length:=by simpa using congrArg List.length ak6
  obtain⟨Z,hZ⟩:=x_ ((pQ b ent p).1);rw[hZ]at e |-;refine⟨by rw[e,List.length_append];omega,λi h1 h4=>?_,λi h4 h5=>?_⟩
  ·have hiO:i<O.length:=by omega
   have ez:Z[i]=O[i]:=by
    subst e;exact List.getElem_append_left hiO
   rw[ez];refine⟨?_,?_⟩
   ·obtain⟨it,RN⟩:=x_ (O[i]);have hm:it∈O:=RN▸List.getElem_mem hiO;rw[RN];rw[<-hO]at hm;unfold ako at hm;obtain⟨x,hx,ja⟩:=List.mem_flatMap.1 hm;rw[alr x (hPd x hx).2 _ ja];exact(hPd x hx).1
   ·have h6:(O.map (·.ref))[i]'(by simpa using hiO)=(B.map (·.ref))[i]'(by simpa using h1):=by simp only[ak6]
    simpa using h6
  ·have hiN:i- O.length< (ako b p N).length:=by
    rw[e,List.length_append]at h4;omega
   have ez:Z[i]=(ako b p N)[i- O.length]:=by
    subst e;exact List.getElem_append_right (by omega)
   rw[ez];obtain⟨it,RN⟩:=x_ ((ako b p N)[i- O.length]);have hm:it∈ako b p N:=RN▸List.getElem_mem hiN;rw[RN];unfold ako at hm;obtain⟨x,hx,ja⟩:=List.mem_flatMap.1 hm;rw[alr x (hNd x hx).2 _ ja];exact(hNd x hx).1
end Go.Proofs.YtibiddakakgakaaGreat
