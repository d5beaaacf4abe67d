/- Translation: the entries of an entity in another order are those of a journal. -/
import Derived.Test.YtibiddakakgakaaGreatQcW3
set_option linter.unusedVariables false
set_option linter.unusedSimpArgs false
set_option maxHeartbeats 16000000
namespace Go.Proofs.YtibiddakakgakaaGreat
open Go Go.RowKit
theorem aiS {es:List ak} (hn:(es.map (·.id)).Nodup) {x y:ak} (hx:x∈es) (hy:y∈es) (h:x.id=y.id):x=y:=by
 obtain⟨i,hi,rfl⟩:=List.getElem_of_mem hx;obtain⟨j,hj,rfl⟩:=List.getElem_of_mem hy;have e:i=j:=(List.getElem_inj (i:=i) (j:=j) (h₀:=by simpa using hi) (h₁:=by simpa using hj) hn).1 (by simpa using h);subst e;rfl
theorem ahP {id:Int}:∀{es:List ak},(∀x∈es,¬(x.kind=3/\x.of_=id))->eJ es id=0
 |[],_=>rfl
 |x::es,h=>by
  have e:eJ (x::es) id=if x.kind=3/\x.of_=id then x.id else eJ es id:=rfl
  rw[e,if_neg (h x (List.mem_cons_self ..)),ahP (λy hy=>h y (List.mem_cons_of_mem _ hy))]
theorem aho {id:Int}:∀{es:List ak},(∀x∈es,1<=x.id)->eJ es id=0->∀x∈es,¬(x.kind=3/\x.of_=id)
 |[],_,_=>λx hx=>by cases hx
 |y::es,hp,h=>by
  have e:eJ (y::es) id=if y.kind=3/\y.of_=id then y.id else eJ es id:=rfl
  rw[e]at h;have h1:=hp y (List.mem_cons_self ..);by_cases hy:y.kind=3/\y.of_=id
  ·rw[if_pos hy]at h;omega
  ·rw[if_neg hy]at h;intro x hx;rcases List.mem_cons.1 hx with e|hx
   ·rw[e];exact hy
   ·exact aho (λz hz=>hp z (List.mem_cons_of_mem _ hz)) h x hx
def ai0 (x y:ak):Prop:=y.id=x.of_/\y.kind≠3/\y.entity=x.entity/\y.date<=x.date/\xM x.lines y.lines=true
theorem ahm {g:au} {es:List ak} (h:okJ g es) {k:Nat} (hk:k<es.length) (h3:es[k].kind=3):(∃y∈es,ai0 es[k] y)/\∀x∈es.take k,¬(x.kind=3/\x.of_=es[k].of_):=by
 have h1:=(rp (h k hk)).2.2.1 h3;have hp:∀x∈es.take k,1<=x.id:=λx hx=>Ag (mn h (List.mem_of_mem_take hx))
 refine⟨?_,aho hp (ZS h1)⟩;cases hi:eH (es.take k) es[k].of_ with
 |none=>
  unfold qg at h1;rw[hi]at h1;exact absurd (show(8:Int)=0 from h1) (by decide)
 |some j=>
  obtain⟨hj,mA⟩:=sg hi;rw[AS hi (List.getElem?_eq_getElem hj)]at h1;split at h1
  ·exact absurd h1 (by decide)
  ·rename_i h4;split at h1
   ·exact absurd h1 (by decide)
   ·rename_i h5;refine⟨(es.take k)[j],List.mem_of_mem_take (List.getElem_mem hj),mA,λe=>h4 (.inl e),?_,?_,?_⟩
    ·exact Decidable.byContradiction λe=>h5 (.inl e)
    ·exact Decidable.byContradiction λe=>h5 (.inr (.inl (by omega)))
    ·cases ho:xM es[k].lines (es.take k)[j].lines with
     |true=>rfl
     |false=>exact absurd (.inr (.inr ho)) h5
theorem aih {g:au} {es:List ak} (h:okJ g es) {x y:ak} (hx:x∈es) (hy:y∈es) (Bq:x.kind=3) (pg:y.kind=3) (bT:x≠y):x.of_≠y.of_:=by
 obtain⟨i,hi,rfl⟩:=List.getElem_of_mem hx;obtain⟨j,hj,rfl⟩:=List.getElem_of_mem hy;intro e;rcases Nat.lt_trichotomy i j with hl|hl|hl
 ·exact(ahm h hj pg).2 es[i] (List.mem_take_iff_getElem.2 ⟨i,by omega,rfl⟩) ⟨Bq,e⟩
 ·subst hl;exact bT rfl
 ·exact(ahm h hi Bq).2 es[j] (List.mem_take_iff_getElem.2 ⟨j,by omega,rfl⟩) ⟨pg,e.symm⟩
theorem aii {g:au} {A R:List ak} (hc:∀x∈A++R,dh g x=0) (hn:((A++R).map (·.id)).Nodup) (hl:(A++R).length<=2000) (hA:∀x∈A,x.kind≠3) (hR:∀x∈R,∃y∈A,ai0 x y) (hu:∀x∈R,∀y∈R,x≠y->x.of_≠y.of_):okJ g (A++R):=by
 intro k hk;have hm:=List.getElem_mem hk;have hnd:=hn;rw[List.nodup_iff_pairwise_ne,List.pairwise_iff_getElem]at hnd;have mA:∀x∈(A++R).take k,x.id≠(A++R)[k].id:=λx hx=>by
  obtain⟨j,hj,rfl⟩:=List.mem_take_iff_getElem.1 hx;have:=hnd j k (by simp only[List.length_map];omega) (by simpa using hk) (by omega);rw[List.getElem_map,List.getElem_map]at this;exact this
 have hi:eH ((A++R).take k) (A++R)[k].id=none:=by
  unfold eH;rw[List.findIdx?_eq_none_iff];intro x hx;simpa using mA x hx
 rw[vc (hc _ hm) hi ?_,if_neg (by rw[List.length_take];omega)];intro h3;have hkA:A.length<=k:=by
  refine Decidable.byContradiction λaU=>?_
  have e:(A++R)[k]=A[k]'(by omega):=List.getElem_append_left (by omega);rw[e]at h3;exact hA _ (List.getElem_mem _) h3
 have hmR:(A++R)[k]∈R:=by
  have e:(A++R)[k]=R[k- A.length]'(by rw[List.length_append]at hk;omega):=List.getElem_append_right hkA;rw[e];exact List.getElem_mem _
 obtain⟨y,hy,o1,o2,o3,o4,o5⟩:=hR _ hmR;have hyt:y∈(A++R).take k:=by
  obtain⟨j,hj,rfl⟩:=List.getElem_of_mem hy;refine List.mem_take_iff_getElem.2 ⟨j,by rw[List.length_append];omega,?_⟩;exact List.getElem_append_left hj
 cases hj:eH ((A++R).take k) (A++R)[k].of_ with
 |none=>exact absurd o1 (Lw hj y hyt)
 |some j=>
  obtain⟨vn,jx⟩:=sg hj;have e:((A++R).take k)[j]=y:=aiS hn (List.mem_of_mem_take (List.getElem_mem vn)) (List.mem_append_left _ hy) (by rw[jx,o1]);have hz:eJ ((A++R).take k) (A++R)[k].of_=0:=ahP (λx hx hh=>by
   have ajP:=mA x hx;have QJ:x∈R:=by
    rcases List.mem_append.1 (List.mem_of_mem_take hx)with h|h
    ·exact absurd hh.1 (hA x h)
    ·exact h
   exact hu x QJ _ hmR (λe=>ajP (by rw[e])) hh.2)
  rw[AS hj (List.getElem?_eq_getElem vn),e,if_neg (λh=>h.elim o2 (λh=>h hz)),if_neg];rintro(h|h|h)
  ·exact h o3
  ·omega
  ·rw[o5]at h;cases h
def agU (es:List ak) (k:Nat):List ak:=(List.range es.length).map (λi=>es.getD ((i+k) %es.length) {})
theorem aiV (es:List ak) (k:Nat):agU es k=es.drop (k%es.length)++es.take (k%es.length):=by
 unfold agU;rcases Nat.eq_zero_or_pos es.length with h0|h0
 ·have:es=[]:=List.eq_nil_of_length_eq_zero h0;subst this;simp
 have hr:=Nat.mod_lt k h0;generalize hq:k%es.length=r at*;refine List.ext_getElem (by simp;omega) (λi h1 h2=>?_);simp only[List.length_map,List.length_range]at h1;simp only[List.getElem_map,List.getElem_range];have e1:(i+k) %es.length=(i+r) %es.length:=by rw[<-hq,Nat.add_mod_mod]
 rw[e1];rcases Nat.lt_or_ge (i+r) es.length with h3|h3
 ·rw[Nat.mod_eq_of_lt h3,List.getD_eq_getElem?_getD,List.getElem?_eq_getElem h3];rw[List.getElem_append_left (by rw[List.length_drop];omega),List.getElem_drop];simp[Nat.add_comm]
 ·have e2:(i+r) %es.length=i+r- es.length:=by rw[Nat.mod_eq_sub_mod h3,Nat.mod_eq_of_lt (by omega)]
  rw[e2,List.getD_eq_getElem?_getD,List.getElem?_eq_getElem (by omega)];rw[List.getElem_append_right (by rw[List.length_drop];omega),List.getElem_take];simp only[List.length_drop,Option.getD_some]
  congr 1
  omega
theorem agZ (es:List ak) (k:Nat):(agU es k).Perm es:=by
 rw[aiV];refine List.perm_append_comm.trans ?_;rw[List.take_append_drop]
theorem ahY {l:List ak} (q r:ak->Bool):(l.filter (λx=>q x&&!r x)++l.filter (λx=>q x&&r x)).Perm (l.filter q):=by
 induction l with
 |nil=>exact List.Perm.refl _
 |cons x l ih=>
  by_cases hq:q x=true
  ·by_cases hr:r x=true
   ·rw[List.filter_cons_of_neg (by simp[hr]),List.filter_cons_of_pos (by simp[hq,hr]),List.filter_cons_of_pos hq];exact List.perm_middle.trans (ih.cons x)
   ·rw[List.filter_cons_of_pos (by simp[hq,hr]),List.filter_cons_of_neg (by simp[hr]),List.filter_cons_of_pos hq];exact ih.cons x
  ·rw[List.filter_cons_of_neg (by simp[hq]),List.filter_cons_of_neg (by simp[hq]),List.filter_cons_of_neg hq];exact ih
def X5 (es:List ak) (k:Nat) (ent t:Int):List ak:=(agU es k).filter (λx=>decide (x.entity=ent/\x.date<=t)&&!decide (x.kind=3))++(agU es k).filter (λx=>decide (x.entity=ent/\x.date<=t)&&decide (x.kind=3))
theorem agY (es:List ak) (k:Nat) (ent t:Int):(X5 es k ent t).Perm (gJ es ent t):=by
 unfold X5 gJ;exact(ahY (λx=>decide (x.entity=ent/\x.date<=t)) (λx=>decide (x.kind=3))).trans ((agZ es k).filter _)
theorem aij {g:au} {es:List ak} (h:okJ g es) (k:Nat) (ent t:Int):okJ g (X5 es k ent t):=by
 have hp:=agY es k ent t;have jB:∀x∈X5 es k ent t,x∈es:=λx hx=>(List.mem_filter.1 (hp.mem_iff.1 hx)).1
 have eX:(gJ es ent t).length<=es.length:=List.length_filter_le _ _;have bL:es.length<=2000:=by
  rcases Nat.eq_zero_or_pos es.length with h0|h0
  ·omega
  ·have h1:=(rp (h (es.length- 1) (by omega))).2.2.2;rw[List.length_take]at h1;omega
 refine aii (λx hx=>mn h (jB x hx)) ((hp.map (·.id)).nodup_iff.2 (fU _ (ri h))) ?_ (λx hx=>?_) (λx hx=>?_) (λx hx y hy bT=>?_)
 ·have:=hp.length_eq;unfold X5 at this;omega
 ·have:=(List.mem_filter.1 hx).2;simp only[Bool.and_eq_true,Bool.not_eq_true',decide_eq_false_iff_not]at this;exact this.2
 ·have hx1:=List.mem_filter.1 hx;have qi:=hx1.2;simp only[Bool.and_eq_true,decide_eq_true_eq]at qi;have rQ:=(agZ es k).mem_iff.1 hx1.1;obtain⟨i,hi,rfl⟩:=List.getElem_of_mem rQ;obtain⟨⟨y,hy,o1,o2,o3,o4,o5⟩,_⟩:=ahm h hi qi.2;refine⟨y,List.mem_filter.2 ⟨(agZ es k).mem_iff.2 hy,?_⟩,o1,o2,o3,o4,o5⟩;simp only[Bool.and_eq_true,Bool.not_eq_true',decide_eq_true_eq,decide_eq_false_iff_not];exact⟨⟨by omega,by omega⟩,o2⟩
 ·have hx1:=List.mem_filter.1 hx;have gK:=List.mem_filter.1 hy;have qi:=hx1.2;have gS:=gK.2;simp only[Bool.and_eq_true,decide_eq_true_eq]at qi gS;exact aih h ((agZ es k).mem_iff.1 hx1.1) ((agZ es k).mem_iff.1 gK.1) qi.2 gS.2 bT
theorem ahE (es:List ak) (k:Nat) (ent t:Int):(gJ (X5 es k ent t) ent t).Perm (gJ es ent t):=by
 have h1:gJ (X5 es k ent t) ent t=X5 es k ent t:=by
  unfold gJ;rw[List.filter_eq_self];intro x hx;have:=(List.mem_filter.1 ((agY es k ent t).mem_iff.1 hx)).2;exact this
 rw[h1];exact agY es k ent t
theorem ahC {b:XBk} (hb:cE b) (k:Nat) (ent p:Int):cE ⟨b.g,X5 b.es k ent (bA b.g p),b.rs⟩/\pQ ⟨b.g,X5 b.es k ent (bA b.g p),b.rs⟩ ent p=pQ b ent p:=by
 have hc:cE ⟨b.g,X5 b.es k ent (bA b.g p),b.rs⟩:=⟨hb.1,aij hb.2.1 k ent _,hb.2.2⟩;exact⟨hc,ahK rfl rfl hb hc (ahE _ _ _ _)⟩
end Go.Proofs.YtibiddakakgakaaGreat
