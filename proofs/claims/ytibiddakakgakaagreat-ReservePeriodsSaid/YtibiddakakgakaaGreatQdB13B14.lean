/- Charts: proper, in the program. Written by gen_b12 (second text).py. -/
import Derived.Test.YtibiddakakgakaaGreatQdB5B12
import Derived.Deep.RegionHeld3
set_option linter.unusedVariables false
set_option linter.unusedSimpArgs false
set_option maxRecDepth 4000
attribute [local go_sem ↓] Go.wp_at_zero Go.wp_at_succ
set_option maxHeartbeats 16000000
namespace Go.Proofs.YtibiddakakgakaaGreat
open Go Go.RowKit
theorem Px (l:List ah) (A:Option Addr) (c:Nat) (a:ah) (g:Bool) (w:World) (hl:aj ar 4 w (·<w.heap.size) [.slice A l.length c] l) (m3:pG a) (hn:l.length<=1000) (lN:(aK l a.code).isSome=true):Calls Tryz.prog 212 #[.slice A l.length c,.agg (bn a).toArray,g] w (ap w (.bool (dF l g a))):=by
 obtain⟨r,hr⟩:=x_ (dF l g a);rw[hr];have HR:=H_ hr;clear hr;obtain⟨n,bj⟩:=x_ (l.length);rw[bj]at hn;have HL:=H_ hl;have HN:=H_ bj;rw[bj];clear hl bj;obtain⟨c1,c2,c3,c4⟩:=a;simp only[pG]at m3;obtain⟨q1,q2,q3,q4⟩:=m3;have Q4:=H_ q4;have Q1:=H_ q1;obtain⟨q11,q12⟩:=q1;obtain⟨q21,q22⟩:=q2;obtain⟨q31,q32⟩:=q3;obtain⟨q41,q42⟩:=q4;go_enter Tryz.func212,Tryz.ntmps212;go_upto_region 1 with fail;obtain⟨W,hW,H0,HB,HS,ewx⟩:=B_ w (.cells #[c1,c2,c3,c4] 78);rw[hW];clear ewx;have d0:=ab H0 0;have d1:=ab H0 1;have d2:=ab H0 2;have d3:=ab H0 3;have rL:=H_ H0;clear hW H0;by_cases k0:c1<1
 case pos=>
  have hf:=H_ (show r=false by rw[<-HR.o];exact iQ (jq (λh=>by have h1:=h.1;simp only at h1;omega)));go_wp2_with fail;go_ret;exact⟨hf.o.symm▸rfl,HB⟩
 case neg=>
 by_cases k1:99999<c1
 case pos=>
  have hf:=H_ (show r=false by rw[<-HR.o];exact iQ (jq (λh=>by have h1:=h.2.1;simp only at h1;omega)));go_wp2_with fail;go_ret;exact⟨hf.o.symm▸rfl,HB⟩
 case neg=>
 by_cases k2:c2<1
 case pos=>
  have hf:=H_ (show r=false by rw[<-HR.o];exact iQ (jq (λh=>by have h1:=h.2.2.1;simp only at h1;omega)));go_wp2_with fail;go_ret;exact⟨hf.o.symm▸rfl,HB⟩
 case neg=>
 by_cases k3:5<c2
 case pos=>
  have hf:=H_ (show r=false by rw[<-HR.o];exact iQ (jq (λh=>by have h1:=h.2.2.2;simp only at h1;omega)));go_wp2_with fail;go_ret;exact⟨hf.o.symm▸rfl,HB⟩
 case neg=>
 have HF:=H_ (show 1<=c1/\c1<=99999/\1<=c2/\c2<=5 by omega);cases g with
 |true=>
  by_cases k4:c3<1
  case pos=>
   have hf:=H_ (show r=false by rw[<-HR.o];exact iQ (qS (λh=>by have h1:=h.1;simp only at h1;omega)));go_wp2_with fail;go_ret;exact⟨hf.o.symm▸rfl,HB⟩
  case neg=>
  by_cases k5:3<c3
  case pos=>
   have hf:=H_ (show r=false by rw[<-HR.o];exact iQ (qS (λh=>by have h1:=h.2;simp only at h1;omega)));go_wp2_with fail;go_ret;exact⟨hf.o.symm▸rfl,HB⟩
  case neg=>
  have JX:=H_ (D2 (a:=⟨c1,c2,c3,c4⟩) HF.o (show 1<=c3/\c3<=3 by omega));by_cases k7:c4=0
  case pos=>
   have hf:=H_ (show r=true by rw[<-HR.o];exact AJ JX.o k7);go_wp2_with fail;go_ret;exact⟨hf.o.symm▸rfl,HB⟩
  case neg=>
  have K7:=H_ k7;go_wp2_with fail;have aM:=mL l A c c4 W (az HL.o HB) Q4.o (by rw[HN.o];exact hn);rw[HN.o]at aM;refine aM.mono ?_;clear aM;rintro e w2 ⟨rfl,aH⟩;have dA:=HB.trans (aH.mono HB.size);have G0:=(aH.block _ HS).trans rL.o;have GG:=H_ G0;clear G0;cases ha:aK l c4 with
  |none=>
   have e0:cF l c4=.tuple #[.agg (bn {}).toArray,false]:=fJ ha;rw[e0];have jC:=H_ (show r=false by rw[<-HR.o];exact ko k7 (oF ha));clear e0 ha;go_wp2_with fail;go_ret;exact⟨by rw[jC.o];first|done|rfl,dA.alloc dA.size _⟩
  |some p=>
   have e0:cF l c4=.tuple #[.agg (bn p).toArray,true]:=eD ha;rw[e0];have lX:=HL.o.accB p (cJ ha).1;have jC:=H_ (show mP l ⟨c1,c2,c3,c4⟩=(!(p.code==c1)&&p.kind==c2)from oG (a:=⟨c1,c2,c3,c4⟩) ha);clear e0 ha;obtain⟨p1,p2,p3,p4⟩:=p;have G0:=al GG.o (Obj.cells #[p1,p2,p3,p4] 78);go_upto_region 8 with fail;have H7:=heap_alloc_new w2 (.cells #[p1,p2,p3,p4] 78);have em:=dA.alloc dA.size (.cells #[p1,p2,p3,p4] 78);generalize F8:w2.alloc (Obj.cells #[p1,p2,p3,p4] 78)=W7 at*;have f0:=ab H7 0;have f1:=ab H7 1;have g0:=ab G0 0;have g1:=ab G0 1;clear F8 H7 G0;by_cases hp:p1=c1
   case pos=>
    have l6:=H_ (show r=false by rw[<-HR.o];exact ko K7.o (by rw[jC.o,hp];simp));go_wp2_with fail;go_ret;exact⟨by rw[l6.o];first|done|rfl,em⟩
   case neg=>
   have hp':(p1==c1)=false:=by simpa using hp
   by_cases hq:p2=c2
   case neg=>
    have hq':(p2 !=c2)=true:=by simpa using hq
    have l6:=H_ (show r=false by rw[<-HR.o];exact ko K7.o (by rw[jC.o];simp[hq]));go_wp2_with fail;go_ret;exact⟨by rw[l6.o];first|done|rfl,em⟩
   case pos=>
   have hq':(p2 !=c2)=false:=by simpa using hq
   have l6:=H_ (show r=((upP l (l.length+1) [] c1).2==0) by rw[<-HR.o];exact xQ JX.o K7.o (by rw[jC.o,hq];simp[hp]));go_wp2_with fail;have aM:=Ja l A c c1 W7 (az HL.o em) Q1.o (by rw[HN.o];exact hn);rw[HN.o]at aM;refine aM.mono ?_;clear aM;rintro e w8 ⟨v,rfl,bv,jX⟩;have o9:=em.trans (jX.mono em.size);obtain⟨j,x,QK,hj,hx,ht,MD⟩:=JL (l:=l) (c:=c1) (by simpa using lN);have ci:=sJ (l:=l) (l.length+1) [] c1 (oB l) (by simp);rw[HN.o]at hj hx MD ci;rw[hj]at bv ci;have FE:j+1<=1000:=by have:=ci.1;omega
   obtain⟨g8,cap,rfl,abJ,abM⟩:=bv.form (by omega);have CP:=bv.cells (g:=g8) rfl j _ (GU hx);rw[Addr.add_lit,Nat.zero_add]at CP;have oY:cx x:=by
    obtain⟨m,hm⟩:=cJ ht;rw[<-hm];exact(HL.o.accB _ m).1
   have HJ:=H_ hj;have tz:=H_ bv;have HT:=H_ ht;have htb:=HL.o.accB QK (cJ ht).1;clear hj bv hx ht ci;obtain⟨t1,t2,t3,t4⟩:=QK;simp only at MD;have HTP:=H_ MD;clear MD htb;have T8:=H_ (show r=(t4==0) by rw[l6.o,HN.o,<-HTP.o]);go_wp2_with fail;have aM:=mL l A c x w8 (az HL.o o9) oY (by rw[HN.o];exact hn);rw[HN.o]at aM;refine aM.mono ?_;clear aM;rintro e w9 ⟨rfl,kT⟩;have CG:=o9.trans (kT.mono o9.size);have e0:cF l x=.tuple #[.agg (bn ⟨t1,t2,t3,t4⟩).toArray,true]:=eD HT.o;rw[e0];clear e0;by_cases ht4:t4=0
   case pos=>
    have Du:=H_ (show r=true by rw[T8.o,ht4];rfl);go_wp2_with fail;go_ret;exact⟨by rw[Du.o];first|done|rfl,CG.alloc CG.size _⟩
   case neg=>
    have ht4':(t4==0)=false:=by simpa using ht4
    have Du:=H_ (show r=false by rw[T8.o,ht4']);go_wp2_with fail;go_ret;exact⟨by rw[Du.o];first|done|rfl,CG.alloc CG.size _⟩
 |false=>
  by_cases k4:¬c3=0
  case pos=>
   have k5:(c3==0)=false:=by simpa using k4
   have hf:=H_ (show r=false by rw[<-HR.o];exact iQ (D3 k4));go_wp2_with fail;go_ret;exact⟨hf.o.symm▸rfl,HB⟩
  case neg=>
  have k5:c3=0:=by omega
  have JX:=H_ (DZ (a:=⟨c1,c2,c3,c4⟩) HF.o k5);by_cases k7:c4=0
  case pos=>
   have hf:=H_ (show r=true by rw[<-HR.o];exact AJ JX.o k7);go_wp2_with fail;go_ret;exact⟨hf.o.symm▸rfl,HB⟩
  case neg=>
  have K7:=H_ k7;go_wp2_with fail;have aM:=mL l A c c4 W (az HL.o HB) Q4.o (by rw[HN.o];exact hn);rw[HN.o]at aM;refine aM.mono ?_;clear aM;rintro e w2 ⟨rfl,aH⟩;have dA:=HB.trans (aH.mono HB.size);have G0:=(aH.block _ HS).trans rL.o;have GG:=H_ G0;clear G0;cases ha:aK l c4 with
  |none=>
   have e0:cF l c4=.tuple #[.agg (bn {}).toArray,false]:=fJ ha;rw[e0];have jC:=H_ (show r=false by rw[<-HR.o];exact ko k7 (oF ha));clear e0 ha;go_wp2_with fail;go_ret;exact⟨by rw[jC.o];first|done|rfl,dA.alloc dA.size _⟩
  |some p=>
   have e0:cF l c4=.tuple #[.agg (bn p).toArray,true]:=eD ha;rw[e0];have lX:=HL.o.accB p (cJ ha).1;have jC:=H_ (show mP l ⟨c1,c2,c3,c4⟩=(!(p.code==c1)&&p.kind==c2)from oG (a:=⟨c1,c2,c3,c4⟩) ha);clear e0 ha;obtain⟨p1,p2,p3,p4⟩:=p;have G0:=al GG.o (Obj.cells #[p1,p2,p3,p4] 78);go_upto_region 8 with fail;have H7:=heap_alloc_new w2 (.cells #[p1,p2,p3,p4] 78);have em:=dA.alloc dA.size (.cells #[p1,p2,p3,p4] 78);generalize F8:w2.alloc (Obj.cells #[p1,p2,p3,p4] 78)=W7 at*;have f0:=ab H7 0;have f1:=ab H7 1;have g0:=ab G0 0;have g1:=ab G0 1;clear F8 H7 G0;by_cases hp:p1=c1
   case pos=>
    have l6:=H_ (show r=false by rw[<-HR.o];exact ko K7.o (by rw[jC.o,hp];simp));go_wp2_with fail;go_ret;exact⟨by rw[l6.o];first|done|rfl,em⟩
   case neg=>
   have hp':(p1==c1)=false:=by simpa using hp
   by_cases hq:p2=c2
   case neg=>
    have hq':(p2 !=c2)=true:=by simpa using hq
    have l6:=H_ (show r=false by rw[<-HR.o];exact ko K7.o (by rw[jC.o];simp[hq]));go_wp2_with fail;go_ret;exact⟨by rw[l6.o];first|done|rfl,em⟩
   case pos=>
   have hq':(p2 !=c2)=false:=by simpa using hq
   have l6:=H_ (show r=((upP l (l.length+1) [] c1).2==0) by rw[<-HR.o];exact xQ JX.o K7.o (by rw[jC.o,hq];simp[hp]));go_wp2_with fail;have aM:=Ja l A c c1 W7 (az HL.o em) Q1.o (by rw[HN.o];exact hn);rw[HN.o]at aM;refine aM.mono ?_;clear aM;rintro e w8 ⟨v,rfl,bv,jX⟩;have o9:=em.trans (jX.mono em.size);obtain⟨j,x,QK,hj,hx,ht,MD⟩:=JL (l:=l) (c:=c1) (by simpa using lN);have ci:=sJ (l:=l) (l.length+1) [] c1 (oB l) (by simp);rw[HN.o]at hj hx MD ci;rw[hj]at bv ci;have FE:j+1<=1000:=by have:=ci.1;omega
   obtain⟨g8,cap,rfl,abJ,abM⟩:=bv.form (by omega);have CP:=bv.cells (g:=g8) rfl j _ (GU hx);rw[Addr.add_lit,Nat.zero_add]at CP;have oY:cx x:=by
    obtain⟨m,hm⟩:=cJ ht;rw[<-hm];exact(HL.o.accB _ m).1
   have HJ:=H_ hj;have tz:=H_ bv;have HT:=H_ ht;have htb:=HL.o.accB QK (cJ ht).1;clear hj bv hx ht ci;obtain⟨t1,t2,t3,t4⟩:=QK;simp only at MD;have HTP:=H_ MD;clear MD htb;have T8:=H_ (show r=(t4==0) by rw[l6.o,HN.o,<-HTP.o]);go_wp2_with fail;have aM:=mL l A c x w8 (az HL.o o9) oY (by rw[HN.o];exact hn);rw[HN.o]at aM;refine aM.mono ?_;clear aM;rintro e w9 ⟨rfl,kT⟩;have CG:=o9.trans (kT.mono o9.size);have e0:cF l x=.tuple #[.agg (bn ⟨t1,t2,t3,t4⟩).toArray,true]:=eD HT.o;rw[e0];clear e0;by_cases ht4:t4=0
   case pos=>
    have Du:=H_ (show r=true by rw[T8.o,ht4];rfl);go_wp2_with fail;go_ret;exact⟨by rw[Du.o];first|done|rfl,CG.alloc CG.size _⟩
   case neg=>
    have ht4':(t4==0)=false:=by simpa using ht4
    have Du:=H_ (show r=false by rw[T8.o,ht4']);go_wp2_with fail;go_ret;exact⟨by rw[Du.o];first|done|rfl,CG.alloc CG.size _⟩
/-! A REGION THAT DRAWS ITS ORDER, BY AN INVARIANT: one goal for each operation, whatever the order. -/
def aW (listed:Array Bool) (i:Nat):Prop:=listed.getD i false=true
structure Inv (md:Region.Mode) (ops:Array Oper) (V:Nat->Value->World->Prop) (S:World->Prop) (a0:Act) (listed:Array Bool) (a:Act) (w:World):Prop where
 lsize:listed.size=ops.size
 world:S w
 defers:a.defers=a0.defers
 size:a.tmps.size=a0.tmps.size
 closed:∀i o,ops[i]? =some o->aW listed i->∀e∈o.after,Region.binds md e=true->aW listed e.on
 got:∀i o d,ops[i]? =some o->o.dst=some d->aW listed i->∃v,a.tmps[d]? =some v/\V i v w
 old:∀j,(∀i o,ops[i]? =some o->o.dst=some j->¬aW listed i)->a.tmps[j]? =a0.tmps[j]?
theorem aW.set {listed:Array Bool} {i j:Nat} (h:aW listed j):aW (listed.setIfInBounds i true) j:=by
 unfold aW at*;by_cases Gb:i=j
 ·subst Gb;by_cases hs:i<listed.size
  ·simp[Array.getD_eq_getD_getElem?,hs]
  ·simp[Array.getD_eq_getD_getElem?,hs]at h
 ·simpa[Array.getD_eq_getD_getElem?,Array.getElem?_setIfInBounds,Gb]using h
theorem aW.new {listed:Array Bool} {i:Nat} (h:i<listed.size):aW (listed.setIfInBounds i true) i:=by
 simp[aW,Array.getD_eq_getD_getElem?,h]
theorem aW.inv {listed:Array Bool} {i j:Nat} (h:aW (listed.setIfInBounds i true) j):j=i\/aW listed j:=by
 by_cases Gb:i=j
 ·exact .inl Gb.symm
 ·refine .inr ?_;unfold aW at*;simpa[Array.getD_eq_getD_getElem?,Array.getElem?_setIfInBounds,Gb]using h
theorem iU {listed:Array Bool} {i:Nat} (h:i<listed.size):listed.getD i true=listed.getD i false:=by
 simp[Array.getD_eq_getD_getElem?,h]
theorem nP {md:Region.Mode} {ops:Array Oper} {listed:Array Bool} (hl:listed.size=ops.size)
 (fQ:∀(i:Nat) (o:Oper),ops[i]? =some o->∀e∈o.after,e.on<i) (h:Region.ready md ops listed=[]):∀n i,i<n->i<ops.size->aW listed i
 |0,i,hi,_=>absurd hi (by omega)
 |n+1,i,hi,hs=>by
  have ih:=nP hl fQ h n;have jB:i ∉ Region.ready md ops listed:=by rw[h];simp
  rw[mem_ready]at jB;have hd:aW listed i\/listed.getD i true=false:=by
   rw[iU (by omega)];unfold aW;cases listed.getD i false<;>simp
  rcases hd with hd|hd
  ·exact hd
  ·refine absurd ⟨hd,ops[i],Array.getElem?_eq_getElem hs,λe he _=>?_⟩ jB;have:=fQ i ops[i] (Array.getElem?_eq_getElem hs) e he;exact ih e.on (by omega) (by omega)
def left (n:Nat) (listed:Array Bool):Nat:=((List.range n).filter λi=> !listed.getD i true).length
theorem dL {n i:Nat} {listed:Array Bool} (hs:listed.size=n) (hi:i<n) (hf:listed.getD i true=false):left n (listed.setIfInBounds i true)+1<=left n listed:=by
 unfold left;have ir:∀(l:List Nat),l.Nodup->i∈l->((l.filter λj=> !(listed.setIfInBounds i true).getD j true).length+1<=(l.filter λj=> !listed.getD j true).length):=by
  intro l
  induction l with
  |nil=>intro _ h;cases h
  |cons x l ih=>
   intro hn hm;rw[List.nodup_cons]at hn;by_cases hx:x=i
   ·subst hx;have e1:(listed.setIfInBounds x true).getD x true=true:=by simp[Array.getD_eq_getD_getElem?,hs,hi]
    have e2:∀(m:List Nat),x ∉ m->m.filter (λj=> !(listed.setIfInBounds x true).getD j true)=m.filter (λj=> !listed.getD j true):=by
     intro m jA;refine List.filter_congr λj hj=>?_
     have bT:x≠j:=λe=>jA (e▸hj)
     simp[Array.getD_eq_getD_getElem?,bT]
    rw[List.filter_cons_of_neg (by simp[e1]),List.filter_cons_of_pos (by simp[hf]),e2 l hn.1];simp
   ·have jA:i∈l:=by
     rcases List.mem_cons.1 hm with h|h
     ·exact absurd h.symm hx
     ·exact h
    have ih2:=ih hn.2 jA;have bT:i≠x:=λe=>hx e.symm
    have e1:(listed.setIfInBounds i true).getD x true=listed.getD x true:=by
     simp[Array.getD_eq_getD_getElem?,bT]
    by_cases hb:listed.getD x true=true
    ·rw[List.filter_cons_of_neg (by rw[e1];simp[hb]),List.filter_cons_of_neg (by simp[hb])];exact ih2
    ·have aH:listed.getD x true=false:=by simpa using hb
     rw[List.filter_cons_of_pos (by rw[e1];simp[aH]),List.filter_cons_of_pos (by simp[aH])];simp only[List.length_cons];omega
 exact ir _ List.nodup_range (List.mem_range.2 hi)
theorem A7 {P:Program} {md:Region.Mode} {ops:Array Oper} {Q:Exit->Act->World->Prop} {V:Nat->Value->World->Prop} {S:World->Prop} {a0:Act}
 (fQ:∀(i:Nat) (o:Oper),ops[i]? =some o->∀e∈o.after,e.on<i)
 (jW:∀(i j:Nat) (oi oj:Oper) (d:Nat),ops[i]? =some oi->ops[j]? =some oj->oi.dst=some d->oj.dst=some d->i=j)
 (aU:∀(i:Nat) (o:Oper) (d:Nat),ops[i]? =some o->o.dst=some d->d<a0.tmps.size)
 (dy:∀i o,ops[i]? =some o->∀listed a w,Inv md ops V S a0 listed a w->(∀e∈o.after,Region.binds md e=true->aW listed e.on)->¬aW listed i->
  ∀K:Act->World->Prop,(∀v w',S w'->V i v w'->(∀j u,V j u w->V j u w')->K (a.put o.dst v) w')->if Region.wanted o (yielded ops a.tmps)=true then o.wp P a w K Q else K (a.put o.dst undef) w)
 (i8:∀listed a w,Inv md ops V S a0 listed a w->(∀i,i<ops.size->aW listed i)->Q .normal a w):
 ∀bZ listed a w,Inv md ops V S a0 listed a w->left ops.size listed<=bZ->wpAny P md ops Q bZ listed a w
 |0,listed,a,w,hI,hf=>by
  have hr:Region.ready md ops listed=[]:=by
   rw[List.eq_nil_iff_forall_not_mem];intro i hi;obtain⟨h1,o,h2,_⟩:=mem_ready.1 hi;have:=dL hI.lsize (Array.getElem?_eq_some_iff.1 h2).1 h1;omega
  exact⟨hr,i8 listed a w hI (λi hi=>nP hI.lsize fQ hr (i+1) i (by omega) hi)⟩
 |bZ+1,listed,a,w,hI,hf=>by
  refine⟨λhr=>i8 listed a w hI (λi hi=>nP hI.lsize fQ hr (i+1) i (by omega) hi),λi hi=>?_⟩;obtain⟨h1,o,h2,h3⟩:=mem_ready.1 hi;have bP:i<ops.size:=(Array.getElem?_eq_some_iff.1 h2).1;have hnd:¬aW listed i:=by
   unfold aW;rw[<-iU (by rw[hI.lsize];exact bP),h1];simp
  refine wpOp_step h2 (λK hK=>dy i o h2 listed a w hI h3 hnd K (λv w' hS hv kW=>hK _ _ ?_));refine A7 fQ jW aU dy i8 bZ _ _ _ ?_ ?_
  ·refine⟨by simpa using hI.lsize,hS,?_,?_,?_,?_,?_⟩
   ·cases o.dst<;>exact hI.defers
   ·cases ho:o.dst<;>simp[Act.put,hI.size]
   ·intro j oj hj hd e he hb;rcases hd.inv with rfl|hd
    ·rw[h2]at hj;cases hj;exact aW.set (h3 e he hb)
    ·exact aW.set (hI.closed j oj hj hd e he hb)
   ·intro j oj d hj jx hd;by_cases CF:j=i
    ·subst CF;rw[h2]at hj;cases hj;refine⟨v,?_,hv⟩;have:=aU j o d h2 jx;simp[Act.put,jx,hI.size,this]
    ·rcases hd.inv with h|hd
     ·exact absurd h CF
     ·obtain⟨u,hu,hV⟩:=hI.got j oj d hj jx hd;refine⟨u,?_,kW j u hV⟩;cases ho:o.dst with
      |none=>simpa[Act.put,ho]using hu
      |some d'=>
       have bT:d'≠d:=λe=>CF (jW j i oj o d hj h2 jx (by rw[ho,e]))
       simpa[Act.put,Array.getElem?_setIfInBounds,bT]using hu
   ·intro j hj;have h4:=hI.old j (λk ok hk yS hd=>hj k ok hk yS hd.set);cases ho:o.dst with
    |none=>simpa[Act.put]using h4
    |some d'=>
     have bT:d'≠j:=λe=>hj i o h2 (by rw[ho,e]) (aW.new (by rw[hI.lsize];exact bP))
     simpa[Act.put,Array.getElem?_setIfInBounds,bT]using h4
  ·have:=dL hI.lsize bP h1;omega
def Th (ops:Array Oper):Bool:=(List.range ops.size).all λi=>match ops[i]? with
 |some o=>o.after.toList.all λe=>decide (e.on<i)
 |none=>true
def v8 (ops:Array Oper) (n:Nat):Bool:=(List.range ops.size).all λi=>match ops[i]? with
 |some o=>(match o.dst with
  |some d=>decide (d<n)&&(List.range ops.size).all λj=>i==j||(match ops[j]? with
   |some oj=>oj.dst !=some d
   |none=>true)
  |none=>true)
 |none=>true
theorem AE {ops:Array Oper} (h:Th ops=true) (i:Nat) (o:Oper) (ho:ops[i]? =some o):∀e∈o.after,e.on<i:=by
 intro e he;simp only[Th,List.all_eq_true,List.mem_range]at h;have:=h i (Array.getElem?_eq_some_iff.1 ho).1;rw[ho]at this;simp only[List.all_eq_true,decide_eq_true_eq]at this;exact this e (by simpa using he)
theorem dD {ops:Array Oper} {n:Nat} (h:v8 ops n=true) (i:Nat) (o:Oper) (d:Nat) (ho:ops[i]? =some o) (hd:o.dst=some d):
 d<n/\∀(j:Nat) (oj:Oper),ops[j]? =some oj->oj.dst=some d->i=j:=by
 simp only[v8,List.all_eq_true,List.mem_range]at h;have:=h i (Array.getElem?_eq_some_iff.1 ho).1;rw[ho]at this;simp only[hd,Bool.and_eq_true,decide_eq_true_eq,List.all_eq_true,List.mem_range,Bool.or_eq_true,beq_iff_eq]at this;refine⟨this.1,λj oj hj jx=>?_⟩;rcases this.2 j (Array.getElem?_eq_some_iff.1 hj).1 with h|h
 ·exact h
 ·rw[hj]at h;simp[jx]at h
def ei (P:Nat->Oper->Prop):Nat->List Oper->Prop
 |_,[]=>True
 |k,o::l=>P k o/\ei P (k+1) l
theorem ei.get {P:Nat->Oper->Prop}:∀{k:Nat} {l:List Oper} {i:Nat} {o:Oper},ei P k l->l[i]? =some o->P (k+i) o
 |_,[],_,_,_,h=>by simp at h
 |k,x::l,0,o,h,ho=>by
  simp at ho;subst ho;exact h.1
 |k,x::l,i+1,o,h,ho=>by
  have:=ei.get (k:=k+1) (i:=i) h.2 (by simpa using ho)
  rwa[show k+(i+1)=k+1+i from by omega]
def dG (P:Program) (md:Region.Mode) (ops:Array Oper) (Q:Exit->Act->World->Prop) (V:Nat->Value->World->Prop) (S:World->Prop) (a0:Act) (i:Nat) (o:Oper):Prop:=
 ∀listed a w,Inv md ops V S a0 listed a w->(∀e∈o.after,Region.binds md e=true->aW listed e.on)->¬aW listed i->
  ∀K:Act->World->Prop,Shut (∀v w',S w'->V i v w'->(∀j u,V j u w->V j u w')->K (a.put o.dst v) w')->if Region.wanted o (yielded ops a.tmps)=true then o.wp P a w K Q else K (a.put o.dst undef) w
theorem bk {P:Program} {ops:Array Oper} {Q:Exit->Act->World->Prop} (V:Nat->Value->World->Prop) (S:World->Prop) {id:Nat} {a:Act} {w:World}
 (hm:P.follows .mixedOrders=true) (ho:Th ops=true) (hd:v8 ops a.tmps.size=true) (hS:S w.drew)
 (dy:ei (dG P .any ops Q V S a) 0 ops.toList)
 (i8:∀listed a' w',Inv .any ops V S a listed a' w'->(∀i,i<ops.size->aW listed i)->Q .normal a' w'):(Code.region id ops true).wp P Q a w:=by
 refine wp_region_any hm (A7 (V:=V) (S:=S) (a0:=a) (AE ho) (λi j oi oj d hi hj mA jx=>(dD hd i oi d hi mA).2 j oj hj jx) (λi o d hi mA=>(dD hd i o d hi mA).1)
  (λi o hi listed a' w' hI ns hnd K hK=>?_) i8 _ _ _ _ ?_ ?_)
 ·have:=ei.get dy (i:=i) (o:=o) (by simpa using hi);rw[Nat.zero_add]at this;exact this listed a' w' hI ns hnd K hK
 ·have fg:∀i,¬aW (Array.replicate ops.size false) i:=λi h=>by
   unfold aW at h;by_cases hi:i<ops.size<;>simp[Array.getD_eq_getD_getElem?,hi]at h
  exact⟨by simp,hS,rfl,rfl,λi _ _ h=>absurd h (fg i),λi _ _ _ _ h=>absurd h (fg i),λ_ _=>rfl⟩
 ·unfold left;exact Nat.le_trans (List.length_filter_le _ _) (by simp)
section
variable {md:Region.Mode} {ops:Array Oper} {V:Nat->Value->World->Prop} {S:World->Prop} {a0:Act} {listed:Array Bool} {a:Act} {w:World}
theorem Inv.keep (hI:Inv md ops V S a0 listed a w) {i:Nat} (hnd:¬aW listed i) (j:Nat) (v:Value) (h0:a0.tmps[j]? =some v)
 (h:(ops.toList.all λo=>o.dst !=some j||o.after.toList.any λe=>Region.binds md e&&e.on==i)=true):a.eval (.tmp j)=v:=by
 have:=hI.old j (λm o hm Mz ns=>hnd ?_)
 ·simp[Act.eval,Array.getD_eq_getD_getElem?,this,h0]
 ·simp only[List.all_eq_true]at h;have h1:=h o (by simpa using Array.mem_of_getElem? hm);rw[Mz]at h1;simp only[bne_self_eq_false,Bool.false_or,List.any_eq_true,Bool.and_eq_true,beq_iff_eq]at h1;obtain⟨e,he,hb,rfl⟩:=h1;exact hI.closed m o hm ns e (by simpa using he) hb
theorem Inv.val (hI:Inv md ops V S a0 listed a w) {o:Oper} (hd:∀e∈o.after,Region.binds md e=true->aW listed e.on) (j:Nat) {oj:Oper} {d:Nat} (hj:ops[j]? =some oj) (jx:oj.dst=some d)
 (h:(o.after.toList.any λe=>Region.binds md e&&e.on==j)=true):∃v,a.eval (.tmp d)=v/\V j v w:=by
 simp only[List.any_eq_true,Bool.and_eq_true,beq_iff_eq]at h;obtain⟨e,he,hb,rfl⟩:=h;obtain⟨v,hv,hV⟩:=hI.got e.on oj d hj jx (hd e (by simpa using he) hb);exact⟨v,by simp[Act.eval,Array.getD_eq_getD_getElem?,hv],hV⟩
def ba (t:Array Value) (l:List (Nat × Value)):Array Value:=l.foldl (λt p=>t.setIfInBounds p.1 p.2) t
theorem yu (u:Array Value) (j:Nat):∀(l:List (Nat × Value)) (t:Array Value),t.size=u.size->(∀p∈l,u[p.1]? =some p.2)->(j ∉ l.map (·.1)->t[j]? =u[j]?)->(ba t l)[j]? =u[j]?
 |[],t,_,_,h=>h (by simp)
 |p::l,t,hs,hl,h=>by
  refine yu u j l _ (by simpa using hs) (λq hq=>hl q (List.mem_cons_of_mem _ hq)) (λhn=>?_);have hp:=hl p List.mem_cons_self;have aU:p.1<t.size:=by rw[hs];exact(Array.getElem?_eq_some_iff.1 hp).1
  by_cases hj:p.1=j
  ·subst hj;rw[hp];simp[aU]
  ·rw[Array.getElem?_setIfInBounds];simp only[hj,if_false];exact h (by simp[hn];exact λe=>hj e.symm)
theorem Inv.tmps (hI:Inv md ops V S a0 listed a w) (l:List (Nat × Value)) (hl:∀p∈l,a.tmps[p.1]? =some p.2)
 (hc:(ops.toList.all λo=>match o.dst with|some d=>(l.map (·.1)).contains d|none=>true)=true):a=⟨ba a0.tmps l,a0.defers⟩:=by
 obtain⟨t,df⟩:=a;have hd:df=a0.defers:=hI.defers;subst hd
 congr 1
 refine Array.ext_getElem? λj=>(yu t j l a0.tmps hI.size.symm hl λhn=>?_).symm
 refine(hI.old j λi o hi mA _=>hn ?_).symm;simp only[List.all_eq_true]at hc;have:=hc o (by simpa using Array.mem_of_getElem? hi);rw[mA]at this;simpa using this
end
inductive VV where
 |val (v:Value)
 |own (P:Value->World->Prop) (hP:∀v w w',Below w.heap.size w w'->P v w->P v w')
def VV.holds (W:World) (k:VV) (v:Value) (w:World):Prop:=match k with
 | .val u=>v=u
 | .own P _=>P v w
theorem VV.keep {W w w':World} {k:VV} {v:Value} (h:k.holds W v w) (hb:Below w.heap.size w w'):k.holds W v w':=by
 cases k with
 |val u=>exact h
 |own P hP=>exact hP v w w' hb h
instance:Coe Value VV:=⟨.val⟩
instance:Coe Int Lit:=⟨λx=> .int .i64 x⟩
instance:Coe Nat Lit:=⟨λx=> .int .i64 (x:Int)⟩
instance:Coe Bool Lit:=⟨λx=> .bool x⟩
instance:Coe Unit Lit:=⟨λ_=> .int .i64 0⟩
def Ks (W:World) (ks:List VV) (i:Nat) (v:Value) (w:World):Prop:=∀k,ks[i]? =some k->k.holds W v w
theorem Ks.keep {W w w':World} {ks:List VV} (hb:Below w.heap.size w w') (i:Nat) (v:Value) (h:Ks W ks i v w):Ks W ks i v w':=λk hk=>VV.keep (h k hk) hb
theorem Ks.of {W w:World} {ks:List VV} {i:Nat} {k:VV} {v:Value} (hk:ks[i]? =some k) (h:k.holds W v w):Ks W ks i v w:=λk' Fi=>by rw[hk]at Fi;cases Fi;exact h
theorem kq {S:World->Prop} {W w:World} {ks:List VV} {i:Nat} {v:Value} {a:Act} {d:Option Tmp} {K:Act->World->Prop} (hK:Shut (∀v w',S w'->Ks W ks i v w'->(∀j u,Ks W ks j u w->Ks W ks j u w')->K (a.put d v) w')) (hS:S w) (hk:ks[i]? =some (.val v)):K (a.put d v) w:=hK.out _ _ hS (Ks.of hk rfl) (λ_ _ h=>h)
theorem Inv.slot {md:Region.Mode} {ops:Array Oper} {V:Nat->Value->World->Prop} {S:World->Prop} {a0:Act} {listed:Array Bool} {a:Act} {w:World} (hI:Inv md ops V S a0 listed a w) {i:Nat} (hnd:¬aW listed i) (j:Nat) (v:Value) (h0:a0.tmps[j]? =some v)
 (h:(ops.toList.all λo=>o.dst !=some j||o.after.toList.any λe=>Region.binds md e&&e.on==i)=true):a.tmps[j]?.getD undef=v:=by
 have:=hI.keep hnd j v h0 h;simpa[Act.eval,Array.getD_eq_getD_getElem?]using this
theorem Inv.dep {md:Region.Mode} {ops:Array Oper} {W:World} {ks:List VV} {S:World->Prop} {a0:Act} {listed:Array Bool} {a:Act} {w:World} (hI:Inv md ops (Ks W ks) S a0 listed a w) {o:Oper} (hd:∀e∈o.after,Region.binds md e=true->aW listed e.on) (j d:Nat) {oj:Oper} {k:VV} (hk:ks[j]? =some k) (hj:ops[j]? =some oj) (jx:oj.dst=some d)
 (h:(o.after.toList.any λe=>Region.binds md e&&e.on==j)=true):∃v,a.tmps[d]?.getD undef=v/\k.holds W v w:=by
 obtain⟨v,hv,hV⟩:=hI.val hd j hj jx h;exact⟨v,by simpa[Act.eval,Array.getD_eq_getD_getElem?]using hv,hV k hk⟩
theorem Inv.depv {md:Region.Mode} {ops:Array Oper} {W:World} {ks:List VV} {S:World->Prop} {a0:Act} {listed:Array Bool} {a:Act} {w:World} (hI:Inv md ops (Ks W ks) S a0 listed a w) {o:Oper} (hd:∀e∈o.after,Region.binds md e=true->aW listed e.on) (j d:Nat) {oj:Oper} (v:Value) (hk:ks[j]? =some (.val v)) (hj:ops[j]? =some oj) (jx:oj.dst=some d)
 (h:(o.after.toList.any λe=>Region.binds md e&&e.on==j)=true):a.tmps[d]?.getD undef=v:=by
 obtain⟨u,hu,hV⟩:=hI.dep hd j d hk hj jx h;exact hu.trans hV
theorem Inv.yield {md:Region.Mode} {ops:Array Oper} {W:World} {ks:List VV} {S:World->Prop} {a0:Act} {listed:Array Bool} {a:Act} {w:World} (hI:Inv md ops (Ks W ks) S a0 listed a w) {o:Oper} (hd:∀e∈o.after,Region.binds md e=true->aW listed e.on) (j d:Nat) {oj:Oper} (b:Bool) (hk:ks[j]? =some (.val (.bool b))) (hj:ops[j]? =some oj) (jx:oj.dst=some d)
 (h:(o.after.toList.any λe=>Region.binds md e&&e.on==j)=true):yielded ops a.tmps j=some b:=by
 simp only[List.any_eq_true,Bool.and_eq_true,beq_iff_eq]at h;obtain⟨e,he,hb,rfl⟩:=h;obtain⟨v,hv,hV⟩:=hI.got e.on oj d hj jx (hd e (by simpa using he) hb);have h2:v=.bool b:=hV _ hk;subst h2;simp[yielded,hj,jx,hv]
theorem af {P:Program} {o:Oper} {a:Act} {w:World} {K:Act->World->Prop} {Q:Exit->Act->World->Prop} {E:Prop} {y:Nat->Option Bool} {j:Nat} {b:Bool} (hg:o.guard=some (j,b)) (hy:y j=some b) (h:o.wp P a w K Q):if Region.wanted o y=true then o.wp P a w K Q else E:=by
 rw[if_pos (by simp[Region.wanted,hg,hy])];exact h
theorem an {P:Program} {o:Oper} {a:Act} {w:World} {K:Act->World->Prop} {Q:Exit->Act->World->Prop} {E:Prop} {y:Nat->Option Bool} {j:Nat} {b b':Bool} (hg:o.guard=some (j,b)) (hy:y j=some b') (bT:(b'==b)=false) (h:E):if Region.wanted o y=true then o.wp P a w K Q else E:=by
 rw[if_neg (by simp only[Region.wanted,hg,hy];cases b<;>cases b'<;>simp_all)];exact h
theorem aa {P:Program} {o:Oper} {a:Act} {w:World} {K:Act->World->Prop} {Q:Exit->Act->World->Prop} {E:Prop} {y:Nat->Option Bool} (hg:o.guard=none) (h:o.wp P a w K Q):if Region.wanted o y=true then o.wp P a w K Q else E:=by
 rw[if_pos (by simp[Region.wanted,hg])];exact h
section
variable {md:Region.Mode} {ops:Array Oper} {V:Nat->Value->World->Prop} {S:World->Prop} {a0:Act} {listed:Array Bool} {a:Act} {w W:World} {ks:List VV} {o:Oper}
theorem Inv.q (hI:Inv md ops V S a0 listed a w) {i:Nat} (hnd:¬aW listed i) (j:Nat) {v:Value} (h0:a0.tmps[j]? =some v:=by rfl)
 (h:(ops.toList.all λo=>o.dst !=some j||o.after.toList.any λe=>Region.binds md e&&e.on==i)=true:=by kernel_rfl):a.tmps[j]?.getD undef=v:=hI.slot hnd j v h0 h
theorem bind_dst {j d:Nat} (h:(ops[j]?).bind (·.dst)=some d):∃oj,ops[j]? =some oj/\oj.dst=some d:=by
 cases e:ops[j]? with
 |none=>rw[e]at h;cases h
 |some oj=>rw[e]at h;exact⟨oj,rfl,h⟩
theorem Inv.p (hI:Inv md ops (Ks W ks) S a0 listed a w) (hd:∀e∈o.after,Region.binds md e=true->aW listed e.on) (j d:Nat) {v:Value} (hk:ks[j]? =some (.val v):=by rfl) (hj:(ops[j]?).bind (·.dst)=some d:=by rfl)
 (h:(o.after.toList.any λe=>Region.binds md e&&e.on==j)=true:=by kernel_rfl):a.tmps[d]?.getD undef=v:=by
 obtain⟨oj,h1,h2⟩:=bind_dst hj;exact hI.depv hd j d v hk h1 h2 h
theorem Inv.r (hI:Inv md ops (Ks W ks) S a0 listed a w) (hd:∀e∈o.after,Region.binds md e=true->aW listed e.on) (j d:Nat) (b:Bool) (hk:ks[j]? =some (.val (.bool b)):=by rfl) (hj:(ops[j]?).bind (·.dst)=some d:=by rfl)
 (h:(o.after.toList.any λe=>Region.binds md e&&e.on==j)=true:=by kernel_rfl):yielded ops a.tmps j=some b:=by
 obtain⟨oj,h1,h2⟩:=bind_dst hj;exact hI.yield hd j d b hk h1 h2 h
variable {P:Program} {i:Nat} {v:Value} {d:Option Tmp} {K:Act->World->Prop} {Q:Exit->Act->World->Prop} {E:Prop} {y:Nat->Option Bool}
theorem Inv.z (hI:Inv md ops (Ks W ks) S a0 listed a w) (hK:Shut (∀v w',S w'->Ks W ks i v w'->(∀j u,Ks W ks j u w->Ks W ks j u w')->K (a.put d v) w')) (hg:o.guard=none:=by rfl) (hk:ks[i]? =some (.val v):=by rfl)
 (h:∀K':Act->World->Prop,Shut (K' (a.put d v) w)->o.wp P a w K' Q:=by(intro K' hK';clear hI hd hnd hK;go_simp;exact hK'.out)):if Region.wanted o y=true then o.wp P a w K Q else E:=by
 rw[if_pos (by simp[Region.wanted,hg])];exact h K (kq hK hI.world hk)
theorem Inv.z1 {jg:Nat} {b:Bool} (hI:Inv md ops (Ks W ks) S a0 listed a w) (hK:Shut (∀v w',S w'->Ks W ks i v w'->(∀j u,Ks W ks j u w->Ks W ks j u w')->K (a.put d v) w')) (hy:y jg=some b) (hg:o.guard=some (jg,b):=by rfl) (hk:ks[i]? =some (.val v):=by rfl)
 (h:∀K':Act->World->Prop,Shut (K' (a.put d v) w)->o.wp P a w K' Q:=by(intro K' hK';clear hI hd hnd hK;go_simp;exact hK'.out)):if Region.wanted o y=true then o.wp P a w K Q else E:=by
 rw[if_pos (by simp[Region.wanted,hg,hy])];exact h K (kq hK hI.world hk)
theorem Inv.z2 {jg:Nat} {b b':Bool} (hI:Inv md ops (Ks W ks) S a0 listed a w) (hK:Shut (∀v w',S w'->Ks W ks i v w'->(∀j u,Ks W ks j u w->Ks W ks j u w')->K (a.put d v) w')) (hy:y jg=some b') (hg:o.guard=some (jg,b):=by rfl) (bT:(b'==b)=false:=by rfl) (hk:ks[i]? =some (.val v):=by rfl):if Region.wanted o y=true then o.wp P a w K Q else K (a.put d v) w:=by
 rw[if_neg (by simp only[Region.wanted,hg,hy];cases b<;>cases b'<;>simp_all)];exact kq hK hI.world hk
abbrev Ch (ds:List Nat):(List (Nat × Value)->Prop)->Prop:=
 List.rec (motive:=λ_=>(List (Nat × Value)->Prop)->Prop) (λk=>k []) (λd _ r k=>∃x,r (λl=>k ((d,x)::l))) ds
theorem ch_of:∀(ds:List Nat) (k:List (Nat × Value)->Prop),(∃l:List (Nat × Value),l.map (·.1)=ds/\k l)->Ch ds k
 |[],k,⟨l,h1,h2⟩=>by
  obtain rfl:l=[]:=by simpa using h1
  exact h2
 |d::ds,k,⟨[],h1,h2⟩=>by simp at h1
 |d::ds,k,⟨(d',x)::l,h1,h2⟩=>by
  simp only[List.map_cons,List.cons.injEq]at h1;obtain⟨rfl,h1⟩:=h1;exact⟨x,ch_of ds _ ⟨l,h1,h2⟩⟩
theorem vals_of {V:Nat->Value->World->Prop} {w:World}:∀(ds:List Nat) (i:Nat),(∀j (h:j<ds.length),∃v,a.tmps[ds[j]]? =some v/\V (i+j) v w)->∃l:List (Nat × Value),l.map (·.1)=ds/\(∀p∈l,a.tmps[p.1]? =some p.2)/\∀j d v,l[j]? =some (d,v)->V (i+j) v w
 |[],i,_=>⟨[],rfl,by simp,by simp⟩
 |d::ds,i,h=>by
  obtain⟨x,hx,hV⟩:=h 0 (by simp);obtain⟨l,h1,h2,h3⟩:=vals_of ds (i+1) (λj hj=>by
   obtain⟨v,h1,h2⟩:=h (j+1) (by simp;omega);exact⟨v,by simpa using h1,by rwa[show i+1+j=i+(j+1) by omega]⟩)
  refine⟨(d,x)::l,by simp[h1],λp hp=>?_,λj d' v hj=>?_⟩
  ·rcases List.mem_cons.1 hp with e|hp
   ·rw[e];exact hx
   ·exact h2 p hp
  ·cases j with
   |zero=>simp at hj;rw[<-hj.2];exact hV
   |succ j=>
    have:=h3 j d' v (by simpa using hj)
    rwa[show i+(j+1)=i+1+j by omega]
theorem dst_at {ds:List Nat} (hd:(ops.toList.map (·.dst)==ds.map some)=true) {j:Nat} (h:j<ds.length):∃oj,ops[j]? =some oj/\oj.dst=some ds[j]:=by
 have e:ops.toList.map (·.dst)=ds.map some:=by simpa using hd
 have hl:ops.size=ds.length:=by simpa using congrArg List.length e
 have h2:(ops.toList.map (·.dst))[j]? =(ds.map some)[j]? :=by rw[e]
 have hj:j<ops.size:=by omega
 refine⟨ops[j],by simp[hj],?_⟩;simpa[h,hj]using h2
theorem Inv.ch (hI:Inv md ops V S a0 listed a w) (hall:∀i,i<ops.size->aW listed i) (ds:List Nat) (hd:(ops.toList.map (·.dst)==ds.map some)=true:=by kernel_rfl):Ch ds (λl=>a=⟨ba a0.tmps l,a0.defers⟩/\∀i d v,l[i]? =some (d,v)->V i v w):=by
 have e:ops.toList.map (·.dst)=ds.map some:=by simpa using hd
 have hl:ops.size=ds.length:=by simpa using congrArg List.length e
 obtain⟨l,h1,h2,h3⟩:=vals_of (V:=V) (w:=w) (a:=a) ds 0 (λj hj=>by
  obtain⟨oj,h3,h4⟩:=dst_at hd hj;obtain⟨v,h5,h6⟩:=hI.got j oj _ h3 h4 (hall j (by omega));exact⟨v,h5,by rwa[Nat.zero_add]⟩)
 refine ch_of ds _ ⟨l,h1,hI.tmps l h2 ?_,λi d v hi=>by have:=h3 i d v hi;rwa[Nat.zero_add]at this⟩;rw[List.all_eq_true];intro o ho;obtain⟨j,hj,rfl⟩:=List.getElem_of_mem ho;obtain⟨oj,h3,h4⟩:=dst_at hd (j:=j) (by simp at hj;omega);have h5:ops.toList[j]=oj:=by
  have:ops.toList[j]? =some oj:=by simpa using h3
  exact(List.getElem?_eq_some_iff.1 this).2
 rw[h5,h4,h1];simp
end
section
variable {md:Region.Mode} {ops:Array Oper} {V:Nat->Value->World->Prop} {S:World->Prop} {a0:Act} {W:World} {ks:List VV} {o:Oper} {P:Program} {i:Nat} {v:Value} {Q:Exit->Act->World->Prop} {jg:Nat} {b b':Bool}
def Srq (md:Region.Mode) (ops:Array Oper) (V:Nat->Value->World->Prop) (a0:Act) (i:Nat) (o:Oper) (t:Nat) (v:Value):Prop:=∀S listed a w,Inv md ops V S a0 listed a w->(∀e∈o.after,Region.binds md e=true->aW listed e.on)->¬aW listed i->a.tmps[t]?.getD undef=v
theorem q_ (j:Nat) {v:Value} (h0:a0.tmps[j]? =some v:=by rfl) (h:(ops.toList.all λo=>o.dst !=some j||o.after.toList.any λe=>Region.binds md e&&e.on==i)=true:=by kernel_rfl):Srq md ops V a0 i o j v:=λ_ _ _ _ hI _ hnd=>hI.q hnd j h0 h
theorem p_ (j d:Nat) {v:Value} (hk:ks[j]? =some (.val v):=by rfl) (hj:(ops[j]?).bind (·.dst)=some d:=by rfl) (h:(o.after.toList.any λe=>Region.binds md e&&e.on==j)=true:=by kernel_rfl):Srq md ops (Ks W ks) a0 i o d v:=λ_ _ _ _ hI hd _=>hI.p hd j d hk hj h
theorem a_ (hg:o.guard=none:=by rfl) (hk:ks[i]? =some (.val v):=by rfl) (h:∀a w (K':Act->World->Prop),Shut (K' (a.put o.dst v) w)->o.wp P a w K' Q:=by(intro A0 w2 K' hK';go_simp;exact hK'.out)):dG P md ops Q (Ks W ks) S a0 i o:=
 λ_ _ _ hI _ _ K hK=>by rw[if_pos (by simp[Region.wanted,hg])];exact h _ _ K (kq hK hI.world hk)
theorem b_ {t:Nat} {u:Value} (e:Srq md ops (Ks W ks) a0 i o t u) (hg:o.guard=none:=by rfl) (hk:ks[i]? =some (.val v):=by rfl) (h:∀a w (K':Act->World->Prop),a.tmps[t]?.getD undef=u->Shut (K' (a.put o.dst v) w)->o.wp P a w K' Q:=by(intro A0 w2 K' e0 hK';go_simp;exact hK'.out)):dG P md ops Q (Ks W ks) S a0 i o:=
 λ_ _ _ hI hd hnd K hK=>by rw[if_pos (by simp[Region.wanted,hg])];exact h _ _ K (e _ _ _ _ hI hd hnd) (kq hK hI.world hk)
theorem c_ {t t':Nat} {u u':Value} (e:Srq md ops (Ks W ks) a0 i o t u) (e':Srq md ops (Ks W ks) a0 i o t' u') (hg:o.guard=none:=by rfl) (hk:ks[i]? =some (.val v):=by rfl) (h:∀a w (K':Act->World->Prop),a.tmps[t]?.getD undef=u->a.tmps[t']?.getD undef=u'->Shut (K' (a.put o.dst v) w)->o.wp P a w K' Q:=by(intro A0 w2 K' e0 e1 hK';go_simp;exact hK'.out)):dG P md ops Q (Ks W ks) S a0 i o:=
 λ_ _ _ hI hd hnd K hK=>by rw[if_pos (by simp[Region.wanted,hg])];exact h _ _ K (e _ _ _ _ hI hd hnd) (e' _ _ _ _ hI hd hnd) (kq hK hI.world hk)
def Yck (md:Region.Mode) (ops:Array Oper) (ks:List VV) (o:Oper) (n:Bool):Bool:=match o.guard with
 |some (j,b)=>(match ks[j]? with
  |some (.val (.bool c))=>(c==b) !=n
  |_=>false)&&((ops[j]?).bind (·.dst)).isSome&&o.after.toList.any λe=>Region.binds md e&&e.on==j
 |none=>false
theorem yck {n:Bool} (h:Yck md ops ks o n=true):∃j b c,o.guard=some (j,b)/\((c==b) !=n)=true/\∀S listed a w,Inv md ops (Ks W ks) S a0 listed a w->(∀e∈o.after,Region.binds md e=true->aW listed e.on)->yielded ops a.tmps j=some c:=by
 unfold Yck at h;split at h
 ·next j b hg=>
  simp only[Bool.and_eq_true]at h;obtain⟨⟨h1,h2⟩,h3⟩:=h;split at h1
  ·next c hk=>
   obtain⟨d,hd⟩:=Option.isSome_iff_exists.1 h2;exact⟨j,b,c,hg,h1,λ_ _ _ _ hI ad6=>hI.r ad6 j d c hk hd h3⟩
  ·cases h1
 ·cases h
theorem ywp (h:Yck md ops ks o false=true) {a:Act} {w:World} {listed:Array Bool} {K:Act->World->Prop} {E:Prop} (hI:Inv md ops (Ks W ks) S a0 listed a w) (hd:∀e∈o.after,Region.binds md e=true->aW listed e.on) (g:o.wp P a w K Q):if Region.wanted o (yielded ops a.tmps)=true then o.wp P a w K Q else E:=by
 obtain⟨j,b,c,hg,hc,hy⟩:=yck (W:=W) (a0:=a0) h;rw[if_pos (by simp only[Region.wanted,hg,hy _ _ _ _ hI hd];cases b<;>cases c<;>simp_all)];exact g
theorem d_ (hy:Yck md ops ks o false=true:=by kernel_rfl) (hk:ks[i]? =some (.val v):=by rfl) (h:∀a w (K':Act->World->Prop),Shut (K' (a.put o.dst v) w)->o.wp P a w K' Q:=by(intro A0 w2 K' hK';go_simp;exact hK'.out)):dG P md ops Q (Ks W ks) S a0 i o:=
 λ_ _ _ hI hd _ K hK=>ywp hy hI hd (h _ _ K (kq hK hI.world hk))
theorem f_ {t:Nat} {u:Value} (e:Srq md ops (Ks W ks) a0 i o t u) (hy:Yck md ops ks o false=true:=by kernel_rfl) (hk:ks[i]? =some (.val v):=by rfl) (h:∀a w (K':Act->World->Prop),a.tmps[t]?.getD undef=u->Shut (K' (a.put o.dst v) w)->o.wp P a w K' Q:=by(intro A0 w2 K' e0 hK';go_simp;exact hK'.out)):dG P md ops Q (Ks W ks) S a0 i o:=
 λ_ _ _ hI hd hnd K hK=>ywp hy hI hd (h _ _ K (e _ _ _ _ hI hd hnd) (kq hK hI.world hk))
theorem g_ {t t':Nat} {u u':Value} (e:Srq md ops (Ks W ks) a0 i o t u) (e':Srq md ops (Ks W ks) a0 i o t' u') (hy:Yck md ops ks o false=true:=by kernel_rfl) (hk:ks[i]? =some (.val v):=by rfl) (h:∀a w (K':Act->World->Prop),a.tmps[t]?.getD undef=u->a.tmps[t']?.getD undef=u'->Shut (K' (a.put o.dst v) w)->o.wp P a w K' Q:=by(intro A0 w2 K' e0 e1 hK';go_simp;exact hK'.out)):dG P md ops Q (Ks W ks) S a0 i o:=
 λ_ _ _ hI hd hnd K hK=>ywp hy hI hd (h _ _ K (e _ _ _ _ hI hd hnd) (e' _ _ _ _ hI hd hnd) (kq hK hI.world hk))
theorem n_ (hy:Yck md ops ks o true=true:=by kernel_rfl) (hk:ks[i]? =some (.val undef):=by rfl):dG P md ops Q (Ks W ks) S a0 i o:=
 λ_ _ _ hI hd _ K hK=>by
  obtain⟨j,b,c,hg,hc,hy⟩:=yck (W:=W) (a0:=a0) hy;rw[if_neg (by simp only[Region.wanted,hg,hy _ _ _ _ hI hd];cases b<;>cases c<;>simp_all)];exact kq hK hI.world hk
theorem e_ {t:Nat} {u cv:Value} {p:Addr} (e:Srq md ops (Ks W ks) a0 i o t u) (c:∀w,S w->w.cell? p=some cv) (hg:o.guard=none:=by rfl) (hk:ks[i]? =some (.val v):=by rfl) (h:∀a w (K':Act->World->Prop),a.tmps[t]?.getD undef=u->w.cell? p=some cv->Shut (K' (a.put o.dst v) w)->o.wp P a w K' Q:=by(intro A0 w2 K' e0 cI hK';go_simp;exact hK'.out)):dG P md ops Q (Ks W ks) S a0 i o:=
 λ_ _ _ hI hd hnd K hK=>by rw[if_pos (by simp[Region.wanted,hg])];exact h _ _ K (e _ _ _ _ hI hd hnd) (c _ hI.world) (kq hK hI.world hk)
theorem h_ {t:Nat} {u cv:Value} {p:Addr} (e:Srq md ops (Ks W ks) a0 i o t u) (c:∀w,S w->w.cell? p=some cv) (hy:Yck md ops ks o false=true:=by kernel_rfl) (hk:ks[i]? =some (.val v):=by rfl) (h:∀a w (K':Act->World->Prop),a.tmps[t]?.getD undef=u->w.cell? p=some cv->Shut (K' (a.put o.dst v) w)->o.wp P a w K' Q:=by(intro A0 w2 K' e0 cI hK';go_simp;exact hK'.out)):dG P md ops Q (Ks W ks) S a0 i o:=
 λ_ _ _ hI hd hnd K hK=>ywp hy hI hd (h _ _ K (e _ _ _ _ hI hd hnd) (c _ hI.world) (kq hK hI.world hk))
theorem O0_ (h:∀a w (K:Act->World->Prop),S w->Shut (∀v w',S w'->V i v w'->(∀j u,V j u w->V j u w')->K (a.put o.dst v) w')->o.wp P a w K Q) (hg:o.guard=none:=by rfl):dG P md ops Q V S a0 i o:=λ_ _ _ hI hd hn K hK=>by rw[if_pos (by simp[Region.wanted,hg])];exact h _ _ K hI.world hK
theorem O1_ {t0:Nat} {u0:Value} (e0:Srq md ops V a0 i o t0 u0) (h:∀a w (K:Act->World->Prop),a.tmps[t0]?.getD undef=u0->S w->Shut (∀v w',S w'->V i v w'->(∀j u,V j u w->V j u w')->K (a.put o.dst v) w')->o.wp P a w K Q) (hg:o.guard=none:=by rfl):dG P md ops Q V S a0 i o:=λ_ _ _ hI hd hn K hK=>by rw[if_pos (by simp[Region.wanted,hg])];exact h _ _ K (e0 _ _ _ _ hI hd hn) hI.world hK
theorem O2_ {t0 t1:Nat} {u0 u1:Value} (e0:Srq md ops V a0 i o t0 u0) (e1:Srq md ops V a0 i o t1 u1) (h:∀a w (K:Act->World->Prop),a.tmps[t0]?.getD undef=u0->a.tmps[t1]?.getD undef=u1->S w->Shut (∀v w',S w'->V i v w'->(∀j u,V j u w->V j u w')->K (a.put o.dst v) w')->o.wp P a w K Q) (hg:o.guard=none:=by rfl):dG P md ops Q V S a0 i o:=λ_ _ _ hI hd hn K hK=>by rw[if_pos (by simp[Region.wanted,hg])];exact h _ _ K (e0 _ _ _ _ hI hd hn) (e1 _ _ _ _ hI hd hn) hI.world hK
theorem O3_ {t0 t1 t2:Nat} {u0 u1 u2:Value} (e0:Srq md ops V a0 i o t0 u0) (e1:Srq md ops V a0 i o t1 u1) (e2:Srq md ops V a0 i o t2 u2) (h:∀a w (K:Act->World->Prop),a.tmps[t0]?.getD undef=u0->a.tmps[t1]?.getD undef=u1->a.tmps[t2]?.getD undef=u2->S w->Shut (∀v w',S w'->V i v w'->(∀j u,V j u w->V j u w')->K (a.put o.dst v) w')->o.wp P a w K Q) (hg:o.guard=none:=by rfl):dG P md ops Q V S a0 i o:=λ_ _ _ hI hd hn K hK=>by rw[if_pos (by simp[Region.wanted,hg])];exact h _ _ K (e0 _ _ _ _ hI hd hn) (e1 _ _ _ _ hI hd hn) (e2 _ _ _ _ hI hd hn) hI.world hK
theorem O4_ {t0 t1 t2 t3:Nat} {u0 u1 u2 u3:Value} (e0:Srq md ops V a0 i o t0 u0) (e1:Srq md ops V a0 i o t1 u1) (e2:Srq md ops V a0 i o t2 u2) (e3:Srq md ops V a0 i o t3 u3) (h:∀a w (K:Act->World->Prop),a.tmps[t0]?.getD undef=u0->a.tmps[t1]?.getD undef=u1->a.tmps[t2]?.getD undef=u2->a.tmps[t3]?.getD undef=u3->S w->Shut (∀v w',S w'->V i v w'->(∀j u,V j u w->V j u w')->K (a.put o.dst v) w')->o.wp P a w K Q) (hg:o.guard=none:=by rfl):dG P md ops Q V S a0 i o:=λ_ _ _ hI hd hn K hK=>by rw[if_pos (by simp[Region.wanted,hg])];exact h _ _ K (e0 _ _ _ _ hI hd hn) (e1 _ _ _ _ hI hd hn) (e2 _ _ _ _ hI hd hn) (e3 _ _ _ _ hI hd hn) hI.world hK
theorem P0_ (h:∀a w (K:Act->World->Prop),S w->Shut (∀v w',S w'->(Ks W ks) i v w'->(∀j u,(Ks W ks) j u w->(Ks W ks) j u w')->K (a.put o.dst v) w')->o.wp P a w K Q) (hy:Yck md ops ks o false=true:=by kernel_rfl):dG P md ops Q (Ks W ks) S a0 i o:=λ_ _ _ hI hd hn K hK=>ywp hy hI hd (h _ _ K hI.world hK)
theorem P1_ {t0:Nat} {u0:Value} (e0:Srq md ops (Ks W ks) a0 i o t0 u0) (h:∀a w (K:Act->World->Prop),a.tmps[t0]?.getD undef=u0->S w->Shut (∀v w',S w'->(Ks W ks) i v w'->(∀j u,(Ks W ks) j u w->(Ks W ks) j u w')->K (a.put o.dst v) w')->o.wp P a w K Q) (hy:Yck md ops ks o false=true:=by kernel_rfl):dG P md ops Q (Ks W ks) S a0 i o:=λ_ _ _ hI hd hn K hK=>ywp hy hI hd (h _ _ K (e0 _ _ _ _ hI hd hn) hI.world hK)
theorem P2_ {t0 t1:Nat} {u0 u1:Value} (e0:Srq md ops (Ks W ks) a0 i o t0 u0) (e1:Srq md ops (Ks W ks) a0 i o t1 u1) (h:∀a w (K:Act->World->Prop),a.tmps[t0]?.getD undef=u0->a.tmps[t1]?.getD undef=u1->S w->Shut (∀v w',S w'->(Ks W ks) i v w'->(∀j u,(Ks W ks) j u w->(Ks W ks) j u w')->K (a.put o.dst v) w')->o.wp P a w K Q) (hy:Yck md ops ks o false=true:=by kernel_rfl):dG P md ops Q (Ks W ks) S a0 i o:=λ_ _ _ hI hd hn K hK=>ywp hy hI hd (h _ _ K (e0 _ _ _ _ hI hd hn) (e1 _ _ _ _ hI hd hn) hI.world hK)
theorem P3_ {t0 t1 t2:Nat} {u0 u1 u2:Value} (e0:Srq md ops (Ks W ks) a0 i o t0 u0) (e1:Srq md ops (Ks W ks) a0 i o t1 u1) (e2:Srq md ops (Ks W ks) a0 i o t2 u2) (h:∀a w (K:Act->World->Prop),a.tmps[t0]?.getD undef=u0->a.tmps[t1]?.getD undef=u1->a.tmps[t2]?.getD undef=u2->S w->Shut (∀v w',S w'->(Ks W ks) i v w'->(∀j u,(Ks W ks) j u w->(Ks W ks) j u w')->K (a.put o.dst v) w')->o.wp P a w K Q) (hy:Yck md ops ks o false=true:=by kernel_rfl):dG P md ops Q (Ks W ks) S a0 i o:=λ_ _ _ hI hd hn K hK=>ywp hy hI hd (h _ _ K (e0 _ _ _ _ hI hd hn) (e1 _ _ _ _ hI hd hn) (e2 _ _ _ _ hI hd hn) hI.world hK)
theorem P4_ {t0 t1 t2 t3:Nat} {u0 u1 u2 u3:Value} (e0:Srq md ops (Ks W ks) a0 i o t0 u0) (e1:Srq md ops (Ks W ks) a0 i o t1 u1) (e2:Srq md ops (Ks W ks) a0 i o t2 u2) (e3:Srq md ops (Ks W ks) a0 i o t3 u3) (h:∀a w (K:Act->World->Prop),a.tmps[t0]?.getD undef=u0->a.tmps[t1]?.getD undef=u1->a.tmps[t2]?.getD undef=u2->a.tmps[t3]?.getD undef=u3->S w->Shut (∀v w',S w'->(Ks W ks) i v w'->(∀j u,(Ks W ks) j u w->(Ks W ks) j u w')->K (a.put o.dst v) w')->o.wp P a w K Q) (hy:Yck md ops ks o false=true:=by kernel_rfl):dG P md ops Q (Ks W ks) S a0 i o:=λ_ _ _ hI hd hn K hK=>ywp hy hI hd (h _ _ K (e0 _ _ _ _ hI hd hn) (e1 _ _ _ _ hI hd hn) (e2 _ _ _ _ hI hd hn) (e3 _ _ _ _ hI hd hn) hI.world hK)
theorem l_ {w w':World} {b o:Nat} {u:Option Value} (hS:Below w.heap.size w w') (lt:b<w.heap.size) (h:w.cell? ⟨b,o,none⟩=u):w'.cell? ⟨b,o,none⟩=u:=(hS.cell (p:=⟨b,o,none⟩) lt).trans h
theorem v_ {a:Act} {t:Nat} {v:Value} (h:a.tmps[t]?.getD undef=v):a.eval (.tmp t)=v:=by simpa[Act.eval,Array.getD_eq_getD_getElem?]using h
end
theorem Inv.step {md:Region.Mode} {ops:Array Oper} {V:Nat->Value->World->Prop} {S:World->Prop} {a0:Act} {listed:Array Bool} {a:Act} {w w':World} {i:Nat} {o:Oper} {v:Value} (hI:Inv md ops V S a0 listed a w)
 (jW:∀(i j:Nat) (oi oj:Oper) (d:Nat),ops[i]? =some oi->ops[j]? =some oj->oi.dst=some d->oj.dst=some d->i=j)
 (aU:∀(i:Nat) (o:Oper) (d:Nat),ops[i]? =some o->o.dst=some d->d<a0.tmps.size)
 (h2:ops[i]? =some o) (h3:∀e∈o.after,Region.binds md e=true->aW listed e.on) (hS:S w') (hv:V i v w') (kW:∀j u,V j u w->V j u w'):
 Inv md ops V S a0 (listed.setIfInBounds i true) (a.put o.dst v) w':=by
 have bP:i<ops.size:=(Array.getElem?_eq_some_iff.1 h2).1;refine⟨by simpa using hI.lsize,hS,?_,?_,?_,?_,?_⟩
 ·cases o.dst<;>exact hI.defers
 ·cases ho:o.dst<;>simp[Act.put,hI.size]
 ·intro j oj hj hd e he hb;rcases hd.inv with rfl|hd
  ·rw[h2]at hj;cases hj;exact aW.set (h3 e he hb)
  ·exact aW.set (hI.closed j oj hj hd e he hb)
 ·intro j oj d hj jx hd;by_cases CF:j=i
  ·subst CF;rw[h2]at hj;cases hj;refine⟨v,?_,hv⟩;have:=aU j o d h2 jx;simp[Act.put,jx,hI.size,this]
  ·rcases hd.inv with h|hd
   ·exact absurd h CF
   ·obtain⟨u,hu,hV⟩:=hI.got j oj d hj jx hd;refine⟨u,?_,kW j u hV⟩;cases ho:o.dst with
    |none=>simpa[Act.put,ho]using hu
    |some d'=>
     have bT:d'≠d:=λe=>CF (jW j i oj o d hj h2 jx (by rw[ho,e]))
     simpa[Act.put,Array.getElem?_setIfInBounds,bT]using hu
 ·intro j hj;have h4:=hI.old j (λk ok hk yS hd=>hj k ok hk yS hd.set);cases ho:o.dst with
  |none=>simpa[Act.put]using h4
  |some d'=>
   have bT:d'≠j:=λe=>hj i o h2 (by rw[ho,e]) (aW.new (by rw[hI.lsize];exact bP))
   simpa[Act.put,Array.getElem?_setIfInBounds,bT]using h4
def bz (m n:Nat):Array Bool:=((List.range n).map λi=>decide (i<m)).toArray
theorem ka (m n i:Nat) (hi:i<n):(bz m n)[i]? =some (decide (i<m)):=by simp[bz,hi]
theorem nT {m n:Nat} {listed:Array Bool} (hs:listed.size=n) (h1:∀i,i<m->i<n->aW listed i) (h2:∀i,m<=i->i<n->¬aW listed i):listed=bz m n:=by
 refine Array.ext_getElem? λi=>?_
 by_cases hi:i<n
 ·rw[ka m n i hi,Array.getElem?_eq_getElem (by omega)];by_cases sO:i<m
  ·have:=h1 i sO hi;simp[aW,Array.getD_eq_getD_getElem?,hs,hi]at this;simp[this,sO]
  ·have:=h2 i (by omega) hi;simp[aW,Array.getD_eq_getD_getElem?,hs,hi]at this;simp[this,sO]
 ·rw[Array.getElem?_eq_none (by omega),Array.getElem?_eq_none (by simp[bz];omega)]
def jN (md:Region.Mode) (ops:Array Oper) (m:Nat):Bool:=
 (List.range m).all λi=>((List.range ops.size).drop (i+1)).any λj=>decide (j<=m)&&match ops[j]? with
  |some o=>o.after.toList.any λe=>Region.binds md e&&e.on==i
  |none=>false
def eQ (md:Region.Mode) (ops:Array Oper) (m:Nat):Bool:=
 ((List.range ops.size).drop (m+1)).all λj=>match ops[j]? with
  |some o=>o.after.toList.any λe=>Region.binds md e&&decide (m<=e.on)&&decide (e.on<j)
  |none=>true
theorem mX {md:Region.Mode} {ops:Array Oper} {V:Nat->Value->World->Prop} {S:World->Prop} {a0:Act} {listed:Array Bool} {a:Act} {w:World} {m:Nat} (hI:Inv md ops V S a0 listed a w)
 (h:jN md ops m=true) {o:Oper} (ho:ops[m]? =some o) (hd:∀e∈o.after,Region.binds md e=true->aW listed e.on):∀k i,i<m->m- i<=k->aW listed i
 |0,i,hi,hk=>absurd hk (by omega)
 |k+1,i,hi,hk=>by
  simp only[jN,List.all_eq_true,List.mem_range]at h;have h1:=h i hi;simp only[List.any_eq_true,Bool.and_eq_true,decide_eq_true_eq]at h1;obtain⟨j,hj,RD,h2⟩:=h1;have Gb:i<j:=by
   rw[List.mem_drop_iff_getElem]at hj;obtain⟨q,hq,lc⟩:=hj;simp at lc;omega
  cases zf:ops[j]? with
  |none=>rw[zf]at h2;simp at h2
  |some oj=>
   rw[zf]at h2;simp only[List.any_eq_true,Bool.and_eq_true,beq_iff_eq]at h2;obtain⟨e,he,hb,rfl⟩:=h2;by_cases Yp:j=m
   ·subst Yp;rw[ho]at zf;cases zf;exact hd e (by simpa using he) hb
   ·have:=mX hI (by simpa only[jN,List.all_eq_true,List.mem_range]using h) ho hd k j (by omega) (by omega);exact hI.closed j oj zf this e (by simpa using he) hb
theorem oC (m:Nat):∀n k,k<=n->k- m<=((List.range k).filter λi=> !(bz m n).getD i true).length
 |n,0,_=>by simp
 |n,k+1,hk=>by
  have ih:=oC m n k (by omega);have e:=ka m n k (by omega);rw[List.range_succ,List.filter_append,List.length_append];by_cases h:k<m
  ·omega
  ·have:([k].filter λi=> !(bz m n).getD i true).length=1:=by simp[Array.getD_eq_getD_getElem?,e,h]
   omega
theorem Inv.oldHead {md:Region.Mode} {ops:Array Oper} {V:Nat->Value->World->Prop} {S:World->Prop} {a0:Act} {a:Act} {w:World} {m n:Nat} (hI:Inv md ops V S a0 (bz m n) a w) (j:Nat)
 (h:((ops.toList.take m).all λo=>o.dst !=some j)=true):a.tmps[j]? =a0.tmps[j]? :=by
 refine hI.old j λi o hi hd ns=>?_
 have sO:i<m:=by
  by_cases lN:i<n
  ·have:=ka m n i lN;simp only[aW,Array.getD_eq_getD_getElem?,this,Option.getD_some,decide_eq_true_eq]at ns;exact ns
  ·have:(bz m n)[i]? =none:=Array.getElem?_eq_none (by simp[bz];omega);simp[aW,Array.getD_eq_getD_getElem?,this]at ns
 simp only[List.all_eq_true]at h;have:=h o (List.mem_iff_getElem?.2 ⟨i,by rw[List.getElem?_take_of_lt sO];simpa using hi⟩);simp[hd]at this
theorem o_ {c p:Prop} [Decidable c] (d:¬c:=by decide):c->p:=λh=>absurd h d
section
variable {md:Region.Mode} {ops:Array Oper} {V:Nat->Value->World->Prop} {S:World->Prop} {a0:Act} {listed:Array Bool} {a:Act} {w:World}
theorem j_ {m n:Nat} {ps:List (Nat × Nat)} (h:(ps.all λp=>decide (p.1<m)&&decide (p.1<n))=true:=by rfl):∀p∈ps,aW (bz m n) p.1:=λp hp=>by
 have:=List.all_eq_true.1 h p hp;simp at this;simp[aW,Array.getD_eq_getD_getElem?,ka m n p.1 this.2,this.1]
theorem i_ {m:Nat} {ps:List (Nat × Nat)} (hall:∀i,i<m->aW listed i) (h:(ps.all λp=>decide (p.1<m))=true:=by rfl):∀p∈ps,aW listed p.1:=λp hp=>hall _ (by simpa using List.all_eq_true.1 h p hp)
theorem Inv.cg (hI:Inv md ops V S a0 listed a w) (ps:List (Nat × Nat)) (os:List Nat) (hl:∀p∈ps,aW listed p.1) (hd:(ps.all λp=>(ops[p.1]?).bind (·.dst)==some p.2)=true:=by rfl) (ho:(os.all λj=>decide (j<a0.tmps.size))=true:=by rfl)
 (hc:(ops.toList.all λo=>match o.dst with|some d=>(ps.map (·.2)++os).contains d|none=>true)=true:=by kernel_rfl):Ch (ps.map (·.2)++os) (λl=>a=⟨ba a0.tmps l,a0.defers⟩/\∀(k q d:Nat) (v:Value),ps[k]? =some (q,d)->l[k]? =some (d,v)->V q v w):=by
 have h1:∀p∈ps,∃v,a.tmps[p.2]? =some v/\V p.1 v w:=λp hp=>by
  have h:=List.all_eq_true.1 hd p hp;simp only[beq_iff_eq]at h;cases e:ops[p.1]? with
  |none=>rw[e]at h;cases h
  |some oj=>
   rw[e]at h;exact hI.got p.1 oj p.2 e h (hl p hp)
 have h2:∀j∈os,∃v,a.tmps[j]? =some v:=λj hj=>by
  have h:=List.all_eq_true.1 ho j hj;simp only[decide_eq_true_eq]at h;exact⟨_,Array.getElem?_eq_getElem (by rw[hI.size];exact h)⟩
 have h3:∀(os:List Nat),(∀j∈os,∃v,a.tmps[j]? =some v)->∃l:List (Nat × Value),l.map (·.1)=os/\∀p∈l,a.tmps[p.1]? =some p.2:=λos=>by
  induction os with
  |nil=>exact λ_=>⟨[],rfl,by simp⟩
  |cons j os ih=>
   intro h;obtain⟨v,hv⟩:=h j (List.mem_cons_self ..);obtain⟨l,k1,k2⟩:=ih (λq hq=>h q (List.mem_cons_of_mem _ hq));refine⟨(j,v)::l,by simp[k1],λp hp=>?_⟩;rcases List.mem_cons.1 hp with e|hp
   ·rw[e];exact hv
   ·exact k2 p hp
 have h4:∀(ps:List (Nat × Nat)),(∀p∈ps,∃v,a.tmps[p.2]? =some v/\V p.1 v w)->∃l:List (Nat × Value),l.map (·.1)=ps.map (·.2)/\(∀p∈l,a.tmps[p.1]? =some p.2)/\∀(k q d:Nat) (v:Value),ps[k]? =some (q,d)->l[k]? =some (d,v)->V q v w:=λps=>by
  induction ps with
  |nil=>exact λ_=>⟨[],rfl,by simp,by simp⟩
  |cons p ps ih=>
   intro h;obtain⟨v,hv,hV⟩:=h p (List.mem_cons_self ..);obtain⟨l,k1,k2,k3⟩:=ih (λq hq=>h q (List.mem_cons_of_mem _ hq));refine⟨(p.2,v)::l,by simp[k1],λz hz=>?_,λk q d u hk hl=>?_⟩
   ·rcases List.mem_cons.1 hz with e|hz
    ·rw[e];exact hv
    ·exact k2 z hz
   ·cases k with
    |zero=>
     simp at hk hl;rw[<-hl.2,show q=p.1 from by rw[hk]];exact hV
    |succ k=>exact k3 k q d u (by simpa using hk) (by simpa using hl)
 obtain⟨l1,k1,k2,k3⟩:=h4 ps h1;obtain⟨l2,k4,k5⟩:=h3 os h2;refine ch_of _ _ ⟨l1++l2,by rw[List.map_append,k1,k4],hI.tmps (l1++l2) (λp hp=>?_) (by rw[List.map_append,k1,k4];exact hc),λk q d v hk hl=>?_⟩
 ·rcases List.mem_append.1 hp with hp|hp
  ·exact k2 p hp
  ·exact k5 p hp
 ·refine k3 k q d v hk ?_;have eX:l1.length=ps.length:=by simpa using congrArg List.length k1
  have:=(List.getElem?_eq_some_iff.1 hk).1
  rwa[List.getElem?_append_left (by omega)]at hl
end
theorem dT {md:Region.Mode} {ops:Array Oper} {listed:Array Bool} (hl:listed.size=ops.size)
 (fQ:∀(i:Nat) (o:Oper),ops[i]? =some o->∀e∈o.after,Region.binds md e=true->e.on<i) (h:Region.ready md ops listed=[]):∀n i,i<n->i<ops.size->aW listed i
 |0,i,hi,_=>absurd hi (by omega)
 |n+1,i,hi,hs=>by
  have ih:=dT hl fQ h n;have jB:i ∉ Region.ready md ops listed:=by rw[h];simp
  rw[mem_ready]at jB;have hd:aW listed i\/listed.getD i true=false:=by
   rw[iU (by omega)];unfold aW;cases listed.getD i false<;>simp
  rcases hd with hd|hd
  ·exact hd
  ·refine absurd ⟨hd,ops[i],Array.getElem?_eq_getElem hs,λe he hb=>?_⟩ jB;have:=fQ i ops[i] (Array.getElem?_eq_getElem hs) e he hb;exact ih e.on (by omega) (by omega)
theorem yC {P:Program} {md:Region.Mode} {ops:Array Oper} {Q:Exit->Act->World->Prop} {V:Nat->Value->World->Prop} {S:World->Prop} {a0:Act}
 (fQ:∀(i:Nat) (o:Oper),ops[i]? =some o->∀e∈o.after,Region.binds md e=true->e.on<i)
 (jW:∀(i j:Nat) (oi oj:Oper) (d:Nat),ops[i]? =some oi->ops[j]? =some oj->oi.dst=some d->oj.dst=some d->i=j)
 (aU:∀(i:Nat) (o:Oper) (d:Nat),ops[i]? =some o->o.dst=some d->d<a0.tmps.size)
 (dy:∀i o,ops[i]? =some o->∀listed a w,Inv md ops V S a0 listed a w->(∀e∈o.after,Region.binds md e=true->aW listed e.on)->¬aW listed i->
  ∀K:Act->World->Prop,(∀v w',S w'->V i v w'->(∀j u,V j u w->V j u w')->K (a.put o.dst v) w')->if Region.wanted o (yielded ops a.tmps)=true then o.wp P a w K Q else K (a.put o.dst undef) w)
 (i8:∀listed a w,Inv md ops V S a0 listed a w->(∀i,i<ops.size->aW listed i)->Q .normal a w):
 ∀bZ listed a w,Inv md ops V S a0 listed a w->left ops.size listed<=bZ->wpAny P md ops Q bZ listed a w
 |0,listed,a,w,hI,hf=>by
  have hr:Region.ready md ops listed=[]:=by
   rw[List.eq_nil_iff_forall_not_mem];intro i hi;obtain⟨h1,o,h2,_⟩:=mem_ready.1 hi;have:=dL hI.lsize (Array.getElem?_eq_some_iff.1 h2).1 h1;omega
  exact⟨hr,i8 listed a w hI (λi hi=>dT hI.lsize fQ hr (i+1) i (by omega) hi)⟩
 |bZ+1,listed,a,w,hI,hf=>by
  refine⟨λhr=>i8 listed a w hI (λi hi=>dT hI.lsize fQ hr (i+1) i (by omega) hi),λi hi=>?_⟩;obtain⟨h1,o,h2,h3⟩:=mem_ready.1 hi;have bP:i<ops.size:=(Array.getElem?_eq_some_iff.1 h2).1;have hnd:¬aW listed i:=by
   unfold aW;rw[<-iU (by rw[hI.lsize];exact bP),h1];simp
  refine wpOp_step h2 (λK hK=>dy i o h2 listed a w hI h3 hnd K (λv w' hS hv kW=>hK _ _ ?_));refine yC fQ jW aU dy i8 bZ _ _ _ ?_ ?_
  ·refine⟨by simpa using hI.lsize,hS,?_,?_,?_,?_,?_⟩
   ·cases o.dst<;>exact hI.defers
   ·cases ho:o.dst<;>simp[Act.put,hI.size]
   ·intro j oj hj hd e he hb;rcases hd.inv with rfl|hd
    ·rw[h2]at hj;cases hj;exact aW.set (h3 e he hb)
    ·exact aW.set (hI.closed j oj hj hd e he hb)
   ·intro j oj d hj jx hd;by_cases CF:j=i
    ·subst CF;rw[h2]at hj;cases hj;refine⟨v,?_,hv⟩;have:=aU j o d h2 jx;simp[Act.put,jx,hI.size,this]
    ·rcases hd.inv with h|hd
     ·exact absurd h CF
     ·obtain⟨u,hu,hV⟩:=hI.got j oj d hj jx hd;refine⟨u,?_,kW j u hV⟩;cases ho:o.dst with
      |none=>simpa[Act.put,ho]using hu
      |some d'=>
       have bT:d'≠d:=λe=>CF (jW j i oj o d hj h2 jx (by rw[ho,e]))
       simpa[Act.put,Array.getElem?_setIfInBounds,bT]using hu
   ·intro j hj;have h4:=hI.old j (λk ok hk yS hd=>hj k ok hk yS hd.set);cases ho:o.dst with
    |none=>simpa[Act.put]using h4
    |some d'=>
     have bT:d'≠j:=λe=>hj i o h2 (by rw[ho,e]) (aW.new (by rw[hI.lsize];exact bP))
     simpa[Act.put,Array.getElem?_setIfInBounds,bT]using h4
  ·have:=dL hI.lsize bP h1;omega
def rj (md:Region.Mode) (ops:Array Oper):Bool:=(List.range ops.size).all λi=>match ops[i]? with
 |some o=>o.after.toList.all λe=> !Region.binds md e||decide (e.on<i)
 |none=>true
theorem kN {md:Region.Mode} {ops:Array Oper} (h:rj md ops=true) (i:Nat) (o:Oper) (ho:ops[i]? =some o):∀e∈o.after,Region.binds md e=true->e.on<i:=by
 intro e he hb;simp only[rj,List.all_eq_true,List.mem_range]at h;have:=h i (Array.getElem?_eq_some_iff.1 ho).1;rw[ho]at this;simp only[List.all_eq_true]at this;have h2:=this e (by simpa using he);simpa[hb]using h2
theorem bp {P:Program} {ops:Array Oper} {Q:Exit->Act->World->Prop} (V:Nat->Value->World->Prop) (S:World->Prop) {id:Nat} {a:Act} {w:World}
 (hm:P.follows .mixedOrders=true) (ho:rj .any ops=true) (hd:v8 ops a.tmps.size=true) (hS:S w.drew)
 (dy:ei (dG P .any ops Q V S a) 0 ops.toList)
 (i8:∀listed a' w',Inv .any ops V S a listed a' w'->(∀i,i<ops.size->aW listed i)->Q .normal a' w'):(Code.region id ops true).wp P Q a w:=by
 refine wp_region_any hm (yC (V:=V) (S:=S) (a0:=a) (kN ho) (λi j oi oj d hi hj mA jx=>(dD hd i oi d hi mA).2 j oj hj jx) (λi o d hi mA=>(dD hd i o d hi mA).1)
  (λi o hi listed a' w' hI ns hnd K hK=>?_) i8 _ _ _ _ ?_ ?_)
 ·have:=ei.get dy (i:=i) (o:=o) (by simpa using hi);rw[Nat.zero_add]at this;exact this listed a' w' hI ns hnd K hK
 ·have fg:∀i,¬aW (Array.replicate ops.size false) i:=λi h=>by
   unfold aW at h;by_cases hi:i<ops.size<;>simp[Array.getD_eq_getD_getElem?,hi]at h
  exact⟨by simp,hS,rfl,rfl,λi _ _ h=>absurd h (fg i),λi _ _ _ _ h=>absurd h (fg i),λ_ _=>rfl⟩
 ·unfold left;exact Nat.le_trans (List.length_filter_le _ _) (by simp)
theorem Ff {P:Program} {md:Region.Mode} {ops:Array Oper} {Q:Exit->Act->World->Prop} {V:Nat->Value->World->Prop} {S:World->Prop} {a0:Act} {m:Nat}
 (fQ:∀(i:Nat) (o:Oper),ops[i]? =some o->∀e∈o.after,Region.binds md e=true->e.on<i)
 (jW:∀(i j:Nat) (oi oj:Oper) (d:Nat),ops[i]? =some oi->ops[j]? =some oj->oi.dst=some d->oj.dst=some d->i=j)
 (aU:∀(i:Nat) (o:Oper) (d:Nat),ops[i]? =some o->o.dst=some d->d<a0.tmps.size)
 (nz:m<ops.size) (jd:jN md ops m=true) (lD:eQ md ops m=true)
 (dy:∀i o,i<m->ops[i]? =some o->∀listed a w,Inv md ops V S a0 listed a w->(∀e∈o.after,Region.binds md e=true->aW listed e.on)->¬aW listed i->
  ∀K:Act->World->Prop,(∀v w',S w'->V i v w'->(∀j u,V j u w->V j u w')->K (a.put o.dst v) w')->if Region.wanted o (yielded ops a.tmps)=true then o.wp P a w K Q else K (a.put o.dst undef) w)
 (kA:∀f a w,Inv md ops V S a0 (bz m ops.size) a w->wpAny P md ops Q (f+(ops.size- m)) (bz m ops.size) a w):
 ∀bZ listed a w,Inv md ops V S a0 listed a w->(∀i,m<=i->i<ops.size->¬aW listed i)->left ops.size listed<=bZ->wpAny P md ops Q bZ listed a w:=by
 intro bZ
 induction bZ with
 |zero=>
  intro listed a w hI fg hf;have hr:Region.ready md ops listed=[]:=by
   rw[List.eq_nil_iff_forall_not_mem];intro i hi;obtain⟨h1,o,h2,_⟩:=mem_ready.1 hi;have:=dL hI.lsize (Array.getElem?_eq_some_iff.1 h2).1 h1;omega
  exact absurd (dT hI.lsize fQ hr (m+1) m (by omega) nz) (fg m (by omega) nz)
 |succ bZ ih=>
  intro listed a w hI fg hf;by_cases hall:∀i,i<m->aW listed i
  ·have hl:=nT hI.lsize (λi hi _=>hall i hi) fg;subst hl;have h1:=oC m ops.size ops.size (Nat.le_refl _);unfold left at hf;have h2:=kA (bZ+1- (ops.size- m)) a w hI
   rwa[show bZ+1- (ops.size- m)+(ops.size- m)=bZ+1 from by omega]at h2
  ·refine⟨λhr=>absurd (dT hI.lsize fQ hr (m+1) m (by omega) nz) (fg m (by omega) nz),λi hi=>?_⟩;obtain⟨h1,o,h2,h3⟩:=mem_ready.1 hi;have bP:i<ops.size:=(Array.getElem?_eq_some_iff.1 h2).1;have sO:i<m:=by
    refine Nat.lt_of_not_le λrJ=>?_
    by_cases he:i=m
    ·subst he;exact hall λj hj=>mX hI jd h2 h3 (i- j) j hj (Nat.le_refl _)
    ·simp only[eQ,List.all_eq_true]at lD;have h4:=lD i (by rw[List.mem_drop_iff_getElem];exact⟨i- (m+1),by simp;omega,by simp;omega⟩);rw[h2]at h4;simp only[List.any_eq_true,Bool.and_eq_true,decide_eq_true_eq]at h4;obtain⟨e,QB,⟨hb,YV⟩,hei⟩:=h4;exact fg e.on YV (by omega) (h3 e (by simpa using QB) hb)
   have hnd:¬aW listed i:=by
    unfold aW;rw[<-iU (by rw[hI.lsize];exact bP),h1];simp
   refine wpOp_step h2 (λK hK=>dy i o sO h2 listed a w hI h3 hnd K (λv w' hS hv kW=>hK _ _ ?_));refine ih _ _ _ (hI.step jW aU h2 h3 hS hv kW) (λj hj RE rA=>?_) ?_
   ·rcases rA.inv with rfl|rA
    ·omega
    ·exact fg j hj RE rA
   ·have:=dL hI.lsize bP h1;omega
theorem tJ {P:Program} {ops:Array Oper} {Q:Exit->Act->World->Prop} (m:Nat) (V:Nat->Value->World->Prop) (S:World->Prop) {id:Nat} {a:Act} {w:World}
 (hm:P.follows .mixedOrders=true) (ho:rj .any ops=true) (hd:v8 ops a.tmps.size=true) (nz:m<ops.size) (jd:jN .any ops m=true) (lD:eQ .any ops m=true) (hS:S w.drew)
 (dy:ei (dG P .any ops Q V S a) 0 (ops.toList.take m))
 (kA:∀f a' w',Inv .any ops V S a (bz m ops.size) a' w'->wpAny P .any ops Q (f+(ops.size- m)) (bz m ops.size) a' w'):(Code.region id ops true).wp P Q a w:=by
 have fg:∀i,¬aW (Array.replicate ops.size false) i:=λi h=>by
  unfold aW at h;by_cases hi:i<ops.size<;>simp[Array.getD_eq_getD_getElem?,hi]at h
 refine wp_region_any hm (Ff (V:=V) (S:=S) (a0:=a) (m:=m) (kN ho) (λi j oi oj d hi hj mA jx=>(dD hd i oi d hi mA).2 j oj hj jx) (λi o d hi mA=>(dD hd i o d hi mA).1) nz jd lD
  (λi o sO hi listed a' w' hI ns hnd K hK=>?_) kA _ _ _ _ ?_ (λi _ _=>fg i) ?_)
 ·have:=ei.get dy (i:=i) (o:=o) (by rw[List.getElem?_take_of_lt sO];simpa using hi);rw[Nat.zero_add]at this;exact this listed a' w' hI ns hnd K hK
 ·exact⟨by simp,hS,rfl,rfl,λi _ _ h=>absurd h (fg i),λi _ _ _ _ h=>absurd h (fg i),λ_ _=>rfl⟩
 ·unfold left;exact Nat.le_trans (List.length_filter_le _ _) (by simp)
end Go.Proofs.YtibiddakakgakaaGreat
