/- The reference's Get and Reversal. Written by gen_i10.py. -/
import Derived.Test.YtibiddakakgakaaGreatQdE7H1
import Derived.Test.YtibiddakakgakaaGreatQdI3I9
set_option linter.unusedVariables false
set_option linter.unusedSimpArgs false
set_option maxRecDepth 4000
attribute [local go_sem ↓] Go.wp_at_zero Go.wp_at_succ
set_option maxHeartbeats 16000000
namespace Go.Proofs.YtibiddakakgakaaGreat
open Go Go.RowKit
def zs (es:List ak) (id:Int):Int:=match eH es id with|some k=>(k:Int)|none=> -1
theorem Lp {es:List ak} {id:Int} {k:Nat} (hk:k<es.length) (h:es[k].id=id) (hall:∀j (hj:j<k),es[j].id≠id):zs es id=k:=by
 have:eH es id=some k:=by
  unfold eH;rw[List.findIdx?_eq_some_iff_getElem];exact⟨hk,by simpa using h,λj hj=>by simpa using hall j hj⟩
 unfold zs;rw[this]
theorem Lo {es:List ak} {id:Int} (hall:∀j (hj:j<es.length),es[j].id≠id):zs es id= -1:=by
 have:eH es id=none:=by
  unfold eH;rw[List.findIdx?_eq_none_iff];intro x hx;obtain⟨j,hj,rfl⟩:=List.getElem_of_mem hx;simpa using hall j hj
 unfold zs;rw[this]
theorem qa:∀{es:List ak} {id:Int} (k:Nat),(∀j (hj:j<es.length),j<k->¬(es[j].kind=3/\es[j].of_=id))->eJ es id=eJ (es.drop k) id
 |[],id,k,_=>by simp
 |x::es,id,0,_=>rfl
 |x::es,id,k+1,h=>by
  have h0:=h 0 (by simp) (by omega);simp only[List.getElem_cons_zero]at h0;rw[List.drop_succ_cons];show(if x.kind=3/\x.of_=id then x.id else eJ es id)=_;rw[if_neg h0];exact qa k (λj hj hk=>by have:=h (j+1) (by simp;omega) (by omega);simpa using this)
theorem LX {es:List ak} {id:Int} {k:Nat} (hk:k<es.length) (h:es[k].kind=3/\es[k].of_=id) (hall:∀j (hj:j<es.length),j<k->¬(es[j].kind=3/\es[j].of_=id)):eJ es id=es[k].id:=by
 rw[qa k hall,List.drop_eq_getElem_cons hk];show(if es[k].kind=3/\es[k].of_=id then es[k].id else _)=_;rw[if_pos h]
theorem Hu {es:List ak} {id:Int} (hall:∀j (hj:j<es.length),¬(es[j].kind=3/\es[j].of_=id)):eJ es id=0:=by
 rw[qa es.length (λj hj _=>hall j hj),List.drop_length];rfl
theorem PU (es:List ak) (A:Option Addr) (c:Nat) (id:Int) (w:World) (hl:aj ax 7 w (·<w.heap.size) [.slice A es.length c] es):Calls Tryz.prog 21 #[.slice A es.length c,id] w (ap w (.int .i64 (zs es id))):=by
 obtain⟨r,hr⟩:=x_ (zs es id);rw[hr];have HR:=H_ hr;have jw:=hl.cap;obtain⟨n,bj⟩:=x_ (es.length);have HL:=H_ hl;have HN:=H_ bj;rw[bj]at jw |-;unfold maxLen at jw;have Sb:n<=9223372036854775807:=by omega
 clear hr hl bj jw;go_enter Tryz.func21,Tryz.ntmps21;go_wp2_with fail
 go_loopw [5] (λi wr=>∃k:Nat,k<=n/\i=.int .i64 (k:Int)/\Below w.heap.size w wr/\∀j (hj:j<es.length),j<k->es[j].id≠id) (λi _=>n- (intOf i).toNat)
 case atStart=>exact⟨0,by omega,rfl,Below.refl _ _,λj hj h=>by omega⟩
 case round=>
  obtain⟨k,hk,rfl,hb,hall⟩:=hrel;have eY:=H_ hall;clear hall;by_cases aU:k<n
  case pos=>
   have bq:(k:Int)< (n:Int):=by omega
   have bI:k<es.length:=by rw[HN.o];exact aU
   obtain⟨b,o,cs,dj,ed,bL,aS⟩:=aj.get HL.o k bI;subst dj;obtain⟨Al,cl,ft,_⟩:=ax.lit bL;subst ft;have c0:wr.cell? ⟨b,o+k*7,none⟩=_:=(aS.fr (Fr.ofBelow hb)).c (j:=0) rfl;obtain⟨xi,R4⟩:=x_ (es[k].id);rw[R4]at c0;have VA:=H_ R4;have TN:0<n:=by omega
   clear bL aS R4;by_cases he:xi=id
   case pos=>
    have X3:(xi==id)=true:=by simpa using he
    have hf:=H_ (show r=(k:Int) by rw[<-HR.o];exact Lp bI (VA.o.trans he) (λj hj=>eY.o j (by omega) hj));clear he;go_wp2_with fail;go_ret;exact⟨hf.o.symm▸rfl,hb⟩
   case neg=>
    have X3:(xi==id)=false:=by simpa using he
    have eP:=H_ he;clear he;go_wp2_with fail;go_roundw
    case rel=>exact⟨k+1,by omega,by go_num,hb,λj hj h=>by
     rcases Nat.lt_or_ge j k with h1|h1
     ·exact eY.o j hj h1
     ·have:j=k:=by omega
      subst this;rw[VA.o];exact eP.o⟩
    case measure=>first|exact aQ aU|(simp only[intOf];omega)
  case neg=>
   have bq:¬(k:Int)< (n:Int):=by omega
   have hf:=H_ (show r= -1 from HR.o.symm.trans (Lo (λj hj=>eY.o j hj (by have:=HN.o;omega))));go_wp2_with fail;go_ret;exact⟨hf.o.symm▸rfl,hb⟩
theorem ZR (es:List ak) (A:Option Addr) (c:Nat) (id:Int) (w:World) (hl:aj ax 7 w (·<w.heap.size) [.slice A es.length c] es):Calls Tryz.prog 52 #[.slice A es.length c,id] w (ap w (.int .i64 (eJ es id))):=by
 obtain⟨r,hr⟩:=x_ (eJ es id);rw[hr];have HR:=H_ hr;have jw:=hl.cap;obtain⟨n,bj⟩:=x_ (es.length);have HL:=H_ hl;have HN:=H_ bj;rw[bj]at jw |-;unfold maxLen at jw;have Sb:n<=9223372036854775807:=by omega
 clear hr hl bj jw;go_enter Tryz.func52,Tryz.ntmps52;go_wp2_with fail
 go_loopw [5] (λi wr=>∃k:Nat,k<=n/\i=.int .i64 (k:Int)/\Below w.heap.size w wr/\∀j (hj:j<es.length),j<k->¬(es[j].kind=3/\es[j].of_=id)) (λi _=>n- (intOf i).toNat)
 case atStart=>exact⟨0,by omega,rfl,Below.refl _ _,λj hj h=>by omega⟩
 case round=>
  obtain⟨k,hk,rfl,hb,hall⟩:=hrel;have eY:=H_ hall;clear hall;by_cases aU:k<n
  case pos=>
   have bq:(k:Int)< (n:Int):=by omega
   have bI:k<es.length:=by rw[HN.o];exact aU
   obtain⟨b,o,cs,dj,ed,bL,aS⟩:=aj.get HL.o k bI;subst dj;obtain⟨Al,cl,ft,_⟩:=ax.lit bL;subst ft;have c3:=(aS.fr (Fr.ofBelow hb)).c (j:=3) rfl;have c4:=(aS.fr (Fr.ofBelow hb)).c (j:=4) rfl;have c0:wr.cell? ⟨b,o+k*7,none⟩=_:=(aS.fr (Fr.ofBelow hb)).c (j:=0) rfl;obtain⟨x,hx⟩:=x_ (es[k]);rw[hx]at c0 c3 c4;have HX:=H_ hx;obtain⟨xi,xe,xd,xk,xo,xt,ls⟩:=x;simp only at c0 c3 c4;have TN:0<n:=by omega
   clear bL aS hx;by_cases he:xk=3
   case neg=>
    have X3:(xk==3)=false:=by simpa using he
    have eP:=H_ he;clear he;go_wp2_with fail;go_roundw
    case rel=>exact⟨k+1,by omega,by go_num,hb,λj hj h=>by
     rcases Nat.lt_or_ge j k with h1|h1
     ·exact eY.o j hj h1
     ·have:j=k:=by omega
      subst this;rw[HX.o];exact λh=>eP.o h.1⟩
    case measure=>first|exact aQ aU|(simp only[intOf];omega)
   case pos=>
    have X3:(xk==3)=true:=by simpa using he
    have HKE:=H_ he;clear he;by_cases ho:xo=id
    case pos=>
     have Mt:(xo==id)=true:=by simpa using ho
     have hf:=H_ (show r=xi by rw[<-HR.o,LX bI (by rw[HX.o];exact⟨HKE.o,ho⟩) eY.o,HX.o]);clear ho;go_wp2_with fail;go_ret;exact⟨hf.o.symm▸rfl,hb⟩
    case neg=>
     have Mt:(xo==id)=false:=by simpa using ho
     have eP:=H_ ho;clear ho;go_wp2_with fail;go_roundw
     case rel=>exact⟨k+1,by omega,by go_num,hb,λj hj h=>by
      rcases Nat.lt_or_ge j k with h1|h1
      ·exact eY.o j hj h1
      ·have:j=k:=by omega
       subst this;rw[HX.o];exact λh=>eP.o h.2⟩
     case measure=>first|exact aQ aU|(simp only[intOf];omega)
  case neg=>
   have bq:¬(k:Int)< (n:Int):=by omega
   have hf:=H_ (show r=0 from HR.o.symm.trans (Hu (λj hj=>eY.o j hj (by have:=HN.o;omega))));go_wp2_with fail;go_ret;exact⟨hf.o.symm▸rfl,hb⟩
theorem ZF {x:bG} (h:nZ x) (hm:Hf x):nZ (nu x):=⟨h.1,by have h1:=hm.1;have h2:=hm.2;show cx (-x.amount);unfold cx;omega,h.2.2⟩
theorem ZO (a ls:List bG) (Aa Al:Option Addr) (ca cl:Nat) (w:World) (ha:aj bc 3 w (·<w.heap.size) [.slice Aa a.length ca] a) (hl:aj bc 3 w (·<w.heap.size) [.slice Al ls.length cl] ls) (hm:∀x∈ls,Hf x) (hn:ls.length<=1000):Calls Tryz.prog 53 #[.slice Aa a.length ca,.slice Al ls.length cl] w (ap w (.bool (xM a ls))):=by
 obtain⟨ia,oR,ge,gg,gh⟩:=info_parts xu;have HL:=H_ hl;have RV:=H_ hm;have HA:=H_ ha;obtain⟨r,hr⟩:=x_ (xM a ls);rw[hr];have HR:=H_ hr;obtain⟨na,Ix⟩:∃n,a.length=n:=⟨_,rfl⟩;obtain⟨nl,bj⟩:∃n,ls.length=n:=⟨_,rfl⟩;have HN:=H_ bj;have Rm:=H_ Ix;rw[bj]at hn;rw[Ix,bj];clear hl hm bj ha hr Ix;go_enter Tryz.func53,Tryz.ntmps53;go_wp2_with fail
 go_loopw [5,6] (λv i wr=>∃(k:Nat),k<=nl/\i=.int .i64 (k:Int)/\Below w.heap.size w wr/\wr.ownsRow w.heap.size 60 3 v k (((ls.take k).map nu).flatMap iH)) (λ_ i _=>nl- (intOf i).toNat)
 case atStart=>exact⟨0,by omega,rfl,Below.refl _ _,World.ownsRow_nil _ _ _ _⟩
 case round=>
  obtain⟨k,hk,rfl,hb,VZ⟩:=hrel;have tz:=H_ VZ;have go:=H_ hb;have bP:=hb.size;by_cases aU:k<nl
  case pos=>
   have bq:(k:Int)< (nl:Int):=by omega
   have bI:k<ls.length:=by rw[HN.o];exact aU
   obtain⟨b,o,es,dj,ed,bL,aS⟩:=aj.get HL.o k bI;subst dj;have bE:=(bc.lit bL).1;rw[bE]at aS;have Mz:=RV.o _ (List.getElem_mem bI);have tA:=H_ (Pi bI);obtain⟨x,hx⟩:=x_ (ls[k]);rw[hx]at aS Mz tA;obtain⟨la,lm,lp⟩:=x;obtain⟨nx,jA⟩:=Mz
   try simp only at aS nx jA
   have eZ:=H_ ((aS.fr (Fr.ofBelow hb)).range);clear bL bE aS hx;go_upto_region 6 with(refine w_ 17 60 16 b (o+k*3) [la,lm,lp] eZ.o cK Tryz.underlying60 ?_);have H6:=heap_alloc_new wr (.cells #[la,lm,lp] 60);have dK:=ai wr (.cells #[la,lm,lp] 60);have my:=ag H6;have MH:=VZ.alloc (.cells #[la,lm,lp] 60);generalize mC:wr.alloc (Obj.cells #[la,lm,lp] 60)=W6 at*;clear mC;have q1:=ab H6 1;have q2:=bB H6 1;have ac5:=H_ MH;have QP:=H_ H6;have dd:=dK;clear H6 VZ MH;go_upto_region 7 with fail
   have H7:=aG QP.o 1 (.int .i64 (-lm));have em:Below wr.heap.size wr (W6.setCell ⟨wr.heap.size,1,none⟩ (.int .i64 (-lm))):=dK.setCell (p:=⟨wr.heap.size,1,none⟩) (Nat.le_refl _) _;have HO7:=cU (w':=W6.setCell ⟨wr.heap.size,1,none⟩ (.int .i64 (-lm))) ac5.o (λg hg=>Below.heap_setCell W6 ⟨wr.heap.size,1,none⟩ _ g (by show g≠wr.heap.size;have:=(tz.o.lt _ hg).2;omega));generalize W6.setCell ⟨wr.heap.size,1,none⟩ (.int .i64 (-lm))=W7 at*;have Mo:=H_ (show W7.heap[wr.heap.size]? =some (.cells #[la,(-lm:Int),lp] 60 (0,0))from H7);have rF:=H_ HO7;have adF:=H_ em;have ae5:=em.size;clear H7 HO7 em q1 q2;go_wp2_with (first|(refine W_ 23 60 7 wr.heap.size Mo.o cK Tryz.underlying60 ?_)|(at_builtin;go_loud (refine cq _ rfl (.tmp 22) (.tmp 24) 49 rfl w.heap.size 60 ia _ 3 24 sq oR ge gg gh rfl (by decide) u5 k (((ls.take k).map nu).flatMap iH) rfl (rF.o.alloc _) (λ_=>True) (some ⟨W7.heap.size,0,none⟩) 1 1 [la,(-lm:Int),lp] rfl (fq (heap_alloc_new _ _) rfl) (by simp[Value.oneCell']) (by simp only[maxLen];omega) (by omega) (by simp;omega) ?_);intro v9 w9 cj gk qw));go_roundw
   case rel=>
    refine⟨k+1,by omega,by go_num,?_,?_⟩
    ·exact bK ((go.o.trans (adF.o.mono bP)).alloc (by omega) _) gk (λq hq=>(tz.o.lt _ hq).1) (Nat.le_refl _)
    ·rw[tA.o];exact cj
   case measure=>first|exact aQ aU|(simp only[intOf];omega)
  case neg=>
   have bq:¬(k:Int)< (nl:Int):=by omega
   have Kz:k=nl:=by omega
   subst Kz;have hall:(ls.take k)=ls:=List.take_of_length_le (by rw[HN.o];omega);rw[hall]at VZ;have Bb:aj bc 3 wr (·<wr.heap.size) [u5] (ls.map nu):=AF (base:=w.heap.size) (by rw[List.length_map,HN.o];exact VZ) (λx hx=>by
    obtain⟨y,hy,rfl⟩:=List.mem_map.1 hx;exact ZF (Ek HL.o y hy) (RV.o y hy)) (λg hg=>(VZ.lt _ hg).2)
   obtain⟨A9,c9,rfl⟩:∃A9 c9,u5=.slice A9 k c9:=by
    obtain⟨A9,c9,e,_⟩:=Bb;rw[List.length_map,HN.o]at e;exact⟨A9,c9,by simpa using e⟩
   have sW:=H_ (ZT a (ls.map nu) Aa A9 ca c9 wr (eR HA.o hb) (by rw[List.length_map,HN.o];exact Bb));have aM:Calls Tryz.prog 90 #[.slice Aa na ca,.slice A9 k c9] wr (ap wr (.bool r)):=by
    have h:=sW.o;rw[List.length_map,HN.o,Rm.o,show decide (a=ls.map nu)=r from HR.o]at h;exact h
   have eE:=H_ aM;clear VZ hall Bb aM sW;go_wp2_with fail;refine eE.o.mono ?_;rintro e w9 ⟨rfl,kT⟩;go_wp2_with fail;go_ret;exact⟨rfl,go.o.trans (kT.mono bP)⟩
end Go.Proofs.YtibiddakakgakaaGreat
