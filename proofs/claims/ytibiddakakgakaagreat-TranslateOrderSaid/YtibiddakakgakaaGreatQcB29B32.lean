/- group.Valid. Written by gen_b29.py. -/
import Derived.Test.YtibiddakakgakaaGreatQcB25B28
set_option linter.unusedVariables false
set_option linter.unusedSimpArgs false
set_option maxRecDepth 4000
attribute [local go_sem ↓] Go.wp_at_zero Go.wp_at_succ
set_option maxHeartbeats 16000000
namespace Go.Proofs.YtibiddakakgakaaGreat
section
open Go Go.RowKit
open Go.Maps (Keyed)
def sF (e:aV):Prop:=e.chart.length<=1000/\e.links.length<=1000/\e.name.size<=1000/\e.currency.size<=1000
def dQ (g:au):Prop:=g.chart.length<=1000/\g.entities.length<=1000/\g.currency.size<=1000/\∀e∈g.entities,sF e
theorem OX {cur:ByteArray} {y m p:Int} {Ac Ae:Option Addr} {cc ce n ne:Nat} {ch:List ah} {es:List aV} {r0 r1 r2 r3 r4 r5 r6 r7 r8 r9 cw cA ey ct cz:Int} (hN:ch.length=n) (hE:es.length=ne) {w:World} (hg:aL w (·<w.heap.size) (fT cur y m p Ac ch.length cc r0 r1 r2 r3 r4 r5 r6 r7 r8 r9 cw cA ey ct cz Ae es.length ce) ⟨cur,⟨y,m,p⟩,ch,⟨r0,r1,r2,r3,r4,r5,r6,r7,r8,r9,cw,cA,ey,ct,cz⟩,es⟩) (hn:ch.length<=1000)
 {s cu:ByteArray} {ec:List ah} {ls:List bu} {jo:Bool} {Ec Al:Option Addr} {c2 cl n2 nl:Nat} (h2:ec.length=n2) (h3:ls.length=nl) (hx:aN w (·<w.heap.size) (lH s cu Ec ec.length c2 Al ls.length cl jo) ⟨s,cu,ec,ls,jo⟩) (hs:sF ⟨s,cu,ec,ls,jo⟩):
 Calls Tryz.prog 147 #[.agg (fT cur y m p Ac n cc r0 r1 r2 r3 r4 r5 r6 r7 r8 r9 cw cA ey ct cz Ae ne ce).toArray,.agg (lH s cu Ec n2 c2 Al nl cl jo).toArray] w (ap w (.bool (tH ch (cY ⟨r0,r1,r2,r3,r4,r5,r6,r7,r8,r9,cw,cA,ey,ct,cz⟩) ⟨s,cu,ec,ls,jo⟩))):=by
 subst hN hE h2 h3;exact OW _ _ _ _ w hg hx hn hs.1 hs.2.1 hs.2.2.1 hs.2.2.2
theorem GA {cur:ByteArray} {y m p:Int} {Ac Ae:Option Addr} {cc ce n ne:Nat} {ch:List ah} {es:List aV} {r0 r1 r2 r3 r4 r5 r6 r7 r8 r9 cw cA ey ct cz:Int} (hN:ch.length=n) (hE:es.length=ne) {w:World} (hg:aL w (·<w.heap.size) (fT cur y m p Ac ch.length cc r0 r1 r2 r3 r4 r5 r6 r7 r8 r9 cw cA ey ct cz Ae es.length ce) ⟨cur,⟨y,m,p⟩,ch,⟨r0,r1,r2,r3,r4,r5,r6,r7,r8,r9,cw,cA,ey,ct,cz⟩,es⟩) (hn:ch.length<=1000):Calls Tryz.prog 146 #[.agg (fT cur y m p Ac n cc r0 r1 r2 r3 r4 r5 r6 r7 r8 r9 cw cA ey ct cz Ae ne ce).toArray] w (ap w (.bool (bR ch ⟨r0,r1,r2,r3,r4,r5,r6,r7,r8,r9,cw,cA,ey,ct,cz⟩))):=by
 subst hN hE;exact Gz _ _ w hg hn
def lk (ch:List ah) (L:List dp) (es:List aV) (i:Nat):Bool:=match es[i]? with
 |none=>false
 |some e=> !((es.take i).any λx=>decide (x.name=e.name))&&tH ch L e
def fp (g:au):Bool:=cQ g.currency&&du g.calendar.year g.calendar.month g.calendar.periods&&bR g.chart g.roles&&decide (1<=g.entities.length/\g.entities.length<=12)&&!(g.entities.getD 0 {}).joint&&(List.range g.entities.length).all (lk g.chart (cY g.roles) g.entities)
theorem xb {ch:List ah} {L:List dp} {es:List aV} {i:Nat} {e:aV} (h:es[i]? =some e):lk ch L es i=(!((es.take i).any λx=>decide (x.name=e.name))&&tH ch L e):=by unfold lk;rw[h]
theorem SL {ch:List ah} {L:List dp} (h:oc ch L=true) (e:aV):tH ch L e=dP ch L e:=by
 unfold tH dP;have h1:(e.links.all λl=> !fS L l.to_)= !(e.links.any λl=>iT L l.to_):=by
  rw[List.not_any_eq_all_not]
  congr 1
  funext l
  rw[KZ h]
 rw[h1,show n8 e ch=kb e.chart ch e.links from rfl,Bool.and_assoc,Bool.and_assoc]
theorem Lr (g:au):fp g=bh g:=by
 unfold fp bh;cases ha:bR g.chart g.roles with
 |false=>simp
 |true=>
  have hr:oc g.chart (cY g.roles)=true:=by
   unfold bR at ha;simp only[Bool.and_eq_true]at ha;exact ha.2
  congr 1
  unfold DX
  congr 1
  funext i
  unfold lk mK;cases g.entities[i]? with
  |none=>rfl
  |some e=>simp only[SL hr]
def EV (s:ByteArray):Lit:=.string s.data.toList
theorem P7 (x y:ByteArray) (h:EV x=EV y):x=y:=by
 unfold EV at h
 injection h with h
 exact ByteArray.ext (Array.ext' h)
theorem P8 (x:ByteArray):WideAt.IsKeyLit (EV x):=by unfold EV;trivial
theorem JI:Tryz.prog.underlying 9=some .string:=by kernel_rfl
theorem yw:Tryz.prog.underlying 190=some (.map 9 4):=by kernel_rfl
theorem sG:Keyed Tryz.prog 9:=Maps.string_keyed JI
theorem Tu {s:ByteArray} (h:s.size<=1000):keyOf Tryz.prog 9 (.string s)=some (EV s):=Go.WideMaps.keyOf_string_mk JI (by unfold maxLen;omega)
abbrev aeq (w:World) (b n:Nat) (f:ByteArray->Bool):Prop:=fm Tryz.prog 9 4 EV w b n f
theorem Hi {es:List aV} {k:Nat} {e:aV} (hk:es[k]? =some e) {F:ByteArray->Bool} (hF:(λd=>(es.take k).any λx=>decide (x.name=d))=F) (d:ByteArray):(if d=e.name then true else F d)=(es.take (k+1)).any λx=>decide (x.name=d):=by
 obtain⟨hl,rfl⟩:=List.getElem?_eq_some_iff.1 hk;rw[iV hl,<-hF];by_cases h:d=es[k].name
 ·rw[if_pos h,h];simp
 ·rw[if_neg h,decide_eq_false (λe:es[k].name=d=>h e.symm),Bool.or_false]
theorem Lv {g:au} (h:cQ g.currency=false):fp g=false:=by unfold fp;rw[h];simp
theorem Lu {g:au} (h:du g.calendar.year g.calendar.month g.calendar.periods=false):fp g=false:=by unfold fp;rw[h];simp
theorem Ls {g:au} (h:bR g.chart g.roles=false):fp g=false:=by unfold fp;rw[h];simp
theorem As {g:au} (h:¬(1<=g.entities.length/\g.entities.length<=12)):fp g=false:=by unfold fp;rw[decide_eq_false h];simp
theorem Eb {g:au} {e:aV} (h:g.entities[0]? =some e) (hj:e.joint=true):fp g=false:=by unfold fp;rw[List.getD_eq_getElem?_getD,h,Option.getD_some,hj];simp
theorem Au {g:au} {k:Nat} (hk:k<g.entities.length) (h:lk g.chart (cY g.roles) g.entities k=false):fp g=false:=by unfold fp;rw[bt hk h];simp
theorem Lt {g:au} {e:aV} (h1:cQ g.currency=true) (h2:du g.calendar.year g.calendar.month g.calendar.periods=true) (h3:bR g.chart g.roles=true) (h4:1<=g.entities.length/\g.entities.length<=12) (h5:g.entities[0]? =some e) (hj:e.joint=false) (h:∀k,k<g.entities.length->lk g.chart (cY g.roles) g.entities k=true):fp g=true:=by
 unfold fp;rw[h1,h2,h3,decide_eq_true h4,List.getD_eq_getElem?_getD,h5,Option.getD_some,hj,bQ h];rfl
theorem SS (g:au) (cs:List Value) (w:World) (hg:aL w (·<w.heap.size) cs g) (ci:dQ g):Calls Tryz.prog 103 #[.agg cs.toArray] w (ap w (.bool (fp g))):=by
 have Iz:=@run_makeMap Tryz.prog;obtain⟨r,hr⟩:=x_ (fp g);rw[hr];have HR:=H_ hr;have FP:=H_ hg;obtain⟨hn,zi,ft,Fk⟩:=ci;clear hr;obtain⟨Ac,cc,Ae,ce,rfl,ee,iu,eu,mD⟩:=hg.lit;clear hg;obtain⟨cur,⟨y,m,p⟩,ch,⟨r0,r1,r2,r3,r4,r5,r6,r7,r8,r9,cw,cA,ey,ct,cz⟩,es⟩:=g;simp only at ft zi Fk HR ee iu mD eu hn |-;have Z9:=H_ Fk;have rC:=H_ hn;obtain⟨L,hL⟩:=x_ (jM r0 r1 r2 r3 r4 r5 r6 r7 r8 r9 cw cA ey ct cz);have CI:L.length=15:=by rw[<-hL];rfl
 have tU:=H_ hL;have Bw:=H_ CI;obtain⟨n,bj⟩:=x_ (ch.length);obtain⟨ne,bT⟩:=x_ (es.length);have HL:=H_ ee;have HN:=H_ bj;have HE:=H_ iu;have eP:=H_ bT;rw[bj,bT];rw[bj]at hn;clear hL CI ee iu bj bT eu;clear mD Fk;show Calls Tryz.prog 103 #[.agg #[cur,y,m,p,.slice Ac n cc,r0,r1,r2,r3,r4,r5,r6,r7,r8,r9,cw,cA,ey,ct,cz,.slice Ae ne ce]] w (ap w (.bool r));go_enter Tryz.func103,Tryz.ntmps103;go_upto_region 1 with fail;obtain⟨W,hW,H,HB,HS,ewx⟩:=B_ w (.cells #[cur,y,m,p,.slice Ac n cc,r0,r1,r2,r3,r4,r5,r6,r7,r8,r9,cw,cA,ey,ct,cz,.slice Ae ne ce] 29);rw[hW];clear ewx;clear hW;have f0:=ab H 0;have HH:=H_ H;clear H;go_wp2_with fail;refine(vX cur W ft).mono ?_;rintro e w2 ⟨rfl,aH⟩;have aF:=HB.trans (aH.mono HB.size);have dW:=aH.size;cases fP:cQ cur with
 |false=>
  have hf:=H_ (show r=false by rw[<-HR.o];exact Lv fP);go_wp2_with fail;go_ret;exact⟨hf.o.symm▸rfl,aF⟩
 |true=>
 have jG:=H_ fP;have G2:=(aH.block _ HS).trans HH.o;have f1:=ab G2 1;have f2:=ab G2 2;have f3:=ab G2 3;clear fP f0;go_wp2_with fail;refine(mJ y m p w2).mono ?_;rintro e w3 ⟨rfl,aZ⟩;have aR:=aF.trans (aZ.mono aF.size);have lE:=aZ.size;cases gn:du y m p with
 |false=>
  have hf:=H_ (show r=false by rw[<-HR.o];exact Lu gn);go_wp2_with fail;go_ret;exact⟨hf.o.symm▸rfl,aR⟩
 |true=>
 have jv:=H_ gn;have IG:=H_ ((aZ.block _ (by omega)).trans G2);have Yr:=H_ (GA HN.o eP.o (aL.keep FP.o aR) rC.o);clear gn f1 f2 f3 G2;go_wp2_with (refine W_ 17 29 1 w.heap.size IG.o ay Tryz.underlying29 ?_);refine Yr.o.mono ?_;rintro e w4 ⟨rfl,bU⟩;have bD:=aR.trans (bU.mono aR.size);have yJ:=bU.size;cases ot:bR ch ⟨r0,r1,r2,r3,r4,r5,r6,r7,r8,r9,cw,cA,ey,ct,cz⟩with
 |false=>
  have hf:=H_ (show r=false by rw[<-HR.o];exact Ls ot);go_wp2_with fail;go_ret;exact⟨hf.o.symm▸rfl,bD⟩
 |true=>
 have kB:=H_ ot;have G4:=(bU.block _ (by omega)).trans IG.o;have f20:=ab G4 20;clear ot;by_cases h1:ne<1
 case pos=>
  have CV:(ne:Int)<1:=by omega
  have hf:=H_ (show r=false by rw[<-HR.o];exact As (λh=>by have:=h.1;have:=eP.o;simp only at*;omega));go_wp2_with fail;go_ret;exact⟨hf.o.symm▸rfl,bD⟩
 case neg=>
 have CV:¬(ne:Int)<1:=by omega
 by_cases h2:12<ne
 case pos=>
  have yX:12< (ne:Int):=by omega
  have hf:=H_ (show r=false by rw[<-HR.o];exact As (λh=>by have:=h.2;have:=eP.o;simp only at*;omega));go_wp2_with fail;go_ret;exact⟨hf.o.symm▸rfl,bD⟩
 case neg=>
 have yX:¬12< (ne:Int):=by omega
 have zl:(0:Int)< (ne:Int):=by omega
 have Ng:0<es.length:=by rw[eP.o];omega
 obtain⟨b,o,dj,ed,kZ⟩:=aj.base HE.o (by omega);subst dj;obtain⟨es0,Nu,FD⟩:=kZ 0 Ng;have tM:=H_ kZ;obtain⟨Ec,c2,Al,cl,rfl,_,_⟩:=Nu.lit;obtain⟨x0,hx0⟩:=x_ (es[0]);rw[hx0]at FD;have YO:=H_ (show es[0]? =some x0 by rw[List.getElem?_eq_getElem Ng,hx0]);have j0:=(FD.fr (Fr.ofBelow bD)).c (j:=4) rfl;obtain⟨J,hJ⟩:=x_ (x0.joint);rw[hJ,Nat.zero_mul,Nat.add_zero]at j0;have HJ:=H_ hJ;clear Nu FD kZ hx0 hJ;cases J with
 |true=>
  have hf:=H_ (show r=false by rw[<-HR.o];exact Eb YO.o HJ.o);go_wp2_with fail;go_ret;exact⟨hf.o.symm▸rfl,bD⟩
 |false=>
 have iX:=H_ G4;clear G4;go_upto_region 4 with fail;have CO:=fm.made Tryz.prog 9 4 EV w4;have nA:=ai w4 (.map #[] 0);have My:w4.heap.size+1=(w4.alloc (.map #[] 0)).heap.size:=by simp
 have G5:=al iX.o (.map #[] 0);generalize XI:w4.alloc (Obj.map #[] 0)=W5 at*;clear XI f20 j0;have f20:=ab G5 20;have YG:=H_ G5;have fG:=bD.trans (nA.mono bD.size);clear G5;go_wp2_with fail
 go_loopw [44] (λi wr=>∃k:Nat,k<=ne/\i=.int .i64 (k:Int)/\Fr (QX W5.heap.size w4.heap.size) W5 wr/\aeq wr w4.heap.size k (λd=>(es.take k).any λx=>decide (x.name=d))/\∀j,j<k->lk ch (cY ⟨r0,r1,r2,r3,r4,r5,r6,r7,r8,r9,cw,cA,ey,ct,cz⟩) es j=true) (λi _=>ne- (intOf i).toNat)
 case atStart=>exact⟨0,by omega,rfl,Fr.refl _ _,CO.eqv (λ_=>rfl),λj hj=>by omega⟩
 case round=>
  obtain⟨k,hk,rfl,lM,fD,hall⟩:=hrel;have HA:=H_ hall;have HF:=H_ lM;have bP:=lM.size;clear hall lM;have el:Below w.heap.size w wr:=((Fr.ofBelow fG).trans (HF.o.mono (λk (hk:k<w.heap.size)=>⟨by omega,by omega⟩))).below;have hs0':=el.size;by_cases aU:k<ne
  case pos=>
   have bq:(k:Int)< (ne:Int):=by omega
   have bI:k<es.length:=by rw[eP.o];exact aU
   obtain⟨rz,bL,aS⟩:=tM.o k bI;obtain⟨Ec,c2,Al,cl,rfl,_,_⟩:=bL.lit;obtain⟨x,hx⟩:=x_ (es[k]);have yG:=Z9.o _ (List.getElem_mem bI);rw[hx]at bL aS yG;have HX:=H_ (show es[k]? =some x by rw[List.getElem?_eq_getElem bI,hx]);obtain⟨s,cu,ec,ls,jo⟩:=x;simp only at bL aS;have vp:=H_ (Tu (s:=s) yG.2.2.1);have hE:=λ(w2:World) (hb:Below w.heap.size w w2)=>λ{n2 nl:Nat} (h2:ec.length=n2) (h3:ls.length=nl)=>OX HN.o eP.o (aL.keep FP.o hb) rC.o h2 h3 (aN.keep bL hb) yG
   have Bl:=(aS.fr (Fr.ofBelow el)).range;obtain⟨n2,oO⟩:∃n,ec.length=n:=⟨_,rfl⟩;obtain⟨nl,bj⟩:∃n,ls.length=n:=⟨_,rfl⟩;rw[oO,bj]at Bl;have eZ:=H_ Bl;have Vj:=H_ (λ(w2:World) (hb:Below w.heap.size w w2)=>hE w2 hb oO bj);have E6:=(HF.o.block w.heap.size ⟨by omega,by omega⟩).trans YG.o;obtain⟨F,hF⟩:=x_ ((λd=>(es.take k).any λx=>decide (x.name=d)));rw[hF]at fD;have kV:=H_ hF;clear bL aS hx hE Bl hF yG oO bj;go_upto_region 7 with(refine w_ 47 74 46 b (o+k*5) [s,cu,.slice Ec n2 c2,.slice Al nl cl,jo] eZ.o cD Tryz.underlying74 ?_);obtain⟨W6,mC,H6,dK,my,ewx⟩:=B_ wr (.cells #[s,cu,.slice Ec n2 c2,.slice Al nl cl,jo] 74);rw[mC];replace E6:=(dK.block _ (ag E6)).trans E6;clear ewx;clear mC;have jP:=fD.below dK;have MV:=dK.size;have fi:=el.trans (dK.mono el.size);have k0:=ab H6 0;have yK:=H_ E6;have Y9:=H_ H6;clear fD H6 E6;cases kr:F s with
   |true=>
    have hf:=H_ (show r=false by rw[<-HR.o];exact Au bI (by rw[xb HX.o,show((es.take k).any λx=>decide (x.name=s))=true from(congrFun kV.o s).trans kr];rfl));go_wp2_with (at_lookup;refine bO rfl _ _ 190 rfl 9 4 sG yw de (dU _) w4.heap.size k F rfl jP (.string s) s rfl vp.o ?_);go_ret;exact⟨hf.o.symm▸rfl,fi⟩
   |false=>
    have aM:=Vj.o W6 fi;obtain⟨v,hv⟩:=x_ (tH ch (cY ⟨r0,r1,r2,r3,r4,r5,r6,r7,r8,r9,cw,cA,ey,ct,cz⟩) ⟨s,cu,ec,ls,jo⟩);rw[hv]at aM;have gc:=H_ (show lk ch (cY ⟨r0,r1,r2,r3,r4,r5,r6,r7,r8,r9,cw,cA,ey,ct,cz⟩) es k=v by rw[xb HX.o,hv,show((es.take k).any λx=>decide (x.name=s))=false from(congrFun kV.o s).trans kr];rfl);have eE:=H_ aM;clear hv aM;go_wp2_with (first|(at_lookup;refine bO rfl _ _ 190 rfl 9 4 sG yw de (dU _) w4.heap.size k F rfl jP (.string s) s rfl vp.o ?_)|(refine W_ 53 29 1 w.heap.size yK.o ay Tryz.underlying29 ?_)|(refine W_ 54 74 5 wr.heap.size Y9.o cD Tryz.underlying74 ?_));refine eE.o.mono ?_;rintro e wA ⟨rfl,NT⟩;have NN:=jP.below NT;have hsA:=NT.size;have Yt:=fi.trans (NT.mono fi.size);cases v with
    |false=>
     have hf:=H_ (show r=false by rw[<-HR.o];exact Au bI gc.o);go_wp2_with fail;go_ret;exact⟨hf.o.symm▸rfl,Yt⟩
    |true=>
     have KA:=(NT.block _ my).trans Y9.o;have k0:=ab KA 0;clear KA;go_wp2_with (at_mapUpdate;refine dV rfl _ _ _ 190 rfl 9 4 sG yw de w4.heap.size k F rfl NN (by simp only[maxLen];omega) P7 P8 (.string s) s rfl true rfl vp.o ?_;intro wB nI hgB;replace nI:=H_ nI);go_roundw
     case rel=>
      refine⟨k+1,by omega,by go_num,?_,?_,?_⟩
      ·exact(HF.o.trans ((Fr.ofBelow (dK.trans (NT.mono dK.size))).mono (λk hk=>by have:=hk.1;omega))).grown hgB (λk hk=>hk.1) (λj hj=>by injection hj with hj;exact λh=>h.2 hj.symm)
      ·exact nI.o.eqv (λd=>Hi HX.o kV.o d)
      ·intro j hj;rcases Nat.lt_or_ge j k with h|h
       ·exact HA.o j h
       ·have:j=k:=by omega
        subst this;exact gc.o
     case measure=>first|exact aQ aU|(simp only[intOf];omega)
  case neg=>
   have bq:¬(k:Int)< (ne:Int):=by omega
   have hf:=H_ (show r=true by
    rw[<-HR.o];exact Lt jG.o jv.o kB.o ⟨by have:=eP.o;simp only;omega,by have:=eP.o;simp only;omega⟩ YO.o HJ.o (λj hj=>HA.o j (by have:=eP.o;simp only at hj;omega)))
   go_wp2_with fail;go_ret;exact⟨hf.o.symm▸rfl,el⟩
end
section
open Go Go.RowKit
theorem G8 {ec ch:List ah} {ls:List bu} {k j:Nat} {l:bu} (hk:ls[k]? =some l) (hj:j<k) (hl:j<ls.length) (h1:ls[j].from_=l.from_) (h3:ls[j].since=l.since):gF ec ch ls k=false:=by
 rw[kK hk];have:((ls.take k).any λk=>k.from_==l.from_&&k.since==l.since)=true:=by
  rw[List.any_eq_true];exact⟨ls[j],by rw[List.mem_take_iff_getElem];exact⟨j,by omega,rfl⟩,by simp[h1,h3]⟩
 rw[this];simp
theorem LF {ec ch:List ah} {ls:List bu} {k:Nat} {l:bu} (hk:ls[k]? =some l) (hb:n0 ec ch l=true) (h:∀j (hl:j<ls.length),j<k->¬(ls[j].from_=l.from_/\ls[j].since=l.since)):gF ec ch ls k=true:=by
 rw[kK hk,hb];have:((ls.take k).any λk=>k.from_==l.from_&&k.since==l.since)=false:=by
  rw[List.any_eq_false];intro x hx;rw[List.mem_take_iff_getElem]at hx;obtain⟨j,hj,rfl⟩:=hx;simpa using h j (by omega) (by omega)
 rw[this];rfl
theorem rf {ec ch:List ah} {ls:List bu} {k:Nat} {l:bu} (hk:ls[k]? =some l) (hb:n0 ec ch l=false):gF ec ch ls k=false:=by rw[kK hk,hb];rfl
theorem EK (s cu:ByteArray) (Ac Al Ah:Option Addr) (n m nl cc cl hc:Nat) (jo:Bool) (ec ch:List ah) (ls:List bu) (w:World) (hN:ec.length=n) (hM:ch.length=m) (Ok:ls.length=nl) (sN:aj ar 4 w (·<w.heap.size) [.slice Ac ec.length cc] ec) (lP:aj bJ 3 w (·<w.heap.size) [.slice Al ls.length cl] ls) (ee:aj ar 4 w (·<w.heap.size) [.slice Ah ch.length hc] ch) (hn:ec.length<=1000) (hm:ch.length<=1000) (bj:ls.length<=1000):
 Calls Tryz.prog 203 #[.agg (lH s cu Ac n cc Al nl cl jo).toArray,.slice Ah m hc] w (ap w (.bool (kb ec ch ls))):=by
 obtain⟨r,hr⟩:=x_ (kb ec ch ls);rw[hr];have HR:=H_ hr;have vo:=H_ (λ(w2:World) (hb:Below w.heap.size w w2)=>EU hM (az ee hb) hm true);have HV2:=H_ (λ(w2:World) (hb:Below w.heap.size w w2)=>EU hN (az sN hb) hn false);have kU:=H_ (λ(w2:World) (hb:Below w.heap.size w w2) (c:Int) (hc:am c) {o:ah} {s:Bool} (ho:gH (aK ec c)=o) (hs:(aK ec c).isSome=s)=>ve hN (az sN hb) hn c hc ho hs);have kV:=H_ (λ(w2:World) (hb:Below w.heap.size w w2) (c:Int) (hc:am c) {o:ah} {s:Bool} (ho:gH (aK ch c)=o) (hs:(aK ch c).isSome=s)=>ve hM (az ee hb) hm c hc ho hs);have sV:=H_ lP;have jz:=H_ Ok;rw[Ok]at bj;clear hr sN ee hN hM lP Ok hn hm;show Calls Tryz.prog 203 #[.agg #[s,cu,.slice Ac n cc,.slice Al nl cl,jo],.slice Ah m hc] w (ap w (.bool r));go_enter Tryz.func203,Tryz.ntmps203;go_upto_region 1 with fail;obtain⟨W,hW,H,HB,HS,ewx⟩:=B_ w (.cells #[s,cu,.slice Ac n cc,.slice Al nl cl,jo] 74);rw[hW];clear ewx;clear hW;have HH:=H_ H;clear H;go_wp2_with fail;refine(vo.o W HB).mono ?_;rintro e w2 ⟨rfl,aH⟩;have aF:=HB.trans (aH.mono HB.size);cases fP:ej ch true with
 |false=>
  have hf:=H_ (show r=false by rw[<-HR.o];unfold kb;rw[fP];rfl);go_wp2_with fail;go_ret;exact⟨hf.o.symm▸rfl,aF⟩
 |true=>
 have jG:=H_ fP;have G2:=(aH.block _ HS).trans HH.o;have e2:=ab G2 2;have dW:=aH.size;clear fP;go_wp2_with fail;refine(HV2.o w2 aF).mono ?_;rintro e w3 ⟨rfl,aZ⟩;have aR:=aF.trans (aZ.mono aF.size);have lE:=aZ.size;have G3:=(aZ.block _ (by omega)).trans G2;have e3:=ab G3 3;clear e2 G2;cases gn:ej ec false with
 |false=>
  have hf:=H_ (show r=false by rw[<-HR.o];unfold kb;rw[gn,Bool.and_false];rfl);go_wp2_with fail;go_ret;exact⟨hf.o.symm▸rfl,aR⟩
 |true=>
 have jv:=H_ gn;clear gn;by_cases rJ:nl<=400
 case neg=>
  have FS_:(400:Int)< (nl:Int):=by omega
  have hf:=H_ (show r=false by rw[<-HR.o];unfold kb;rw[jz.o,decide_eq_false rJ,Bool.and_false];rfl);go_wp2_with fail;go_ret;exact⟨hf.o.symm▸rfl,aR⟩
 case pos=>
 have FS_:¬(400:Int)< (nl:Int):=by omega
 have IG:=H_ G3;clear G3;go_wp2_with fail
 go_loopw [5] (λi wr=>∃k:Nat,k<=nl/\i=.int .i64 (k:Int)/\Below w3.heap.size w3 wr/\∀j,j<k->gF ec ch ls j=true) (λi _=>nl- (intOf i).toNat)
 case atStart=>exact⟨0,by omega,rfl,Below.refl _ _,λj hj=>by omega⟩
 case round=>
  obtain⟨k,hk,rfl,hb,hall⟩:=hrel;have HA:=H_ hall;have bP:=hb.size;clear hall e3;have el:=aR.trans (hb.mono aR.size);have ER:=(hb.block w.heap.size (by omega)).trans IG.o;have e3:=ab ER 3;by_cases aU:k<nl
  case pos=>
   have bq:(k:Int)< (nl:Int):=by omega
   have bI:k<ls.length:=by rw[jz.o];exact aU
   obtain⟨b,o,dj,ed,kZ⟩:=aj.base sV.o (by omega);subst dj;obtain⟨rz,bL,aS⟩:=kZ k bI;have tM:=H_ kZ;obtain⟨bE,le⟩:=bJ.lit bL;obtain⟨l,hl⟩:=x_ (ls[k]);rw[hl]at bE le;have HL:=H_ (show ls[k]? =some l by rw[List.getElem?_eq_getElem bI,hl]);obtain⟨o1,Mt⟩:∃o,gH (aK ec l.from_)=o:=⟨_,rfl⟩;obtain⟨s1,tC⟩:∃s,(aK ec l.from_).isSome=s:=⟨_,rfl⟩;obtain⟨o2,CC⟩:∃o,gH (aK ch l.to_)=o:=⟨_,rfl⟩;obtain⟨s2,dW⟩:∃s,(aK ch l.to_).isSome=s:=⟨_,rfl⟩;have jD:=H_ (Em Mt tC CC dW);obtain⟨l1,l2,l3⟩:=l;subst bE;obtain⟨b1,b2,b3⟩:=le;simp only at b1 b2 b3 Mt tC CC dW;have FI:=H_ (λ(w2:World) (hb:Below w.heap.size w w2)=>kU.o w2 hb l1 b1 Mt tC);have JX:=H_ (λ(w2:World) (hb:Below w.heap.size w w2)=>kV.o w2 hb l2 b2 CC dW);have eZ:=H_ ((aS.fr (Fr.ofBelow el)).range);clear bL aS hl kZ b1 b2 Mt tC CC dW;go_upto_region 7 with(refine w_ 38 154 37 b (o+k*3) [l1,l2,l3] eZ.o dE Tryz.underlying154 ?_);obtain⟨W6,mC,H6,dK,my,ewx⟩:=B_ wr (.cells #[l1,l2,l3] 154);rw[mC];replace ER:=(dK.block _ (ag ER)).trans ER;clear ewx;clear mC;have MV:=dK.size;have fi:=el.trans (dK.mono el.size);have e2:=ab ER 2;have f0:=ab H6 0;have Y9:=H_ H6;have yK:=H_ ER;clear H6 ER e3;go_wp2_with fail;refine(FI.o W6 fi).mono ?_;rintro e w7 ⟨rfl,fC⟩;have QN:=fC.size;have J7:=dK.trans (fC.mono dK.size);have K7:=(fC.block _ my).trans Y9.o;obtain⟨p1,p2,p3,p4⟩:=o1;go_upto_region 8 with fail
   obtain⟨W8,Q6,H8,o9,XW,ewx⟩:=B_ w7 (.cells #[p1,p2,p3,p4] 78);rw[Q6];replace K7:=(o9.block _ (ag K7)).trans K7;clear ewx;clear Q6;have QC:=o9.size;have Bt:=J7.trans (o9.mono J7.size);have kw:=el.trans (Bt.mono el.size);have f1:=ab K7 1;have HK8:=H_ K7;have HP8:=H_ H8;clear K7 H8 e2 f0;go_wp2_with fail;refine(JX.o W8 kw).mono ?_;rintro e w9 ⟨rfl,kT⟩;have hs9:=kT.size;have aaz:=Bt.trans (kT.mono Bt.size);have K9:=(kT.block _ (by omega)).trans HK8.o;have P9:=(kT.block _ (by omega)).trans HP8.o;obtain⟨q1,q2,q3,q4⟩:=o2;go_upto_region 9 with fail;obtain⟨W10,adO,H10,Ox,ae7,ewx⟩:=B_ w9 (.cells #[q1,q2,q3,q4] 78);rw[adO];replace K9:=(Ox.block _ (ag K9)).trans K9;replace P9:=(Ox.block _ (ag P9)).trans P9;clear ewx;clear adO;have afb:=Ox.size;have Ny:=aaz.trans (Ox.mono aaz.size);have CY:=el.trans (Ny.mono el.size);have f2:=ab K9 2;have g1:=ab P9 1;have k1:=ab H10 1;have acy:=H_ K9;clear K9 P9 H10 f1;cases s1 with
   |false=>
    have hf:=H_ (show r=false by rw[<-HR.o];exact kL bI (rf HL.o (by rw[jD.o];rfl)));go_wp2_with fail;go_ret;exact⟨hf.o.symm▸rfl,CY⟩
   |true=>
   cases s2 with
   |false=>
    have hf:=H_ (show r=false by rw[<-HR.o];exact kL bI (rf HL.o (by rw[jD.o];rfl)));go_wp2_with fail;go_ret;exact⟨hf.o.symm▸rfl,CY⟩
   |true=>
   by_cases h1:p2=q2
   case neg=>
    have h1':(p2 !=q2)=true:=by simpa using h1
    have hf:=H_ (show r=false by rw[<-HR.o];exact kL bI (rf HL.o (by rw[jD.o];simp[h1])));go_wp2_with fail;go_ret;exact⟨hf.o.symm▸rfl,CY⟩
   case pos=>
   have h1':(p2 !=q2)=false:=by simpa using h1
   have HLD:=H_ (show n0 ec ch ⟨l1,l2,l3⟩=decide (inD l3) by rw[jD.o,h1];simp);obtain⟨d,hd⟩:=x_ (decide (inD l3));have aM:=mt l3 W10;rw[hd]at aM;have HD:=H_ hd;clear hd;go_wp2_with fail;refine aM.mono ?_;clear aM;rintro e w11 ⟨rfl,Np⟩;have aeS:=Np.size;have VH:=Ny.trans (Np.mono Ny.size);have NA:=CY.trans (Np.mono CY.size);cases d with
   |false=>
    have hf:=H_ (show r=false by rw[<-HR.o];exact kL bI (rf HL.o (HLD.o.trans HD.o)));go_wp2_with fail;go_ret;exact⟨hf.o.symm▸rfl,NA⟩
   |true=>
   have K11:=H_ ((Np.block _ (by omega)).trans acy.o);have E11:=H_ (((fC.trans ((o9.mono QN).trans ((kT.mono (by omega)).trans ((Ox.mono (by omega)).trans (Np.mono (by omega)))))).block _ (by omega)).trans yK.o);clear f2 g1 k1;go_wp2_with fail
   go_loopw [11] (λi wi=>∃j:Nat,j<=k/\i=.int .i64 (j:Int)/\Below w11.heap.size w11 wi/\∀j' (hl:j'<ls.length),j'<j->¬(ls[j'].from_=l1/\ls[j'].since=l3)) (λi _=>k- (intOf i).toNat)
   case atStart=>exact⟨0,by omega,rfl,Below.refl _ _,λj hj h=>by omega⟩
   case round=>
    obtain⟨j,hj,rfl,hbi,sT⟩:=hrel;have Qy:=H_ sT;have hsi:=hbi.size;clear sT;have Rj:=NA.trans (hbi.mono NA.size);by_cases m7:j<k
    case pos=>
     have Nm:(j:Int)< (k:Int):=by omega
     have aeX:(j:Int)< (nl:Int):=by omega
     have vn:j<ls.length:=by rw[jz.o];omega
     obtain⟨MJ,iy,dt⟩:=tM.o j vn;obtain⟨qp,_⟩:=bJ.lit iy;obtain⟨x2,qi⟩:=x_ (ls[j]);rw[qi]at qp;have Fv:=H_ qi;obtain⟨j1,j2,j3⟩:=x2;subst qp;have rK:=dt.fr (Fr.ofBelow Rj);have c0:=rK.c (j:=0) rfl;have c2:=rK.c (j:=2) rfl;rw[Nat.add_zero]at c0;have KI:=(hbi.block _ (by omega)).trans K11.o;have EI:=(hbi.block _ (by omega)).trans E11.o;have f0:=ab KI 0;have f2:=ab KI 2;have e3:=ab EI 3;clear iy dt rK qi KI EI;by_cases ha:j1=l1
     case neg=>
      have ha':(j1==l1)=false:=by simpa using ha
      have rN:=H_ (show ¬(j1=l1/\j3=l3)from λh=>ha h.1);clear ha;go_wp2_with fail;go_quiet (fail);go_wp2_with fail;go_roundw
      case rel=>exact⟨j+1,by omega,by go_num,((Fr.ofBelow hbi).drewN _).below,λj' hj' hjj=>by
       rcases Nat.lt_or_ge j' j with h|h
       ·exact Qy.o j' hj' h
       ·have:j'=j:=by omega
        subst this;rw[Fv.o];exact rN.o⟩
      case measure=>first|exact aQ m7|(simp only[intOf];omega)
     case pos=>
     have ha':(j1==l1)=true:=by simpa using ha
     by_cases ot:j3=l3
     case neg=>
      have hc':(j3==l3)=false:=by simpa using ot
      have rN:=H_ (show ¬(j1=l1/\j3=l3)from λh=>ot h.2);clear ha ot;go_wp2_with fail;go_quiet (fail);go_wp2_with fail;go_roundw
      case rel=>exact⟨j+1,by omega,by go_num,((Fr.ofBelow hbi).drewN _).below,λj' hj' hjj=>by
       rcases Nat.lt_or_ge j' j with h|h
       ·exact Qy.o j' hj' h
       ·have:j'=j:=by omega
        subst this;rw[Fv.o];exact rN.o⟩
      case measure=>first|exact aQ m7|(simp only[intOf];omega)
     case pos=>
      have hc':(j3==l3)=true:=by simpa using ot
      have hf:=H_ (show r=false by rw[<-HR.o];exact kL bI (G8 HL.o m7 vn (by rw[Fv.o];exact ha) (by rw[Fv.o];exact ot)));clear ha ot;go_wp2_with fail;go_quiet (fail);go_wp2_with fail;go_ret;exact⟨hf.o.symm▸rfl,((Fr.ofBelow Rj).drewN _).below⟩
    case neg=>
     have Nm:¬(j:Int)< (k:Int):=by omega
     have R5:=H_ (show gF ec ch ls k=true from LF HL.o (HLD.o.trans HD.o) (λj' Vh ad8=>Qy.o j' Vh (by omega)));go_wp2_with fail;go_roundw
     case rel=>exact⟨k+1,by omega,by go_num,hb.trans ((VH.trans (hbi.mono VH.size)).mono bP),λi hi=>by
      rcases Nat.lt_or_ge i k with h|h
      ·exact HA.o i h
      ·have:i=k:=by omega
       subst this;exact R5.o⟩
     case measure=>first|exact aQ aU|(simp only[intOf];omega)
  case neg=>
   have bq:¬(k:Int)< (nl:Int):=by omega
   have hf:=H_ (show r=true by
    rw[<-HR.o];unfold kb pV;rw[jG.o,jv.o,jz.o,decide_eq_true rJ,bQ (λj hj=>HA.o j (by omega))];rfl)
   go_wp2_with fail;go_ret;exact⟨hf.o.symm▸rfl,el⟩
theorem EL {e:aV} {ch:List ah} {Ac Al Ah:Option Addr} {n m nl cc cl hc:Nat} {w:World} (hN:e.chart.length=n) (hM:ch.length=m) (Ok:e.links.length=nl) (sN:aj ar 4 w (·<w.heap.size) [.slice Ac e.chart.length cc] e.chart) (lP:aj bJ 3 w (·<w.heap.size) [.slice Al e.links.length cl] e.links) (ee:aj ar 4 w (·<w.heap.size) [.slice Ah ch.length hc] ch) (hn:e.chart.length<=1000) (hm:ch.length<=1000) (bj:e.links.length<=1000) (w2:World) (hb:Below w.heap.size w w2):
 Calls Tryz.prog 203 #[.agg (lH e.name e.currency Ac n cc Al nl cl e.joint).toArray,.slice Ah m hc] w2 (ap w2 (.bool (kb e.chart ch e.links))):=
 EK e.name e.currency Ac Al Ah n m nl cc cl hc e.joint e.chart ch e.links w2 hN hM Ok (az sN hb) (pW lP hb) (az ee hb) hn hm bj
theorem OV {ch:List ah} {L:List dp} {e:aV} (h:lw e.name=false):dP ch L e=false:=by unfold dP;rw[h];simp
theorem SN {ch:List ah} {L:List dp} {e:aV} (h:cQ e.currency=false):dP ch L e=false:=by unfold dP;rw[h];simp
theorem SO {ch:List ah} {L:List dp} {e:aV} (h:kb e.chart ch e.links=false):dP ch L e=false:=by unfold dP;rw[show n8 e ch=kb e.chart ch e.links from rfl,h];simp
theorem OU {ch:List ah} {L:List dp} {e:aV} {k:Nat} {l:bu} (hk:e.links[k]? =some l) (h:fS L l.to_=true):dP ch L e=false:=by
 unfold dP;obtain⟨hl,rfl⟩:=List.getElem?_eq_some_iff.1 hk;rw[List.all_eq_false.2 ⟨e.links[k],List.getElem_mem hl,by rw[h];decide⟩,Bool.and_false]
theorem SM {ch:List ah} {L:List dp} {e:aV} (h1:lw e.name=true) (h2:cQ e.currency=true) (h3:kb e.chart ch e.links=true) (h:∀k (hk:k<e.links.length),fS L e.links[k].to_=false):dP ch L e=true:=by
 unfold dP;rw[h1,h2,show n8 e ch=kb e.chart ch e.links from rfl,h3,List.all_eq_true.2 (λx hx=>by
  obtain⟨k,hk,rfl⟩:=List.getElem_of_mem hx;rw[h k hk];rfl)]
 rfl
theorem KY {L:List dp} {c:Int} {j:Nat} (hj:j<L.length) (h1:L[j].code=c) (h2:L[j].mapped=false):fS L c=true:=by
 unfold fS;rw[List.any_eq_true];exact⟨L[j],List.getElem_mem hj,by simp[h1,h2]⟩
theorem La {L:List dp} {c:Int} (h:∀j (hj:j<L.length),¬(L[j].code=c/\L[j].mapped=false)):fS L c=false:=by
 unfold fS;rw[List.any_eq_false];intro x hx;obtain⟨j,hj,rfl⟩:=List.getElem_of_mem hx;have:=h j hj;simp only[Bool.and_eq_true,beq_iff_eq,Bool.not_eq_true'];exact this
theorem LV (g:au) (cs:List Value) (x:aV) (xs:List Value) (w:World) (hg:aL w (·<w.heap.size) cs g) (hx:aN w (·<w.heap.size) xs x) (hn:g.chart.length<=1000) (oO:x.chart.length<=1000) (bj:x.links.length<=1000) (tC:x.name.size<=1000) (dW:x.currency.size<=1000):Calls Tryz.prog 167 #[.agg cs.toArray,.agg xs.toArray] w (ap w (.bool (dP g.chart (cY g.roles) x))):=by
 obtain⟨r,hr⟩:=x_ (dP g.chart (cY g.roles) x);rw[hr];have HR:=H_ hr;clear hr;obtain⟨Ac,cc,Ae,ce,rfl,ee,iu,eu,mD⟩:=hg.lit;clear hg;obtain⟨cur,⟨y,m,p⟩,ch,⟨r0,r1,r2,r3,r4,r5,r6,r7,r8,r9,cw,cA,ey,ct,cz⟩,es⟩:=g;simp only at ee iu mD eu hn |-;obtain⟨Ec,c2,Al,cl,rfl,sN,kZ⟩:=hx.lit;clear hx;obtain⟨L,hL⟩:=x_ (jM r0 r1 r2 r3 r4 r5 r6 r7 r8 r9 cw cA ey ct cz);have CI:L.length=15:=by rw[<-hL];rfl
 have tU:=H_ hL;have Bw:=H_ CI;obtain⟨n,zR⟩:=x_ (ch.length);obtain⟨ne,bT⟩:=x_ (es.length);have HL:=H_ ee;have HN:=H_ zR;have HE:=H_ iu;have eP:=H_ bT;rw[zR,bT];rw[zR]at hn;clear hL CI ee iu zR bT eu;clear mD;rw[show cY ⟨r0,r1,r2,r3,r4,r5,r6,r7,r8,r9,cw,cA,ey,ct,cz⟩=L from tU.o]at HR;obtain⟨n2,FN⟩:∃n,x.chart.length=n:=⟨_,rfl⟩;obtain⟨nl,Bu⟩:∃n,x.links.length=n:=⟨_,rfl⟩;have Fj:=H_ (EL FN HN.o Bu sN kZ HL.o oO (by rw[HN.o];exact hn) bj);have Cz:=H_ kZ;have jz:=H_ Bu;rw[FN,Bu];obtain⟨s,cu,ec,ls,jo⟩:=x;simp only at HR Fj Cz jz tC dW bj |-;have aeW:nl<=1000:=by rw[<-jz.o];exact bj
 clear sN kZ FN Bu oO bj;show Calls Tryz.prog 167 #[.agg #[cur,y,m,p,.slice Ac n cc,r0,r1,r2,r3,r4,r5,r6,r7,r8,r9,cw,cA,ey,ct,cz,.slice Ae ne ce],.agg #[s,cu,.slice Ec n2 c2,.slice Al nl cl,jo]] w (ap w (.bool r));go_enter Tryz.func167,Tryz.ntmps167;go_upto_region 1 with fail;obtain⟨W,hW,H,HB,HS,ewx⟩:=B_ w (.cells #[cur,y,m,p,.slice Ac n cc,r0,r1,r2,r3,r4,r5,r6,r7,r8,r9,cw,cA,ey,ct,cz,.slice Ae ne ce] 29);rw[hW];clear ewx;obtain⟨W2,fR,H2,dz,jK,ewx⟩:=B_ W (.cells #[s,cu,.slice Ec n2 c2,.slice Al nl cl,jo] 74);rw[fR];replace H:=(dz.block _ (ag H)).trans H;clear ewx;clear fR;have eW:W.heap.size=w.heap.size+1:=by rw[<-hW];simp
 rw[eW]at H2;clear hW;have aH:=HB.trans (dz.mono HB.size);have hs2':=dz.size;have f0:=ab H2 0;have yM:=H_ ((dO (cs:=[.string cur,.int .i64 y,.int .i64 m,.int .i64 p,.slice Ac n cc]++([.int .i64 r0,.int .i64 r1,.int .i64 r2,.int .i64 r3,.int .i64 r4,.int .i64 r5,.int .i64 r6,.int .i64 r7,.int .i64 r8,.int .i64 r9,.int .i64 cw,.int .i64 cA,.int .i64 ey,.int .i64 ct,.int .i64 cz]++[.slice Ae ne ce])) H).split.2.split.1);have HH:=H_ H;have dn:=H_ H2;have lV:=ag H2;clear H H2;go_wp2_with fail;refine(Tq s W2 tC).mono ?_;rintro e w3 ⟨rfl,aZ⟩;have aR:=aH.trans (aZ.mono aH.size);have lE:=aZ.size;cases fP:lw s with
 |false=>
  have hf:=H_ (show r=false by rw[<-HR.o];exact OV fP);go_wp2_with fail;go_ret;exact⟨hf.o.symm▸rfl,aR⟩
 |true=>
 have jG:=H_ fP;have E3:=(aZ.block _ lV).trans dn.o;have f1:=ab E3 1;clear fP f0;go_wp2_with fail;refine(th cu w3 dW).mono ?_;rintro e wC ⟨rfl,MF⟩;have Ba:=aR.trans (MF.mono aR.size);have hsC:=MF.size;cases gn:cQ cu with
 |false=>
  have hf:=H_ (show r=false by rw[<-HR.o];exact SN gn);go_wp2_with fail;go_ret;exact⟨hf.o.symm▸rfl,Ba⟩
 |true=>
 have jv:=H_ gn;have zA:=H_ ((MF.block _ (by omega)).trans E3);have GC:=(MF.block _ (by omega)).trans ((aZ.block _ (by omega)).trans HH.o);have d4:=ab GC 4;have eE:=H_ (Fj.o wC Ba);clear gn f1 E3 GC;go_wp2_with (refine W_ 19 74 3 (w.heap.size+1) zA.o cD Tryz.underlying74 ?_);refine eE.o.mono ?_;rintro e w4 ⟨rfl,bU⟩;have bD:=Ba.trans (bU.mono Ba.size);have yJ:=bU.size;clear d4;cases ot:kb ec ch ls with
 |false=>
  have hf:=H_ (show r=false by rw[<-HR.o];exact SO ot);go_wp2_with fail;go_ret;exact⟨hf.o.symm▸rfl,bD⟩
 |true=>
 have kB:=H_ ot;have Fo:=H_ ((bU.block _ (by omega)).trans zA.o);have qy:=H_ ((yM.o.fr (Fr.ofBelow (aZ.trans ((MF.mono lE).trans (bU.mono (by omega)))))).range);clear ot;go_wp2_with (refine w_ 26 26 25 w.heap.size 5 [r0,r1,r2,r3,r4,r5,r6,r7,r8,r9,cw,cA,ey,ct,cz] qy.o kI Tryz.underlying26 ?_);refine(EG r0 r1 r2 r3 r4 r5 r6 r7 r8 r9 cw cA ey ct cz w4).mono ?_;rintro e w5 ⟨v,rfl,⟨A,c,rfl⟩,Ge,cP⟩;rw[tU.o]at Ge;have FB:=H_ (show aj vH 5 w5 (λk=>w4.heap.size<=k/\k<w5.heap.size) [.slice A L.length c] L by rw[Bw.o];exact Ge);have QU:=cP.size;have jE:=bD.trans (cP.mono bD.size);have rW:=H_ ((cP.block _ (by omega)).trans Fo.o);clear Ge;obtain⟨b,o,dj,ed,aaO⟩:=aj.base FB.o (by rw[Bw.o];omega);subst dj;have acq:=H_ aaO;clear aaO;go_wp2_with fail
 go_loopw [6] (λi wr=>∃k:Nat,k<=nl/\i=.int .i64 (k:Int)/\Below w5.heap.size w5 wr/\∀i (hi:i<ls.length),i<k->fS L ls[i].to_=false) (λi _=>nl- (intOf i).toNat)
 case atStart=>exact⟨0,by omega,rfl,Below.refl _ _,λj hj h=>by omega⟩
 case round=>
  obtain⟨k,hk,rfl,hb,hall⟩:=hrel;have HA:=H_ hall;have bP:=hb.size;clear hall;have el:=jE.trans (hb.mono jE.size);have ER:=(hb.block (w.heap.size+1) (by omega)).trans rW.o;have e3:=ab ER 3;by_cases aU:k<nl
  case pos=>
   have bq:(k:Int)< (nl:Int):=by omega
   have bI:k<ls.length:=by rw[jz.o];exact aU
   obtain⟨bl,ol,rz,dj,zD,bL,aS⟩:=aj.get Cz.o k bI;subst dj;obtain⟨bE,_⟩:=bJ.lit bL;obtain⟨l,hl⟩:=x_ (ls[k]);rw[hl]at bE;have adf:=H_ (show ls[k]? =some l by rw[List.getElem?_eq_getElem bI,hl]);have HLG:=H_ hl;obtain⟨l1,l2,l3⟩:=l;subst bE;have pb:=H_ ((aS.fr (Fr.ofBelow el)).c (j:=1) rfl);have Rv:=H_ ER;have LT:=H_ (show bl<w.heap.size from zD);clear bL aS hl zD ER;go_wp2_with fail
   go_loopw [7] (λi wi=>∃j:Nat,j<=15/\i=.int .i64 (j:Int)/\Below wr.heap.size wr wi/\∀j' (hl:j'<L.length),j'<j->¬(L[j'].code=l2/\L[j'].mapped=false)) (λi _=>15- (intOf i).toNat)
   case atStart=>exact⟨0,by omega,rfl,Below.refl _ _,λj hj h=>by omega⟩
   case round=>
    obtain⟨j,hj,rfl,hbi,sT⟩:=hrel;have Qy:=H_ sT;have hsi:=hbi.size;clear sT;have Rj:=el.trans (hbi.mono el.size);by_cases m7:j<15
    case pos=>
     have Nm:(j:Int)<15:=by omega
     have vn:j<L.length:=by rw[Bw.o];exact m7
     obtain⟨MJ,iy,dt⟩:=acq.o j vn;obtain⟨q,hq⟩:=x_ (L[j]);rw[hq]at iy;have HQ:=H_ hq;obtain⟨qn,qc,qk,qb,qm⟩:=q;have qp:MJ=[.string qn,.int .i64 qc,.int .i64 qk,.int .i64 qb,.bool qm]:=iy;subst qp;have rK:=(dt.fr ((Fr.ofBelow (hb.trans (hbi.mono bP))).mono (λk hk=>hk.2)));have c1:=rK.c (j:=1) rfl;have c4:=rK.c (j:=4) rfl;have cl1:=(hbi.cell (p:=⟨bl,ol+k*3+1,none⟩) (by have:=LT.o;have:=el.size;show bl<_;omega)).trans pb.o;have EI:=(hbi.block _ (by omega)).trans Rv.o;have e3:=ab EI 3;clear iy dt rK hq EI;by_cases ha:qc=l2
     case neg=>
      have ha':(l2==qc)=false:=by simpa using λe:l2=qc=>ha e.symm
      have rN:=H_ (show ¬(qc=l2/\qm=false)from λh=>ha h.1);clear ha;go_wp2_with fail;go_quiet (fail);go_wp2_with fail;go_roundw
      case rel=>exact⟨j+1,by omega,by go_num,((Fr.ofBelow hbi).drewN _).below,λj' hj' hjj=>by
       rcases Nat.lt_or_ge j' j with h|h
       ·exact Qy.o j' hj' h
       ·have:j'=j:=by omega
        subst this;rw[HQ.o];exact rN.o⟩
      case measure=>first|exact aQ m7|(simp only[intOf];omega)
     case pos=>
     have ha':(l2==qc)=true:=by simpa using ha.symm
     cases qm with
     |true=>
      have rN:=H_ (show ¬(qc=l2/\true=false)from λh=>by cases h.2);clear ha;go_wp2_with fail;go_quiet (fail);go_wp2_with fail;go_roundw
      case rel=>exact⟨j+1,by omega,by go_num,((Fr.ofBelow hbi).drewN _).below,λj' hj' hjj=>by
       rcases Nat.lt_or_ge j' j with h|h
       ·exact Qy.o j' hj' h
       ·have:j'=j:=by omega
        subst this;rw[HQ.o];exact rN.o⟩
      case measure=>first|exact aQ m7|(simp only[intOf];omega)
     |false=>
      have hf:=H_ (show r=false by rw[<-HR.o];exact OU adf.o (KY vn (by rw[HQ.o];exact ha) (by rw[HQ.o])));clear ha;go_wp2_with fail;go_quiet (fail);go_wp2_with fail;go_ret;exact⟨hf.o.symm▸rfl,((Fr.ofBelow Rj).drewN _).below⟩
    case neg=>
     have Nm:¬(j:Int)<15:=by omega
     have R5:=H_ (show fS L l2=false from La (λj' Vh=>Qy.o j' Vh (by have:=Bw.o;omega)));go_wp2_with fail;go_roundw
     case rel=>exact⟨k+1,by omega,by go_num,hb.trans (hbi.mono bP),λi hi TG=>by
      rcases Nat.lt_or_ge i k with h|h
      ·exact HA.o i hi h
      ·have:i=k:=by omega
       subst this;rw[HLG.o];exact R5.o⟩
     case measure=>first|exact aQ aU|(simp only[intOf];omega)
  case neg=>
   have bq:¬(k:Int)< (nl:Int):=by omega
   have hf:=H_ (show r=true by rw[<-HR.o];exact SM jG.o jv.o kB.o (λj hj=>HA.o j hj (by have:=jz.o;simp only at hj;omega)));go_wp2_with fail;go_ret;exact⟨hf.o.symm▸rfl,el⟩
theorem gI (a b:ByteArray):(a.toList==b.toList)=decide (a=b):=by
 by_cases h:a=b
 ·subst h;simp
 ·rw[decide_eq_false h];have:a.toList≠b.toList:=λe=>h (by
   rw[ByteArray.toList_eq,ByteArray.toList_eq]at e;exact ByteArray.ext (Array.ext' e))
  simpa using this
def If (P:Prop) (w:World) (e:Ending) (w':World):Prop:=∃b,e=.returned (.bool b)/\(b=true->P)/\Below w.heap.size w w'
theorem If.no {P:Prop} {w w':World} (h:Below w.heap.size w w'):If P w (.returned (.bool false)) w':=⟨false,rfl,(λh=>by cases h),h⟩
theorem If.yes {P:Prop} {w w':World} (hp:P) (h:Below w.heap.size w w'):If P w (.returned (.bool true)) w':=⟨true,rfl,λ_=>hp,h⟩
def szE (e:aV):Prop:=e.name.size<=140737488355327/\e.currency.size<=140737488355327
def szG (g:au):Prop:=g.currency.size<=140737488355327/\∀e∈g.entities,szE e
def O1 (e:aV):Prop:=e.chart.length<=40/\e.links.length<=60/\e.name.size<=60/\e.currency.size<=60
def Lk (g:au):Prop:=g.chart.length<=60/\g.entities.length<=14/\g.currency.size<=20/\∀e∈g.entities,O1 e
theorem Lk.small {g:au} (h:Lk g):dQ g:=by
 obtain⟨h1,h2,h3,h4⟩:=h;refine⟨by omega,by omega,by omega,λe he=>?_⟩;obtain⟨a,b,c,d⟩:=h4 e he;exact⟨by omega,by omega,by omega,by omega⟩
def nU (es:List aV) (s:ByteArray):Int × Bool:=match es.findIdx? (λx=>decide (x.name=s))with
 |some k=>((k:Int),true)
 |none=>(0,false)
theorem xf {es:List aV} {s:ByteArray} {k:Nat} (hk:k<es.length) (h:es[k].name=s) (hb:∀j (hj:j<es.length),j<k->¬es[j].name=s):nU es s=((k:Int),true):=by
 unfold nU;have:es.findIdx? (λx=>decide (x.name=s))=some k:=by
  rw[List.findIdx?_eq_some_iff_getElem];exact⟨hk,decide_eq_true h,λj hj=>by simpa using hb j (by omega) hj⟩
 rw[this]
theorem GM {es:List aV} {s:ByteArray} (hb:∀j (hj:j<es.length),¬es[j].name=s):nU es s=(0,false):=by
 unfold nU;have:es.findIdx? (λx=>decide (x.name=s))=none:=by
  rw[List.findIdx?_eq_none_iff];intro x hx;obtain⟨j,hj,rfl⟩:=List.getElem_of_mem hx;exact decide_eq_false (hb j hj)
 rw[this]
theorem Lm {es:List aV} {k:Nat} {e:aV} (hk:es[k]? =some e):((nU es e.name).1=(k:Int))↔((es.take k).any λx=>decide (x.name=e.name))=false:=by
 obtain⟨hl,rfl⟩:=List.getElem?_eq_some_iff.1 hk;constructor
 ·intro h;rw[List.any_eq_false];intro x hx;rw[List.mem_take_iff_getElem]at hx;obtain⟨j,hj,rfl⟩:=hx;simp only[decide_eq_true_eq];intro hn;unfold nU at h;cases hf:es.findIdx? (λx=>decide (x.name=es[k].name))with
  |none=>
   rw[List.findIdx?_eq_none_iff]at hf;have:=hf _ (List.getElem_mem hl);simp at this
  |some q=>
   rw[hf]at h;simp only at h;rw[List.findIdx?_eq_some_iff_getElem]at hf;obtain⟨_,_,h2⟩:=hf;have:=h2 j (by omega);simp[hn]at this
 ·intro h;rw[List.any_eq_false]at h;rw[xf hl rfl (λj hj m7=>by
   have:=h es[j] (by rw[List.mem_take_iff_getElem];exact⟨j,by omega,rfl⟩);simpa using this)]
theorem PB (g:au) (cs:List Value) (nm:ByteArray) (w:World) (hg:aL w (·<w.heap.size) cs g) (zi:g.entities.length<=1000):Calls Tryz.prog 166 #[.agg cs.toArray,nm] w (ap w (.tuple #[.int .i64 (nU g.entities nm).1,.bool (nU g.entities nm).2])):=by
 obtain⟨Ac,cc,Ae,ce,rfl,ee,iu,eu,mD⟩:=hg.lit;clear hg mD eu ee;obtain⟨cur,⟨y,m,p⟩,ch,⟨r0,r1,r2,r3,r4,r5,r6,r7,r8,r9,cw,cA,ey,ct,cz⟩,es⟩:=g;simp only at iu zi |-;obtain⟨r,hr⟩:=x_ (nU es nm);rw[hr];have HR:=H_ hr;obtain⟨n,bj⟩:=x_ (ch.length);obtain⟨ne,bT⟩:=x_ (es.length);have HE:=H_ iu;have eP:=H_ bT;rw[bj,bT];rw[bT]at zi;clear hr iu bj bT;show Calls Tryz.prog 166 #[.agg #[cur,y,m,p,.slice Ac n cc,r0,r1,r2,r3,r4,r5,r6,r7,r8,r9,cw,cA,ey,ct,cz,.slice Ae ne ce],nm] w (ap w _);go_enter Tryz.func166,Tryz.ntmps166;go_upto_region 1 with fail;obtain⟨W,hW,H,HB,HS,ewx⟩:=B_ w (.cells #[cur,y,m,p,.slice Ac n cc,r0,r1,r2,r3,r4,r5,r6,r7,r8,r9,cw,cA,ey,ct,cz,.slice Ae ne ce] 29);rw[hW];clear ewx;clear hW;have HH:=H_ H;clear H;go_wp2_with fail
 go_loopw [6] (λi wr=>∃k:Nat,k<=ne/\i=.int .i64 (k:Int)/\Below W.heap.size W wr/\∀j (hj:j<es.length),j<k->¬es[j].name=nm) (λi _=>ne- (intOf i).toNat)
 case atStart=>exact⟨0,by omega,rfl,Below.refl _ _,λj hj h=>by omega⟩
 case round=>
  obtain⟨k,hk,rfl,hb,hall⟩:=hrel;have HA:=H_ hall;have bP:=hb.size;clear hall;have el:=HB.trans (hb.mono HB.size);have GR:=(hb.block w.heap.size HS).trans HH.o;have d20:=ab GR 20;clear GR;by_cases aU:k<ne
  case pos=>
   have bq:(k:Int)< (ne:Int):=by omega
   have bI:k<es.length:=by rw[eP.o];exact aU
   obtain⟨b,o,rz,dj,ed,bL,aS⟩:=aj.get HE.o k bI;subst dj;obtain⟨Ec,c2,Al,cl,rfl,_,_⟩:=bL.lit;have k0:=(aS.fr (Fr.ofBelow el)).c (j:=0) rfl;rw[Nat.add_zero]at k0;obtain⟨s,hs⟩:=x_ (es[k].name);rw[hs]at k0;have HSN:=H_ hs;clear bL aS ed hs;by_cases he:s=nm
   case pos=>
    have he':(s.toList==nm.toList)=true:=by rw[gI,decide_eq_true he]
    have hf:=H_ (show r=((k:Int),true) by rw[<-HR.o];exact xf bI (HSN.o.trans he) HA.o);go_wp2_with fail;go_ret2;exact⟨hf.o.symm▸rfl,el⟩
   case neg=>
    have he':(s.toList==nm.toList)=false:=by rw[gI,decide_eq_false he]
    have Oj:=H_ he;go_wp2_with fail;go_roundw
    case rel=>exact⟨k+1,by omega,by go_num,hb,λj hj m7=>by
     rcases Nat.lt_or_ge j k with h|h
     ·exact HA.o j hj h
     ·have:j=k:=by omega
      subst this;rw[HSN.o];exact Oj.o⟩
    case measure=>first|exact aQ aU|(simp only[intOf];omega)
  case neg=>
   have bq:¬(k:Int)< (ne:Int):=by omega
   have hf:=H_ (show r=(0,false) by rw[<-HR.o];exact GM (λj hj=>HA.o j hj (by have h:=eP.o;omega)));go_wp2_with fail;go_ret2;exact⟨hf.o.symm▸rfl,el⟩
theorem ab6 (g:au) (cs:List Value) (w:World) (hg:aL w (·<w.heap.size) cs g) (bP:szG g):Calls Tryz.prog 77 #[.agg cs.toArray] w (If (Lk g) w):=by
 obtain⟨Ac,cc,Ae,ce,rfl,ee,iu,eu,mD⟩:=hg.lit;clear hg mD eu;have jw:=ee.cap.2;have oQ:=iu.cap.2;clear ee;obtain⟨P,hP⟩:=x_ (Lk g);rw[hP];have HP:=H_ (show(g.chart.length<=60/\g.entities.length<=14/\g.currency.size<=20/\∀e∈g.entities,O1 e)->P from λh=>hP▸h);obtain⟨cur,⟨y,m,p⟩,ch,⟨r0,r1,r2,r3,r4,r5,r6,r7,r8,r9,cw,cA,ey,ct,cz⟩,es⟩:=g;obtain⟨hsc,Fk⟩:=bP;simp only at iu jw oQ HP hsc Fk |-;have Z9:=H_ Fk;obtain⟨n,bj⟩:=x_ (ch.length);obtain⟨ne,bT⟩:=x_ (es.length);have HE:=H_ iu;have eP:=H_ bT;have HN:=H_ bj;rw[bj,bT];rw[bT]at oQ;rw[bj]at jw;unfold maxLen at oQ jw;clear iu bj bT hP Fk;show Calls Tryz.prog 77 #[.agg #[cur,y,m,p,.slice Ac n cc,r0,r1,r2,r3,r4,r5,r6,r7,r8,r9,cw,cA,ey,ct,cz,.slice Ae ne ce]] w (If P w);go_enter Tryz.func77,Tryz.ntmps77;go_upto_region 1 with fail;obtain⟨W,hW,H,HB,HS,ewx⟩:=B_ w (.cells #[cur,y,m,p,.slice Ac n cc,r0,r1,r2,r3,r4,r5,r6,r7,r8,r9,cw,cA,ey,ct,cz,.slice Ae ne ce] 29);rw[hW];clear ewx;clear hW;have HH:=H_ H;clear H;go_wp2_with fail
 go_loopw [3] (λi wr=>∃k:Nat,k<=ne/\i=.int .i64 (k:Int)/\Below W.heap.size W wr/\∀j (hj:j<es.length),j<k->O1 es[j]) (λi _=>ne- (intOf i).toNat)
 case atStart=>exact⟨0,by omega,rfl,Below.refl _ _,λj hj h=>by omega⟩
 case round=>
  obtain⟨k,hk,rfl,hb,hall⟩:=hrel;have HA:=H_ hall;have abn:=hb.size;clear hall;have el:=HB.trans (hb.mono HB.size);have GR:=(hb.block w.heap.size HS).trans HH.o;have d20:=ab GR 20;by_cases aU:k<ne
  case pos=>
   have bq:(k:Int)< (ne:Int):=by omega
   have bI:k<es.length:=by rw[eP.o];exact aU
   obtain⟨b,o,rz,dj,ed,bL,aS⟩:=aj.get HE.o k bI;subst dj;obtain⟨Ec,c2,Al,cl,rfl,_,_⟩:=bL.lit;obtain⟨x,hx⟩:=x_ (es[k]);have yG:=Z9.o _ (List.getElem_mem bI);rw[hx]at aS yG;have HX:=H_ hx;obtain⟨s,cu,ec,ls,jo⟩:=x;obtain⟨hx1,qi⟩:=yG;simp only at hx1 qi;have Bl:=(aS.fr (Fr.ofBelow el)).range;obtain⟨n2,oO⟩:∃n,ec.length=n:=⟨_,rfl⟩;obtain⟨nl,bj⟩:∃n,ls.length=n:=⟨_,rfl⟩;rw[oO,bj]at Bl;have eZ:=H_ Bl;have rN:=H_ oO;have jz:=H_ bj;obtain⟨z1,IU⟩:∃z,s.size=z:=⟨_,rfl⟩;obtain⟨z2,QH⟩:∃z,cu.size=z:=⟨_,rfl⟩;clear bL aS hx Bl oO bj ed GR;go_upto_region 5 with(refine w_ 16 74 15 b (o+k*5) [s,cu,.slice Ec n2 c2,.slice Al nl cl,jo] eZ.o cD Tryz.underlying74 ?_);obtain⟨W6,mC,H6,dK,my,ewx⟩:=B_ wr (.cells #[s,cu,.slice Ec n2 c2,.slice Al nl cl,jo] 74);rw[mC];clear ewx;clear mC;have fi:=el.trans (dK.mono el.size);have f0:=ab H6 0;have f1:=ab H6 1;have f2:=ab H6 2;have f3:=ab H6 3;clear H6 d20;by_cases h1:40<n2
   case pos=>
    have CV:40< (n2:Int):=by omega
    go_wp2_with fail;go_ret;exact If.no fi
   case neg=>
   have CV:¬40< (n2:Int):=by omega
   by_cases h2:60<nl
   case pos=>
    have yX:60< (nl:Int):=by omega
    go_wp2_with fail;go_ret;exact If.no fi
   case neg=>
   have yX:¬60< (nl:Int):=by omega
   by_cases h3:60<s.size+cu.size
   case pos=>
    have zl:60< (s.size:Int)+(cu.size:Int):=by omega
    go_wp2_with fail;go_ret;exact If.no fi
   case neg=>
   have zl:¬60< (s.size:Int)+(cu.size:Int):=by omega
   have gc:=H_ (show O1 ⟨s,cu,ec,ls,jo⟩from⟨by have:=rN.o;simp only;omega,by have:=jz.o;simp only;omega,by simp only;omega,by simp only;omega⟩);go_wp2_with fail;go_roundw
   case rel=>exact⟨k+1,by omega,by go_num,hb.trans (dK.mono abn),λj hj m7=>by
    rcases Nat.lt_or_ge j k with h|h
    ·exact HA.o j hj h
    ·have:j=k:=by omega
     subst this;rw[HX.o];exact gc.o⟩
   case measure=>first|exact aQ aU|(simp only[intOf];omega)
  case neg=>
   have bq:¬(k:Int)< (ne:Int):=by omega
   have d4:=ab GR 4;have d0:=ab GR 0;clear GR;have eY:=H_ (show ∀e∈es,O1 e by
    intro e he;obtain⟨j,hj,rfl⟩:=List.getElem_of_mem he;exact HA.o j hj (by have:=eP.o;omega))
   by_cases h1:n<=60
   case neg=>
    have CV:¬(n:Int)<=60:=by omega
    go_wp2_with fail;go_ret;exact If.no el
   case pos=>
   have CV:(n:Int)<=60:=by omega
   by_cases h2:ne<=14
   case neg=>
    have yX:¬(ne:Int)<=14:=by omega
    go_wp2_with fail;go_ret;exact If.no el
   case pos=>
   have yX:(ne:Int)<=14:=by omega
   by_cases h3:cur.size<=20
   case neg=>
    have zl:¬(cur.size:Int)<=20:=by omega
    go_wp2_with fail;go_ret;exact If.no el
   case pos=>
    have zl:(cur.size:Int)<=20:=by omega
    have HY:=H_ (show P from HP.o ⟨by have:=HN.o;omega,by have:=eP.o;omega,h3,eY.o⟩);go_wp2_with fail;go_ret;exact If.yes HY.o el
end
end Go.Proofs.YtibiddakakgakaaGreat
