/- Groups: the reference's books. Written by gen_b25.py. -/
import Derived.Test.YtibiddakakgakaaGreatQcB17B24
import Derived.DeepKeys4
import Derived.Maps.Keyed
set_option linter.unusedVariables false
set_option linter.unusedSimpArgs false
set_option maxRecDepth 4000
attribute [local go_sem ↓] Go.wp_at_zero Go.wp_at_succ
set_option maxHeartbeats 16000000
namespace Go.Proofs.YtibiddakakgakaaGreat
section
open Go Go.RowKit
theorem xR {cur:ByteArray} {y m p:Int} {Ac Ae:Option Addr} {cc ce n ne:Nat} {ch:List ah} {es:List aV} {r0 r1 r2 r3 r4 r5 r6 r7 r8 r9 cw cA ey ct cz:Int} (hN:ch.length=n) (hE:es.length=ne) {w:World} (hg:aL w (·<w.heap.size) (fT cur y m p Ac ch.length cc r0 r1 r2 r3 r4 r5 r6 r7 r8 r9 cw cA ey ct cz Ae es.length ce) ⟨cur,⟨y,m,p⟩,ch,⟨r0,r1,r2,r3,r4,r5,r6,r7,r8,r9,cw,cA,ey,ct,cz⟩,es⟩) (hn:ch.length<=1000) (code:Int) (hc:am code):Calls Tryz.prog 120 #[.agg (fT cur y m p Ac n cc r0 r1 r2 r3 r4 r5 r6 r7 r8 r9 cw cA ey ct cz Ae ne ce).toArray,code] w (ap w (cF ch code)):=by
 subst hN hE;exact pZ _ _ _ _ hg hc hn
theorem L7 {ch:List ah} {L:List dp} {k:Nat} {q:dp} {a:ah} (hk:L[k]? =some q) (h:aK ch q.code=some a) (h1:a.kind=q.kind) (h2:a.basis=q.basis) (hd:∀j (hj:j<L.length),j<k->L[j].code≠q.code):fz ch L k=true:=by
 rw[od hk h,h1,h2];have:((L.take k).any λp=>p.code==q.code)=false:=by
  rw[List.any_eq_false];intro x hx;rw[List.mem_take_iff_getElem]at hx;obtain⟨j,hj,rfl⟩:=hx;simpa using hd j (by omega) (by omega)
 rw[this];simp
theorem L8 {ch:List ah} {L:List dp} {k j:Nat} {q:dp} {a:ah} (hk:L[k]? =some q) (h:aK ch q.code=some a) (hj:j<k) (hl:j<L.length) (he:L[j].code=q.code):fz ch L k=false:=by
 rw[od hk h];have:((L.take k).any λp=>p.code==q.code)=true:=by
  rw[List.any_eq_true];exact⟨L[j],by rw[List.mem_take_iff_getElem];exact⟨j,by omega,rfl⟩,by simpa using he⟩
 rw[this];simp
theorem PO (g:au) (cs:List Value) (w:World) (hg:aL w (·<w.heap.size) cs g) (hn:g.chart.length<=1000) (ft:g.currency.size<=1000):Calls Tryz.prog 165 #[.agg cs.toArray] w (ap w (.bool (cQ g.currency&&du g.calendar.year g.calendar.month g.calendar.periods&&bR g.chart g.roles))):=by
 have FP:=H_ hg;obtain⟨Ac,cc,Ae,ce,rfl,ee,iu,eu,mD⟩:=hg.lit;clear hg;obtain⟨cur,⟨y,m,p⟩,ch,⟨r0,r1,r2,r3,r4,r5,r6,r7,r8,r9,cw,cA,ey,ct,cz⟩,es⟩:=g;simp only at ft ee iu mD eu hn |-;obtain⟨r,hr⟩:=x_ ((cQ cur&&du y m p&&bR ch ⟨r0,r1,r2,r3,r4,r5,r6,r7,r8,r9,cw,cA,ey,ct,cz⟩));rw[hr];have HR:=H_ hr;have rC:=H_ hn;clear hr;obtain⟨L,hL⟩:=x_ (jM r0 r1 r2 r3 r4 r5 r6 r7 r8 r9 cw cA ey ct cz);have CI:L.length=15:=by rw[<-hL];rfl
 have tU:=H_ hL;have Bw:=H_ CI;obtain⟨n,bj⟩:=x_ (ch.length);obtain⟨ne,bT⟩:=x_ (es.length);have HL:=H_ ee;have HN:=H_ bj;have HE:=H_ iu;have eP:=H_ bT;rw[bj,bT];rw[bj]at hn;clear hL CI ee iu bj bT eu;have zb:∀q∈L,am q.code:=by
  rw[<-tU.o];obtain⟨b0,b1,b2,b3,b4,b5,b6,b7,b8,b9,b10,b11,b12,b13,b14⟩:=mD;intro q hq;simp only[jM,List.mem_cons,List.not_mem_nil,or_false]at hq;rcases hq with rfl|rfl|rfl|rfl|rfl|rfl|rfl|rfl|rfl|rfl|rfl|rfl|rfl|rfl|rfl<;>assumption
 have Ki:=H_ zb;clear zb mD;show Calls Tryz.prog 165 #[.agg #[cur,y,m,p,.slice Ac n cc,r0,r1,r2,r3,r4,r5,r6,r7,r8,r9,cw,cA,ey,ct,cz,.slice Ae ne ce]] w (ap w (.bool r));go_enter Tryz.func165,Tryz.ntmps165;go_upto_region 1 with fail;obtain⟨W,hW,H,HB,HS,ewx⟩:=B_ w (.cells #[cur,y,m,p,.slice Ac n cc,r0,r1,r2,r3,r4,r5,r6,r7,r8,r9,cw,cA,ey,ct,cz,.slice Ae ne ce] 29);rw[hW];clear ewx;clear hW;have d0:=ab H 0;have tw:=H_ (dO (cs:=fT cur y m p Ac n cc r0 r1 r2 r3 r4 r5 r6 r7 r8 r9 cw cA ey ct cz Ae ne ce) H);have yM:=H_ ((dO (cs:=[.string cur,.int .i64 y,.int .i64 m,.int .i64 p,.slice Ac n cc]++([.int .i64 r0,.int .i64 r1,.int .i64 r2,.int .i64 r3,.int .i64 r4,.int .i64 r5,.int .i64 r6,.int .i64 r7,.int .i64 r8,.int .i64 r9,.int .i64 cw,.int .i64 cA,.int .i64 ey,.int .i64 ct,.int .i64 cz]++[.slice Ae ne ce])) H).split.2.split.1);have rL:=H_ H;clear H;go_wp2_with fail;refine(th cur W ft).mono ?_;rintro e w2 ⟨rfl,aH⟩;have dA:=HB.trans (aH.mono HB.size);have dW:=aH.size;cases hc:cQ cur with
 |false=>
  have hf:=H_ (show r=false by rw[<-HR.o,hc];rfl);clear hc;go_wp2_with fail;go_ret;exact⟨hf.o.symm▸rfl,dA⟩
 |true=>
 have jG:=H_ hc;have G2:=(aH.block _ HS).trans rL.o;have e1:=ab G2 1;have e2:=ab G2 2;have e3:=ab G2 3;clear hc d0;go_wp2_with fail;refine(lz y m p w2).mono ?_;rintro e w3 ⟨rfl,aZ⟩;have Vs:=dA.trans (aZ.mono dA.size);have lE:=aZ.size;cases hc:du y m p with
 |false=>
  have hf:=H_ (show r=false by rw[<-HR.o,hc,Bool.and_false];rfl);clear hc;go_wp2_with fail;go_ret;exact⟨hf.o.symm▸rfl,Vs⟩
 |true=>
 have jv:=H_ hc;have G3:=(aZ.block _ (by omega)).trans G2;have e4:=ab G3 4;clear hc e1 e2 e3 G2;go_wp2_with fail;have aM:=pv ch Ac cc true w3 (az HL.o Vs) (by rw[HN.o];exact hn);rw[HN.o,<-vR]at aM;refine aM.mono ?_;clear aM;rintro e w4 ⟨rfl,bU⟩;have jE:=Vs.trans (bU.mono Vs.size);have yJ:=bU.size;cases hc:ej ch true with
 |false=>
  have hf:=H_ (show r=false by rw[<-HR.o];unfold bR;rw[hc];simp);clear hc;go_wp2_with fail;go_ret;exact⟨hf.o.symm▸rfl,jE⟩
 |true=>
 have kB:=H_ hc;have iX:=H_ ((bU.block _ (by omega)).trans G3);have zn:=H_ (aH.trans ((aZ.mono dW).trans (bU.mono (by omega))));clear hc e4 G3;go_wp2_with fail
 go_loopw [3] (λi wr=>∃k:Nat,k<=n/\i=.int .i64 (k:Int)/\Below w4.heap.size w4 wr/\∀j (hj:j<ch.length),j<k->cn ch[j]=true) (λi _=>n- (intOf i).toNat)
 case atStart=>exact⟨0,by omega,rfl,Below.refl _ _,λj hj h=>by omega⟩
 case round=>
  obtain⟨k,hk,rfl,hb,hall⟩:=hrel;have HA:=H_ hall;clear hall;have bP:=hb.size;have Fh:=jE.trans (hb.mono jE.size);have GR:=(hb.block w.heap.size (by omega)).trans iX.o;have e4:=ab GR 4;by_cases aU:k<n
  case pos=>
   have bq:(k:Int)< (n:Int):=by omega
   have bI:k<ch.length:=by rw[HN.o];exact aU
   clear GR;obtain⟨b,o,rz,dj,ed,bL,aS⟩:=aj.get HL.o k bI;subst dj;obtain⟨bE,eL,hb2',acW,ad1⟩:=ar.lit bL;rw[bE]at aS;obtain⟨ac,ni⟩:=x_ (ch[k]);rw[ni]at aS;have nH:=H_ ni;have eZ:=H_ ((aS.fr (Fr.ofBelow Fh)).range);clear bL bE aS ni eL hb2' acW ad1;go_wp2_with (refine w_ 36 78 35 b (o+k*4) (bn ac) eZ.o (cG _) Tryz.underlying78 ?_);refine(PN ac wr).mono ?_;rintro e w5 ⟨rfl,cP⟩;cases hp:cn ac with
   |false=>
    have hf:=H_ (show r=false by
     rw[<-HR.o];unfold bR;rw[List.all_eq_false.2 ⟨ac,by rw[<-nH.o];exact List.getElem_mem bI,by rw[hp];decide⟩];simp)
    clear hp;go_wp2_with fail;go_ret;exact⟨hf.o.symm▸rfl,Fh.trans (cP.mono Fh.size)⟩
   |true=>
    have HP:=H_ hp;clear hp;go_wp2_with fail;go_roundw
    case rel=>exact⟨k+1,by omega,by go_num,hb.trans (cP.mono hb.size),λj hj m7=>by
     rcases Nat.lt_or_ge j k with h|h
     ·exact HA.o j hj h
     ·have:j=k:=by omega
      subst this;rw[nH.o];exact HP.o⟩
    case measure=>first|exact aQ aU|(simp only[intOf];omega)
  case neg=>
   have bq:¬(k:Int)< (n:Int):=by omega
   have HD:=H_ (show ch.all cn=true by
    rw[List.all_eq_true];intro x hx;obtain⟨j,hj,rfl⟩:=List.getElem_of_mem hx;exact HA.o j hj (by have:=HN.o;omega))
   have sU:=H_ (((yM.o.fr (Fr.ofBelow zn.o)).fr ((Fr.ofBelow hb).mono (λk (hk:k<W.heap.size)=>by have:=zn.o.size;omega))).range);have HGW:=H_ GR;clear GR;go_wp2_with (refine w_ 40 26 39 w.heap.size 5 [r0,r1,r2,r3,r4,r5,r6,r7,r8,r9,cw,cA,ey,ct,cz] sU.o kI Tryz.underlying26 ?_);refine(EG r0 r1 r2 r3 r4 r5 r6 r7 r8 r9 cw cA ey ct cz wr).mono ?_;rintro e w5 ⟨v,rfl,⟨A,c,rfl⟩,Ge,cP⟩;rw[tU.o]at Ge;have FB:=H_ (show aj vH 5 w5 (λk=>wr.heap.size<=k/\k<w5.heap.size) [.slice A L.length c] L by rw[Bw.o];exact Ge);have QU:=cP.size;have nA:=H_ (Fh.trans (cP.mono Fh.size));have YG:=H_ ((cP.block _ (by omega)).trans HGW.o);have rH:=H_ ((((tw.o.fr (Fr.ofBelow zn.o)).fr ((Fr.ofBelow hb).mono (λk (hk:k<W.heap.size)=>by have:=zn.o.size;omega))).fr ((Fr.ofBelow cP).mono (λk (hk:k<W.heap.size)=>by have:=zn.o.size;omega))).mono (Q':=(·<w5.heap.size)) (λk (hk:k<W.heap.size)=>by have:=zn.o.size;omega));clear Ge e4;go_wp2_with fail
   go_loopw [5] (λi wr=>∃k:Nat,k<=15/\i=.int .i64 (k:Int)/\Below w5.heap.size w5 wr/\∀j,j<k->fz ch L j=true) (λi _=>15- (intOf i).toNat)
   case atStart=>exact⟨0,by omega,rfl,Below.refl _ _,λj hj=>by omega⟩
   case round=>
    rename_i K1 K2 K3 K4 K5 K6;obtain⟨k,hk,rfl,hb,hall⟩:=hrel;have HA:=H_ hall;clear hall;have bP:=hb.size;have go:=t_ nA hb;by_cases aU:k<15
    case pos=>
     have bq:(k:Int)<15:=by omega
     have bI:k<L.length:=by rw[Bw.o];exact aU
     obtain⟨b,o,dj,ed,kZ⟩:=aj.base FB.o (by omega);subst dj;obtain⟨rz,bL,aS⟩:=kZ k bI;have tM:=H_ kZ;obtain⟨q,hq⟩:=x_ (L[k]);have zO:=Ki.o _ (List.getElem_mem bI);rw[hq]at bL zO;have HQ:=H_ (show L[k]? =some q by rw[List.getElem?_eq_getElem bI,hq]);have zT:=H_ hq;obtain⟨qn,qc,qk,qb,qm⟩:=q;have M3:=H_ zO;obtain⟨abQ,aa7⟩:=zO;have bE:rz=[.string qn,.int .i64 qc,.int .i64 qk,.int .i64 qb,.bool qm]:=bL;subst bE;have dt:=aS.fr ((Fr.ofBelow hb).mono (λk hk=>hk.2));have KC:=H_ (dt.c (j:=1) rfl);have K2:=H_ (dt.c (j:=2) rfl);have K3:=H_ (dt.c (j:=3) rfl);have lU:=H_ (show b<wr.heap.size by have:=ed.2;omega);have Dh:=H_ ((rH.o.fr (Fr.ofBelow hb)).mono (Q':=(·<wr.heap.size)) (λk (hk:k<w5.heap.size)=>by omega));clear bL aS dt hq kZ;cases ha:aK ch qc with
     |none=>
      have HFV:=H_ (show cF ch qc=.tuple #[.agg #[(),(),(),()],false]from fJ ha);have hf:=H_ (show r=false by rw[<-HR.o,gM (r:=⟨r0,r1,r2,r3,r4,r5,r6,r7,r8,r9,cw,cA,ey,ct,cz⟩) (L:=L) tU.o bI (EO HQ.o ha),Bool.and_false]);clear ha;go_upto_region 12 with fail;refine cV 11 (λi=>i==9) (Ks wr [.val (.agg (fT cur y m p Ac n cc r0 r1 r2 r3 r4 r5 r6 r7 r8 r9 cw cA ey ct cz Ae ne ce).toArray),.val (.slice (some ⟨b,o,none⟩) 15 c),(k:Int),.val (.pointer (some ⟨b,o+k*5,none⟩)),.val (.pointer (some ⟨b,o+k*5+1,none⟩)),qc,.val (.tuple #[.agg #[(),(),(),()],false]),.val (.tuple #[.agg #[(),(),(),()],false]),.val (.agg #[(),(),(),()]),false,.own (cM wr #[.int .i64 0,.int .i64 0,.int .i64 0,.int .i64 0] 78) (cM.keep _ _ _)])
       (λw'=>Below wr.heap.size wr w') (Ks wr [.val (.agg (fT cur y m p Ac n cc r0 r1 r2 r3 r4 r5 r6 r7 r8 r9 cw cA ey ct cz Ae ne ce).toArray),.val (.slice (some ⟨b,o,none⟩) 15 c),(k:Int),.val (.pointer (some ⟨b,o+k*5,none⟩)),.val (.pointer (some ⟨b,o+k*5+1,none⟩)),qc,.val (.tuple #[.agg #[(),(),(),()],false]),.val (.tuple #[.agg #[(),(),(),()],false]),.val (.agg #[(),(),(),()]),false,.own (cM wr #[.int .i64 0,.int .i64 0,.int .i64 0,.int .i64 0] 78) (cM.keep _ _ _)])
       (λw'=>Below wr.heap.size wr w') K_ K_ K_ (by decide) K_ K_ K_ K_ rfl K_ _ rfl rfl (Below.refl _ _).drew ?_ ?_ ?_ ?_
      ·refine⟨?_,b_ (q_ 4),b_ (q_ 5),c_ (p_ 1 50) (p_ 2 51),b_ (p_ 3 52),e_ (p_ 4 53) λ_ h=>l_ h lU.o KC.o,?_,b_ (p_ 6 55),b_ (p_ 7 48),b_ (p_ 7 48),?_,trivial⟩
       ·refine O1_ (q_ 1) λA0 w2 K e0 hS hK=>?_;have aJ:w2.rangeAt w.heap.size 0 (fT cur y m p Ac n cc r0 r1 r2 r3 r4 r5 r6 r7 r8 r9 cw cA ey ct cz Ae ne ce):=(Dh.o.fr (Fr.ofBelow hS)).range;have aI:(Tryz.prog.info? 29).map (·.size)=some (fT cur y m p Ac n cc r0 r1 r2 r3 r4 r5 r6 r7 r8 r9 cw cA ey ct cz Ae ne ce).length:=ay;refine wp_load_mid 29 (.tmp 1) rfl _ _ (v_ e0) _ _ aJ Tryz.underlying29 rfl aI ?_;exact kq hK hS rfl
       ·refine O2_ (p_ 0 49) (p_ 5 54) λA0 w2 K e0 e1 hS hK=>?_;go_simp
        go_at_call 120
        refine(xR HN.o eP.o (aL.keep FP.o (go.o.trans (hS.mono go.o.size))) rC.o qc M3.o).mono ?_;rintro e w3 ⟨rfl,h3⟩;exact hK.out _ _ (hS.trans (h3.mono hS.size)) (Ks.of rfl HFV.o) (Ks.keep h3)
       ·refine O0_ λA0 w2 K hS hK=>?_;go_simp;exact hK.out _ _ (hS.alloc hS.size _) (Ks.of rfl (cM.made hS.size _ _)) (Ks.keep (ai w2 _))
      ·intro _ A0 w2 hI hall K hK;obtain⟨xp,gp,hp⟩:=hI.got 10 _ 6 rfl rfl (hall 10 (by decide) rfl);obtain⟨xv,gv,hv⟩:=hI.got 8 _ 56 rfl rfl (hall 8 (by decide) rfl);obtain⟨g,rfl,jy,hg2⟩:=hp _ rfl;obtain rfl:xv=.agg #[(),(),(),()]:=hv _ rfl;have hS:=hI.world;refine aa rfl ?_;refine wp_store_row 78 (.tmp 6) (.tmp 56) rfl g #[(),(),(),()] (by simp[Act.eval,Array.getD_eq_getD_getElem?,gp]) (by simp[Act.eval,Array.getD_eq_getD_getElem?,gv]) 78 #[(),(),(),()] hg2 (bX ⟨0,0,0,0⟩) rfl (by simp[Value.oneCell']) ?_;refine hK _ (aD hS jy _) ?_;intro i o d u hi ho hd hu hV;refine Ks.store (p:=10) (kn:=_) rfl hV (λDl=>?_);subst Dl;obtain rfl:_=o:=Option.some.inj ho;obtain rfl:_=d:=Option.some.inj hd;obtain rfl:_=u:=Option.some.inj (gp.symm.trans hu);exact⟨g,rfl,jy,aB hg2 _⟩
      ·refine⟨o_,o_,o_,o_,o_,o_,o_,o_,o_,?_,o_,o_,trivial⟩
       ·intro _;intro _ A0 w2 hI hd hnd K hK;have e0:=hI.p hd 7 48;exact hI.z hK
      ·intro A0 w2 hI;have hS:=hI.world;have c9:=hI.cg [(0,49),(1,50),(2,51),(3,52),(4,53),(5,54),(6,55),(7,48),(8,56),(9,57),(10,6)] [7] j_;obtain⟨x0,x1,x2,x3,x4,x5,x6,x7,x8,x9,dN,y7,hA,hV⟩:=c9;obtain rfl:x8=.agg #[(),(),(),()]:=hV 8 _ _ _ rfl rfl _ rfl;obtain rfl:x9=.bool false:=hV 9 _ _ _ rfl rfl _ rfl;obtain⟨g,rfl,jy,hg2⟩:=hV 10 _ _ _ rfl rfl _ rfl;clear hV hI;simp only[ba,List.foldl,List.setIfInBounds_toArray,List.set_cons_zero,List.set_cons_succ]at hA;rw[hA];clear hA;simp only[List.drop_succ_cons,List.drop_zero];have Dg:=H_ hg2;have nA:=hS;have My:=hS.size;go_upto_region 13 with fail;have g1:=ab Dg.o 1;have g2:=ab Dg.o 2;have f2:=(nA.cell (p:=⟨b,o+k*5+2,none⟩) lU.o).trans K2.o;have f3:=(nA.cell (p:=⟨b,o+k*5+3,none⟩) lU.o).trans K3.o;have hw5:=go.o.trans (nA.mono go.o.size);clear hg2;go_wp2_with fail;go_quiet (fail);go_wp2_with fail;go_ret;exact⟨hf.o.symm▸rfl,((Fr.ofBelow hw5).drewN _).below⟩
     |some pa=>
      have gc:=H_ ha;have Ya:=eD ha;clear ha;obtain⟨p1,p2,p3,p4⟩:=pa;have HFV:=H_ (show cF ch qc=.tuple #[.agg #[p1,p2,p3,p4],true]from Ya);clear Ya;go_upto_region 12 with fail;refine cV 11 (λi=>i==9) (Ks wr [.val (.agg (fT cur y m p Ac n cc r0 r1 r2 r3 r4 r5 r6 r7 r8 r9 cw cA ey ct cz Ae ne ce).toArray),.val (.slice (some ⟨b,o,none⟩) 15 c),(k:Int),.val (.pointer (some ⟨b,o+k*5,none⟩)),.val (.pointer (some ⟨b,o+k*5+1,none⟩)),qc,.val (.tuple #[.agg #[p1,p2,p3,p4],true]),.val (.tuple #[.agg #[p1,p2,p3,p4],true]),.val (.agg #[p1,p2,p3,p4]),true,.own (cM wr #[.int .i64 0,.int .i64 0,.int .i64 0,.int .i64 0] 78) (cM.keep _ _ _)])
       (λw'=>Below wr.heap.size wr w') (Ks wr [.val (.agg (fT cur y m p Ac n cc r0 r1 r2 r3 r4 r5 r6 r7 r8 r9 cw cA ey ct cz Ae ne ce).toArray),.val (.slice (some ⟨b,o,none⟩) 15 c),(k:Int),.val (.pointer (some ⟨b,o+k*5,none⟩)),.val (.pointer (some ⟨b,o+k*5+1,none⟩)),qc,.val (.tuple #[.agg #[p1,p2,p3,p4],true]),.val (.tuple #[.agg #[p1,p2,p3,p4],true]),.val (.agg #[p1,p2,p3,p4]),true,.own (cM wr #[.int .i64 p1,.int .i64 p2,.int .i64 p3,.int .i64 p4] 78) (cM.keep _ _ _)])
       (λw'=>Below wr.heap.size wr w') K_ K_ K_ (by decide) K_ K_ K_ K_ rfl K_ _ rfl rfl (Below.refl _ _).drew ?_ ?_ ?_ ?_
      ·refine⟨?_,b_ (q_ 4),b_ (q_ 5),c_ (p_ 1 50) (p_ 2 51),b_ (p_ 3 52),e_ (p_ 4 53) λ_ h=>l_ h lU.o KC.o,?_,b_ (p_ 6 55),b_ (p_ 7 48),b_ (p_ 7 48),?_,trivial⟩
       ·refine O1_ (q_ 1) λA0 w2 K e0 hS hK=>?_;have aJ:w2.rangeAt w.heap.size 0 (fT cur y m p Ac n cc r0 r1 r2 r3 r4 r5 r6 r7 r8 r9 cw cA ey ct cz Ae ne ce):=(Dh.o.fr (Fr.ofBelow hS)).range;have aI:(Tryz.prog.info? 29).map (·.size)=some (fT cur y m p Ac n cc r0 r1 r2 r3 r4 r5 r6 r7 r8 r9 cw cA ey ct cz Ae ne ce).length:=ay;refine wp_load_mid 29 (.tmp 1) rfl _ _ (v_ e0) _ _ aJ Tryz.underlying29 rfl aI ?_;exact kq hK hS rfl
       ·refine O2_ (p_ 0 49) (p_ 5 54) λA0 w2 K e0 e1 hS hK=>?_;go_simp
        go_at_call 120
        refine(xR HN.o eP.o (aL.keep FP.o (go.o.trans (hS.mono go.o.size))) rC.o qc M3.o).mono ?_;rintro e w3 ⟨rfl,h3⟩;exact hK.out _ _ (hS.trans (h3.mono hS.size)) (Ks.of rfl HFV.o) (Ks.keep h3)
       ·refine O0_ λA0 w2 K hS hK=>?_;go_simp;exact hK.out _ _ (hS.alloc hS.size _) (Ks.of rfl (cM.made hS.size _ _)) (Ks.keep (ai w2 _))
      ·intro _ A0 w2 hI hall K hK;obtain⟨xp,gp,hp⟩:=hI.got 10 _ 6 rfl rfl (hall 10 (by decide) rfl);obtain⟨xv,gv,hv⟩:=hI.got 8 _ 56 rfl rfl (hall 8 (by decide) rfl);obtain⟨g,rfl,jy,hg2⟩:=hp _ rfl;obtain rfl:xv=.agg #[p1,p2,p3,p4]:=hv _ rfl;have hS:=hI.world;refine aa rfl ?_;refine wp_store_row 78 (.tmp 6) (.tmp 56) rfl g #[p1,p2,p3,p4] (by simp[Act.eval,Array.getD_eq_getD_getElem?,gp]) (by simp[Act.eval,Array.getD_eq_getD_getElem?,gv]) 78 #[(),(),(),()] hg2 (bX ⟨p1,p2,p3,p4⟩) rfl (by simp[Value.oneCell']) ?_;refine hK _ (aD hS jy _) ?_;intro i o d u hi ho hd hu hV;refine Ks.store (p:=10) (kn:=_) rfl hV (λDl=>?_);subst Dl;obtain rfl:_=o:=Option.some.inj ho;obtain rfl:_=d:=Option.some.inj hd;obtain rfl:_=u:=Option.some.inj (gp.symm.trans hu);exact⟨g,rfl,jy,aB hg2 _⟩
      ·refine⟨o_,o_,o_,o_,o_,o_,o_,o_,o_,?_,o_,o_,trivial⟩
       ·intro _;intro _ A0 w2 hI hd hnd K hK;have e0:=hI.p hd 7 48;exact hI.z hK
      ·intro A0 w2 hI;have hS:=hI.world;have c9:=hI.cg [(0,49),(1,50),(2,51),(3,52),(4,53),(5,54),(6,55),(7,48),(8,56),(9,57),(10,6)] [7] j_;obtain⟨x0,x1,x2,x3,x4,x5,x6,x7,x8,x9,dN,y7,hA,hV⟩:=c9;obtain rfl:x8=.agg #[p1,p2,p3,p4]:=hV 8 _ _ _ rfl rfl _ rfl;obtain rfl:x9=.bool true:=hV 9 _ _ _ rfl rfl _ rfl;obtain⟨g,rfl,jy,hg2⟩:=hV 10 _ _ _ rfl rfl _ rfl;clear hV hI;simp only[ba,List.foldl,List.setIfInBounds_toArray,List.set_cons_zero,List.set_cons_succ]at hA;rw[hA];clear hA;simp only[List.drop_succ_cons,List.drop_zero];have Dg:=H_ hg2;have nA:=hS;have My:=hS.size;go_upto_region 13 with fail;have g1:=ab Dg.o 1;have g2:=ab Dg.o 2;have f2:=(nA.cell (p:=⟨b,o+k*5+2,none⟩) lU.o).trans K2.o;have f3:=(nA.cell (p:=⟨b,o+k*5+3,none⟩) lU.o).trans K3.o;have hw5:=go.o.trans (nA.mono go.o.size);clear hg2;by_cases h1:p2=qk
       case neg=>
        have h1':(p2 !=qk)=true:=by simpa using h1
        have hf:=H_ (show r=false by rw[<-HR.o,gM (r:=⟨r0,r1,r2,r3,r4,r5,r6,r7,r8,r9,cw,cA,ey,ct,cz⟩) (L:=L) tU.o bI (by rw[od HQ.o gc.o,show(p2==qk)=false from by simpa using h1];rfl),Bool.and_false]);go_wp2_with fail;go_quiet (fail);go_wp2_with fail;go_ret;exact⟨hf.o.symm▸rfl,((Fr.ofBelow hw5).drewN _).below⟩
       case pos=>
       have h1':(p2 !=qk)=false:=by simpa using h1
       by_cases h2:p3=qb
       case neg=>
        have h2':(p3 !=qb)=true:=by simpa using h2
        have hf:=H_ (show r=false by rw[<-HR.o,gM (r:=⟨r0,r1,r2,r3,r4,r5,r6,r7,r8,r9,cw,cA,ey,ct,cz⟩) (L:=L) tU.o bI (by rw[od HQ.o gc.o,show(p3==qb)=false from by simpa using h2,Bool.and_false];rfl),Bool.and_false]);go_wp2_with fail;go_quiet (fail);go_wp2_with fail;go_ret;exact⟨hf.o.symm▸rfl,((Fr.ofBelow hw5).drewN _).below⟩
       case pos=>
       have h2':(p3 !=qb)=false:=by simpa using h2
       go_wp2_with fail;go_quiet (fail);generalize mC:w2.drewN _=W6;have dK:=H_ (show Below wr.heap.size wr W6 from mC▸((Fr.ofBelow nA).drewN _).below);clear mC;have abD:=dK.o.size;go_wp2_with fail
       go_loopw [8] (λi wi=>∃j:Nat,j<=k/\i=.int .i64 (j:Int)/\Below W6.heap.size W6 wi/\∀j' (hj:j'<L.length),j'<j->L[j'].code≠qc) (λi _=>k- (intOf i).toNat)
       case atStart=>exact⟨0,by omega,rfl,Below.refl _ _,λj hj h=>by omega⟩
       case round=>
        obtain⟨j,hj,rfl,hbi,sT⟩:=hrel;have Qy:=H_ sT;clear sT;have hsi:=hbi.size;have Bn:=H_ (dK.o.trans (hbi.mono abD));by_cases m7:j<k
        case pos=>
         have Nm:(j:Int)< (k:Int):=by omega
         have aeZ:(j:Int)<15:=by omega
         have vn:j<L.length:=by rw[Bw.o];omega
         obtain⟨MJ,iy,dt⟩:=tM.o j vn;obtain⟨q2,lc⟩:=x_ (L[j]);rw[lc]at iy;have HQ2:=H_ lc;obtain⟨jn,jc,jk,jb,jm⟩:=q2;have qp:MJ=[.string jn,.int .i64 jc,.int .i64 jk,.int .i64 jb,.bool jm]:=iy;subst qp;have c1:=(dt.fr ((Fr.ofBelow (hb.trans (Bn.o.mono bP))).mono (λk hk=>hk.2))).c (j:=1) rfl;have c2:=(Bn.o.cell (p:=⟨b,o+k*5+1,none⟩) lU.o).trans KC.o;clear iy dt lc;by_cases he:jc=qc
         case pos=>
          have he':(jc==qc)=true:=by simpa using he
          have hf:=H_ (show r=false by rw[<-HR.o,gM (r:=⟨r0,r1,r2,r3,r4,r5,r6,r7,r8,r9,cw,cA,ey,ct,cz⟩) (L:=L) tU.o bI (L8 HQ.o gc.o m7 vn (by rw[HQ2.o];exact he)),Bool.and_false]);clear he;go_wp2_with fail;go_quiet (fail);go_wp2_with fail;go_ret;exact⟨hf.o.symm▸rfl,((Fr.ofBelow (go.o.trans (Bn.o.mono go.o.size))).drewN _).below⟩
         case neg=>
          have he':(jc==qc)=false:=by simpa using he
          have Oj:=H_ he;clear he;go_wp2_with fail;go_quiet (fail);go_wp2_with fail;go_roundw
          case rel=>exact⟨j+1,by omega,by go_num,((Fr.ofBelow hbi).drewN _).below,λj' hj' hjj=>by
           rcases Nat.lt_or_ge j' j with h|h
           ·exact Qy.o j' hj' h
           ·have:j'=j:=by omega
            subst this;rw[HQ2.o];exact Oj.o⟩
          case measure=>first|exact aQ m7|(simp only[intOf];omega)
        case neg=>
         have Nm:¬(j:Int)< (k:Int):=by omega
         have afi:j=k:=by omega
         have R5:=H_ (show fz ch L k=true from L7 HQ.o gc.o h1 h2 (λj' hj' ad8=>Qy.o j' hj' (by omega)));go_wp2_with fail;go_roundw
         case rel=>exact⟨k+1,by omega,by go_num,hb.trans (Bn.o.mono bP),λi hi=>by
          rcases Nat.lt_or_ge i k with h|h
          ·exact HA.o i h
          ·have:i=k:=by omega
           subst this;exact R5.o⟩
         case measure=>first|exact aQ aU|(simp only[intOf];omega)
    case neg=>
     have bq:¬(k:Int)<15:=by omega
     have hf:=H_ (show r=true by rw[<-HR.o,jG.o,jv.o,I0 (r:=⟨r0,r1,r2,r3,r4,r5,r6,r7,r8,r9,cw,cA,ey,ct,cz⟩) (L:=L) tU.o kB.o HD.o (λj hj=>HA.o j (by have:=Bw.o;omega))];rfl);go_wp2_with fail;go_ret;exact⟨hf.o.symm▸rfl,go.o⟩
end
section
open Go Go.RowKit
open Go.Maps (Keyed)
theorem BR {l:List ah} {A:Option Addr} {c n:Nat} {w:World} (hN:l.length=n) (hl:aj ar 4 w (·<w.heap.size) [.slice A l.length c] l) (hn:l.length<=1000) (code:Int) (hc:am code) {o:ah} {s:Bool} (ho:gH (aK l code)=o) (hs:(aK l code).isSome=s):Calls Tryz.prog 94 #[.slice A n c,code] w (ap w (.tuple #[.agg (bn o).toArray,s])):=by
 subst hN ho hs;exact mL l A c code w hl hc hn
theorem ve {l:List ah} {A:Option Addr} {c n:Nat} {w:World} (hN:l.length=n) (hl:aj ar 4 w (·<w.heap.size) [.slice A l.length c] l) (hn:l.length<=1000) (code:Int) (hc:am code) {o:ah} {s:Bool} (ho:gH (aK l code)=o) (hs:(aK l code).isSome=s):Calls Tryz.prog 34 #[.slice A n c,code] w (ap w (.tuple #[.agg (bn o).toArray,s])):=by
 subst hN ho hs;exact mU l A c code w hl hc hn
theorem JO {l:List ah} {A:Option Addr} {c n:Nat} {w:World} (hN:l.length=n) (hl:aj ar 4 w (·<w.heap.size) [.slice A l.length c] l) (hn:l.length<=1000) (g:Bool):Calls Tryz.prog 179 #[.slice A n c,g] w (ap w (.bool (ej l g))):=by
 subst hN;exact qQ l A c g w hl hn
theorem EU {l:List ah} {A:Option Addr} {c n:Nat} {w:World} (hN:l.length=n) (hl:aj ar 4 w (·<w.heap.size) [.slice A l.length c] l) (hn:l.length<=1000) (g:Bool):Calls Tryz.prog 199 #[.slice A n c,g] w (ap w (.bool (ej l g))):=by
 subst hN;rw[vR];exact pv l A c g w hl hn
theorem Em {ec ch:List ah} {l:bu} {o1 o2:ah} {s1 s2:Bool} (h1:gH (aK ec l.from_)=o1) (h2:(aK ec l.from_).isSome=s1) (h3:gH (aK ch l.to_)=o2) (h4:(aK ch l.to_).isSome=s2):n0 ec ch l=(s1&&(s2&&(o1.kind==o2.kind&&decide (inD l.since)))):=by
 unfold n0;subst h1 h2 h3 h4;cases aK ec l.from_ with
 |none=>rfl
 |some a=>cases aK ch l.to_ with
  |none=>rfl
  |some b=>rfl
theorem kK {ec ch:List ah} {ls:List bu} {k:Nat} {l:bu} (h:ls[k]? =some l):gF ec ch ls k=(n0 ec ch l&&!((ls.take k).any λk=>k.from_==l.from_&&k.since==l.since)):=by unfold gF;rw[h]
theorem ZC (s cu:ByteArray) (Ac Al Ah:Option Addr) (n m cc nl cl hc:Nat) (jo:Bool) (ec ch:List ah) (l:bu) (w:World) (hN:ec.length=n) (hM:ch.length=m) (sN:aj ar 4 w (·<w.heap.size) [.slice Ac ec.length cc] ec) (ee:aj ar 4 w (·<w.heap.size) [.slice Ah ch.length hc] ch) (hl:mM l) (hn:ec.length<=1000) (hm:ch.length<=1000):
 Calls Tryz.prog 214 #[.agg (lH s cu Ac n cc Al nl cl jo).toArray,.slice Ah m hc,.agg (eI l).toArray] w (ap w (.bool (n0 ec ch l))):=by
 obtain⟨r,hr⟩:=x_ (n0 ec ch l);rw[hr];obtain⟨o1,Mt⟩:∃o,gH (aK ec l.from_)=o:=⟨_,rfl⟩;obtain⟨s1,tC⟩:∃s,(aK ec l.from_).isSome=s:=⟨_,rfl⟩;obtain⟨o2,CC⟩:∃o,gH (aK ch l.to_)=o:=⟨_,rfl⟩;obtain⟨s2,dW⟩:∃s,(aK ch l.to_).isSome=s:=⟨_,rfl⟩;have HR:=H_ (hr.symm.trans (Em Mt tC CC dW));obtain⟨l1,l2,l3⟩:=l;obtain⟨b1,b2,b3⟩:=hl;simp only at b1 b2 b3 Mt tC CC dW;have kU:=H_ (λ(w2:World) (hb:Below w.heap.size w w2)=>BR hN (az sN hb) hn l1 b1 Mt tC);have kV:=H_ (λ(w2:World) (hb:Below w.heap.size w w2)=>BR hM (az ee hb) hm l2 b2 CC dW);clear hr Mt tC CC dW sN ee hN hM hn hm b1 b2;show Calls Tryz.prog 214 #[.agg #[s,cu,.slice Ac n cc,.slice Al nl cl,jo],.slice Ah m hc,.agg #[l1,l2,l3]] w (ap w (.bool r));go_enter Tryz.func214,Tryz.ntmps214;go_upto_region 1 with fail;obtain⟨W,hW,H,HB,HS,ewx⟩:=B_ w (.cells #[s,cu,.slice Ac n cc,.slice Al nl cl,jo] 74);rw[hW];clear ewx;obtain⟨W2,fR,H2,dz,jK,ewx⟩:=B_ W (.cells #[l1,l2,l3] 154);rw[fR];replace H:=(dz.block _ (ag H)).trans H;clear ewx;clear fR;have eW:W.heap.size=w.heap.size+1:=by rw[<-hW];simp
 rw[eW]at H2;clear hW;have aH:=HB.trans (dz.mono HB.size);have e2:=ab H 2;have f0:=ab H2 0;have HH:=H_ H;have dn:=H_ H2;clear H H2;go_wp2_with fail;refine(kU.o W2 aH).mono ?_;rintro e w3 ⟨rfl,aZ⟩;have aR:=aH.trans (aZ.mono aH.size);have K3:=(aZ.block _ (ag dn.o)).trans dn.o;obtain⟨p1,p2,p3,p4⟩:=o1;go_upto_region 2 with fail;obtain⟨W4,JU,H4,gw,Bo,ewx⟩:=B_ w3 (.cells #[p1,p2,p3,p4] 78);rw[JU];replace K3:=(gw.block _ (ag K3)).trans K3;clear ewx;clear JU;have bD:=aR.trans (gw.mono aR.size);have f1:=ab K3 1;have zH:=H_ K3;have oW:=H_ H4;clear K3 H4 e2 f0;go_wp2_with fail;refine(kV.o W4 bD).mono ?_;rintro e w5 ⟨rfl,cP⟩;have fG:=bD.trans (cP.mono bD.size);have K5:=(cP.block _ (ag zH.o)).trans zH.o;have G5:=(cP.block _ (ag oW.o)).trans oW.o;obtain⟨q1,q2,q3,q4⟩:=o2;go_upto_region 3 with fail
 obtain⟨W6,mC,H6,dK,my,ewx⟩:=B_ w5 (.cells #[q1,q2,q3,q4] 78);rw[mC];replace K5:=(dK.block _ (ag K5)).trans K5;replace G5:=(dK.block _ (ag G5)).trans G5;clear ewx;clear mC;have fi:=fG.trans (dK.mono fG.size);have f2:=ab K5 2;have g1:=ab G5 1;have k1:=ab H6 1;clear K5 G5 H6 f1;cases s1 with
 |false=>
  have hf:=H_ (show r=false by rw[HR.o];rfl);go_wp2_with fail;go_ret;exact⟨hf.o.symm▸rfl,fi⟩
 |true=>
 cases s2 with
 |false=>
  have hf:=H_ (show r=false by rw[HR.o];rfl);go_wp2_with fail;go_ret;exact⟨hf.o.symm▸rfl,fi⟩
 |true=>
 by_cases h1:p2=q2
 case neg=>
  have h1':(p2==q2)=false:=by simpa using h1
  have hf:=H_ (show r=false by rw[HR.o,h1'];rfl);go_wp2_with fail;go_ret;exact⟨hf.o.symm▸rfl,fi⟩
 case pos=>
  have h1':(p2==q2)=true:=by simpa using h1
  have hf:=H_ (show r=decide (inD l3) by rw[HR.o,h1'];rfl);obtain⟨d,hd⟩:=x_ (decide (inD l3));have aM:=nS l3 W6;rw[hd]at aM;have HD:=H_ hd;clear hd;go_wp2_with fail;refine aM.mono ?_;clear aM;rintro e w7 ⟨rfl,fC⟩;go_wp2_with fail;go_ret;exact⟨by rw[hf.o,HD.o];first|done|rfl,fi.trans (fC.mono fi.size)⟩
end
section
open Go Go.RowKit
open Go.Maps (Keyed)
open Go.WideMaps (KeyLaw)
theorem lA:laidOutB Tryz.prog=true:=by kernel_rfl
theorem Ep:(154:TypeId)<Tryz.prog.types.size:=of_decide_eq_true K_
theorem LG:(match Tryz.prog.underlying 154 with|some (.array _ _)|some (.struct _)=>true|_=>false)=true:=by kernel_rfl
theorem Pa:KeyLaw Tryz.prog 154:=deep_law_laid lA (m:=2) (by omega) Ep K_ LG
theorem mN:Keyed Tryz.prog 154:=Keyed.of_law Pa
theorem mh:Tryz.prog.cellsOf 3=1:=by kernel_rfl
theorem xD:Tryz.prog.cellsOf 154=3:=by kernel_rfl
theorem f7 {d:Nat} {n:Int} (h:am n):Tryz.prog.keyLits (d+1) 3 [n]=some [.int .i64 n]:=by
 unfold Program.keyLits;rw[oA];simp[WalkArith.wf_i64 h]
theorem B8 {d:Nat} {a z b:Int} (ha:am a) (hz:am z) (hb:am b):Tryz.prog.keyLits (d+2) 154 [a,z,b]=some [.int .i64 a,.int .i64 z,.int .i64 b]:=by
 unfold Program.keyLits;rw[Tryz.underlying154];have h1:=f7 (d:=d) ha;have h2:=f7 (d:=d) hz;have h3:=f7 (d:=d) hb;simp[xD,mh,h1,h2,h3]
theorem B9:Tryz.prog.keyType 154=true:=by kernel_rfl
theorem po:∃fs,Tryz.prog.underlying 154=some (.struct fs):=⟨_,Tryz.underlying154⟩
theorem Eo {a b c:Value}:(Value.agg #[a,b,c]).formed Tryz.prog 154=true:=by
 obtain⟨fs,hu⟩:=po;simp[Value.formed,hu,xD]
theorem mW:∃d,Tryz.prog.types.size+1=d+2:=⟨Tryz.prog.types.size- 1,by have h:154<Tryz.prog.types.size:=Ep;omega⟩
theorem xE {a z b:Int} (ha:am a) (hz:am z) (hb:am b):keyOf Tryz.prog 154 (.agg #[a,z,b])=some (.string (keyBytes [a,z,b])):=by
 obtain⟨fs,hu⟩:=po;obtain⟨d,hd⟩:=mW;unfold keyOf;rw[hu];simp only[B9,Eo,Bool.and_self,if_true,hd,Value.cells];rw[B8 ha hz hb];rfl
abbrev LK:={p:Int × Int // am p.1/\am p.2}
def xF (c:LK):Lit:=.string (keyBytes [c.1.1,(),c.1.2])
theorem Er (c:LK):keyOf Tryz.prog 154 (.agg #[c.1.1,(),c.1.2])=some (xF c):=xE c.2.1 bd0 c.2.2
theorem LH (x y:LK) (h:xF x=xF y):x=y:=by
 have h1:=Er x;have h2:=Er y;rw[<-h]at h2;have h3:=mN.inj h1 h2;have h4:=congrArg Array.toList (Value.agg.inj h3);simp only[List.cons.injEq,Value.int.injEq,true_and,and_true]at h4;exact Subtype.ext (Prod.ext h4.1 h4.2)
theorem LI (x:LK):WideAt.IsKeyLit (xF x):=trivial
theorem xG:Tryz.prog.underlying 252=some (.map 154 4):=by kernel_rfl
abbrev aeo (w:World) (b n:Nat) (f:LK->Bool):Prop:=fm Tryz.prog 154 4 xF w b n f
def EX (ls:List bu) (k:Nat) (c:LK):Bool:=(ls.take k).any λx=>x.from_==c.1.1&&x.since==c.1.2
theorem Ig {ls:List bu} {k:Nat} {l:bu} (hk:ls[k]? =some l) (h1:am l.from_) (h3:am l.since) {F:LK->Bool} (hF:EX ls k=F) (d:LK):(if d=(⟨(l.from_,l.since),h1,h3⟩:LK)then true else F d)=EX ls (k+1) d:=by
 obtain⟨hl,rfl⟩:=List.getElem?_eq_some_iff.1 hk;unfold EX;rw[iV hl,<-hF];by_cases h:d=(⟨(ls[k].from_,ls[k].since),h1,h3⟩:LK)
 ·rw[if_pos h,h];simp
 ·rw[if_neg h];have:(ls[k].from_==d.1.1&&ls[k].since==d.1.2)=false:=by
   rw[Bool.and_eq_false_iff];by_cases e1:ls[k].from_=d.1.1
   ·right;have e2:¬ls[k].since=d.1.2:=λe2=>h (Subtype.ext (Prod.ext e1.symm e2.symm))
    simpa using e2
   ·left;simpa using e1
  rw[this,Bool.or_false];rfl
def kb (ec ch:List ah) (ls:List bu):Bool:=ej ch true&&ej ec false&&decide (ls.length<=400)&&pV ec ch ls
theorem kL {ec ch:List ah} {ls:List bu} {k:Nat} (hk:k<ls.length) (h:gF ec ch ls k=false):kb ec ch ls=false:=by
 unfold kb pV;rw[bt hk h,Bool.and_false]
theorem Hb (s cu:ByteArray) (Ac Al Ah:Option Addr) (n m nl cc cl hc:Nat) (jo:Bool) (ec ch:List ah) (ls:List bu) (w:World) (hN:ec.length=n) (hM:ch.length=m) (Ok:ls.length=nl) (sN:aj ar 4 w (·<w.heap.size) [.slice Ac ec.length cc] ec) (lP:aj bJ 3 w (·<w.heap.size) [.slice Al ls.length cl] ls) (ee:aj ar 4 w (·<w.heap.size) [.slice Ah ch.length hc] ch) (hn:ec.length<=1000) (hm:ch.length<=1000) (bj:ls.length<=1000):
 Calls Tryz.prog 185 #[.agg (lH s cu Ac n cc Al nl cl jo).toArray,.slice Ah m hc] w (ap w (.bool (kb ec ch ls))):=by
 have Iz:=@run_makeMap Tryz.prog;obtain⟨r,hr⟩:=x_ (kb ec ch ls);rw[hr];have HR:=H_ hr;have vo:=H_ (λ(w2:World) (hb:Below w.heap.size w w2)=>JO hM (az ee hb) hm true);have HV2:=H_ (λ(w2:World) (hb:Below w.heap.size w w2)=>JO hN (az sN hb) hn false);have Cz:=H_ (λ(w2:World) (hb:Below w.heap.size w w2) (l:bu) (hl:mM l)=>ZC s cu Ac Al Ah n m cc nl cl hc jo ec ch l w2 hN hM (az sN hb) (az ee hb) hl hn hm);have sV:=H_ lP;have jz:=H_ Ok;rw[Ok]at bj;clear hr sN ee hN hM lP Ok hn hm;show Calls Tryz.prog 185 #[.agg #[s,cu,.slice Ac n cc,.slice Al nl cl,jo],.slice Ah m hc] w (ap w (.bool r));go_enter Tryz.func185,Tryz.ntmps185;go_upto_region 1 with fail;obtain⟨W,hW,H,HB,HS,ewx⟩:=B_ w (.cells #[s,cu,.slice Ac n cc,.slice Al nl cl,jo] 74);rw[hW];clear ewx;clear hW;have HH:=H_ H;clear H;go_wp2_with fail;refine(vo.o W HB).mono ?_;rintro e w2 ⟨rfl,aH⟩;have aF:=HB.trans (aH.mono HB.size);cases fP:ej ch true with
 |false=>
  have hf:=H_ (show r=false by rw[<-HR.o];unfold kb;rw[fP];rfl);go_wp2_with fail;go_ret;exact⟨hf.o.symm▸rfl,aF⟩
 |true=>
 have jG:=H_ fP;have G2:=(aH.block _ HS).trans HH.o;have e2:=ab G2 2;have dW:=aH.size;clear fP;go_wp2_with fail;refine(HV2.o w2 aF).mono ?_;rintro e w3 ⟨rfl,aZ⟩;have aR:=aF.trans (aZ.mono aF.size);have lE:=aZ.size;have G3:=(aZ.block _ (by omega)).trans G2;have e3:=ab G3 3;clear e2 G2;cases gn:ej ec false with
 |false=>
  have hf:=H_ (show r=false by rw[<-HR.o];unfold kb;rw[gn,Bool.and_false];rfl);go_wp2_with fail;go_ret;exact⟨hf.o.symm▸rfl,aR⟩
 |true=>
 have jv:=H_ gn;clear gn;by_cases rJ:nl<=400
 case neg=>
  have FS_:(400:Int)< (nl:Int):=by omega
  have hf:=H_ (show r=false by rw[<-HR.o];unfold kb;rw[jz.o,decide_eq_false rJ,Bool.and_false];rfl);go_wp2_with fail;go_ret;exact⟨hf.o.symm▸rfl,aR⟩
 case pos=>
 have FS_:¬(400:Int)< (nl:Int):=by omega
 have IG:=H_ G3;clear G3;go_upto_region 4 with fail;have CO:=fm.made Tryz.prog 154 4 xF w3;have gw:=ai w3 (.map #[] 0);have Bo:w3.heap.size+1=(w3.alloc (.map #[] 0)).heap.size:=by simp
 have G4:=al IG.o (.map #[] 0);generalize JU:w3.alloc (Obj.map #[] 0)=W4 at*;clear JU e3;have e3:=ab G4 3;have iX:=H_ G4;have bD:=aR.trans (gw.mono aR.size);clear G4;go_wp2_with fail
 go_loopw [28] (λi wr=>∃k:Nat,k<=nl/\i=.int .i64 (k:Int)/\Fr (QX W4.heap.size w3.heap.size) W4 wr/\aeo wr w3.heap.size k (EX ls k)/\∀j,j<k->gF ec ch ls j=true) (λi _=>nl- (intOf i).toNat)
 case atStart=>exact⟨0,by omega,rfl,Fr.refl _ _,CO.eqv (λ_=>rfl),λj hj=>by omega⟩
 case round=>
  obtain⟨k,hk,rfl,lM,fD,hall⟩:=hrel;have HA:=H_ hall;have HF:=H_ lM;have bP:=lM.size;clear hall lM;have el:Below w.heap.size w wr:=((Fr.ofBelow bD).trans (HF.o.mono (λk (hk:k<w.heap.size)=>⟨by omega,by omega⟩))).below;have hs0':=el.size;by_cases aU:k<nl
  case pos=>
   have bq:(k:Int)< (nl:Int):=by omega
   have bI:k<ls.length:=by rw[jz.o];exact aU
   obtain⟨b,o,rz,dj,ed,bL,aS⟩:=aj.get sV.o k bI;subst dj;obtain⟨bE,le⟩:=bJ.lit bL;obtain⟨l,hl⟩:=x_ (ls[k]);rw[hl]at bE le;have HL:=H_ (show ls[k]? =some l by rw[List.getElem?_eq_getElem bI,hl]);obtain⟨l1,l2,l3⟩:=l;subst bE;have jD:=H_ le;have bC:=H_ le.1;have eA:=H_ le.2.2;have eZ:=H_ ((aS.fr (Fr.ofBelow el)).range);have E6:=(HF.o.block w.heap.size ⟨by omega,by omega⟩).trans iX.o;have aar:=H_ (Cz.o);obtain⟨F,hF⟩:=x_ (EX ls k);rw[hF]at fD;have kV:=H_ hF;clear bL aS hl hF ed le;go_upto_region 7 with(refine w_ 31 154 30 b (o+k*3) [l1,l2,l3] eZ.o dE Tryz.underlying154 ?_);obtain⟨W6,mC,H6,dK,my,ewx⟩:=B_ wr (.cells #[l1,l2,l3] 154);rw[mC];replace E6:=(dK.block _ (ag E6)).trans E6;clear ewx;clear mC;have f0:=ab H6 0;have f2:=ab H6 2;have jP:=fD.below dK;have MV:=dK.size;clear fD;go_upto_region 8 with fail
   obtain⟨W8,Q6,H8,o9,XW,ewx⟩:=B_ W6 (.cells #[l1,(),l3] 154);rw[Q6];replace E6:=(o9.block _ (ag E6)).trans E6;replace H6:=(o9.block _ (ag H6)).trans H6;clear ewx;clear Q6;have iD:=jP.below o9;have QC:=o9.size;have Bt:=dK.trans (o9.mono dK.size);have kw:=el.trans (Bt.mono el.size);have k0:=ab H8 0;have k1:=ab H8 1;have k2:=ab H8 2;have f0:=ab H6 0;have f1:=ab H6 1;have f2:=ab H6 2;have VF:=H_ E6;have HH8:=H_ H8;clear H8 H6 E6 jP;obtain⟨c0,sM⟩:∃c:LK,c=⟨(l1,l3),bC.o,eA.o⟩:=⟨_,rfl⟩;have vp:=H_ (show keyOf Tryz.prog 154 (.agg #[l1,(),l3])=some (xF c0) by rw[sM];exact xE bC.o bd0 eA.o);have HSN:=H_ (show F c0=((ls.take k).any λx=>x.from_==l1&&x.since==l3) by rw[<-kV.o,sM];rfl);have m8:=H_ sM;clear sM;cases kr:F c0 with
   |true=>
    have hf:=H_ (show r=false by rw[<-HR.o];exact kL bI (by rw[kK HL.o,show((ls.take k).any λx=>x.from_==l1&&x.since==l3)=true from HSN.o.symm.trans kr];simp));go_wp2_with (at_lookup;refine bO rfl _ _ 252 rfl 154 4 mN xG de (dU _) w3.heap.size k F rfl iD (.agg #[l1,(),l3]) c0 rfl vp.o ?_);go_ret;exact⟨hf.o.symm▸rfl,kw⟩
   |false=>
    have aM:=aar.o W8 kw ⟨l1,l2,l3⟩ jD.o;obtain⟨v,hv⟩:=x_ (n0 ec ch ⟨l1,l2,l3⟩);rw[hv]at aM;have gc:=H_ (show gF ec ch ls k=v by rw[kK HL.o,hv,show((ls.take k).any λx=>x.from_==l1&&x.since==l3)=false from HSN.o.symm.trans kr];simp);clear hv;have eE:=H_ aM;clear aM;go_wp2_with (first|(at_lookup;refine bO rfl _ _ 252 rfl 154 4 mN xG de (dU _) w3.heap.size k F rfl iD (.agg #[l1,(),l3]) c0 rfl vp.o ?_)|(refine W_ 41 74 2 w.heap.size VF.o cD Tryz.underlying74 ?_));refine eE.o.mono ?_;rintro e wA ⟨rfl,NT⟩;have NN:=iD.below NT;have hsA:=NT.size;have Yt:=kw.trans (NT.mono kw.size);cases v with
    |false=>
     have hf:=H_ (show r=false by rw[<-HR.o];exact kL bI gc.o);go_wp2_with fail;go_ret;exact⟨hf.o.symm▸rfl,Yt⟩
    |true=>
     have KA:=(NT.block _ XW).trans HH8.o;have k0:=ab KA 0;have k1:=ab KA 1;have k2:=ab KA 2;clear KA;go_wp2_with (at_mapUpdate;refine dV rfl _ _ _ 252 rfl 154 4 mN xG de w3.heap.size k F rfl NN (by simp only[maxLen];omega) LH LI (.agg #[l1,(),l3]) c0 rfl true rfl vp.o ?_;intro wB nI hgB;replace nI:=H_ nI);go_roundw
     case rel=>
      refine⟨k+1,by omega,by go_num,?_,?_,?_⟩
      ·exact(HF.o.trans ((Fr.ofBelow (Bt.trans (NT.mono Bt.size))).mono (λk hk=>by have:=hk.1;omega))).grown hgB (λk hk=>hk.1) (λj hj=>by injection hj with hj;exact λh=>h.2 hj.symm)
      ·exact nI.o.eqv (λd=>by rw[m8.o];exact Ig HL.o bC.o eA.o kV.o d)
      ·intro j hj;rcases Nat.lt_or_ge j k with h|h
       ·exact HA.o j h
       ·have:j=k:=by omega
        subst this;exact gc.o
     case measure=>first|exact aQ aU|(simp only[intOf];omega)
  case neg=>
   have bq:¬(k:Int)< (nl:Int):=by omega
   have hf:=H_ (show r=true by
    rw[<-HR.o];unfold kb pV;rw[jG.o,jv.o,jz.o,decide_eq_true rJ,bQ (λj hj=>HA.o j (by omega))];rfl)
   go_wp2_with fail;go_ret;exact⟨hf.o.symm▸rfl,el⟩
end
section
open Go Go.RowKit
theorem OO (l:bu) (hl:mM l) (g bm N:Nat) (F:Int->Bool) (w:World) (hg:w.heap[g]? =some (.cells #[.map (some bm)] 218 (0,0))) (fD:KM w bm N F):Calls Tryz.prog 187 #[.agg (eI l).toArray,.pointer (some ⟨g,0,none⟩)] w (ap w (.bool (F l.to_))):=by
 obtain⟨l1,l2,l3⟩:=l;have dz:=H_ hl.2.1;clear hl;obtain⟨v,hv⟩:=x_ (F l2);show Calls Tryz.prog 187 #[.agg #[l1,l2,l3],.pointer (some ⟨g,0,none⟩)] w (ap w (.bool (F l2)));rw[hv];have HV:=H_ hv;clear hv;go_enter Tryz.func187,Tryz.ntmps187;go_upto_region 1 with fail;obtain⟨W,hW,H,HB,HS,ewx⟩:=B_ w (.cells #[l1,l2,l3] 154);rw[hW];replace hg:=(HB.block _ (ag hg)).trans hg;clear ewx;clear hW;have d1:=ab H 1;have e0:=ab hg 0;have IN:=fD.below HB;clear fD H hg;go_wp2_with (at_lookup;refine bO rfl _ _ 218 rfl 3 4 dI gx de (dU _) bm N F rfl IN _ l2 rfl (gD dz.o) ?_);go_ret;exact⟨by rw[HV.o];first|done|rfl,HB⟩
theorem Zy (l:List bu) (A:Option Addr) (c:Nat) (g bm N:Nat) (F:Int->Bool) (w:World) (hg:w.heap[g]? =some (.cells #[.map (some bm)] 218 (0,0))) (fD:KM w bm N F) (hl:aj bJ 3 w (·<w.heap.size) [.slice A l.length c] l) (hn:l.length<=1000):Calls Tryz.prog 215 #[.slice A l.length c,.func (.func 187) #[] #[.pointer (some ⟨g,0,none⟩)]] w (ap w (.int .i64 (iB (λa=>F a.to_) l))):=by
 obtain⟨r,hr⟩:=x_ (iB (λa=>F a.to_) l);rw[hr];have HR:=H_ hr;clear hr;obtain⟨n,bj⟩:=x_ (l.length);rw[bj]at hn;have HL:=H_ hl;have HG:=H_ hg;have adU:=H_ fD;have HN:=H_ bj;rw[bj];clear hl bj hg fD;go_enter Tryz.func215,Tryz.ntmps215;go_wp2_with fail
 go_loopw [8] (λi wr=>∃k:Nat,k<=n/\i=.int .i64 (k:Int)/\Below w.heap.size w wr/\∀j (hj:j<l.length),j<k->F l[j].to_=false) (λi _=>n- (intOf i).toNat)
 case atStart=>exact⟨0,by omega,rfl,Below.refl _ _,λj hj h=>by omega⟩
 case round=>
  obtain⟨k,hk,rfl,hb,hall⟩:=hrel;have HA:=H_ hall;clear hall;have bP:=hb.size;by_cases aU:k<n
  case pos=>
   have bq:(k:Int)< (n:Int):=by omega
   have bI:k<l.length:=by rw[HN.o];exact aU
   obtain⟨b,o,es,dj,ed,bL,aS⟩:=aj.get HL.o k bI;subst dj;obtain⟨bE,le⟩:=bJ.lit bL;rw[bE]at aS;obtain⟨ac,ni⟩:=x_ (l[k]);rw[ni]at aS le;have jD:=H_ le;have nH:=H_ ni;have eZ:=H_ ((aS.fr (Fr.ofBelow hb)).range);have gR:=(hb.block g (ag HG.o)).trans HG.o;have sR:=adU.o.below hb;clear bL bE aS ni le;go_wp2_with (refine w_ 15 154 14 b (o+k*3) (eI ac) eZ.o dE Tryz.underlying154 ?_);refine(OO ac jD.o g bm N F wr gR sR).mono ?_;rintro e w2 ⟨rfl,aH⟩;have dA:=hb.trans (aH.mono hb.size);cases hp:F ac.to_ with
   |true=>
    have hf:=H_ (show r=(k:Int) by rw[<-HR.o];exact nW bI (by rw[nH.o];exact hp) (λj hj m7=>HA.o j hj m7));clear hp;go_wp2_with fail;go_ret;exact⟨hf.o.symm▸rfl,dA⟩
   |false=>
    have HP:=H_ hp;clear hp;go_wp2_with fail;go_roundw
    case rel=>exact⟨k+1,by omega,by go_num,dA,λj hj m7=>by
     rcases Nat.lt_or_ge j k with h|h
     ·exact HA.o j hj h
     ·have:j=k:=by omega
      subst this;rw[nH.o];exact HP.o⟩
    case measure=>
     have e:wrap64 ((k:Int)+1)=((k+1:Nat):Int):=by unfold wrap64;omega
     simp only[intOf,e];omega
  case neg=>
   have bq:¬(k:Int)< (n:Int):=by omega
   have hf:=H_ (show r= -1 by rw[<-HR.o];exact mf (λj hj=>HA.o j hj (by have:=HN.o;omega)));go_wp2_with fail;go_ret;exact⟨hf.o.symm▸rfl,hb⟩
theorem Zh (l:List bu) (A:Option Addr) (c:Nat) (g bm N:Nat) (F:Int->Bool) (w:World) (hg:w.heap[g]? =some (.cells #[.map (some bm)] 218 (0,0))) (fD:KM w bm N F) (hl:aj bJ 3 w (·<w.heap.size) [.slice A l.length c] l) (hn:l.length<=1000):Calls Tryz.prog 186 #[.slice A l.length c,.func (.func 187) #[] #[.pointer (some ⟨g,0,none⟩)]] w (ap w (.bool (l.any λa=>F a.to_))):=by
 have aM:=Zy l A c g bm N F w hg fD hl hn;obtain⟨n,bj⟩:=x_ (l.length);rw[bj]at aM |-;have hh:decide (0<=iB (λa=>F a.to_) l)=(l.any λa=>F a.to_):=by rw[Jh]
 obtain⟨i,hi⟩:=x_ (iB (λa=>F a.to_) l);rw[hi]at aM hh;clear fD hg;rw[<-hh];clear hh hi;go_enter Tryz.func186,Tryz.ntmps186;go_wp2_with fail;refine aM.mono ?_;clear aM;rintro e w2 ⟨rfl,aH⟩;by_cases h:0<=i
 ·have hf:decide (0<=i)=true:=decide_eq_true h;have HF:=H_ hf;clear hf;go_wp2_with fail;go_ret;exact⟨by rw[HF.o];first|done|rfl,aH⟩
 ·have hf:decide (0<=i)=false:=decide_eq_false h;have HF:=H_ hf;clear hf;go_wp2_with fail;go_ret;exact⟨by rw[HF.o];first|done|rfl,aH⟩
theorem Hc {e:aV} {ch:List ah} {Ac Al Ah:Option Addr} {n m nl cc cl hc:Nat} {w:World} (hN:e.chart.length=n) (hM:ch.length=m) (Ok:e.links.length=nl) (sN:aj ar 4 w (·<w.heap.size) [.slice Ac e.chart.length cc] e.chart) (lP:aj bJ 3 w (·<w.heap.size) [.slice Al e.links.length cl] e.links) (ee:aj ar 4 w (·<w.heap.size) [.slice Ah ch.length hc] ch) (hn:e.chart.length<=1000) (hm:ch.length<=1000) (bj:e.links.length<=1000) (w2:World) (hb:Below w.heap.size w w2):
 Calls Tryz.prog 185 #[.agg (lH e.name e.currency Ac n cc Al nl cl e.joint).toArray,.slice Ah m hc] w2 (ap w2 (.bool (kb e.chart ch e.links))):=
 Hb e.name e.currency Ac Al Ah n m nl cc cl hc e.joint e.chart ch e.links w2 hN hM Ok (az sN hb) (pW lP hb) (az ee hb) hn hm bj
def tH (ch:List ah) (L:List dp) (e:aV):Bool:=lw e.name&&(cQ e.currency&&(kb e.chart ch e.links&&!(e.links.any λl=>iT L l.to_)))
theorem OW (g:au) (cs:List Value) (x:aV) (xs:List Value) (w:World) (hg:aL w (·<w.heap.size) cs g) (hx:aN w (·<w.heap.size) xs x) (hn:g.chart.length<=1000) (oO:x.chart.length<=1000) (bj:x.links.length<=1000) (tC:x.name.size<=1000) (dW:x.currency.size<=1000):Calls Tryz.prog 147 #[.agg cs.toArray,.agg xs.toArray] w (ap w (.bool (tH g.chart (cY g.roles) x))):=by
 have Iz:=@run_makeMap Tryz.prog;have hmf:∀(fn:Fn) (first cap:Array Value) (w:World),(Instr.makeFunc fn first cap).run Tryz.prog w=.ok (.func fn first cap) w:=λ_ _ _ _=>rfl
 obtain⟨r,hr⟩:=x_ (tH g.chart (cY g.roles) x);rw[hr];have HR:=H_ hr;clear hr;obtain⟨Ac,cc,Ae,ce,rfl,ee,iu,eu,mD⟩:=hg.lit;clear hg;obtain⟨cur,⟨y,m,p⟩,ch,⟨r0,r1,r2,r3,r4,r5,r6,r7,r8,r9,cw,cA,ey,ct,cz⟩,es⟩:=g;simp only at ee iu mD eu hn |-;obtain⟨Ec,c2,Al,cl,rfl,sN,kZ⟩:=hx.lit;clear hx;obtain⟨L,hL⟩:=x_ (jM r0 r1 r2 r3 r4 r5 r6 r7 r8 r9 cw cA ey ct cz);have CI:L.length=15:=by rw[<-hL];rfl
 have tU:=H_ hL;have Bw:=H_ CI;obtain⟨n,zR⟩:=x_ (ch.length);obtain⟨ne,bT⟩:=x_ (es.length);have HL:=H_ ee;have HN:=H_ zR;have HE:=H_ iu;have eP:=H_ bT;rw[zR,bT];rw[zR]at hn;clear hL CI ee iu zR bT eu;have zb:∀q∈L,am q.code:=by
  rw[<-tU.o];obtain⟨b0,b1,b2,b3,b4,b5,b6,b7,b8,b9,b10,b11,b12,b13,b14⟩:=mD;intro q hq;simp only[jM,List.mem_cons,List.not_mem_nil,or_false]at hq;rcases hq with rfl|rfl|rfl|rfl|rfl|rfl|rfl|rfl|rfl|rfl|rfl|rfl|rfl|rfl|rfl<;>assumption
 have Ki:=H_ zb;clear zb mD;obtain⟨n2,FN⟩:∃n,x.chart.length=n:=⟨_,rfl⟩;obtain⟨nl,Bu⟩:∃n,x.links.length=n:=⟨_,rfl⟩;have Fj:=H_ (Hc FN HN.o Bu sN kZ HL.o oO (by rw[HN.o];exact hn) bj);have Cz:=H_ kZ;have jz:=H_ Bu;rw[FN,Bu];obtain⟨s,cu,ec,ls,jo⟩:=x;simp only at HR Fj Cz jz tC dW bj |-;have RB:=H_ bj;clear bj;clear sN kZ FN Bu oO;show Calls Tryz.prog 147 #[.agg #[cur,y,m,p,.slice Ac n cc,r0,r1,r2,r3,r4,r5,r6,r7,r8,r9,cw,cA,ey,ct,cz,.slice Ae ne ce],.agg #[s,cu,.slice Ec n2 c2,.slice Al nl cl,jo]] w (ap w (.bool r));go_enter Tryz.func147,Tryz.ntmps147;go_upto_region 1 with fail;obtain⟨W,hW,H,HB,HS,ewx⟩:=B_ w (.cells #[cur,y,m,p,.slice Ac n cc,r0,r1,r2,r3,r4,r5,r6,r7,r8,r9,cw,cA,ey,ct,cz,.slice Ae ne ce] 29);rw[hW];clear ewx;obtain⟨W2,fR,H2,dz,jK,ewx⟩:=B_ W (.cells #[s,cu,.slice Ec n2 c2,.slice Al nl cl,jo] 74);rw[fR];replace H:=(dz.block _ (ag H)).trans H;clear ewx;clear fR;have eW:W.heap.size=w.heap.size+1:=by rw[<-hW];simp
 rw[eW]at H2;clear hW;have aH:=HB.trans (dz.mono HB.size);have hs2':=dz.size;have f0:=ab H2 0;have yM:=H_ ((dO (cs:=[.string cur,.int .i64 y,.int .i64 m,.int .i64 p,.slice Ac n cc]++([.int .i64 r0,.int .i64 r1,.int .i64 r2,.int .i64 r3,.int .i64 r4,.int .i64 r5,.int .i64 r6,.int .i64 r7,.int .i64 r8,.int .i64 r9,.int .i64 cw,.int .i64 cA,.int .i64 ey,.int .i64 ct,.int .i64 cz]++[.slice Ae ne ce])) H).split.2.split.1);have HH:=H_ H;have dn:=H_ H2;have lV:=ag H2;clear H H2;go_wp2_with fail;refine(ZE s W2 tC).mono ?_;rintro e w3 ⟨rfl,aZ⟩;have aR:=aH.trans (aZ.mono aH.size);have lE:=aZ.size;cases fP:lw s with
 |false=>
  have hf:=H_ (show r=false by rw[<-HR.o];unfold tH;simp only[fP];rfl);go_wp2_with fail;go_ret;exact⟨hf.o.symm▸rfl,aR⟩
 |true=>
 have jG:=H_ fP;have E3:=(aZ.block _ lV).trans dn.o;have f1:=ab E3 1;clear fP f0;go_wp2_with fail;refine(vX cu w3 dW).mono ?_;rintro e wC ⟨rfl,MF⟩;have Ba:=aR.trans (MF.mono aR.size);have hsC:=MF.size;cases gn:cQ cu with
 |false=>
  have hf:=H_ (show r=false by rw[<-HR.o];unfold tH;simp only[gn];simp);go_wp2_with fail;go_ret;exact⟨hf.o.symm▸rfl,Ba⟩
 |true=>
 have jv:=H_ gn;have zA:=H_ ((MF.block _ (by omega)).trans E3);have GC:=(MF.block _ (by omega)).trans ((aZ.block _ (by omega)).trans HH.o);have d4:=ab GC 4;have eE:=H_ (Fj.o wC Ba);clear gn f1 E3 GC;go_wp2_with (refine W_ 19 74 3 (w.heap.size+1) zA.o cD Tryz.underlying74 ?_);refine eE.o.mono ?_;rintro e w4 ⟨rfl,bU⟩;have bD:=Ba.trans (bU.mono Ba.size);have yJ:=bU.size;clear d4;cases ot:kb ec ch ls with
 |false=>
  have hf:=H_ (show r=false by rw[<-HR.o];unfold tH;simp only[ot];simp);go_wp2_with fail;go_ret;exact⟨hf.o.symm▸rfl,bD⟩
 |true=>
 have kB:=H_ ot;have G4:=(bU.block _ (by omega)).trans ((MF.block _ (by omega)).trans ((aZ.block _ (by omega)).trans HH.o));have E4:=(bU.block _ (by omega)).trans zA.o;clear ot;go_upto_region 4 with fail;have CO:=fm.made Tryz.prog 3 4 qV w4;have nA:=ai w4 (.map #[] 0);have My:w4.heap.size+1=(w4.alloc (.map #[] 0)).heap.size:=by simp
 replace G4:=al G4 (.map #[] 0);replace E4:=al E4 (.map #[] 0);generalize XI:w4.alloc (Obj.map #[] 0)=W5 at*;obtain⟨W6,mC,H6,dK,my,ewx⟩:=B_ W5 (.cells #[.map (some w4.heap.size)] 218);rw[mC];replace G4:=(dK.block _ (ag G4)).trans G4;replace E4:=(dK.block _ (ag E4)).trans E4;clear ewx;clear mC;clear XI;have jP:=CO.below dK;have MV:=dK.size;have Kl:=H_ ((yM.o.fr (Fr.ofBelow (aZ.trans ((MF.mono lE).trans ((bU.mono (by omega)).trans ((nA.mono (by omega)).trans (dK.mono (by omega)))))))).range);have HG6:=H_ G4;have yK:=H_ E4;have HV6:=H_ H6;have fi:=bD.trans ((nA.mono bD.size).trans (dK.mono (by omega)));clear G4 E4 H6 CO;go_wp2_with (refine w_ 27 26 26 w.heap.size 5 [r0,r1,r2,r3,r4,r5,r6,r7,r8,r9,cw,cA,ey,ct,cz] Kl.o kI Tryz.underlying26 ?_);refine(JB r0 r1 r2 r3 r4 r5 r6 r7 r8 r9 cw cA ey ct cz W6).mono ?_;rintro e w5 ⟨v,rfl,⟨A,c,rfl⟩,Ge,cP⟩;rw[tU.o]at Ge;have FB:=H_ (show aj vH 5 w5 (λk=>W6.heap.size<=k/\k<w5.heap.size) [.slice A L.length c] L by rw[Bw.o];exact Ge);have QU:=cP.size;have jE:=fi.trans (cP.mono fi.size);have Oe:=jP.below cP;have YG:=H_ ((cP.block _ (by omega)).trans HG6.o);have rW:=H_ ((cP.block _ (by omega)).trans yK.o);have HV5:=H_ ((cP.block _ (by omega)).trans HV6.o);clear Ge jP;go_wp2_with fail
 go_loopw [30] (λi wr=>∃k:Nat,k<=15/\i=.int .i64 (k:Int)/\Fr (QX w5.heap.size w4.heap.size) w5 wr/\KM wr w4.heap.size k (iT (L.take k))) (λi _=>15- (intOf i).toNat)
 case atStart=>exact⟨0,by omega,rfl,Fr.refl _ _,Oe.eqv (λ_=>rfl)⟩
 case round=>
  obtain⟨k,hk,rfl,lM,fD⟩:=hrel;have HF:=H_ lM;have bP:=lM.size;clear lM;have el:Below w.heap.size w wr:=((Fr.ofBelow jE).trans (HF.o.mono (λk (hk:k<w.heap.size)=>⟨by omega,by omega⟩))).below;have VR:=(HF.o.block W5.heap.size ⟨by omega,by omega⟩).trans HV5.o;by_cases aU:k<15
  case pos=>
   have bq:(k:Int)<15:=by omega
   have bI:k<L.length:=by rw[Bw.o];exact aU
   obtain⟨b,o,rz,dj,ed,bL,aS⟩:=aj.get FB.o k bI;subst dj;obtain⟨q,hq⟩:=x_ (L[k]);have zO:=Ki.o _ (List.getElem_mem bI);rw[hq]at bL zO;have HQ:=H_ hq;obtain⟨qn,qc,qk,qb,qm⟩:=q;have M3:=H_ zO;obtain⟨abQ,aa7⟩:=zO;have bE:rz=[.string qn,.int .i64 qc,.int .i64 qk,.int .i64 qb,.bool qm]:=bL;subst bE;have eZ:=H_ ((aS.fr (HF.o.mono (λk hk=>⟨hk.2,by omega⟩))).range);obtain⟨F,hF⟩:=x_ (iT (L.take k));rw[hF]at fD;have kV:=H_ hF;clear bL aS hq hF ed;go_upto_region 7 with(refine w_ 33 222 32 b (o+k*5) [qn,qc,qk,qb,qm] eZ.o Ax Tryz.underlying222 ?_);obtain⟨W7,F8,H7,em,HS7,ewx⟩:=B_ wr (.cells #[qn,qc,qk,qb,qm] 222);rw[F8];replace VR:=(em.block _ (ag VR)).trans VR;clear ewx;clear F8;have rr1:=ab H7 1;have rr4:=ab H7 4;have v0:=ab VR 0;have jP:=fD.below em;clear H7 VR fD;go_wp2_with (at_mapUpdate;refine dV rfl _ _ _ 218 rfl 3 4 dI gx de w4.heap.size k F rfl jP (by simp only[maxLen];omega) qW nV _ qc rfl (!qm) rfl (gD M3.o) ?_;intro w9 qG gk;replace qG:=H_ qG);go_roundw
   case rel=>
    refine⟨k+1,by omega,by go_num,?_,?_⟩
    ·exact(HF.o.trans ((Fr.ofBelow em).mono (λk hk=>by have:=hk.1;omega))).grown gk (λk hk=>hk.1) (λj hj=>by injection hj with hj;exact λh=>h.2 hj.symm)
    ·exact qG.o.eqv (λd=>by rw[tc bI,HQ.o,kV.o])
   case measure=>first|exact aQ aU|(simp only[intOf];omega)
  case neg=>
   have bq:¬(k:Int)<15:=by omega
   have aaN:L.take k=L:=List.take_of_length_le (by rw[Bw.o];omega);rw[aaN]at fD;have ER:=(HF.o.block (w.heap.size+1) ⟨by omega,by omega⟩).trans rW.o;have e3:=ab ER 3;obtain⟨F,hF⟩:=x_ (iT L);rw[hF]at fD;have aM:=Zh ls Al cl W5.heap.size w4.heap.size k F wr VR fD (pW Cz.o el) RB.o;rw[jz.o]at aM;obtain⟨v,hv⟩:=x_ ((ls.any λa=>F a.to_));rw[hv]at aM;have sU:=H_ (show r= !v by
    rw[<-HR.o];unfold tH;simp only[jG.o,jv.o,kB.o,Bool.true_and];rw[show cY ⟨r0,r1,r2,r3,r4,r5,r6,r7,r8,r9,cw,cA,ey,ct,cz⟩=L from tU.o,hF,hv])
   have X6:=H_ aM;clear aM fD hv hF ER VR aaN;go_wp2_with fail;refine X6.o.mono ?_;rintro e wZ ⟨rfl,hbZ⟩;go_wp2_with fail;go_ret;exact⟨by rw[sU.o];first|done|rfl,el.trans (hbZ.mono el.size)⟩
end
end Go.Proofs.YtibiddakakgakaaGreat
