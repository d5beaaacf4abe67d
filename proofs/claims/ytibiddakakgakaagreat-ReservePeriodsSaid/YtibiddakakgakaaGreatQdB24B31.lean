/- Groups: the reference's Account and books. Written by gen_b24.py. -/
import Derived.Test.YtibiddakakgakaaGreatQdB17B27
set_option linter.unusedVariables false
set_option linter.unusedSimpArgs false
set_option maxRecDepth 4000
attribute [local go_sem ↓] Go.wp_at_zero Go.wp_at_succ
set_option maxHeartbeats 16000000
namespace Go.Proofs.YtibiddakakgakaaGreat
open Go Go.RowKit
theorem pZ (g:au) (cs:List Value) (code:Int) (w:World) (hg:aL w (·<w.heap.size) cs g) (hc:cx code) (hn:g.chart.length<=1000):Calls Tryz.prog 120 #[.agg cs.toArray,code] w (ap w (cF g.chart code)):=by
 obtain⟨Ac,cc,Ae,ce,rfl,ee,iu,eu,mD⟩:=hg.lit;clear hg;obtain⟨aw,⟨y,m,p⟩,ch,⟨r0,r1,r2,r3,r4,r5,r6,r7,r8,r9,cw,cA,cy,ct,cz⟩,es⟩:=g;simp only at ee iu mD eu hn |-;have Bk:=λ(w2:World) (hb:Below w.heap.size w w2)=>mU ch Ac cc code w2 (az ee hb) hc hn
 obtain⟨n,bj⟩:=x_ (ch.length);obtain⟨ne,bT⟩:=x_ (es.length);rw[bj]at Bk;rw[bj,bT];obtain⟨o,hoo⟩:=x_ (gH (aK ch code));obtain⟨s,hss⟩:=x_ ((aK ch code).isSome);have e0:cF ch code=.tuple #[.agg (bn o).toArray,s]:=by rw[<-hoo,<-hss];rfl
 rw[e0]at Bk |-;have HC:=H_ Bk;clear Bk bj bT ee iu mD eu hn hoo hss e0;show Calls Tryz.prog 120 #[.agg #[aw,y,m,p,.slice Ac n cc,r0,r1,r2,r3,r4,r5,r6,r7,r8,r9,cw,cA,cy,ct,cz,.slice Ae ne ce],code] w (ap w _);go_enter Tryz.func120,Tryz.ntmps120;go_upto_region 1 with fail;obtain⟨W,hW,H,HB,HS,ewx⟩:=B_ w (.cells #[aw,y,m,p,.slice Ac n cc,r0,r1,r2,r3,r4,r5,r6,r7,r8,r9,cw,cA,cy,ct,cz,.slice Ae ne ce] 29);rw[hW];clear ewx;have H2:=heap_alloc_new W (.cells #[(),(),(),()] 78);have dz:=ai W (.cells #[(),(),(),()] 78);have H3:=al H (Obj.cells #[(),(),(),()] 78);have CB:=HB.trans (dz.mono HB.size);generalize fR:W.alloc (Obj.cells #[(),(),(),()] 78)=W2 at*;have eW:W.heap.size=w.heap.size+1:=by rw[<-hW];simp
 rw[eW]at H2;clear hW fR;have d4:=ab H3 4;have Bp:=ag H2;have dn:=H_ H2;clear H H2 H3;go_wp2_with fail;refine(HC.o W2 CB).mono ?_;rintro e w3 ⟨rfl,aZ⟩;have dA:=CB.trans (aZ.mono CB.size);have G0:=(aZ.block _ Bp).trans dn.o;obtain⟨o1,o2,o3,o4⟩:=o;have HG:=H_ G0;clear G0;go_wp2_with (show wpList _ _ _ (Oper.mk none (Op.store _ (Operand.tmp 4) _) _ _ _ _::_) _ _;refine wpList_store_row rfl 78 (.tmp 4) (.tmp 10) rfl (w.heap.size+1) (bn ⟨o1,o2,o3,o4⟩).toArray rfl rfl 78 (bn {}).toArray HG.o (bX _) (OG _) (nO _) ?_);refine bodyPost_ret (v:=.tuple #[.agg (bn ⟨o1,o2,o3,o4⟩).toArray,s]) (aA rfl _ _ (w.heap.size+1) 78 _ (0,0) _ rfl (aB HG.o _) Tryz.underlying78 rfl (bX _) _ rfl) rfl ⟨rfl,aD dA (by omega) _⟩
theorem xR {aw:ByteArray} {y m p:Int} {Ac Ae:Option Addr} {cc ce n ne:Nat} {ch:List ah} {es:List aV} {r0 r1 r2 r3 r4 r5 r6 r7 r8 r9 cw cA cy ct cz:Int} (hN:ch.length=n) (hE:es.length=ne) {w:World} (hg:aL w (·<w.heap.size) (fT aw y m p Ac ch.length cc r0 r1 r2 r3 r4 r5 r6 r7 r8 r9 cw cA cy ct cz Ae es.length ce) ⟨aw,⟨y,m,p⟩,ch,⟨r0,r1,r2,r3,r4,r5,r6,r7,r8,r9,cw,cA,cy,ct,cz⟩,es⟩) (hn:ch.length<=1000) (code:Int) (hc:cx code):Calls Tryz.prog 120 #[.agg (fT aw y m p Ac n cc r0 r1 r2 r3 r4 r5 r6 r7 r8 r9 cw cA cy ct cz Ae ne ce).toArray,code] w (ap w (cF ch code)):=by
 subst hN hE;exact pZ _ _ _ _ hg hc hn
theorem L7 {ch:List ah} {L:List dp} {k:Nat} {q:dp} {a:ah} (hk:L[k]? =some q) (h:aK ch q.code=some a) (h1:a.kind=q.kind) (h2:a.basis=q.basis) (hd:∀j (hj:j<L.length),j<k->L[j].code≠q.code):fz ch L k=true:=by
 rw[od hk h,h1,h2];have:((L.take k).any λp=>p.code==q.code)=false:=by
  rw[List.any_eq_false];intro x hx;rw[List.mem_take_iff_getElem]at hx;obtain⟨j,hj,rfl⟩:=hx;simpa using hd j (by omega) (by omega)
 rw[this];simp
theorem L8 {ch:List ah} {L:List dp} {k j:Nat} {q:dp} {a:ah} (hk:L[k]? =some q) (h:aK ch q.code=some a) (hj:j<k) (hl:j<L.length) (he:L[j].code=q.code):fz ch L k=false:=by
 rw[od hk h];have:((L.take k).any λp=>p.code==q.code)=true:=by
  rw[List.any_eq_true];exact⟨L[j],by rw[List.mem_take_iff_getElem];exact⟨j,by omega,rfl⟩,by simpa using he⟩
 rw[this];simp
theorem PO (g:au) (cs:List Value) (w:World) (hg:aL w (·<w.heap.size) cs g) (hn:g.chart.length<=1000) (ft:g.currency.size<=1000):Calls Tryz.prog 165 #[.agg cs.toArray] w (ap w (.bool (cQ g.currency&&du g.calendar.year g.calendar.month g.calendar.periods&&bR g.chart g.roles))):=by
 have FP:=H_ hg;obtain⟨Ac,cc,Ae,ce,rfl,ee,iu,eu,mD⟩:=hg.lit;clear hg;obtain⟨aw,⟨y,m,p⟩,ch,⟨r0,r1,r2,r3,r4,r5,r6,r7,r8,r9,cw,cA,cy,ct,cz⟩,es⟩:=g;simp only at ft ee iu mD eu hn |-;obtain⟨r,hr⟩:=x_ ((cQ aw&&du y m p&&bR ch ⟨r0,r1,r2,r3,r4,r5,r6,r7,r8,r9,cw,cA,cy,ct,cz⟩));rw[hr];have HR:=H_ hr;have rC:=H_ hn;clear hr;obtain⟨L,hL⟩:=x_ (jM r0 r1 r2 r3 r4 r5 r6 r7 r8 r9 cw cA cy ct cz);have CI:L.length=15:=by rw[<-hL];rfl
 have tU:=H_ hL;have Bw:=H_ CI;obtain⟨n,bj⟩:=x_ (ch.length);obtain⟨ne,bT⟩:=x_ (es.length);have HL:=H_ ee;have HN:=H_ bj;have HE:=H_ iu;have eP:=H_ bT;rw[bj,bT];rw[bj]at hn;clear hL CI ee iu bj bT eu;have hrb:∀q∈L,cx q.code:=by
  rw[<-tU.o];obtain⟨b0,b1,b2,b3,b4,b5,b6,b7,b8,b9,b10,b11,b12,b13,b14⟩:=mD;intro q hq;simp only[jM,List.mem_cons,List.not_mem_nil,or_false]at hq;rcases hq with rfl|rfl|rfl|rfl|rfl|rfl|rfl|rfl|rfl|rfl|rfl|rfl|rfl|rfl|rfl<;>assumption
 have Ki:=H_ hrb;clear hrb mD;show Calls Tryz.prog 165 #[.agg #[aw,y,m,p,.slice Ac n cc,r0,r1,r2,r3,r4,r5,r6,r7,r8,r9,cw,cA,cy,ct,cz,.slice Ae ne ce]] w (ap w (.bool r));go_enter Tryz.func165,Tryz.ntmps165;go_upto_region 1 with fail;obtain⟨W,hW,H,HB,HS,ewx⟩:=B_ w (.cells #[aw,y,m,p,.slice Ac n cc,r0,r1,r2,r3,r4,r5,r6,r7,r8,r9,cw,cA,cy,ct,cz,.slice Ae ne ce] 29);rw[hW];clear ewx;clear hW;have d0:=ab H 0;have tw:=H_ (dO (cs:=fT aw y m p Ac n cc r0 r1 r2 r3 r4 r5 r6 r7 r8 r9 cw cA cy ct cz Ae ne ce) H);have yM:=H_ ((dO (cs:=[.string aw,.int .i64 y,.int .i64 m,.int .i64 p,.slice Ac n cc]++([.int .i64 r0,.int .i64 r1,.int .i64 r2,.int .i64 r3,.int .i64 r4,.int .i64 r5,.int .i64 r6,.int .i64 r7,.int .i64 r8,.int .i64 r9,.int .i64 cw,.int .i64 cA,.int .i64 cy,.int .i64 ct,.int .i64 cz]++[.slice Ae ne ce])) H).split.2.split.1);have rL:=H_ H;clear H;go_wp2_with fail;refine(th aw W ft).mono ?_;rintro e w2 ⟨rfl,aH⟩;have dA:=HB.trans (aH.mono HB.size);have dW:=aH.size;cases hc:cQ aw with
 |false=>
  have hf:=H_ (show r=false by rw[<-HR.o,hc];rfl);clear hc;go_wp2_with fail;go_ret;exact⟨hf.o.symm▸rfl,dA⟩
 |true=>
 have jG:=H_ hc;have G2:=(aH.block _ HS).trans rL.o;have e1:=ab G2 1;have e2:=ab G2 2;have e3:=ab G2 3;clear hc d0;go_wp2_with fail;refine(lz y m p w2).mono ?_;rintro e w3 ⟨rfl,aZ⟩;have Vs:=dA.trans (aZ.mono dA.size);have lE:=aZ.size;cases hc:du y m p with
 |false=>
  have hf:=H_ (show r=false by rw[<-HR.o,hc,Bool.and_false];rfl);clear hc;go_wp2_with fail;go_ret;exact⟨hf.o.symm▸rfl,Vs⟩
 |true=>
 have jv:=H_ hc;have G3:=(aZ.block _ (by omega)).trans G2;have e4:=ab G3 4;clear hc e1 e2 e3 G2;go_wp2_with fail;have aM:=pv ch Ac cc true w3 (az HL.o Vs) (by rw[HN.o];exact hn);rw[HN.o,<-vR]at aM;refine aM.mono ?_;clear aM;rintro e w4 ⟨rfl,bU⟩;have jE:=Vs.trans (bU.mono Vs.size);have yJ:=bU.size;cases hc:ej ch true with
 |false=>
  have hf:=H_ (show r=false by rw[<-HR.o];unfold bR;rw[hc];simp);clear hc;go_wp2_with fail;go_ret;exact⟨hf.o.symm▸rfl,jE⟩
 |true=>
 have kB:=H_ hc;have iX:=H_ ((bU.block _ (by omega)).trans G3);have zn:=H_ (aH.trans ((aZ.mono dW).trans (bU.mono (by omega))));clear hc e4 G3;go_wp2_with fail
 go_loopw [3] (λi wr=>∃k:Nat,k<=n/\i=.int .i64 (k:Int)/\Below w4.heap.size w4 wr/\∀j (hj:j<ch.length),j<k->cn ch[j]=true) (λi _=>n- (intOf i).toNat)
 case atStart=>exact⟨0,by omega,rfl,Below.refl _ _,λj hj h=>by omega⟩
 case round=>
  obtain⟨k,hk,rfl,hb,hall⟩:=hrel;have HA:=H_ hall;clear hall;have bP:=hb.size;have Fh:=jE.trans (hb.mono jE.size);have GR:=(hb.block w.heap.size (by omega)).trans iX.o;have e4:=ab GR 4;by_cases aU:k<n
  case pos=>
   have bq:(k:Int)< (n:Int):=by omega
   have bI:k<ch.length:=by rw[HN.o];exact aU
   clear GR;obtain⟨b,o,rz,dj,ed,bL,aS⟩:=aj.get HL.o k bI;subst dj;obtain⟨bE,eL,hb2',acW,ad1⟩:=ar.lit bL;rw[bE]at aS;obtain⟨ac,ni⟩:=x_ (ch[k]);rw[ni]at aS;have nH:=H_ ni;have eZ:=H_ ((aS.fr (Fr.ofBelow Fh)).range);clear bL bE aS ni eL hb2' acW ad1;go_wp2_with (refine w_ 36 78 35 b (o+k*4) (bn ac) eZ.o (cG _) Tryz.underlying78 ?_);refine(PN ac wr).mono ?_;rintro e w5 ⟨rfl,cP⟩;cases hp:cn ac with
   |false=>
    have hf:=H_ (show r=false by
     rw[<-HR.o];unfold bR;rw[List.all_eq_false.2 ⟨ac,by rw[<-nH.o];exact List.getElem_mem bI,by rw[hp];decide⟩];simp)
    clear hp;go_wp2_with fail;go_ret;exact⟨hf.o.symm▸rfl,Fh.trans (cP.mono Fh.size)⟩
   |true=>
    have HP:=H_ hp;clear hp;go_wp2_with fail;go_roundw
    case rel=>exact⟨k+1,by omega,by go_num,hb.trans (cP.mono hb.size),λj hj m7=>by
     rcases Nat.lt_or_ge j k with h|h
     ·exact HA.o j hj h
     ·have:j=k:=by omega
      subst this;rw[nH.o];exact HP.o⟩
    case measure=>first|exact aQ aU|(simp only[intOf];omega)
  case neg=>
   have bq:¬(k:Int)< (n:Int):=by omega
   have HD:=H_ (show ch.all cn=true by
    rw[List.all_eq_true];intro x hx;obtain⟨j,hj,rfl⟩:=List.getElem_of_mem hx;exact HA.o j hj (by have:=HN.o;omega))
   have sU:=H_ (((yM.o.fr (Fr.ofBelow zn.o)).fr ((Fr.ofBelow hb).mono (λk (hk:k<W.heap.size)=>by have:=zn.o.size;omega))).range);have HGW:=H_ GR;clear GR;go_wp2_with (refine w_ 40 26 39 w.heap.size 5 [r0,r1,r2,r3,r4,r5,r6,r7,r8,r9,cw,cA,cy,ct,cz] sU.o kI Tryz.underlying26 ?_);refine(EG r0 r1 r2 r3 r4 r5 r6 r7 r8 r9 cw cA cy ct cz wr).mono ?_;rintro e w5 ⟨v,rfl,⟨A,c,rfl⟩,Ge,cP⟩;rw[tU.o]at Ge;have FB:=H_ (show aj vH 5 w5 (λk=>wr.heap.size<=k/\k<w5.heap.size) [.slice A L.length c] L by rw[Bw.o];exact Ge);have QU:=cP.size;have nA:=H_ (Fh.trans (cP.mono Fh.size));have YG:=H_ ((cP.block _ (by omega)).trans HGW.o);have rH:=H_ ((((tw.o.fr (Fr.ofBelow zn.o)).fr ((Fr.ofBelow hb).mono (λk (hk:k<W.heap.size)=>by have:=zn.o.size;omega))).fr ((Fr.ofBelow cP).mono (λk (hk:k<W.heap.size)=>by have:=zn.o.size;omega))).mono (Q':=(·<w5.heap.size)) (λk (hk:k<W.heap.size)=>by have:=zn.o.size;omega));clear Ge e4;go_wp2_with fail
   go_loopw [5] (λi wr=>∃k:Nat,k<=15/\i=.int .i64 (k:Int)/\Below w5.heap.size w5 wr/\∀j,j<k->fz ch L j=true) (λi _=>15- (intOf i).toNat)
   case atStart=>exact⟨0,by omega,rfl,Below.refl _ _,λj hj=>by omega⟩
   case round=>
    rename_i K1 K2 K3 K4 K5 K6;obtain⟨k,hk,rfl,hb,hall⟩:=hrel;have HA:=H_ hall;clear hall;have bP:=hb.size;have go:=t_ nA hb;by_cases aU:k<15
    case pos=>
     have bq:(k:Int)<15:=by omega
     have bI:k<L.length:=by rw[Bw.o];exact aU
     obtain⟨b,o,dj,ed,kZ⟩:=aj.base FB.o (by omega);subst dj;obtain⟨rz,bL,aS⟩:=kZ k bI;have tM:=H_ kZ;obtain⟨q,hq⟩:=x_ (L[k]);have zO:=Ki.o _ (List.getElem_mem bI);rw[hq]at bL zO;have HQ:=H_ (show L[k]? =some q by rw[List.getElem?_eq_getElem bI,hq]);have zT:=H_ hq;obtain⟨qn,qc,qk,qb,qm⟩:=q;have M3:=H_ zO;obtain⟨abQ,aa7⟩:=zO;have bE:rz=[.string qn,.int .i64 qc,.int .i64 qk,.int .i64 qb,.bool qm]:=bL;subst bE;have dt:=aS.fr ((Fr.ofBelow hb).mono (λk hk=>hk.2));have KC:=H_ (dt.c (j:=1) rfl);have K2:=H_ (dt.c (j:=2) rfl);have K3:=H_ (dt.c (j:=3) rfl);have lU:=H_ (show b<wr.heap.size by have:=ed.2;omega);have Dh:=H_ ((rH.o.fr (Fr.ofBelow hb)).mono (Q':=(·<wr.heap.size)) (λk (hk:k<w5.heap.size)=>by omega));clear bL aS dt hq kZ;cases ha:aK ch qc with
     |none=>
      have HFV:=H_ (show cF ch qc=.tuple #[.agg #[(),(),(),()],false]from fJ ha);have hf:=H_ (show r=false by rw[<-HR.o,gM (r:=⟨r0,r1,r2,r3,r4,r5,r6,r7,r8,r9,cw,cA,cy,ct,cz⟩) (L:=L) tU.o bI (EO HQ.o ha),Bool.and_false]);clear ha;go_upto_region 12 with fail;refine cV 11 (λi=>i==9) (Ks wr [.val (.agg (fT aw y m p Ac n cc r0 r1 r2 r3 r4 r5 r6 r7 r8 r9 cw cA cy ct cz Ae ne ce).toArray),.val (.slice (some ⟨b,o,none⟩) 15 c),(k:Int),.val (.pointer (some ⟨b,o+k*5,none⟩)),.val (.pointer (some ⟨b,o+k*5+1,none⟩)),qc,.val (.tuple #[.agg #[(),(),(),()],false]),.val (.tuple #[.agg #[(),(),(),()],false]),.val (.agg #[(),(),(),()]),false,.own (cM wr #[.int .i64 0,.int .i64 0,.int .i64 0,.int .i64 0] 78) (cM.keep _ _ _)])
       (λw'=>Below wr.heap.size wr w') (Ks wr [.val (.agg (fT aw y m p Ac n cc r0 r1 r2 r3 r4 r5 r6 r7 r8 r9 cw cA cy ct cz Ae ne ce).toArray),.val (.slice (some ⟨b,o,none⟩) 15 c),(k:Int),.val (.pointer (some ⟨b,o+k*5,none⟩)),.val (.pointer (some ⟨b,o+k*5+1,none⟩)),qc,.val (.tuple #[.agg #[(),(),(),()],false]),.val (.tuple #[.agg #[(),(),(),()],false]),.val (.agg #[(),(),(),()]),false,.own (cM wr #[.int .i64 0,.int .i64 0,.int .i64 0,.int .i64 0] 78) (cM.keep _ _ _)])
       (λw'=>Below wr.heap.size wr w') K_ K_ K_ (by decide) K_ K_ K_ K_ rfl K_ _ rfl rfl (Below.refl _ _).drew ?_ ?_ ?_ ?_
      ·refine⟨?_,b_ (q_ 4),b_ (q_ 5),c_ (p_ 1 50) (p_ 2 51),b_ (p_ 3 52),e_ (p_ 4 53) λ_ h=>l_ h lU.o KC.o,?_,b_ (p_ 6 55),b_ (p_ 7 48),b_ (p_ 7 48),?_,trivial⟩
       ·refine O1_ (q_ 1) λA0 w2 K e0 hS hK=>?_;have aJ:w2.rangeAt w.heap.size 0 (fT aw y m p Ac n cc r0 r1 r2 r3 r4 r5 r6 r7 r8 r9 cw cA cy ct cz Ae ne ce):=(Dh.o.fr (Fr.ofBelow hS)).range;have aI:(Tryz.prog.info? 29).map (·.size)=some (fT aw y m p Ac n cc r0 r1 r2 r3 r4 r5 r6 r7 r8 r9 cw cA cy ct cz Ae ne ce).length:=ay;refine wp_load_mid 29 (.tmp 1) rfl _ _ (v_ e0) _ _ aJ Tryz.underlying29 rfl aI ?_;exact kq hK hS rfl
       ·refine O2_ (p_ 0 49) (p_ 5 54) λA0 w2 K e0 e1 hS hK=>?_;go_simp
        go_at_call 120
        refine(xR HN.o eP.o (aL.keep FP.o (go.o.trans (hS.mono go.o.size))) rC.o qc M3.o).mono ?_;rintro e w3 ⟨rfl,h3⟩;exact hK.out _ _ (hS.trans (h3.mono hS.size)) (Ks.of rfl HFV.o) (Ks.keep h3)
       ·refine O0_ λA0 w2 K hS hK=>?_;go_simp;exact hK.out _ _ (hS.alloc hS.size _) (Ks.of rfl (cM.made hS.size _ _)) (Ks.keep (ai w2 _))
      ·intro _ A0 w2 hI hall K hK;obtain⟨xp,gp,hp⟩:=hI.got 10 _ 6 rfl rfl (hall 10 (by decide) rfl);obtain⟨xv,gv,hv⟩:=hI.got 8 _ 56 rfl rfl (hall 8 (by decide) rfl);obtain⟨g,rfl,jy,f8⟩:=hp _ rfl;obtain rfl:xv=.agg #[(),(),(),()]:=hv _ rfl;have hS:=hI.world;refine aa rfl ?_;refine wp_store_row 78 (.tmp 6) (.tmp 56) rfl g #[(),(),(),()] (by simp[Act.eval,Array.getD_eq_getD_getElem?,gp]) (by simp[Act.eval,Array.getD_eq_getD_getElem?,gv]) 78 #[(),(),(),()] f8 (bX ⟨0,0,0,0⟩) rfl (by simp[Value.oneCell']) ?_;refine hK _ (aD hS jy _) ?_;intro i o d u hi ho hd hu hV;refine Ks.store (p:=10) (kn:=_) rfl hV (λDl=>?_);subst Dl;obtain rfl:_=o:=Option.some.inj ho;obtain rfl:_=d:=Option.some.inj hd;obtain rfl:_=u:=Option.some.inj (gp.symm.trans hu);exact⟨g,rfl,jy,aB f8 _⟩
      ·refine⟨o_,o_,o_,o_,o_,o_,o_,o_,o_,?_,o_,o_,trivial⟩
       ·intro _;intro _ A0 w2 hI hd hnd K hK;have e0:=hI.p hd 7 48;exact hI.z hK
      ·intro A0 w2 hI;have hS:=hI.world;have c9:=hI.cg [(0,49),(1,50),(2,51),(3,52),(4,53),(5,54),(6,55),(7,48),(8,56),(9,57),(10,6)] [7] j_;obtain⟨x0,x1,x2,x3,x4,x5,x6,x7,x8,x9,dN,y7,hA,hV⟩:=c9;obtain rfl:x8=.agg #[(),(),(),()]:=hV 8 _ _ _ rfl rfl _ rfl;obtain rfl:x9=.bool false:=hV 9 _ _ _ rfl rfl _ rfl;obtain⟨g,rfl,jy,f8⟩:=hV 10 _ _ _ rfl rfl _ rfl;clear hV hI;simp only[ba,List.foldl,List.setIfInBounds_toArray,List.set_cons_zero,List.set_cons_succ]at hA;rw[hA];clear hA;simp only[List.drop_succ_cons,List.drop_zero];have Dg:=H_ f8;have nA:=hS;have My:=hS.size;go_upto_region 13 with fail;have g1:=ab Dg.o 1;have g2:=ab Dg.o 2;have f2:=(nA.cell (p:=⟨b,o+k*5+2,none⟩) lU.o).trans K2.o;have f3:=(nA.cell (p:=⟨b,o+k*5+3,none⟩) lU.o).trans K3.o;have hw5:=go.o.trans (nA.mono go.o.size);clear f8;go_wp2_with fail;go_quiet (fail);go_wp2_with fail;go_ret;exact⟨hf.o.symm▸rfl,((Fr.ofBelow hw5).drewN _).below⟩
     |some pa=>
      have gc:=H_ ha;have Ya:=eD ha;clear ha;obtain⟨p1,p2,p3,p4⟩:=pa;have HFV:=H_ (show cF ch qc=.tuple #[.agg #[p1,p2,p3,p4],true]from Ya);clear Ya;go_upto_region 12 with fail;refine cV 11 (λi=>i==9) (Ks wr [.val (.agg (fT aw y m p Ac n cc r0 r1 r2 r3 r4 r5 r6 r7 r8 r9 cw cA cy ct cz Ae ne ce).toArray),.val (.slice (some ⟨b,o,none⟩) 15 c),(k:Int),.val (.pointer (some ⟨b,o+k*5,none⟩)),.val (.pointer (some ⟨b,o+k*5+1,none⟩)),qc,.val (.tuple #[.agg #[p1,p2,p3,p4],true]),.val (.tuple #[.agg #[p1,p2,p3,p4],true]),.val (.agg #[p1,p2,p3,p4]),true,.own (cM wr #[.int .i64 0,.int .i64 0,.int .i64 0,.int .i64 0] 78) (cM.keep _ _ _)])
       (λw'=>Below wr.heap.size wr w') (Ks wr [.val (.agg (fT aw y m p Ac n cc r0 r1 r2 r3 r4 r5 r6 r7 r8 r9 cw cA cy ct cz Ae ne ce).toArray),.val (.slice (some ⟨b,o,none⟩) 15 c),(k:Int),.val (.pointer (some ⟨b,o+k*5,none⟩)),.val (.pointer (some ⟨b,o+k*5+1,none⟩)),qc,.val (.tuple #[.agg #[p1,p2,p3,p4],true]),.val (.tuple #[.agg #[p1,p2,p3,p4],true]),.val (.agg #[p1,p2,p3,p4]),true,.own (cM wr #[.int .i64 p1,.int .i64 p2,.int .i64 p3,.int .i64 p4] 78) (cM.keep _ _ _)])
       (λw'=>Below wr.heap.size wr w') K_ K_ K_ (by decide) K_ K_ K_ K_ rfl K_ _ rfl rfl (Below.refl _ _).drew ?_ ?_ ?_ ?_
      ·refine⟨?_,b_ (q_ 4),b_ (q_ 5),c_ (p_ 1 50) (p_ 2 51),b_ (p_ 3 52),e_ (p_ 4 53) λ_ h=>l_ h lU.o KC.o,?_,b_ (p_ 6 55),b_ (p_ 7 48),b_ (p_ 7 48),?_,trivial⟩
       ·refine O1_ (q_ 1) λA0 w2 K e0 hS hK=>?_;have aJ:w2.rangeAt w.heap.size 0 (fT aw y m p Ac n cc r0 r1 r2 r3 r4 r5 r6 r7 r8 r9 cw cA cy ct cz Ae ne ce):=(Dh.o.fr (Fr.ofBelow hS)).range;have aI:(Tryz.prog.info? 29).map (·.size)=some (fT aw y m p Ac n cc r0 r1 r2 r3 r4 r5 r6 r7 r8 r9 cw cA cy ct cz Ae ne ce).length:=ay;refine wp_load_mid 29 (.tmp 1) rfl _ _ (v_ e0) _ _ aJ Tryz.underlying29 rfl aI ?_;exact kq hK hS rfl
       ·refine O2_ (p_ 0 49) (p_ 5 54) λA0 w2 K e0 e1 hS hK=>?_;go_simp
        go_at_call 120
        refine(xR HN.o eP.o (aL.keep FP.o (go.o.trans (hS.mono go.o.size))) rC.o qc M3.o).mono ?_;rintro e w3 ⟨rfl,h3⟩;exact hK.out _ _ (hS.trans (h3.mono hS.size)) (Ks.of rfl HFV.o) (Ks.keep h3)
       ·refine O0_ λA0 w2 K hS hK=>?_;go_simp;exact hK.out _ _ (hS.alloc hS.size _) (Ks.of rfl (cM.made hS.size _ _)) (Ks.keep (ai w2 _))
      ·intro _ A0 w2 hI hall K hK;obtain⟨xp,gp,hp⟩:=hI.got 10 _ 6 rfl rfl (hall 10 (by decide) rfl);obtain⟨xv,gv,hv⟩:=hI.got 8 _ 56 rfl rfl (hall 8 (by decide) rfl);obtain⟨g,rfl,jy,f8⟩:=hp _ rfl;obtain rfl:xv=.agg #[p1,p2,p3,p4]:=hv _ rfl;have hS:=hI.world;refine aa rfl ?_;refine wp_store_row 78 (.tmp 6) (.tmp 56) rfl g #[p1,p2,p3,p4] (by simp[Act.eval,Array.getD_eq_getD_getElem?,gp]) (by simp[Act.eval,Array.getD_eq_getD_getElem?,gv]) 78 #[(),(),(),()] f8 (bX ⟨p1,p2,p3,p4⟩) rfl (by simp[Value.oneCell']) ?_;refine hK _ (aD hS jy _) ?_;intro i o d u hi ho hd hu hV;refine Ks.store (p:=10) (kn:=_) rfl hV (λDl=>?_);subst Dl;obtain rfl:_=o:=Option.some.inj ho;obtain rfl:_=d:=Option.some.inj hd;obtain rfl:_=u:=Option.some.inj (gp.symm.trans hu);exact⟨g,rfl,jy,aB f8 _⟩
      ·refine⟨o_,o_,o_,o_,o_,o_,o_,o_,o_,?_,o_,o_,trivial⟩
       ·intro _;intro _ A0 w2 hI hd hnd K hK;have e0:=hI.p hd 7 48;exact hI.z hK
      ·intro A0 w2 hI;have hS:=hI.world;have c9:=hI.cg [(0,49),(1,50),(2,51),(3,52),(4,53),(5,54),(6,55),(7,48),(8,56),(9,57),(10,6)] [7] j_;obtain⟨x0,x1,x2,x3,x4,x5,x6,x7,x8,x9,dN,y7,hA,hV⟩:=c9;obtain rfl:x8=.agg #[p1,p2,p3,p4]:=hV 8 _ _ _ rfl rfl _ rfl;obtain rfl:x9=.bool true:=hV 9 _ _ _ rfl rfl _ rfl;obtain⟨g,rfl,jy,f8⟩:=hV 10 _ _ _ rfl rfl _ rfl;clear hV hI;simp only[ba,List.foldl,List.setIfInBounds_toArray,List.set_cons_zero,List.set_cons_succ]at hA;rw[hA];clear hA;simp only[List.drop_succ_cons,List.drop_zero];have Dg:=H_ f8;have nA:=hS;have My:=hS.size;go_upto_region 13 with fail;have g1:=ab Dg.o 1;have g2:=ab Dg.o 2;have f2:=(nA.cell (p:=⟨b,o+k*5+2,none⟩) lU.o).trans K2.o;have f3:=(nA.cell (p:=⟨b,o+k*5+3,none⟩) lU.o).trans K3.o;have hw5:=go.o.trans (nA.mono go.o.size);clear f8;by_cases h1:p2=qk
       case neg=>
        have h1':(p2 !=qk)=true:=by simpa using h1
        have hf:=H_ (show r=false by rw[<-HR.o,gM (r:=⟨r0,r1,r2,r3,r4,r5,r6,r7,r8,r9,cw,cA,cy,ct,cz⟩) (L:=L) tU.o bI (by rw[od HQ.o gc.o,show(p2==qk)=false from by simpa using h1];rfl),Bool.and_false]);go_wp2_with fail;go_quiet (fail);go_wp2_with fail;go_ret;exact⟨hf.o.symm▸rfl,((Fr.ofBelow hw5).drewN _).below⟩
       case pos=>
       have h1':(p2 !=qk)=false:=by simpa using h1
       by_cases h2:p3=qb
       case neg=>
        have h2':(p3 !=qb)=true:=by simpa using h2
        have hf:=H_ (show r=false by rw[<-HR.o,gM (r:=⟨r0,r1,r2,r3,r4,r5,r6,r7,r8,r9,cw,cA,cy,ct,cz⟩) (L:=L) tU.o bI (by rw[od HQ.o gc.o,show(p3==qb)=false from by simpa using h2,Bool.and_false];rfl),Bool.and_false]);go_wp2_with fail;go_quiet (fail);go_wp2_with fail;go_ret;exact⟨hf.o.symm▸rfl,((Fr.ofBelow hw5).drewN _).below⟩
       case pos=>
       have h2':(p3 !=qb)=false:=by simpa using h2
       go_wp2_with fail;go_quiet (fail);generalize mC:w2.drewN _=W6;have dK:=H_ (show Below wr.heap.size wr W6 from mC▸((Fr.ofBelow nA).drewN _).below);clear mC;have abD:=dK.o.size;go_wp2_with fail
       go_loopw [8] (λi wi=>∃j:Nat,j<=k/\i=.int .i64 (j:Int)/\Below W6.heap.size W6 wi/\∀j' (hj:j'<L.length),j'<j->L[j'].code≠qc) (λi _=>k- (intOf i).toNat)
       case atStart=>exact⟨0,by omega,rfl,Below.refl _ _,λj hj h=>by omega⟩
       case round=>
        obtain⟨j,hj,rfl,m4,sT⟩:=hrel;have Qy:=H_ sT;clear sT;have hsi:=m4.size;have Bn:=H_ (dK.o.trans (m4.mono abD));by_cases m7:j<k
        case pos=>
         have Nm:(j:Int)< (k:Int):=by omega
         have aeZ:(j:Int)<15:=by omega
         have vn:j<L.length:=by rw[Bw.o];omega
         obtain⟨MJ,iy,dt⟩:=tM.o j vn;obtain⟨q2,lc⟩:=x_ (L[j]);rw[lc]at iy;have HQ2:=H_ lc;obtain⟨jn,jc,jk,jb,jm⟩:=q2;have qp:MJ=[.string jn,.int .i64 jc,.int .i64 jk,.int .i64 jb,.bool jm]:=iy;subst qp;have c1:=(dt.fr ((Fr.ofBelow (hb.trans (Bn.o.mono bP))).mono (λk hk=>hk.2))).c (j:=1) rfl;have c2:=(Bn.o.cell (p:=⟨b,o+k*5+1,none⟩) lU.o).trans KC.o;clear iy dt lc;by_cases he:jc=qc
         case pos=>
          have he':(jc==qc)=true:=by simpa using he
          have hf:=H_ (show r=false by rw[<-HR.o,gM (r:=⟨r0,r1,r2,r3,r4,r5,r6,r7,r8,r9,cw,cA,cy,ct,cz⟩) (L:=L) tU.o bI (L8 HQ.o gc.o m7 vn (by rw[HQ2.o];exact he)),Bool.and_false]);clear he;go_wp2_with fail;go_quiet (fail);go_wp2_with fail;go_ret;exact⟨hf.o.symm▸rfl,((Fr.ofBelow (go.o.trans (Bn.o.mono go.o.size))).drewN _).below⟩
         case neg=>
          have he':(jc==qc)=false:=by simpa using he
          have Oj:=H_ he;clear he;go_wp2_with fail;go_quiet (fail);go_wp2_with fail;go_roundw
          case rel=>exact⟨j+1,by omega,by go_num,((Fr.ofBelow m4).drewN _).below,λj' hj' hjj=>by
           rcases Nat.lt_or_ge j' j with h|h
           ·exact Qy.o j' hj' h
           ·have:j'=j:=by omega
            subst this;rw[HQ2.o];exact Oj.o⟩
          case measure=>first|exact aQ m7|(simp only[intOf];omega)
        case neg=>
         have Nm:¬(j:Int)< (k:Int):=by omega
         have afi:j=k:=by omega
         have R5:=H_ (show fz ch L k=true from L7 HQ.o gc.o h1 h2 (λj' hj' ad8=>Qy.o j' hj' (by omega)));go_wp2_with fail;go_roundw
         case rel=>exact⟨k+1,by omega,by go_num,hb.trans (Bn.o.mono bP),λi hi=>by
          rcases Nat.lt_or_ge i k with h|h
          ·exact HA.o i h
          ·have:i=k:=by omega
           subst this;exact R5.o⟩
         case measure=>first|exact aQ aU|(simp only[intOf];omega)
    case neg=>
     have bq:¬(k:Int)<15:=by omega
     have hf:=H_ (show r=true by rw[<-HR.o,jG.o,jv.o,I0 (r:=⟨r0,r1,r2,r3,r4,r5,r6,r7,r8,r9,cw,cA,cy,ct,cz⟩) (L:=L) tU.o kB.o HD.o (λj hj=>HA.o j (by have:=Bw.o;omega))];rfl);go_wp2_with fail;go_ret;exact⟨hf.o.symm▸rfl,go.o⟩
theorem G8 {ec ch:List ah} {ls:List bu} {k j:Nat} {l:bu} (hk:ls[k]? =some l) (hj:j<k) (hl:j<ls.length) (h1:ls[j].from_=l.from_) (h3:ls[j].since=l.since):gF ec ch ls k=false:=by
 rw[kK hk];have:((ls.take k).any λk=>k.from_==l.from_&&k.since==l.since)=true:=by
  rw[List.any_eq_true];exact⟨ls[j],by rw[List.mem_take_iff_getElem];exact⟨j,by omega,rfl⟩,by simp[h1,h3]⟩
 rw[this];simp
theorem LF {ec ch:List ah} {ls:List bu} {k:Nat} {l:bu} (hk:ls[k]? =some l) (hb:n0 ec ch l=true) (h:∀j (hl:j<ls.length),j<k->¬(ls[j].from_=l.from_/\ls[j].since=l.since)):gF ec ch ls k=true:=by
 rw[kK hk,hb];have:((ls.take k).any λk=>k.from_==l.from_&&k.since==l.since)=false:=by
  rw[List.any_eq_false];intro x hx;rw[List.mem_take_iff_getElem]at hx;obtain⟨j,hj,rfl⟩:=hx;simpa using h j (by omega) (by omega)
 rw[this];rfl
theorem rf {ec ch:List ah} {ls:List bu} {k:Nat} {l:bu} (hk:ls[k]? =some l) (hb:n0 ec ch l=false):gF ec ch ls k=false:=by rw[kK hk,hb];rfl
theorem EK (s cu:ByteArray) (Ac Al Ah:Option Addr) (n m nl cc cl hc:Nat) (jo:Bool) (ec ch:List ah) (ls:List bu) (w:World) (hN:ec.length=n) (hM:ch.length=m) (Ok:ls.length=nl) (sN:aj ar 4 w (·<w.heap.size) [.slice Ac ec.length cc] ec) (lP:aj bJ 3 w (·<w.heap.size) [.slice Al ls.length cl] ls) (ee:aj ar 4 w (·<w.heap.size) [.slice Ah ch.length hc] ch) (hn:ec.length<=1000) (hm:ch.length<=1000) (bj:ls.length<=1000):
 Calls Tryz.prog 203 #[.agg (lH s cu Ac n cc Al nl cl jo).toArray,.slice Ah m hc] w (ap w (.bool (kb ec ch ls))):=by
 obtain⟨r,hr⟩:=x_ (kb ec ch ls);rw[hr];have HR:=H_ hr;have vo:=H_ (λ(w2:World) (hb:Below w.heap.size w w2)=>EU hM (az ee hb) hm true);have HV2:=H_ (λ(w2:World) (hb:Below w.heap.size w w2)=>EU hN (az sN hb) hn false);have kU:=H_ (λ(w2:World) (hb:Below w.heap.size w w2) (c:Int) (hc:cx c) {o:ah} {s:Bool} (ho:gH (aK ec c)=o) (hs:(aK ec c).isSome=s)=>ve hN (az sN hb) hn c hc ho hs);have kV:=H_ (λ(w2:World) (hb:Below w.heap.size w w2) (c:Int) (hc:cx c) {o:ah} {s:Bool} (ho:gH (aK ch c)=o) (hs:(aK ch c).isSome=s)=>ve hM (az ee hb) hm c hc ho hs);have sV:=H_ lP;have jz:=H_ Ok;rw[Ok]at bj;clear hr sN ee hN hM lP Ok hn hm;show Calls Tryz.prog 203 #[.agg #[s,cu,.slice Ac n cc,.slice Al nl cl,jo],.slice Ah m hc] w (ap w (.bool r));go_enter Tryz.func203,Tryz.ntmps203;go_upto_region 1 with fail;obtain⟨W,hW,H,HB,HS,ewx⟩:=B_ w (.cells #[s,cu,.slice Ac n cc,.slice Al nl cl,jo] 74);rw[hW];clear ewx;clear hW;have HH:=H_ H;clear H;go_wp2_with fail;refine(vo.o W HB).mono ?_;rintro e w2 ⟨rfl,aH⟩;have aF:=HB.trans (aH.mono HB.size);cases fP:ej ch true with
 |false=>
  have hf:=H_ (show r=false by rw[<-HR.o];unfold kb;rw[fP];rfl);go_wp2_with fail;go_ret;exact⟨hf.o.symm▸rfl,aF⟩
 |true=>
 have jG:=H_ fP;have G2:=(aH.block _ HS).trans HH.o;have e2:=ab G2 2;have dW:=aH.size;clear fP;go_wp2_with fail;refine(HV2.o w2 aF).mono ?_;rintro e w3 ⟨rfl,aZ⟩;have aR:=aF.trans (aZ.mono aF.size);have lE:=aZ.size;have G3:=(aZ.block _ (by omega)).trans G2;have e3:=ab G3 3;clear e2 G2;cases gn:ej ec false with
 |false=>
  have hf:=H_ (show r=false by rw[<-HR.o];unfold kb;rw[gn,Bool.and_false];rfl);go_wp2_with fail;go_ret;exact⟨hf.o.symm▸rfl,aR⟩
 |true=>
 have jv:=H_ gn;clear gn;by_cases rJ:nl<=400
 case neg=>
  have FS_:(400:Int)< (nl:Int):=by omega
  have hf:=H_ (show r=false by rw[<-HR.o];unfold kb;rw[jz.o,decide_eq_false rJ,Bool.and_false];rfl);go_wp2_with fail;go_ret;exact⟨hf.o.symm▸rfl,aR⟩
 case pos=>
 have FS_:¬(400:Int)< (nl:Int):=by omega
 have IG:=H_ G3;clear G3;go_wp2_with fail
 go_loopw [5] (λi wr=>∃k:Nat,k<=nl/\i=.int .i64 (k:Int)/\Below w3.heap.size w3 wr/\∀j,j<k->gF ec ch ls j=true) (λi _=>nl- (intOf i).toNat)
 case atStart=>exact⟨0,by omega,rfl,Below.refl _ _,λj hj=>by omega⟩
 case round=>
  obtain⟨k,hk,rfl,hb,hall⟩:=hrel;have HA:=H_ hall;have bP:=hb.size;clear hall e3;have el:=aR.trans (hb.mono aR.size);have ER:=(hb.block w.heap.size (by omega)).trans IG.o;have e3:=ab ER 3;by_cases aU:k<nl
  case pos=>
   have bq:(k:Int)< (nl:Int):=by omega
   have bI:k<ls.length:=by rw[jz.o];exact aU
   obtain⟨b,o,dj,ed,kZ⟩:=aj.base sV.o (by omega);subst dj;obtain⟨rz,bL,aS⟩:=kZ k bI;have tM:=H_ kZ;obtain⟨bE,hlb⟩:=bJ.lit bL;obtain⟨l,hl⟩:=x_ (ls[k]);rw[hl]at bE hlb;have HL:=H_ (show ls[k]? =some l by rw[List.getElem?_eq_getElem bI,hl]);obtain⟨o1,Mt⟩:∃o,gH (aK ec l.from_)=o:=⟨_,rfl⟩;obtain⟨s1,tC⟩:∃s,(aK ec l.from_).isSome=s:=⟨_,rfl⟩;obtain⟨o2,CC⟩:∃o,gH (aK ch l.to_)=o:=⟨_,rfl⟩;obtain⟨s2,dW⟩:∃s,(aK ch l.to_).isSome=s:=⟨_,rfl⟩;have jD:=H_ (Em Mt tC CC dW);obtain⟨l1,l2,l3⟩:=l;subst bE;obtain⟨b1,b2,b3⟩:=hlb;simp only at b1 b2 b3 Mt tC CC dW;have FI:=H_ (λ(w2:World) (hb:Below w.heap.size w w2)=>kU.o w2 hb l1 b1 Mt tC);have JX:=H_ (λ(w2:World) (hb:Below w.heap.size w w2)=>kV.o w2 hb l2 b2 CC dW);have eZ:=H_ ((aS.fr (Fr.ofBelow el)).range);clear bL aS hl kZ b1 b2 Mt tC CC dW;go_upto_region 7 with(refine w_ 38 154 37 b (o+k*3) [l1,l2,l3] eZ.o dE Tryz.underlying154 ?_);obtain⟨W6,mC,H6,dK,my,ewx⟩:=B_ wr (.cells #[l1,l2,l3] 154);rw[mC];replace ER:=(dK.block _ (ag ER)).trans ER;clear ewx;clear mC;have MV:=dK.size;have fi:=el.trans (dK.mono el.size);have e2:=ab ER 2;have f0:=ab H6 0;have Y9:=H_ H6;have yK:=H_ ER;clear H6 ER e3;go_wp2_with fail;refine(FI.o W6 fi).mono ?_;rintro e w7 ⟨rfl,fC⟩;have QN:=fC.size;have J7:=dK.trans (fC.mono dK.size);have K7:=(fC.block _ my).trans Y9.o;obtain⟨p1,p2,p3,p4⟩:=o1;go_upto_region 8 with fail
   obtain⟨W8,Q6,H8,o9,XW,ewx⟩:=B_ w7 (.cells #[p1,p2,p3,p4] 78);rw[Q6];replace K7:=(o9.block _ (ag K7)).trans K7;clear ewx;clear Q6;have QC:=o9.size;have Bt:=J7.trans (o9.mono J7.size);have kw:=el.trans (Bt.mono el.size);have f1:=ab K7 1;have HK8:=H_ K7;have HP8:=H_ H8;clear K7 H8 e2 f0;go_wp2_with fail;refine(JX.o W8 kw).mono ?_;rintro e w9 ⟨rfl,kT⟩;have hs9:=kT.size;have aaz:=Bt.trans (kT.mono Bt.size);have K9:=(kT.block _ (by omega)).trans HK8.o;have P9:=(kT.block _ (by omega)).trans HP8.o;obtain⟨q1,q2,q3,q4⟩:=o2;go_upto_region 9 with fail;obtain⟨W10,adO,H10,Ox,ae7,ewx⟩:=B_ w9 (.cells #[q1,q2,q3,q4] 78);rw[adO];replace K9:=(Ox.block _ (ag K9)).trans K9;replace P9:=(Ox.block _ (ag P9)).trans P9;clear ewx;clear adO;have afb:=Ox.size;have Ny:=aaz.trans (Ox.mono aaz.size);have CY:=el.trans (Ny.mono el.size);have f2:=ab K9 2;have g1:=ab P9 1;have k1:=ab H10 1;have acy:=H_ K9;clear K9 P9 H10 f1;cases s1 with
   |false=>
    have hf:=H_ (show r=false by rw[<-HR.o];exact kL bI (rf HL.o (by rw[jD.o];rfl)));go_wp2_with fail;go_ret;exact⟨hf.o.symm▸rfl,CY⟩
   |true=>
   cases s2 with
   |false=>
    have hf:=H_ (show r=false by rw[<-HR.o];exact kL bI (rf HL.o (by rw[jD.o];rfl)));go_wp2_with fail;go_ret;exact⟨hf.o.symm▸rfl,CY⟩
   |true=>
   by_cases h1:p2=q2
   case neg=>
    have h1':(p2 !=q2)=true:=by simpa using h1
    have hf:=H_ (show r=false by rw[<-HR.o];exact kL bI (rf HL.o (by rw[jD.o];simp[h1])));go_wp2_with fail;go_ret;exact⟨hf.o.symm▸rfl,CY⟩
   case pos=>
   have h1':(p2 !=q2)=false:=by simpa using h1
   have HLD:=H_ (show n0 ec ch ⟨l1,l2,l3⟩=decide (inD l3) by rw[jD.o,h1];simp);obtain⟨d,hd⟩:=x_ (decide (inD l3));have aM:=mt l3 W10;rw[hd]at aM;have HD:=H_ hd;clear hd;go_wp2_with fail;refine aM.mono ?_;clear aM;rintro e w11 ⟨rfl,Np⟩;have aeS:=Np.size;have VH:=Ny.trans (Np.mono Ny.size);have NA:=CY.trans (Np.mono CY.size);cases d with
   |false=>
    have hf:=H_ (show r=false by rw[<-HR.o];exact kL bI (rf HL.o (HLD.o.trans HD.o)));go_wp2_with fail;go_ret;exact⟨hf.o.symm▸rfl,NA⟩
   |true=>
   have K11:=H_ ((Np.block _ (by omega)).trans acy.o);have E11:=H_ (((fC.trans ((o9.mono QN).trans ((kT.mono (by omega)).trans ((Ox.mono (by omega)).trans (Np.mono (by omega)))))).block _ (by omega)).trans yK.o);clear f2 g1 k1;go_wp2_with fail
   go_loopw [11] (λi wi=>∃j:Nat,j<=k/\i=.int .i64 (j:Int)/\Below w11.heap.size w11 wi/\∀j' (hl:j'<ls.length),j'<j->¬(ls[j'].from_=l1/\ls[j'].since=l3)) (λi _=>k- (intOf i).toNat)
   case atStart=>exact⟨0,by omega,rfl,Below.refl _ _,λj hj h=>by omega⟩
   case round=>
    obtain⟨j,hj,rfl,m4,sT⟩:=hrel;have Qy:=H_ sT;have hsi:=m4.size;clear sT;have Rj:=NA.trans (m4.mono NA.size);by_cases m7:j<k
    case pos=>
     have Nm:(j:Int)< (k:Int):=by omega
     have aeX:(j:Int)< (nl:Int):=by omega
     have vn:j<ls.length:=by rw[jz.o];omega
     obtain⟨MJ,iy,dt⟩:=tM.o j vn;obtain⟨qp,_⟩:=bJ.lit iy;obtain⟨x2,hx2⟩:=x_ (ls[j]);rw[hx2]at qp;have Fv:=H_ hx2;obtain⟨j1,j2,j3⟩:=x2;subst qp;have rK:=dt.fr (Fr.ofBelow Rj);have c0:=rK.c (j:=0) rfl;have c2:=rK.c (j:=2) rfl;rw[Nat.add_zero]at c0;have KI:=(m4.block _ (by omega)).trans K11.o;have EI:=(m4.block _ (by omega)).trans E11.o;have f0:=ab KI 0;have f2:=ab KI 2;have e3:=ab EI 3;clear iy dt rK hx2 KI EI;by_cases ha:j1=l1
     case neg=>
      have ha':(j1==l1)=false:=by simpa using ha
      have rN:=H_ (show ¬(j1=l1/\j3=l3)from λh=>ha h.1);clear ha;go_wp2_with fail;go_quiet (fail);go_wp2_with fail;go_roundw
      case rel=>exact⟨j+1,by omega,by go_num,((Fr.ofBelow m4).drewN _).below,λj' hj' hjj=>by
       rcases Nat.lt_or_ge j' j with h|h
       ·exact Qy.o j' hj' h
       ·have:j'=j:=by omega
        subst this;rw[Fv.o];exact rN.o⟩
      case measure=>first|exact aQ m7|(simp only[intOf];omega)
     case pos=>
     have ha':(j1==l1)=true:=by simpa using ha
     by_cases ot:j3=l3
     case neg=>
      have hc':(j3==l3)=false:=by simpa using ot
      have rN:=H_ (show ¬(j1=l1/\j3=l3)from λh=>ot h.2);clear ha ot;go_wp2_with fail;go_quiet (fail);go_wp2_with fail;go_roundw
      case rel=>exact⟨j+1,by omega,by go_num,((Fr.ofBelow m4).drewN _).below,λj' hj' hjj=>by
       rcases Nat.lt_or_ge j' j with h|h
       ·exact Qy.o j' hj' h
       ·have:j'=j:=by omega
        subst this;rw[Fv.o];exact rN.o⟩
      case measure=>first|exact aQ m7|(simp only[intOf];omega)
     case pos=>
      have hc':(j3==l3)=true:=by simpa using ot
      have hf:=H_ (show r=false by rw[<-HR.o];exact kL bI (G8 HL.o m7 vn (by rw[Fv.o];exact ha) (by rw[Fv.o];exact ot)));clear ha ot;go_wp2_with fail;go_quiet (fail);go_wp2_with fail;go_ret;exact⟨hf.o.symm▸rfl,((Fr.ofBelow Rj).drewN _).below⟩
    case neg=>
     have Nm:¬(j:Int)< (k:Int):=by omega
     have R5:=H_ (show gF ec ch ls k=true from LF HL.o (HLD.o.trans HD.o) (λj' Vh ad8=>Qy.o j' Vh (by omega)));go_wp2_with fail;go_roundw
     case rel=>exact⟨k+1,by omega,by go_num,hb.trans ((VH.trans (m4.mono VH.size)).mono bP),λi hi=>by
      rcases Nat.lt_or_ge i k with h|h
      ·exact HA.o i h
      ·have:i=k:=by omega
       subst this;exact R5.o⟩
     case measure=>first|exact aQ aU|(simp only[intOf];omega)
  case neg=>
   have bq:¬(k:Int)< (nl:Int):=by omega
   have hf:=H_ (show r=true by
    rw[<-HR.o];unfold kb pV;rw[jG.o,jv.o,jz.o,decide_eq_true rJ,bQ (λj hj=>HA.o j (by omega))];rfl)
   go_wp2_with fail;go_ret;exact⟨hf.o.symm▸rfl,el⟩
theorem EL {e:aV} {ch:List ah} {Ac Al Ah:Option Addr} {n m nl cc cl hc:Nat} {w:World} (hN:e.chart.length=n) (hM:ch.length=m) (Ok:e.links.length=nl) (sN:aj ar 4 w (·<w.heap.size) [.slice Ac e.chart.length cc] e.chart) (lP:aj bJ 3 w (·<w.heap.size) [.slice Al e.links.length cl] e.links) (ee:aj ar 4 w (·<w.heap.size) [.slice Ah ch.length hc] ch) (hn:e.chart.length<=1000) (hm:ch.length<=1000) (bj:e.links.length<=1000) (w2:World) (hb:Below w.heap.size w w2):
 Calls Tryz.prog 203 #[.agg (lH e.name e.currency Ac n cc Al nl cl e.joint).toArray,.slice Ah m hc] w2 (ap w2 (.bool (kb e.chart ch e.links))):=
 EK e.name e.currency Ac Al Ah n m nl cc cl hc e.joint e.chart ch e.links w2 hN hM Ok (az sN hb) (pW lP hb) (az ee hb) hn hm bj
theorem OV {ch:List ah} {L:List dp} {e:aV} (h:lw e.name=false):dP ch L e=false:=by unfold dP;rw[h];simp
theorem SN {ch:List ah} {L:List dp} {e:aV} (h:cQ e.currency=false):dP ch L e=false:=by unfold dP;rw[h];simp
theorem SO {ch:List ah} {L:List dp} {e:aV} (h:kb e.chart ch e.links=false):dP ch L e=false:=by unfold dP;rw[show n8 e ch=kb e.chart ch e.links from rfl,h];simp
theorem OU {ch:List ah} {L:List dp} {e:aV} {k:Nat} {l:bu} (hk:e.links[k]? =some l) (h:fS L l.to_=true):dP ch L e=false:=by
 unfold dP;obtain⟨hl,rfl⟩:=List.getElem?_eq_some_iff.1 hk;rw[List.all_eq_false.2 ⟨e.links[k],List.getElem_mem hl,by rw[h];decide⟩,Bool.and_false]
theorem SM {ch:List ah} {L:List dp} {e:aV} (h1:lw e.name=true) (h2:cQ e.currency=true) (h3:kb e.chart ch e.links=true) (h:∀k (hk:k<e.links.length),fS L e.links[k].to_=false):dP ch L e=true:=by
 unfold dP;rw[h1,h2,show n8 e ch=kb e.chart ch e.links from rfl,h3,List.all_eq_true.2 (λx hx=>by
  obtain⟨k,hk,rfl⟩:=List.getElem_of_mem hx;rw[h k hk];rfl)]
 rfl
theorem ald {L:List dp} {c:Int} {j:Nat} (hj:j<L.length) (h1:L[j].code=c) (h2:L[j].mapped=false):fS L c=true:=by
 unfold fS;rw[List.any_eq_true];exact⟨L[j],List.getElem_mem hj,by simp[h1,h2]⟩
theorem La {L:List dp} {c:Int} (h:∀j (hj:j<L.length),¬(L[j].code=c/\L[j].mapped=false)):fS L c=false:=by
 unfold fS;rw[List.any_eq_false];intro x hx;obtain⟨j,hj,rfl⟩:=List.getElem_of_mem hx;have:=h j hj;simp only[Bool.and_eq_true,beq_iff_eq,Bool.not_eq_true'];exact this
theorem LV (g:au) (cs:List Value) (x:aV) (xs:List Value) (w:World) (hg:aL w (·<w.heap.size) cs g) (hx:aN w (·<w.heap.size) xs x) (hn:g.chart.length<=1000) (oO:x.chart.length<=1000) (bj:x.links.length<=1000) (tC:x.name.size<=1000) (dW:x.currency.size<=1000):Calls Tryz.prog 167 #[.agg cs.toArray,.agg xs.toArray] w (ap w (.bool (dP g.chart (cY g.roles) x))):=by
 obtain⟨r,hr⟩:=x_ (dP g.chart (cY g.roles) x);rw[hr];have HR:=H_ hr;clear hr;obtain⟨Ac,cc,Ae,ce,rfl,ee,iu,eu,mD⟩:=hg.lit;clear hg;obtain⟨aw,⟨y,m,p⟩,ch,⟨r0,r1,r2,r3,r4,r5,r6,r7,r8,r9,cw,cA,cy,ct,cz⟩,es⟩:=g;simp only at ee iu mD eu hn |-;obtain⟨Ec,c2,Al,cl,rfl,sN,kZ⟩:=hx.lit;clear hx;obtain⟨L,hL⟩:=x_ (jM r0 r1 r2 r3 r4 r5 r6 r7 r8 r9 cw cA cy ct cz);have CI:L.length=15:=by rw[<-hL];rfl
 have tU:=H_ hL;have Bw:=H_ CI;obtain⟨n,zR⟩:=x_ (ch.length);obtain⟨ne,bT⟩:=x_ (es.length);have HL:=H_ ee;have HN:=H_ zR;have HE:=H_ iu;have eP:=H_ bT;rw[zR,bT];rw[zR]at hn;clear hL CI ee iu zR bT eu;clear mD;rw[show cY ⟨r0,r1,r2,r3,r4,r5,r6,r7,r8,r9,cw,cA,cy,ct,cz⟩=L from tU.o]at HR;obtain⟨n2,FN⟩:∃n,x.chart.length=n:=⟨_,rfl⟩;obtain⟨nl,Bu⟩:∃n,x.links.length=n:=⟨_,rfl⟩;have Fj:=H_ (EL FN HN.o Bu sN kZ HL.o oO (by rw[HN.o];exact hn) bj);have Cz:=H_ kZ;have jz:=H_ Bu;rw[FN,Bu];obtain⟨s,cu,ec,ls,jo⟩:=x;simp only at HR Fj Cz jz tC dW bj |-;have aeW:nl<=1000:=by rw[<-jz.o];exact bj
 clear sN kZ FN Bu oO bj;show Calls Tryz.prog 167 #[.agg #[aw,y,m,p,.slice Ac n cc,r0,r1,r2,r3,r4,r5,r6,r7,r8,r9,cw,cA,cy,ct,cz,.slice Ae ne ce],.agg #[s,cu,.slice Ec n2 c2,.slice Al nl cl,jo]] w (ap w (.bool r));go_enter Tryz.func167,Tryz.ntmps167;go_upto_region 1 with fail;obtain⟨W,hW,H,HB,HS,ewx⟩:=B_ w (.cells #[aw,y,m,p,.slice Ac n cc,r0,r1,r2,r3,r4,r5,r6,r7,r8,r9,cw,cA,cy,ct,cz,.slice Ae ne ce] 29);rw[hW];clear ewx;obtain⟨W2,fR,H2,dz,jK,ewx⟩:=B_ W (.cells #[s,cu,.slice Ec n2 c2,.slice Al nl cl,jo] 74);rw[fR];replace H:=(dz.block _ (ag H)).trans H;clear ewx;clear fR;have eW:W.heap.size=w.heap.size+1:=by rw[<-hW];simp
 rw[eW]at H2;clear hW;have aH:=HB.trans (dz.mono HB.size);have hs2':=dz.size;have f0:=ab H2 0;have yM:=H_ ((dO (cs:=[.string aw,.int .i64 y,.int .i64 m,.int .i64 p,.slice Ac n cc]++([.int .i64 r0,.int .i64 r1,.int .i64 r2,.int .i64 r3,.int .i64 r4,.int .i64 r5,.int .i64 r6,.int .i64 r7,.int .i64 r8,.int .i64 r9,.int .i64 cw,.int .i64 cA,.int .i64 cy,.int .i64 ct,.int .i64 cz]++[.slice Ae ne ce])) H).split.2.split.1);have HH:=H_ H;have dn:=H_ H2;have lV:=ag H2;clear H H2;go_wp2_with fail;refine(Tq s W2 tC).mono ?_;rintro e w3 ⟨rfl,aZ⟩;have aR:=aH.trans (aZ.mono aH.size);have lE:=aZ.size;cases fP:lw s with
 |false=>
  have hf:=H_ (show r=false by rw[<-HR.o];exact OV fP);go_wp2_with fail;go_ret;exact⟨hf.o.symm▸rfl,aR⟩
 |true=>
 have jG:=H_ fP;have E3:=(aZ.block _ lV).trans dn.o;have f1:=ab E3 1;clear fP f0;go_wp2_with fail;refine(th cu w3 dW).mono ?_;rintro e wC ⟨rfl,MF⟩;have Ba:=aR.trans (MF.mono aR.size);have hsC:=MF.size;cases gn:cQ cu with
 |false=>
  have hf:=H_ (show r=false by rw[<-HR.o];exact SN gn);go_wp2_with fail;go_ret;exact⟨hf.o.symm▸rfl,Ba⟩
 |true=>
 have jv:=H_ gn;have zA:=H_ ((MF.block _ (by omega)).trans E3);have GC:=(MF.block _ (by omega)).trans ((aZ.block _ (by omega)).trans HH.o);have d4:=ab GC 4;have eE:=H_ (Fj.o wC Ba);clear gn f1 E3 GC;go_wp2_with (refine W_ 19 74 3 (w.heap.size+1) zA.o cD Tryz.underlying74 ?_);refine eE.o.mono ?_;rintro e w4 ⟨rfl,bU⟩;have bD:=Ba.trans (bU.mono Ba.size);have yJ:=bU.size;clear d4;cases ot:kb ec ch ls with
 |false=>
  have hf:=H_ (show r=false by rw[<-HR.o];exact SO ot);go_wp2_with fail;go_ret;exact⟨hf.o.symm▸rfl,bD⟩
 |true=>
 have kB:=H_ ot;have Fo:=H_ ((bU.block _ (by omega)).trans zA.o);have qy:=H_ ((yM.o.fr (Fr.ofBelow (aZ.trans ((MF.mono lE).trans (bU.mono (by omega)))))).range);clear ot;go_wp2_with (refine w_ 26 26 25 w.heap.size 5 [r0,r1,r2,r3,r4,r5,r6,r7,r8,r9,cw,cA,cy,ct,cz] qy.o kI Tryz.underlying26 ?_);refine(EG r0 r1 r2 r3 r4 r5 r6 r7 r8 r9 cw cA cy ct cz w4).mono ?_;rintro e w5 ⟨v,rfl,⟨A,c,rfl⟩,Ge,cP⟩;rw[tU.o]at Ge;have FB:=H_ (show aj vH 5 w5 (λk=>w4.heap.size<=k/\k<w5.heap.size) [.slice A L.length c] L by rw[Bw.o];exact Ge);have QU:=cP.size;have jE:=bD.trans (cP.mono bD.size);have rW:=H_ ((cP.block _ (by omega)).trans Fo.o);clear Ge;obtain⟨b,o,dj,ed,aaO⟩:=aj.base FB.o (by rw[Bw.o];omega);subst dj;have acq:=H_ aaO;clear aaO;go_wp2_with fail
 go_loopw [6] (λi wr=>∃k:Nat,k<=nl/\i=.int .i64 (k:Int)/\Below w5.heap.size w5 wr/\∀i (hi:i<ls.length),i<k->fS L ls[i].to_=false) (λi _=>nl- (intOf i).toNat)
 case atStart=>exact⟨0,by omega,rfl,Below.refl _ _,λj hj h=>by omega⟩
 case round=>
  obtain⟨k,hk,rfl,hb,hall⟩:=hrel;have HA:=H_ hall;have bP:=hb.size;clear hall;have el:=jE.trans (hb.mono jE.size);have ER:=(hb.block (w.heap.size+1) (by omega)).trans rW.o;have e3:=ab ER 3;by_cases aU:k<nl
  case pos=>
   have bq:(k:Int)< (nl:Int):=by omega
   have bI:k<ls.length:=by rw[jz.o];exact aU
   obtain⟨bl,ol,rz,dj,zD,bL,aS⟩:=aj.get Cz.o k bI;subst dj;obtain⟨bE,_⟩:=bJ.lit bL;obtain⟨l,hl⟩:=x_ (ls[k]);rw[hl]at bE;have adf:=H_ (show ls[k]? =some l by rw[List.getElem?_eq_getElem bI,hl]);have HLG:=H_ hl;obtain⟨l1,l2,l3⟩:=l;subst bE;have pb:=H_ ((aS.fr (Fr.ofBelow el)).c (j:=1) rfl);have Rv:=H_ ER;have LT:=H_ (show bl<w.heap.size from zD);clear bL aS hl zD ER;go_wp2_with fail
   go_loopw [7] (λi wi=>∃j:Nat,j<=15/\i=.int .i64 (j:Int)/\Below wr.heap.size wr wi/\∀j' (hl:j'<L.length),j'<j->¬(L[j'].code=l2/\L[j'].mapped=false)) (λi _=>15- (intOf i).toNat)
   case atStart=>exact⟨0,by omega,rfl,Below.refl _ _,λj hj h=>by omega⟩
   case round=>
    obtain⟨j,hj,rfl,m4,sT⟩:=hrel;have Qy:=H_ sT;have hsi:=m4.size;clear sT;have Rj:=el.trans (m4.mono el.size);by_cases m7:j<15
    case pos=>
     have Nm:(j:Int)<15:=by omega
     have vn:j<L.length:=by rw[Bw.o];exact m7
     obtain⟨MJ,iy,dt⟩:=acq.o j vn;obtain⟨q,hq⟩:=x_ (L[j]);rw[hq]at iy;have HQ:=H_ hq;obtain⟨qn,qc,qk,qb,qm⟩:=q;have qp:MJ=[.string qn,.int .i64 qc,.int .i64 qk,.int .i64 qb,.bool qm]:=iy;subst qp;have rK:=(dt.fr ((Fr.ofBelow (hb.trans (m4.mono bP))).mono (λk hk=>hk.2)));have c1:=rK.c (j:=1) rfl;have c4:=rK.c (j:=4) rfl;have cl1:=(m4.cell (p:=⟨bl,ol+k*3+1,none⟩) (by have:=LT.o;have:=el.size;show bl<_;omega)).trans pb.o;have EI:=(m4.block _ (by omega)).trans Rv.o;have e3:=ab EI 3;clear iy dt rK hq EI;by_cases ha:qc=l2
     case neg=>
      have ha':(l2==qc)=false:=by simpa using λe:l2=qc=>ha e.symm
      have rN:=H_ (show ¬(qc=l2/\qm=false)from λh=>ha h.1);clear ha;go_wp2_with fail;go_quiet (fail);go_wp2_with fail;go_roundw
      case rel=>exact⟨j+1,by omega,by go_num,((Fr.ofBelow m4).drewN _).below,λj' hj' hjj=>by
       rcases Nat.lt_or_ge j' j with h|h
       ·exact Qy.o j' hj' h
       ·have:j'=j:=by omega
        subst this;rw[HQ.o];exact rN.o⟩
      case measure=>first|exact aQ m7|(simp only[intOf];omega)
     case pos=>
     have ha':(l2==qc)=true:=by simpa using ha.symm
     cases qm with
     |true=>
      have rN:=H_ (show ¬(qc=l2/\true=false)from λh=>by cases h.2);clear ha;go_wp2_with fail;go_quiet (fail);go_wp2_with fail;go_roundw
      case rel=>exact⟨j+1,by omega,by go_num,((Fr.ofBelow m4).drewN _).below,λj' hj' hjj=>by
       rcases Nat.lt_or_ge j' j with h|h
       ·exact Qy.o j' hj' h
       ·have:j'=j:=by omega
        subst this;rw[HQ.o];exact rN.o⟩
      case measure=>first|exact aQ m7|(simp only[intOf];omega)
     |false=>
      have hf:=H_ (show r=false by rw[<-HR.o];exact OU adf.o (ald vn (by rw[HQ.o];exact ha) (by rw[HQ.o])));clear ha;go_wp2_with fail;go_quiet (fail);go_wp2_with fail;go_ret;exact⟨hf.o.symm▸rfl,((Fr.ofBelow Rj).drewN _).below⟩
    case neg=>
     have Nm:¬(j:Int)<15:=by omega
     have R5:=H_ (show fS L l2=false from La (λj' Vh=>Qy.o j' Vh (by have:=Bw.o;omega)));go_wp2_with fail;go_roundw
     case rel=>exact⟨k+1,by omega,by go_num,hb.trans (m4.mono bP),λi hi TG=>by
      rcases Nat.lt_or_ge i k with h|h
      ·exact HA.o i hi h
      ·have:i=k:=by omega
       subst this;rw[HLG.o];exact R5.o⟩
     case measure=>first|exact aQ aU|(simp only[intOf];omega)
  case neg=>
   have bq:¬(k:Int)< (nl:Int):=by omega
   have hf:=H_ (show r=true by rw[<-HR.o];exact SM jG.o jv.o kB.o (λj hj=>HA.o j hj (by have:=jz.o;simp only at hj;omega)));go_wp2_with fail;go_ret;exact⟨hf.o.symm▸rfl,el⟩
end Go.Proofs.YtibiddakakgakaaGreat
