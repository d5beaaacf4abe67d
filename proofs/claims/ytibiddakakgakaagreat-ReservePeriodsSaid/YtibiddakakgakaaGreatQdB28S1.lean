/- slices.ContainsFunc over links; group.entity. Written by gen_b28.py. -/
import Derived.Test.YtibiddakakgakaaGreatQdB17B27
set_option linter.unusedVariables false
set_option linter.unusedSimpArgs false
set_option maxRecDepth 4000
attribute [local go_sem ↓] Go.wp_at_zero Go.wp_at_succ
set_option maxHeartbeats 16000000
namespace Go.Proofs.YtibiddakakgakaaGreat
section
open Go Go.RowKit
theorem OO (l:bu) (hl:mM l) (g bm N:Nat) (F:Int->Bool) (w:World) (hg:w.heap[g]? =some (.cells #[.map (some bm)] 218 (0,0))) (fD:KM w bm N F):Calls Tryz.prog 187 #[.agg (eI l).toArray,.pointer (some ⟨g,0,none⟩)] w (ap w (.bool (F l.to_))):=by
 obtain⟨l1,l2,l3⟩:=l;have dz:=H_ hl.2.1;clear hl;obtain⟨v,hv⟩:=x_ (F l2);show Calls Tryz.prog 187 #[.agg #[l1,l2,l3],.pointer (some ⟨g,0,none⟩)] w (ap w (.bool (F l2)));rw[hv];have HV:=H_ hv;clear hv;go_enter Tryz.func187,Tryz.ntmps187;go_upto_region 1 with fail;obtain⟨W,hW,H,HB,HS,ewx⟩:=B_ w (.cells #[l1,l2,l3] 154);rw[hW];replace hg:=(HB.block _ (ag hg)).trans hg;clear ewx;clear hW;have d1:=ab H 1;have e0:=ab hg 0;have IN:=fD.below HB;clear fD H hg;go_wp2_with (at_lookup;refine bO rfl _ _ 218 rfl 3 4 dI gx de (dU _) bm N F rfl IN _ l2 rfl (gD dz.o) ?_);go_ret;exact⟨by rw[HV.o];first|done|rfl,HB⟩
theorem Zy (l:List bu) (A:Option Addr) (c:Nat) (g bm N:Nat) (F:Int->Bool) (w:World) (hg:w.heap[g]? =some (.cells #[.map (some bm)] 218 (0,0))) (fD:KM w bm N F) (hl:aj bJ 3 w (·<w.heap.size) [.slice A l.length c] l) (hn:l.length<=1000):Calls Tryz.prog 215 #[.slice A l.length c,.func (.func 187) #[] #[.pointer (some ⟨g,0,none⟩)]] w (ap w (.int .i64 (iB (λa=>F a.to_) l))):=by
 obtain⟨r,hr⟩:=x_ (iB (λa=>F a.to_) l);rw[hr];have HR:=H_ hr;clear hr;obtain⟨n,bj⟩:=x_ (l.length);rw[bj]at hn;have HL:=H_ hl;have HG:=H_ hg;have adU:=H_ fD;have HN:=H_ bj;rw[bj];clear hl bj hg fD;go_enter Tryz.func215,Tryz.ntmps215;go_wp2_with fail
 go_loopw [8] (λi wr=>∃k:Nat,k<=n/\i=.int .i64 (k:Int)/\Below w.heap.size w wr/\∀j (hj:j<l.length),j<k->F l[j].to_=false) (λi _=>n- (intOf i).toNat)
 case atStart=>exact⟨0,by omega,rfl,Below.refl _ _,λj hj h=>by omega⟩
 case round=>
  obtain⟨k,hk,rfl,hb,hall⟩:=hrel;have HA:=H_ hall;clear hall;have bP:=hb.size;by_cases aU:k<n
  case pos=>
   have bq:(k:Int)< (n:Int):=by omega
   have bI:k<l.length:=by rw[HN.o];exact aU
   obtain⟨b,o,es,dj,ed,bL,aS⟩:=aj.get HL.o k bI;subst dj;obtain⟨bE,hlb⟩:=bJ.lit bL;rw[bE]at aS;obtain⟨ac,ni⟩:=x_ (l[k]);rw[ni]at aS hlb;have jD:=H_ hlb;have nH:=H_ ni;have eZ:=H_ ((aS.fr (Fr.ofBelow hb)).range);have gR:=(hb.block g (ag HG.o)).trans HG.o;have sR:=adU.o.below hb;clear bL bE aS ni hlb;go_wp2_with (refine w_ 15 154 14 b (o+k*3) (eI ac) eZ.o dE Tryz.underlying154 ?_);refine(OO ac jD.o g bm N F wr gR sR).mono ?_;rintro e w2 ⟨rfl,aH⟩;have dA:=hb.trans (aH.mono hb.size);cases hp:F ac.to_ with
   |true=>
    have hf:=H_ (show r=(k:Int) by rw[<-HR.o];exact nW bI (by rw[nH.o];exact hp) (λj hj m7=>HA.o j hj m7));clear hp;go_wp2_with fail;go_ret;exact⟨hf.o.symm▸rfl,dA⟩
   |false=>
    have HP:=H_ hp;clear hp;go_wp2_with fail;go_roundw
    case rel=>exact⟨k+1,by omega,by go_num,dA,λj hj m7=>by
     rcases Nat.lt_or_ge j k with h|h
     ·exact HA.o j hj h
     ·have:j=k:=by omega
      subst this;rw[nH.o];exact HP.o⟩
    case measure=>
     have e:wrap64 ((k:Int)+1)=((k+1:Nat):Int):=by unfold wrap64;omega
     simp only[intOf,e];omega
  case neg=>
   have bq:¬(k:Int)< (n:Int):=by omega
   have hf:=H_ (show r= -1 by rw[<-HR.o];exact mf (λj hj=>HA.o j hj (by have:=HN.o;omega)));go_wp2_with fail;go_ret;exact⟨hf.o.symm▸rfl,hb⟩
theorem Zh (l:List bu) (A:Option Addr) (c:Nat) (g bm N:Nat) (F:Int->Bool) (w:World) (hg:w.heap[g]? =some (.cells #[.map (some bm)] 218 (0,0))) (fD:KM w bm N F) (hl:aj bJ 3 w (·<w.heap.size) [.slice A l.length c] l) (hn:l.length<=1000):Calls Tryz.prog 186 #[.slice A l.length c,.func (.func 187) #[] #[.pointer (some ⟨g,0,none⟩)]] w (ap w (.bool (l.any λa=>F a.to_))):=by
 have aM:=Zy l A c g bm N F w hg fD hl hn;obtain⟨n,bj⟩:=x_ (l.length);rw[bj]at aM |-;have hh:decide (0<=iB (λa=>F a.to_) l)=(l.any λa=>F a.to_):=by rw[Jh]
 obtain⟨i,hi⟩:=x_ (iB (λa=>F a.to_) l);rw[hi]at aM hh;clear fD hg;rw[<-hh];clear hh hi;go_enter Tryz.func186,Tryz.ntmps186;go_wp2_with fail;refine aM.mono ?_;clear aM;rintro e w2 ⟨rfl,aH⟩;by_cases h:0<=i
 ·have hf:decide (0<=i)=true:=decide_eq_true h;have HF:=H_ hf;clear hf;go_wp2_with fail;go_ret;exact⟨by rw[HF.o];first|done|rfl,aH⟩
 ·have hf:decide (0<=i)=false:=decide_eq_false h;have HF:=H_ hf;clear hf;go_wp2_with fail;go_ret;exact⟨by rw[HF.o];first|done|rfl,aH⟩
theorem Hc {e:aV} {ch:List ah} {Ac Al Ah:Option Addr} {n m nl cc cl hc:Nat} {w:World} (hN:e.chart.length=n) (hM:ch.length=m) (Ok:e.links.length=nl) (sN:aj ar 4 w (·<w.heap.size) [.slice Ac e.chart.length cc] e.chart) (lP:aj bJ 3 w (·<w.heap.size) [.slice Al e.links.length cl] e.links) (ee:aj ar 4 w (·<w.heap.size) [.slice Ah ch.length hc] ch) (hn:e.chart.length<=1000) (hm:ch.length<=1000) (bj:e.links.length<=1000) (w2:World) (hb:Below w.heap.size w w2):
 Calls Tryz.prog 185 #[.agg (lH e.name e.currency Ac n cc Al nl cl e.joint).toArray,.slice Ah m hc] w2 (ap w2 (.bool (kb e.chart ch e.links))):=
 Hb e.name e.currency Ac Al Ah n m nl cc cl hc e.joint e.chart ch e.links w2 hN hM Ok (az sN hb) (pW lP hb) (az ee hb) hn hm bj
def tH (ch:List ah) (L:List dp) (e:aV):Bool:=lw e.name&&(cQ e.currency&&(kb e.chart ch e.links&&!(e.links.any λl=>iT L l.to_)))
theorem OW (g:au) (cs:List Value) (x:aV) (xs:List Value) (w:World) (hg:aL w (·<w.heap.size) cs g) (hx:aN w (·<w.heap.size) xs x) (hn:g.chart.length<=1000) (oO:x.chart.length<=1000) (bj:x.links.length<=1000) (tC:x.name.size<=1000) (dW:x.currency.size<=1000):Calls Tryz.prog 147 #[.agg cs.toArray,.agg xs.toArray] w (ap w (.bool (tH g.chart (cY g.roles) x))):=by
 have Iz:=@run_makeMap Tryz.prog;have hmf:∀(fn:Fn) (first cap:Array Value) (w:World),(Instr.makeFunc fn first cap).run Tryz.prog w=.ok (.func fn first cap) w:=λ_ _ _ _=>rfl
 obtain⟨r,hr⟩:=x_ (tH g.chart (cY g.roles) x);rw[hr];have HR:=H_ hr;clear hr;obtain⟨Ac,cc,Ae,ce,rfl,ee,iu,eu,mD⟩:=hg.lit;clear hg;obtain⟨aw,⟨y,m,p⟩,ch,⟨r0,r1,r2,r3,r4,r5,r6,r7,r8,r9,cw,cA,cy,ct,cz⟩,es⟩:=g;simp only at ee iu mD eu hn |-;obtain⟨Ec,c2,Al,cl,rfl,sN,kZ⟩:=hx.lit;clear hx;obtain⟨L,hL⟩:=x_ (jM r0 r1 r2 r3 r4 r5 r6 r7 r8 r9 cw cA cy ct cz);have CI:L.length=15:=by rw[<-hL];rfl
 have tU:=H_ hL;have Bw:=H_ CI;obtain⟨n,zR⟩:=x_ (ch.length);obtain⟨ne,bT⟩:=x_ (es.length);have HL:=H_ ee;have HN:=H_ zR;have HE:=H_ iu;have eP:=H_ bT;rw[zR,bT];rw[zR]at hn;clear hL CI ee iu zR bT eu;have hrb:∀q∈L,cx q.code:=by
  rw[<-tU.o];obtain⟨b0,b1,b2,b3,b4,b5,b6,b7,b8,b9,b10,b11,b12,b13,b14⟩:=mD;intro q hq;simp only[jM,List.mem_cons,List.not_mem_nil,or_false]at hq;rcases hq with rfl|rfl|rfl|rfl|rfl|rfl|rfl|rfl|rfl|rfl|rfl|rfl|rfl|rfl|rfl<;>assumption
 have Ki:=H_ hrb;clear hrb mD;obtain⟨n2,FN⟩:∃n,x.chart.length=n:=⟨_,rfl⟩;obtain⟨nl,Bu⟩:∃n,x.links.length=n:=⟨_,rfl⟩;have Fj:=H_ (Hc FN HN.o Bu sN kZ HL.o oO (by rw[HN.o];exact hn) bj);have Cz:=H_ kZ;have jz:=H_ Bu;rw[FN,Bu];obtain⟨s,cu,ec,ls,jo⟩:=x;simp only at HR Fj Cz jz tC dW bj |-;have RB:=H_ bj;clear bj;clear sN kZ FN Bu oO;show Calls Tryz.prog 147 #[.agg #[aw,y,m,p,.slice Ac n cc,r0,r1,r2,r3,r4,r5,r6,r7,r8,r9,cw,cA,cy,ct,cz,.slice Ae ne ce],.agg #[s,cu,.slice Ec n2 c2,.slice Al nl cl,jo]] w (ap w (.bool r));go_enter Tryz.func147,Tryz.ntmps147;go_upto_region 1 with fail;obtain⟨W,hW,H,HB,HS,ewx⟩:=B_ w (.cells #[aw,y,m,p,.slice Ac n cc,r0,r1,r2,r3,r4,r5,r6,r7,r8,r9,cw,cA,cy,ct,cz,.slice Ae ne ce] 29);rw[hW];clear ewx;obtain⟨W2,fR,H2,dz,jK,ewx⟩:=B_ W (.cells #[s,cu,.slice Ec n2 c2,.slice Al nl cl,jo] 74);rw[fR];replace H:=(dz.block _ (ag H)).trans H;clear ewx;clear fR;have eW:W.heap.size=w.heap.size+1:=by rw[<-hW];simp
 rw[eW]at H2;clear hW;have aH:=HB.trans (dz.mono HB.size);have hs2':=dz.size;have f0:=ab H2 0;have yM:=H_ ((dO (cs:=[.string aw,.int .i64 y,.int .i64 m,.int .i64 p,.slice Ac n cc]++([.int .i64 r0,.int .i64 r1,.int .i64 r2,.int .i64 r3,.int .i64 r4,.int .i64 r5,.int .i64 r6,.int .i64 r7,.int .i64 r8,.int .i64 r9,.int .i64 cw,.int .i64 cA,.int .i64 cy,.int .i64 ct,.int .i64 cz]++[.slice Ae ne ce])) H).split.2.split.1);have HH:=H_ H;have dn:=H_ H2;have lV:=ag H2;clear H H2;go_wp2_with fail;refine(ZE s W2 tC).mono ?_;rintro e w3 ⟨rfl,aZ⟩;have aR:=aH.trans (aZ.mono aH.size);have lE:=aZ.size;cases fP:lw s with
 |false=>
  have hf:=H_ (show r=false by rw[<-HR.o];unfold tH;simp only[fP];rfl);go_wp2_with fail;go_ret;exact⟨hf.o.symm▸rfl,aR⟩
 |true=>
 have jG:=H_ fP;have E3:=(aZ.block _ lV).trans dn.o;have f1:=ab E3 1;clear fP f0;go_wp2_with fail;refine(vX cu w3 dW).mono ?_;rintro e wC ⟨rfl,MF⟩;have Ba:=aR.trans (MF.mono aR.size);have hsC:=MF.size;cases gn:cQ cu with
 |false=>
  have hf:=H_ (show r=false by rw[<-HR.o];unfold tH;simp only[gn];simp);go_wp2_with fail;go_ret;exact⟨hf.o.symm▸rfl,Ba⟩
 |true=>
 have jv:=H_ gn;have zA:=H_ ((MF.block _ (by omega)).trans E3);have GC:=(MF.block _ (by omega)).trans ((aZ.block _ (by omega)).trans HH.o);have d4:=ab GC 4;have eE:=H_ (Fj.o wC Ba);clear gn f1 E3 GC;go_wp2_with (refine W_ 19 74 3 (w.heap.size+1) zA.o cD Tryz.underlying74 ?_);refine eE.o.mono ?_;rintro e w4 ⟨rfl,bU⟩;have bD:=Ba.trans (bU.mono Ba.size);have yJ:=bU.size;clear d4;cases ot:kb ec ch ls with
 |false=>
  have hf:=H_ (show r=false by rw[<-HR.o];unfold tH;simp only[ot];simp);go_wp2_with fail;go_ret;exact⟨hf.o.symm▸rfl,bD⟩
 |true=>
 have kB:=H_ ot;have G4:=(bU.block _ (by omega)).trans ((MF.block _ (by omega)).trans ((aZ.block _ (by omega)).trans HH.o));have E4:=(bU.block _ (by omega)).trans zA.o;clear ot;go_upto_region 4 with fail;have CO:=pd.made Tryz.prog 3 4 qV w4;have nA:=ai w4 (.map #[] 0);have My:w4.heap.size+1=(w4.alloc (.map #[] 0)).heap.size:=by simp
 replace G4:=al G4 (.map #[] 0);replace E4:=al E4 (.map #[] 0);generalize XI:w4.alloc (Obj.map #[] 0)=W5 at*;obtain⟨W6,mC,H6,dK,my,ewx⟩:=B_ W5 (.cells #[.map (some w4.heap.size)] 218);rw[mC];replace G4:=(dK.block _ (ag G4)).trans G4;replace E4:=(dK.block _ (ag E4)).trans E4;clear ewx;clear mC;clear XI;have jP:=CO.below dK;have MV:=dK.size;have Kl:=H_ ((yM.o.fr (Fr.ofBelow (aZ.trans ((MF.mono lE).trans ((bU.mono (by omega)).trans ((nA.mono (by omega)).trans (dK.mono (by omega)))))))).range);have HG6:=H_ G4;have yK:=H_ E4;have HV6:=H_ H6;have fi:=bD.trans ((nA.mono bD.size).trans (dK.mono (by omega)));clear G4 E4 H6 CO;go_wp2_with (refine w_ 27 26 26 w.heap.size 5 [r0,r1,r2,r3,r4,r5,r6,r7,r8,r9,cw,cA,cy,ct,cz] Kl.o kI Tryz.underlying26 ?_);refine(JB r0 r1 r2 r3 r4 r5 r6 r7 r8 r9 cw cA cy ct cz W6).mono ?_;rintro e w5 ⟨v,rfl,⟨A,c,rfl⟩,Ge,cP⟩;rw[tU.o]at Ge;have FB:=H_ (show aj vH 5 w5 (λk=>W6.heap.size<=k/\k<w5.heap.size) [.slice A L.length c] L by rw[Bw.o];exact Ge);have QU:=cP.size;have jE:=fi.trans (cP.mono fi.size);have Oe:=jP.below cP;have YG:=H_ ((cP.block _ (by omega)).trans HG6.o);have rW:=H_ ((cP.block _ (by omega)).trans yK.o);have HV5:=H_ ((cP.block _ (by omega)).trans HV6.o);clear Ge jP;go_wp2_with fail
 go_loopw [30] (λi wr=>∃k:Nat,k<=15/\i=.int .i64 (k:Int)/\Fr (QX w5.heap.size w4.heap.size) w5 wr/\KM wr w4.heap.size k (iT (L.take k))) (λi _=>15- (intOf i).toNat)
 case atStart=>exact⟨0,by omega,rfl,Fr.refl _ _,Oe.eqv (λ_=>rfl)⟩
 case round=>
  obtain⟨k,hk,rfl,lM,fD⟩:=hrel;have HF:=H_ lM;have bP:=lM.size;clear lM;have el:Below w.heap.size w wr:=((Fr.ofBelow jE).trans (HF.o.mono (λk (hk:k<w.heap.size)=>⟨by omega,by omega⟩))).below;have VR:=(HF.o.block W5.heap.size ⟨by omega,by omega⟩).trans HV5.o;by_cases aU:k<15
  case pos=>
   have bq:(k:Int)<15:=by omega
   have bI:k<L.length:=by rw[Bw.o];exact aU
   obtain⟨b,o,rz,dj,ed,bL,aS⟩:=aj.get FB.o k bI;subst dj;obtain⟨q,hq⟩:=x_ (L[k]);have zO:=Ki.o _ (List.getElem_mem bI);rw[hq]at bL zO;have HQ:=H_ hq;obtain⟨qn,qc,qk,qb,qm⟩:=q;have M3:=H_ zO;obtain⟨abQ,aa7⟩:=zO;have bE:rz=[.string qn,.int .i64 qc,.int .i64 qk,.int .i64 qb,.bool qm]:=bL;subst bE;have eZ:=H_ ((aS.fr (HF.o.mono (λk hk=>⟨hk.2,by omega⟩))).range);obtain⟨F,hF⟩:=x_ (iT (L.take k));rw[hF]at fD;have kV:=H_ hF;clear bL aS hq hF ed;go_upto_region 7 with(refine w_ 33 222 32 b (o+k*5) [qn,qc,qk,qb,qm] eZ.o Ax Tryz.underlying222 ?_);obtain⟨W7,F8,H7,em,HS7,ewx⟩:=B_ wr (.cells #[qn,qc,qk,qb,qm] 222);rw[F8];replace VR:=(em.block _ (ag VR)).trans VR;clear ewx;clear F8;have rr1:=ab H7 1;have rr4:=ab H7 4;have v0:=ab VR 0;have jP:=fD.below em;clear H7 VR fD;go_wp2_with (at_mapUpdate;refine dV rfl _ _ _ 218 rfl 3 4 dI gx de w4.heap.size k F rfl jP (by simp only[maxLen];omega) qW nV _ qc rfl (!qm) rfl (gD M3.o) ?_;intro w9 qG gk;replace qG:=H_ qG);go_roundw
   case rel=>
    refine⟨k+1,by omega,by go_num,?_,?_⟩
    ·exact(HF.o.trans ((Fr.ofBelow em).mono (λk hk=>by have:=hk.1;omega))).grown gk (λk hk=>hk.1) (λj hj=>by injection hj with hj;exact λh=>h.2 hj.symm)
    ·exact qG.o.eqv (λd=>by rw[tc bI,HQ.o,kV.o])
   case measure=>first|exact aQ aU|(simp only[intOf];omega)
  case neg=>
   have bq:¬(k:Int)<15:=by omega
   have aaN:L.take k=L:=List.take_of_length_le (by rw[Bw.o];omega);rw[aaN]at fD;have ER:=(HF.o.block (w.heap.size+1) ⟨by omega,by omega⟩).trans rW.o;have e3:=ab ER 3;obtain⟨F,hF⟩:=x_ (iT L);rw[hF]at fD;have aM:=Zh ls Al cl W5.heap.size w4.heap.size k F wr VR fD (pW Cz.o el) RB.o;rw[jz.o]at aM;obtain⟨v,hv⟩:=x_ ((ls.any λa=>F a.to_));rw[hv]at aM;have sU:=H_ (show r= !v by
    rw[<-HR.o];unfold tH;simp only[jG.o,jv.o,kB.o,Bool.true_and];rw[show cY ⟨r0,r1,r2,r3,r4,r5,r6,r7,r8,r9,cw,cA,cy,ct,cz⟩=L from tU.o,hF,hv])
   have X6:=H_ aM;clear aM fD hv hF ER VR aaN;go_wp2_with fail;refine X6.o.mono ?_;rintro e wZ ⟨rfl,hbZ⟩;go_wp2_with fail;go_ret;exact⟨by rw[sU.o];first|done|rfl,el.trans (hbZ.mono el.size)⟩
end
section
open Go Go.RowKit
open Go.Maps (Keyed)
def sF (e:aV):Prop:=e.chart.length<=1000/\e.links.length<=1000/\e.name.size<=1000/\e.currency.size<=1000
def dQ (g:au):Prop:=g.chart.length<=1000/\g.entities.length<=1000/\g.currency.size<=1000/\∀e∈g.entities,sF e
theorem OX {aw:ByteArray} {y m p:Int} {Ac Ae:Option Addr} {cc ce n ne:Nat} {ch:List ah} {es:List aV} {r0 r1 r2 r3 r4 r5 r6 r7 r8 r9 cw cA cy ct cz:Int} (hN:ch.length=n) (hE:es.length=ne) {w:World} (hg:aL w (·<w.heap.size) (fT aw y m p Ac ch.length cc r0 r1 r2 r3 r4 r5 r6 r7 r8 r9 cw cA cy ct cz Ae es.length ce) ⟨aw,⟨y,m,p⟩,ch,⟨r0,r1,r2,r3,r4,r5,r6,r7,r8,r9,cw,cA,cy,ct,cz⟩,es⟩) (hn:ch.length<=1000)
 {s cu:ByteArray} {ec:List ah} {ls:List bu} {jo:Bool} {Ec Al:Option Addr} {c2 cl n2 nl:Nat} (h2:ec.length=n2) (h3:ls.length=nl) (hx:aN w (·<w.heap.size) (lH s cu Ec ec.length c2 Al ls.length cl jo) ⟨s,cu,ec,ls,jo⟩) (hs:sF ⟨s,cu,ec,ls,jo⟩):
 Calls Tryz.prog 147 #[.agg (fT aw y m p Ac n cc r0 r1 r2 r3 r4 r5 r6 r7 r8 r9 cw cA cy ct cz Ae ne ce).toArray,.agg (lH s cu Ec n2 c2 Al nl cl jo).toArray] w (ap w (.bool (tH ch (cY ⟨r0,r1,r2,r3,r4,r5,r6,r7,r8,r9,cw,cA,cy,ct,cz⟩) ⟨s,cu,ec,ls,jo⟩))):=by
 subst hN hE h2 h3;exact OW _ _ _ _ w hg hx hn hs.1 hs.2.1 hs.2.2.1 hs.2.2.2
theorem GA {aw:ByteArray} {y m p:Int} {Ac Ae:Option Addr} {cc ce n ne:Nat} {ch:List ah} {es:List aV} {r0 r1 r2 r3 r4 r5 r6 r7 r8 r9 cw cA cy ct cz:Int} (hN:ch.length=n) (hE:es.length=ne) {w:World} (hg:aL w (·<w.heap.size) (fT aw y m p Ac ch.length cc r0 r1 r2 r3 r4 r5 r6 r7 r8 r9 cw cA cy ct cz Ae es.length ce) ⟨aw,⟨y,m,p⟩,ch,⟨r0,r1,r2,r3,r4,r5,r6,r7,r8,r9,cw,cA,cy,ct,cz⟩,es⟩) (hn:ch.length<=1000):Calls Tryz.prog 146 #[.agg (fT aw y m p Ac n cc r0 r1 r2 r3 r4 r5 r6 r7 r8 r9 cw cA cy ct cz Ae ne ce).toArray] w (ap w (.bool (bR ch ⟨r0,r1,r2,r3,r4,r5,r6,r7,r8,r9,cw,cA,cy,ct,cz⟩))):=by
 subst hN hE;exact Gz _ _ w hg hn
def lk (ch:List ah) (L:List dp) (es:List aV) (i:Nat):Bool:=match es[i]? with
 |none=>false
 |some e=> !((es.take i).any λx=>decide (x.name=e.name))&&tH ch L e
def fp (g:au):Bool:=cQ g.currency&&du g.calendar.year g.calendar.month g.calendar.periods&&bR g.chart g.roles&&decide (1<=g.entities.length/\g.entities.length<=12)&&!(g.entities.getD 0 {}).joint&&(List.range g.entities.length).all (lk g.chart (cY g.roles) g.entities)
theorem xb {ch:List ah} {L:List dp} {es:List aV} {i:Nat} {e:aV} (h:es[i]? =some e):lk ch L es i=(!((es.take i).any λx=>decide (x.name=e.name))&&tH ch L e):=by unfold lk;rw[h]
theorem SL {ch:List ah} {L:List dp} (h:oc ch L=true) (e:aV):tH ch L e=dP ch L e:=by
 unfold tH dP;have h1:(e.links.all λl=> !fS L l.to_)= !(e.links.any λl=>iT L l.to_):=by
  rw[List.not_any_eq_all_not]
  congr 1
  funext l
  rw[KZ h]
 rw[h1,show n8 e ch=kb e.chart ch e.links from rfl,Bool.and_assoc,Bool.and_assoc]
theorem Lr (g:au):fp g=bh g:=by
 unfold fp bh;cases ha:bR g.chart g.roles with
 |false=>simp
 |true=>
  have hr:oc g.chart (cY g.roles)=true:=by
   unfold bR at ha;simp only[Bool.and_eq_true]at ha;exact ha.2
  congr 1
  unfold DX
  congr 1
  funext i
  unfold lk mK;cases g.entities[i]? with
  |none=>rfl
  |some e=>simp only[SL hr]
def EV (s:ByteArray):Lit:=.string s.data.toList
theorem P7 (x y:ByteArray) (h:EV x=EV y):x=y:=by
 unfold EV at h
 injection h with h
 exact ByteArray.ext (Array.ext' h)
theorem P8 (x:ByteArray):WideAt.IsKeyLit (EV x):=by unfold EV;trivial
theorem JI:Tryz.prog.underlying 9=some .string:=by kernel_rfl
theorem yw:Tryz.prog.underlying 190=some (.map 9 4):=by kernel_rfl
theorem sG:Keyed Tryz.prog 9:=Maps.string_keyed JI
theorem Tu {s:ByteArray} (h:s.size<=1000):keyOf Tryz.prog 9 (.string s)=some (EV s):=Go.WideMaps.keyOf_string_mk JI (by unfold maxLen;omega)
abbrev aeq (w:World) (b n:Nat) (f:ByteArray->Bool):Prop:=pd Tryz.prog 9 4 EV w b n f
theorem Hi {es:List aV} {k:Nat} {e:aV} (hk:es[k]? =some e) {F:ByteArray->Bool} (hF:(λd=>(es.take k).any λx=>decide (x.name=d))=F) (d:ByteArray):(if d=e.name then true else F d)=(es.take (k+1)).any λx=>decide (x.name=d):=by
 obtain⟨hl,rfl⟩:=List.getElem?_eq_some_iff.1 hk;rw[iV hl,<-hF];by_cases h:d=es[k].name
 ·rw[if_pos h,h];simp
 ·rw[if_neg h,decide_eq_false (λe:es[k].name=d=>h e.symm),Bool.or_false]
theorem Lv {g:au} (h:cQ g.currency=false):fp g=false:=by unfold fp;rw[h];simp
theorem Lu {g:au} (h:du g.calendar.year g.calendar.month g.calendar.periods=false):fp g=false:=by unfold fp;rw[h];simp
theorem Ls {g:au} (h:bR g.chart g.roles=false):fp g=false:=by unfold fp;rw[h];simp
theorem As {g:au} (h:¬(1<=g.entities.length/\g.entities.length<=12)):fp g=false:=by unfold fp;rw[decide_eq_false h];simp
theorem Eb {g:au} {e:aV} (h:g.entities[0]? =some e) (hj:e.joint=true):fp g=false:=by unfold fp;rw[List.getD_eq_getElem?_getD,h,Option.getD_some,hj];simp
theorem Au {g:au} {k:Nat} (hk:k<g.entities.length) (h:lk g.chart (cY g.roles) g.entities k=false):fp g=false:=by unfold fp;rw[bt hk h];simp
theorem Lt {g:au} {e:aV} (h1:cQ g.currency=true) (h2:du g.calendar.year g.calendar.month g.calendar.periods=true) (h3:bR g.chart g.roles=true) (h4:1<=g.entities.length/\g.entities.length<=12) (h5:g.entities[0]? =some e) (hj:e.joint=false) (h:∀k,k<g.entities.length->lk g.chart (cY g.roles) g.entities k=true):fp g=true:=by
 unfold fp;rw[h1,h2,h3,decide_eq_true h4,List.getD_eq_getElem?_getD,h5,Option.getD_some,hj,bQ h];rfl
theorem SS (g:au) (cs:List Value) (w:World) (hg:aL w (·<w.heap.size) cs g) (ci:dQ g):Calls Tryz.prog 103 #[.agg cs.toArray] w (ap w (.bool (fp g))):=by
 have Iz:=@run_makeMap Tryz.prog;obtain⟨r,hr⟩:=x_ (fp g);rw[hr];have HR:=H_ hr;have FP:=H_ hg;obtain⟨hn,zi,ft,Fk⟩:=ci;clear hr;obtain⟨Ac,cc,Ae,ce,rfl,ee,iu,eu,mD⟩:=hg.lit;clear hg;obtain⟨aw,⟨y,m,p⟩,ch,⟨r0,r1,r2,r3,r4,r5,r6,r7,r8,r9,cw,cA,cy,ct,cz⟩,es⟩:=g;simp only at ft zi Fk HR ee iu mD eu hn |-;have Z9:=H_ Fk;have rC:=H_ hn;obtain⟨L,hL⟩:=x_ (jM r0 r1 r2 r3 r4 r5 r6 r7 r8 r9 cw cA cy ct cz);have CI:L.length=15:=by rw[<-hL];rfl
 have tU:=H_ hL;have Bw:=H_ CI;obtain⟨n,bj⟩:=x_ (ch.length);obtain⟨ne,bT⟩:=x_ (es.length);have HL:=H_ ee;have HN:=H_ bj;have HE:=H_ iu;have eP:=H_ bT;rw[bj,bT];rw[bj]at hn;clear hL CI ee iu bj bT eu;clear mD Fk;show Calls Tryz.prog 103 #[.agg #[aw,y,m,p,.slice Ac n cc,r0,r1,r2,r3,r4,r5,r6,r7,r8,r9,cw,cA,cy,ct,cz,.slice Ae ne ce]] w (ap w (.bool r));go_enter Tryz.func103,Tryz.ntmps103;go_upto_region 1 with fail;obtain⟨W,hW,H,HB,HS,ewx⟩:=B_ w (.cells #[aw,y,m,p,.slice Ac n cc,r0,r1,r2,r3,r4,r5,r6,r7,r8,r9,cw,cA,cy,ct,cz,.slice Ae ne ce] 29);rw[hW];clear ewx;clear hW;have f0:=ab H 0;have HH:=H_ H;clear H;go_wp2_with fail;refine(vX aw W ft).mono ?_;rintro e w2 ⟨rfl,aH⟩;have aF:=HB.trans (aH.mono HB.size);have dW:=aH.size;cases fP:cQ aw with
 |false=>
  have hf:=H_ (show r=false by rw[<-HR.o];exact Lv fP);go_wp2_with fail;go_ret;exact⟨hf.o.symm▸rfl,aF⟩
 |true=>
 have jG:=H_ fP;have G2:=(aH.block _ HS).trans HH.o;have f1:=ab G2 1;have f2:=ab G2 2;have f3:=ab G2 3;clear fP f0;go_wp2_with fail;refine(mJ y m p w2).mono ?_;rintro e w3 ⟨rfl,aZ⟩;have aR:=aF.trans (aZ.mono aF.size);have lE:=aZ.size;cases gn:du y m p with
 |false=>
  have hf:=H_ (show r=false by rw[<-HR.o];exact Lu gn);go_wp2_with fail;go_ret;exact⟨hf.o.symm▸rfl,aR⟩
 |true=>
 have jv:=H_ gn;have IG:=H_ ((aZ.block _ (by omega)).trans G2);have Yr:=H_ (GA HN.o eP.o (aL.keep FP.o aR) rC.o);clear gn f1 f2 f3 G2;go_wp2_with (refine W_ 17 29 1 w.heap.size IG.o ay Tryz.underlying29 ?_);refine Yr.o.mono ?_;rintro e w4 ⟨rfl,bU⟩;have bD:=aR.trans (bU.mono aR.size);have yJ:=bU.size;cases ot:bR ch ⟨r0,r1,r2,r3,r4,r5,r6,r7,r8,r9,cw,cA,cy,ct,cz⟩with
 |false=>
  have hf:=H_ (show r=false by rw[<-HR.o];exact Ls ot);go_wp2_with fail;go_ret;exact⟨hf.o.symm▸rfl,bD⟩
 |true=>
 have kB:=H_ ot;have G4:=(bU.block _ (by omega)).trans IG.o;have f20:=ab G4 20;clear ot;by_cases h1:ne<1
 case pos=>
  have CV:(ne:Int)<1:=by omega
  have hf:=H_ (show r=false by rw[<-HR.o];exact As (λh=>by have:=h.1;have:=eP.o;simp only at*;omega));go_wp2_with fail;go_ret;exact⟨hf.o.symm▸rfl,bD⟩
 case neg=>
 have CV:¬(ne:Int)<1:=by omega
 by_cases h2:12<ne
 case pos=>
  have yX:12< (ne:Int):=by omega
  have hf:=H_ (show r=false by rw[<-HR.o];exact As (λh=>by have:=h.2;have:=eP.o;simp only at*;omega));go_wp2_with fail;go_ret;exact⟨hf.o.symm▸rfl,bD⟩
 case neg=>
 have yX:¬12< (ne:Int):=by omega
 have zl:(0:Int)< (ne:Int):=by omega
 have Ng:0<es.length:=by rw[eP.o];omega
 obtain⟨b,o,dj,ed,kZ⟩:=aj.base HE.o (by omega);subst dj;obtain⟨es0,Nu,FD⟩:=kZ 0 Ng;have tM:=H_ kZ;obtain⟨Ec,c2,Al,cl,rfl,_,_⟩:=Nu.lit;obtain⟨x0,hx0⟩:=x_ (es[0]);rw[hx0]at FD;have YO:=H_ (show es[0]? =some x0 by rw[List.getElem?_eq_getElem Ng,hx0]);have j0:=(FD.fr (Fr.ofBelow bD)).c (j:=4) rfl;obtain⟨J,hJ⟩:=x_ (x0.joint);rw[hJ,Nat.zero_mul,Nat.add_zero]at j0;have HJ:=H_ hJ;clear Nu FD kZ hx0 hJ;cases J with
 |true=>
  have hf:=H_ (show r=false by rw[<-HR.o];exact Eb YO.o HJ.o);go_wp2_with fail;go_ret;exact⟨hf.o.symm▸rfl,bD⟩
 |false=>
 have iX:=H_ G4;clear G4;go_upto_region 4 with fail;have CO:=pd.made Tryz.prog 9 4 EV w4;have nA:=ai w4 (.map #[] 0);have My:w4.heap.size+1=(w4.alloc (.map #[] 0)).heap.size:=by simp
 have G5:=al iX.o (.map #[] 0);generalize XI:w4.alloc (Obj.map #[] 0)=W5 at*;clear XI f20 j0;have f20:=ab G5 20;have YG:=H_ G5;have fG:=bD.trans (nA.mono bD.size);clear G5;go_wp2_with fail
 go_loopw [44] (λi wr=>∃k:Nat,k<=ne/\i=.int .i64 (k:Int)/\Fr (QX W5.heap.size w4.heap.size) W5 wr/\aeq wr w4.heap.size k (λd=>(es.take k).any λx=>decide (x.name=d))/\∀j,j<k->lk ch (cY ⟨r0,r1,r2,r3,r4,r5,r6,r7,r8,r9,cw,cA,cy,ct,cz⟩) es j=true) (λi _=>ne- (intOf i).toNat)
 case atStart=>exact⟨0,by omega,rfl,Fr.refl _ _,CO.eqv (λ_=>rfl),λj hj=>by omega⟩
 case round=>
  obtain⟨k,hk,rfl,lM,fD,hall⟩:=hrel;have HA:=H_ hall;have HF:=H_ lM;have bP:=lM.size;clear hall lM;have el:Below w.heap.size w wr:=((Fr.ofBelow fG).trans (HF.o.mono (λk (hk:k<w.heap.size)=>⟨by omega,by omega⟩))).below;have hs0':=el.size;by_cases aU:k<ne
  case pos=>
   have bq:(k:Int)< (ne:Int):=by omega
   have bI:k<es.length:=by rw[eP.o];exact aU
   obtain⟨rz,bL,aS⟩:=tM.o k bI;obtain⟨Ec,c2,Al,cl,rfl,_,_⟩:=bL.lit;obtain⟨x,hx⟩:=x_ (es[k]);have yG:=Z9.o _ (List.getElem_mem bI);rw[hx]at bL aS yG;have HX:=H_ (show es[k]? =some x by rw[List.getElem?_eq_getElem bI,hx]);obtain⟨s,cu,ec,ls,jo⟩:=x;simp only at bL aS;have vp:=H_ (Tu (s:=s) yG.2.2.1);have hE:=λ(w2:World) (hb:Below w.heap.size w w2)=>λ{n2 nl:Nat} (h2:ec.length=n2) (h3:ls.length=nl)=>OX HN.o eP.o (aL.keep FP.o hb) rC.o h2 h3 (aN.keep bL hb) yG
   have Bl:=(aS.fr (Fr.ofBelow el)).range;obtain⟨n2,oO⟩:∃n,ec.length=n:=⟨_,rfl⟩;obtain⟨nl,bj⟩:∃n,ls.length=n:=⟨_,rfl⟩;rw[oO,bj]at Bl;have eZ:=H_ Bl;have Vj:=H_ (λ(w2:World) (hb:Below w.heap.size w w2)=>hE w2 hb oO bj);have E6:=(HF.o.block w.heap.size ⟨by omega,by omega⟩).trans YG.o;obtain⟨F,hF⟩:=x_ ((λd=>(es.take k).any λx=>decide (x.name=d)));rw[hF]at fD;have kV:=H_ hF;clear bL aS hx hE Bl hF yG oO bj;go_upto_region 7 with(refine w_ 47 74 46 b (o+k*5) [s,cu,.slice Ec n2 c2,.slice Al nl cl,jo] eZ.o cD Tryz.underlying74 ?_);obtain⟨W6,mC,H6,dK,my,ewx⟩:=B_ wr (.cells #[s,cu,.slice Ec n2 c2,.slice Al nl cl,jo] 74);rw[mC];replace E6:=(dK.block _ (ag E6)).trans E6;clear ewx;clear mC;have jP:=fD.below dK;have MV:=dK.size;have fi:=el.trans (dK.mono el.size);have k0:=ab H6 0;have yK:=H_ E6;have Y9:=H_ H6;clear fD H6 E6;cases kr:F s with
   |true=>
    have hf:=H_ (show r=false by rw[<-HR.o];exact Au bI (by rw[xb HX.o,show((es.take k).any λx=>decide (x.name=s))=true from(congrFun kV.o s).trans kr];rfl));go_wp2_with (at_lookup;refine bO rfl _ _ 190 rfl 9 4 sG yw de (dU _) w4.heap.size k F rfl jP (.string s) s rfl vp.o ?_);go_ret;exact⟨hf.o.symm▸rfl,fi⟩
   |false=>
    have aM:=Vj.o W6 fi;obtain⟨v,hv⟩:=x_ (tH ch (cY ⟨r0,r1,r2,r3,r4,r5,r6,r7,r8,r9,cw,cA,cy,ct,cz⟩) ⟨s,cu,ec,ls,jo⟩);rw[hv]at aM;have gc:=H_ (show lk ch (cY ⟨r0,r1,r2,r3,r4,r5,r6,r7,r8,r9,cw,cA,cy,ct,cz⟩) es k=v by rw[xb HX.o,hv,show((es.take k).any λx=>decide (x.name=s))=false from(congrFun kV.o s).trans kr];rfl);have eE:=H_ aM;clear hv aM;go_wp2_with (first|(at_lookup;refine bO rfl _ _ 190 rfl 9 4 sG yw de (dU _) w4.heap.size k F rfl jP (.string s) s rfl vp.o ?_)|(refine W_ 53 29 1 w.heap.size yK.o ay Tryz.underlying29 ?_)|(refine W_ 54 74 5 wr.heap.size Y9.o cD Tryz.underlying74 ?_));refine eE.o.mono ?_;rintro e wA ⟨rfl,NT⟩;have NN:=jP.below NT;have hsA:=NT.size;have Yt:=fi.trans (NT.mono fi.size);cases v with
    |false=>
     have hf:=H_ (show r=false by rw[<-HR.o];exact Au bI gc.o);go_wp2_with fail;go_ret;exact⟨hf.o.symm▸rfl,Yt⟩
    |true=>
     have KA:=(NT.block _ my).trans Y9.o;have k0:=ab KA 0;clear KA;go_wp2_with (at_mapUpdate;refine dV rfl _ _ _ 190 rfl 9 4 sG yw de w4.heap.size k F rfl NN (by simp only[maxLen];omega) P7 P8 (.string s) s rfl true rfl vp.o ?_;intro wB nI hgB;replace nI:=H_ nI);go_roundw
     case rel=>
      refine⟨k+1,by omega,by go_num,?_,?_,?_⟩
      ·exact(HF.o.trans ((Fr.ofBelow (dK.trans (NT.mono dK.size))).mono (λk hk=>by have:=hk.1;omega))).grown hgB (λk hk=>hk.1) (λj hj=>by injection hj with hj;exact λh=>h.2 hj.symm)
      ·exact nI.o.eqv (λd=>Hi HX.o kV.o d)
      ·intro j hj;rcases Nat.lt_or_ge j k with h|h
       ·exact HA.o j h
       ·have:j=k:=by omega
        subst this;exact gc.o
     case measure=>first|exact aQ aU|(simp only[intOf];omega)
  case neg=>
   have bq:¬(k:Int)< (ne:Int):=by omega
   have hf:=H_ (show r=true by
    rw[<-HR.o];exact Lt jG.o jv.o kB.o ⟨by have:=eP.o;simp only;omega,by have:=eP.o;simp only;omega⟩ YO.o HJ.o (λj hj=>HA.o j (by have:=eP.o;simp only at hj;omega)))
   go_wp2_with fail;go_ret;exact⟨hf.o.symm▸rfl,el⟩
end
section
open Go Go.RowKit
theorem gI (a b:ByteArray):(a.toList==b.toList)=decide (a=b):=by
 by_cases h:a=b
 ·subst h;simp
 ·rw[decide_eq_false h];have:a.toList≠b.toList:=λe=>h (by
   rw[ByteArray.toList_eq,ByteArray.toList_eq]at e;exact ByteArray.ext (Array.ext' e))
  simpa using this
def If (P:Prop) (w:World) (e:Ending) (w':World):Prop:=∃b,e=.returned (.bool b)/\(b=true->P)/\Below w.heap.size w w'
theorem If.no {P:Prop} {w w':World} (h:Below w.heap.size w w'):If P w (.returned (.bool false)) w':=⟨false,rfl,(λh=>by cases h),h⟩
theorem If.yes {P:Prop} {w w':World} (hp:P) (h:Below w.heap.size w w'):If P w (.returned (.bool true)) w':=⟨true,rfl,λ_=>hp,h⟩
def szE (e:aV):Prop:=e.name.size<=140737488355327/\e.currency.size<=140737488355327
def szG (g:au):Prop:=g.currency.size<=140737488355327/\∀e∈g.entities,szE e
def O1 (e:aV):Prop:=e.chart.length<=40/\e.links.length<=60/\e.name.size<=60/\e.currency.size<=60
def Lk (g:au):Prop:=g.chart.length<=60/\g.entities.length<=14/\g.currency.size<=20/\∀e∈g.entities,O1 e
theorem Lk.small {g:au} (h:Lk g):dQ g:=by
 obtain⟨h1,h2,h3,h4⟩:=h;refine⟨by omega,by omega,by omega,λe he=>?_⟩;obtain⟨a,b,c,d⟩:=h4 e he;exact⟨by omega,by omega,by omega,by omega⟩
def nU (es:List aV) (s:ByteArray):Int × Bool:=match es.findIdx? (λx=>decide (x.name=s))with
 |some k=>((k:Int),true)
 |none=>(0,false)
theorem xf {es:List aV} {s:ByteArray} {k:Nat} (hk:k<es.length) (h:es[k].name=s) (hb:∀j (hj:j<es.length),j<k->¬es[j].name=s):nU es s=((k:Int),true):=by
 unfold nU;have:es.findIdx? (λx=>decide (x.name=s))=some k:=by
  rw[List.findIdx?_eq_some_iff_getElem];exact⟨hk,decide_eq_true h,λj hj=>by simpa using hb j (by omega) hj⟩
 rw[this]
theorem GM {es:List aV} {s:ByteArray} (hb:∀j (hj:j<es.length),¬es[j].name=s):nU es s=(0,false):=by
 unfold nU;have:es.findIdx? (λx=>decide (x.name=s))=none:=by
  rw[List.findIdx?_eq_none_iff];intro x hx;obtain⟨j,hj,rfl⟩:=List.getElem_of_mem hx;exact decide_eq_false (hb j hj)
 rw[this]
theorem Lm {es:List aV} {k:Nat} {e:aV} (hk:es[k]? =some e):((nU es e.name).1=(k:Int))↔((es.take k).any λx=>decide (x.name=e.name))=false:=by
 obtain⟨hl,rfl⟩:=List.getElem?_eq_some_iff.1 hk;constructor
 ·intro h;rw[List.any_eq_false];intro x hx;rw[List.mem_take_iff_getElem]at hx;obtain⟨j,hj,rfl⟩:=hx;simp only[decide_eq_true_eq];intro hn;unfold nU at h;cases hf:es.findIdx? (λx=>decide (x.name=es[k].name))with
  |none=>
   rw[List.findIdx?_eq_none_iff]at hf;have:=hf _ (List.getElem_mem hl);simp at this
  |some q=>
   rw[hf]at h;simp only at h;rw[List.findIdx?_eq_some_iff_getElem]at hf;obtain⟨_,_,h2⟩:=hf;have:=h2 j (by omega);simp[hn]at this
 ·intro h;rw[List.any_eq_false]at h;rw[xf hl rfl (λj hj m7=>by
   have:=h es[j] (by rw[List.mem_take_iff_getElem];exact⟨j,by omega,rfl⟩);simpa using this)]
theorem PB (g:au) (cs:List Value) (nm:ByteArray) (w:World) (hg:aL w (·<w.heap.size) cs g) (zi:g.entities.length<=1000):Calls Tryz.prog 166 #[.agg cs.toArray,nm] w (ap w (.tuple #[.int .i64 (nU g.entities nm).1,.bool (nU g.entities nm).2])):=by
 obtain⟨Ac,cc,Ae,ce,rfl,ee,iu,eu,mD⟩:=hg.lit;clear hg mD eu ee;obtain⟨aw,⟨y,m,p⟩,ch,⟨r0,r1,r2,r3,r4,r5,r6,r7,r8,r9,cw,cA,cy,ct,cz⟩,es⟩:=g;simp only at iu zi |-;obtain⟨r,hr⟩:=x_ (nU es nm);rw[hr];have HR:=H_ hr;obtain⟨n,bj⟩:=x_ (ch.length);obtain⟨ne,bT⟩:=x_ (es.length);have HE:=H_ iu;have eP:=H_ bT;rw[bj,bT];rw[bT]at zi;clear hr iu bj bT;show Calls Tryz.prog 166 #[.agg #[aw,y,m,p,.slice Ac n cc,r0,r1,r2,r3,r4,r5,r6,r7,r8,r9,cw,cA,cy,ct,cz,.slice Ae ne ce],nm] w (ap w _);go_enter Tryz.func166,Tryz.ntmps166;go_upto_region 1 with fail;obtain⟨W,hW,H,HB,HS,ewx⟩:=B_ w (.cells #[aw,y,m,p,.slice Ac n cc,r0,r1,r2,r3,r4,r5,r6,r7,r8,r9,cw,cA,cy,ct,cz,.slice Ae ne ce] 29);rw[hW];clear ewx;clear hW;have HH:=H_ H;clear H;go_wp2_with fail
 go_loopw [6] (λi wr=>∃k:Nat,k<=ne/\i=.int .i64 (k:Int)/\Below W.heap.size W wr/\∀j (hj:j<es.length),j<k->¬es[j].name=nm) (λi _=>ne- (intOf i).toNat)
 case atStart=>exact⟨0,by omega,rfl,Below.refl _ _,λj hj h=>by omega⟩
 case round=>
  obtain⟨k,hk,rfl,hb,hall⟩:=hrel;have HA:=H_ hall;have bP:=hb.size;clear hall;have el:=HB.trans (hb.mono HB.size);have GR:=(hb.block w.heap.size HS).trans HH.o;have d20:=ab GR 20;clear GR;by_cases aU:k<ne
  case pos=>
   have bq:(k:Int)< (ne:Int):=by omega
   have bI:k<es.length:=by rw[eP.o];exact aU
   obtain⟨b,o,rz,dj,ed,bL,aS⟩:=aj.get HE.o k bI;subst dj;obtain⟨Ec,c2,Al,cl,rfl,_,_⟩:=bL.lit;have k0:=(aS.fr (Fr.ofBelow el)).c (j:=0) rfl;rw[Nat.add_zero]at k0;obtain⟨s,hs⟩:=x_ (es[k].name);rw[hs]at k0;have HSN:=H_ hs;clear bL aS ed hs;by_cases he:s=nm
   case pos=>
    have he':(s.toList==nm.toList)=true:=by rw[gI,decide_eq_true he]
    have hf:=H_ (show r=((k:Int),true) by rw[<-HR.o];exact xf bI (HSN.o.trans he) HA.o);go_wp2_with fail;go_ret2;exact⟨hf.o.symm▸rfl,el⟩
   case neg=>
    have he':(s.toList==nm.toList)=false:=by rw[gI,decide_eq_false he]
    have Oj:=H_ he;go_wp2_with fail;go_roundw
    case rel=>exact⟨k+1,by omega,by go_num,hb,λj hj m7=>by
     rcases Nat.lt_or_ge j k with h|h
     ·exact HA.o j hj h
     ·have:j=k:=by omega
      subst this;rw[HSN.o];exact Oj.o⟩
    case measure=>first|exact aQ aU|(simp only[intOf];omega)
  case neg=>
   have bq:¬(k:Int)< (ne:Int):=by omega
   have hf:=H_ (show r=(0,false) by rw[<-HR.o];exact GM (λj hj=>HA.o j hj (by have h:=eP.o;omega)));go_wp2_with fail;go_ret2;exact⟨hf.o.symm▸rfl,el⟩
theorem ab6 (g:au) (cs:List Value) (w:World) (hg:aL w (·<w.heap.size) cs g) (bP:szG g):Calls Tryz.prog 77 #[.agg cs.toArray] w (If (Lk g) w):=by
 obtain⟨Ac,cc,Ae,ce,rfl,ee,iu,eu,mD⟩:=hg.lit;clear hg mD eu;have jw:=ee.cap.2;have oQ:=iu.cap.2;clear ee;obtain⟨P,hP⟩:=x_ (Lk g);rw[hP];have HP:=H_ (show(g.chart.length<=60/\g.entities.length<=14/\g.currency.size<=20/\∀e∈g.entities,O1 e)->P from λh=>hP▸h);obtain⟨aw,⟨y,m,p⟩,ch,⟨r0,r1,r2,r3,r4,r5,r6,r7,r8,r9,cw,cA,cy,ct,cz⟩,es⟩:=g;obtain⟨hsc,Fk⟩:=bP;simp only at iu jw oQ HP hsc Fk |-;have Z9:=H_ Fk;obtain⟨n,bj⟩:=x_ (ch.length);obtain⟨ne,bT⟩:=x_ (es.length);have HE:=H_ iu;have eP:=H_ bT;have HN:=H_ bj;rw[bj,bT];rw[bT]at oQ;rw[bj]at jw;unfold maxLen at oQ jw;clear iu bj bT hP Fk;show Calls Tryz.prog 77 #[.agg #[aw,y,m,p,.slice Ac n cc,r0,r1,r2,r3,r4,r5,r6,r7,r8,r9,cw,cA,cy,ct,cz,.slice Ae ne ce]] w (If P w);go_enter Tryz.func77,Tryz.ntmps77;go_upto_region 1 with fail;obtain⟨W,hW,H,HB,HS,ewx⟩:=B_ w (.cells #[aw,y,m,p,.slice Ac n cc,r0,r1,r2,r3,r4,r5,r6,r7,r8,r9,cw,cA,cy,ct,cz,.slice Ae ne ce] 29);rw[hW];clear ewx;clear hW;have HH:=H_ H;clear H;go_wp2_with fail
 go_loopw [3] (λi wr=>∃k:Nat,k<=ne/\i=.int .i64 (k:Int)/\Below W.heap.size W wr/\∀j (hj:j<es.length),j<k->O1 es[j]) (λi _=>ne- (intOf i).toNat)
 case atStart=>exact⟨0,by omega,rfl,Below.refl _ _,λj hj h=>by omega⟩
 case round=>
  obtain⟨k,hk,rfl,hb,hall⟩:=hrel;have HA:=H_ hall;have abn:=hb.size;clear hall;have el:=HB.trans (hb.mono HB.size);have GR:=(hb.block w.heap.size HS).trans HH.o;have d20:=ab GR 20;by_cases aU:k<ne
  case pos=>
   have bq:(k:Int)< (ne:Int):=by omega
   have bI:k<es.length:=by rw[eP.o];exact aU
   obtain⟨b,o,rz,dj,ed,bL,aS⟩:=aj.get HE.o k bI;subst dj;obtain⟨Ec,c2,Al,cl,rfl,_,_⟩:=bL.lit;obtain⟨x,hx⟩:=x_ (es[k]);have yG:=Z9.o _ (List.getElem_mem bI);rw[hx]at aS yG;have HX:=H_ hx;obtain⟨s,cu,ec,ls,jo⟩:=x;obtain⟨hx1,hx2⟩:=yG;simp only at hx1 hx2;have Bl:=(aS.fr (Fr.ofBelow el)).range;obtain⟨n2,oO⟩:∃n,ec.length=n:=⟨_,rfl⟩;obtain⟨nl,bj⟩:∃n,ls.length=n:=⟨_,rfl⟩;rw[oO,bj]at Bl;have eZ:=H_ Bl;have rN:=H_ oO;have jz:=H_ bj;obtain⟨z1,IU⟩:∃z,s.size=z:=⟨_,rfl⟩;obtain⟨z2,QH⟩:∃z,cu.size=z:=⟨_,rfl⟩;clear bL aS hx Bl oO bj ed GR;go_upto_region 5 with(refine w_ 16 74 15 b (o+k*5) [s,cu,.slice Ec n2 c2,.slice Al nl cl,jo] eZ.o cD Tryz.underlying74 ?_);obtain⟨W6,mC,H6,dK,my,ewx⟩:=B_ wr (.cells #[s,cu,.slice Ec n2 c2,.slice Al nl cl,jo] 74);rw[mC];clear ewx;clear mC;have fi:=el.trans (dK.mono el.size);have f0:=ab H6 0;have f1:=ab H6 1;have f2:=ab H6 2;have f3:=ab H6 3;clear H6 d20;by_cases h1:40<n2
   case pos=>
    have CV:40< (n2:Int):=by omega
    go_wp2_with fail;go_ret;exact If.no fi
   case neg=>
   have CV:¬40< (n2:Int):=by omega
   by_cases h2:60<nl
   case pos=>
    have yX:60< (nl:Int):=by omega
    go_wp2_with fail;go_ret;exact If.no fi
   case neg=>
   have yX:¬60< (nl:Int):=by omega
   by_cases h3:60<s.size+cu.size
   case pos=>
    have zl:60< (s.size:Int)+(cu.size:Int):=by omega
    go_wp2_with fail;go_ret;exact If.no fi
   case neg=>
   have zl:¬60< (s.size:Int)+(cu.size:Int):=by omega
   have gc:=H_ (show O1 ⟨s,cu,ec,ls,jo⟩from⟨by have:=rN.o;simp only;omega,by have:=jz.o;simp only;omega,by simp only;omega,by simp only;omega⟩);go_wp2_with fail;go_roundw
   case rel=>exact⟨k+1,by omega,by go_num,hb.trans (dK.mono abn),λj hj m7=>by
    rcases Nat.lt_or_ge j k with h|h
    ·exact HA.o j hj h
    ·have:j=k:=by omega
     subst this;rw[HX.o];exact gc.o⟩
   case measure=>first|exact aQ aU|(simp only[intOf];omega)
  case neg=>
   have bq:¬(k:Int)< (ne:Int):=by omega
   have d4:=ab GR 4;have d0:=ab GR 0;clear GR;have eY:=H_ (show ∀e∈es,O1 e by
    intro e he;obtain⟨j,hj,rfl⟩:=List.getElem_of_mem he;exact HA.o j hj (by have:=eP.o;omega))
   by_cases h1:n<=60
   case neg=>
    have CV:¬(n:Int)<=60:=by omega
    go_wp2_with fail;go_ret;exact If.no el
   case pos=>
   have CV:(n:Int)<=60:=by omega
   by_cases h2:ne<=14
   case neg=>
    have yX:¬(ne:Int)<=14:=by omega
    go_wp2_with fail;go_ret;exact If.no el
   case pos=>
   have yX:(ne:Int)<=14:=by omega
   by_cases h3:aw.size<=20
   case neg=>
    have zl:¬(aw.size:Int)<=20:=by omega
    go_wp2_with fail;go_ret;exact If.no el
   case pos=>
    have zl:(aw.size:Int)<=20:=by omega
    have HY:=H_ (show P from HP.o ⟨by have:=HN.o;omega,by have:=eP.o;omega,h3,eY.o⟩);go_wp2_with fail;go_ret;exact If.yes HY.o el
abbrev lq (x:bW):List Value:=[.int .i64 x.ref.entry,.int .i64 x.ref.line,.int .i64 x.entity,.int .i64 x.account,.int .i64 x.partner,.int .i64 x.date,.int .i64 x.amount]
theorem je.lit {w:World} {Q:Nat->Prop} {cs:List Value} {x:bW} (h:je w Q cs x):cs=lq x:=by
 obtain⟨c0,c1,c2,c3,c4,c5,rfl,h0,⟨rfl,h1⟩,⟨rfl,h2⟩,⟨rfl,h3⟩,⟨rfl,h4⟩,⟨rfl,h5⟩⟩:=h;obtain⟨d0,d1,rfl,⟨rfl,_⟩,⟨rfl,_⟩⟩:=h0;rfl
theorem aP:(Tryz.prog.info? 42).map (·.size)=some 7:=by kernel_rfl
def f9 (l:List bW):Int:=(l.map (·.amount)).sum
def akB (l:List bW):Prop:=(∀x∈l,-1125899906842624<=x.amount/\x.amount<=1125899906842624)/\l.length<=300
theorem ake {l:List bW} {k:Nat} (hk:k<l.length):f9 (l.take (k+1))=f9 (l.take k)+l[k].amount:=by
 unfold f9;rw[List.take_add_one,List.getElem?_eq_getElem hk,List.map_append,List.sum_append];simp
theorem akN {l:List bW} (h:akB l):∀k:Nat,k<=l.length-> -1125899906842624*(k:Int)<=f9 (l.take k)/\f9 (l.take k)<=1125899906842624*(k:Int)
 |0,_=>by simp[f9]
 |k+1,hk=>by
  have ih:=akN h k (by omega);have hb:=h.1 _ (List.getElem_mem (show k<l.length by omega));rw[ake (by omega)];omega
def sw (n:Int):Bool:=decide (-1000000000000<=n/\n<=1000000000000)
theorem S8 (n:Int) (w:World):Calls Tryz.prog 104 #[n] w (ap w (.bool (sw n))):=by
 by_cases h1: -1000000000000<=n
 case neg=>
  have hf:=H_ (show sw n=false from decide_eq_false (λh=>h1 h.1));rw[hf.o];go_enter Tryz.func104,Tryz.ntmps104;go_wp2_with fail;go_ret;exact⟨rfl,Below.refl _ _⟩
 case pos=>
 by_cases h2:n<=1000000000000
 case neg=>
  have hf:=H_ (show sw n=false from decide_eq_false (λh=>h2 h.2));rw[hf.o];go_enter Tryz.func104,Tryz.ntmps104;go_wp2_with fail;go_ret;exact⟨rfl,Below.refl _ _⟩
 case pos=>
  have hf:=H_ (show sw n=true from decide_eq_true ⟨h1,h2⟩);rw[hf.o];go_enter Tryz.func104,Tryz.ntmps104;go_wp2_with fail;go_ret;exact⟨rfl,Below.refl _ _⟩
theorem PF (n:Int) (w:World):Calls Tryz.prog 161 #[n] w (ap w (.bool (sw n))):=by
 by_cases h1: -1000000000000<=n
 case neg=>
  have hf:=H_ (show sw n=false from decide_eq_false (λh=>h1 h.1));rw[hf.o];go_enter Tryz.func161,Tryz.ntmps161;go_wp2_with fail;go_ret;exact⟨rfl,Below.refl _ _⟩
 case pos=>
 by_cases h2:n<=1000000000000
 case neg=>
  have hf:=H_ (show sw n=false from decide_eq_false (λh=>h2 h.2));rw[hf.o];go_enter Tryz.func161,Tryz.ntmps161;go_wp2_with fail;go_ret;exact⟨rfl,Below.refl _ _⟩
 case pos=>
  have hf:=H_ (show sw n=true from decide_eq_true ⟨h1,h2⟩);rw[hf.o];go_enter Tryz.func161,Tryz.ntmps161;go_wp2_with fail;go_ret;exact⟨rfl,Below.refl _ _⟩
theorem alx (l:List bW) (A:Option Addr) (c:Nat) (w:World) (hl:aj je 7 w (·<w.heap.size) [.slice A l.length c] l) (hs:akB l):Calls Tryz.prog 38 #[.slice A l.length c] w (ap w (.int .i64 (-f9 l))):=by
 obtain⟨r,hr⟩:=x_ (-f9 l);rw[hr];have HR:=H_ hr;obtain⟨n,bj⟩:=x_ (l.length);have HL:=H_ hl;have HN:=H_ bj;have HS:=H_ hs;have hn:n<=300:=by rw[<-bj];exact hs.2
 rw[bj];clear hr hl bj hs;go_enter Tryz.func38,Tryz.ntmps38;go_wp2_with fail
 go_loopw [3,8] (λs i wr=>∃k:Nat,k<=n/\s=.int .i64 (-f9 (l.take k))/\i=.int .i64 (k:Int)/\Below w.heap.size w wr) (λ_ i _=>n- (intOf i).toNat)
 case atStart=>exact⟨0,by omega,rfl,rfl,Below.refl _ _⟩
 case round=>
  obtain⟨k,hk,rfl,rfl,hb⟩:=hrel;by_cases aU:k<n
  case pos=>
   have bq:(k:Int)< (n:Int):=by omega
   have bI:k<l.length:=by rw[HN.o];exact aU
   obtain⟨b,o,es,dj,ed,bL,aS⟩:=aj.get HL.o k bI;subst dj;have bE:=je.lit bL;rw[bE]at aS;have jE:=HS.o.1 _ (List.getElem_mem bI);have oZ:=H_ (ake bI);have hBk:=akN HS.o k (by omega);obtain⟨x,hx⟩:=x_ (l[k]);rw[hx]at aS jE;have HX:=H_ hx;obtain⟨⟨i1,i2⟩,i3,i4,i5,i6,am⟩:=x;simp only at jE;obtain⟨S,hS⟩:=x_ (f9 (l.take k));rw[hS]at hBk |-;have CB:=H_ hS;have HBK:=H_ hBk;obtain⟨yI,yH⟩:=hBk;obtain⟨eL,aH⟩:=jE;have lY:=aS.fr (Fr.ofBelow hb);have eZ:=H_ lY.range;clear bL bE aS lY hx hS;go_upto_region 5 with(refine w_ 11 42 10 b (o+k*7) [i1,i2,i3,i4,i5,i6,am] eZ.o aP Tryz.underlying42 ?_);obtain⟨W6,mC,H6,dK,my,ewx⟩:=B_ wr (.cells #[i1,i2,i3,i4,i5,i6,am] 42);rw[mC];clear ewx;clear mC;have c6:=ab H6 6;have dd:=hb.trans (dK.mono hb.size);clear H6;go_wp2_with fail;go_roundw
   case rel=>exact⟨k+1,by omega,by rw[oZ.o,HX.o,CB.o];first|done|go_num|(congr 1;omega),by go_num,dd⟩
   case measure=>first|exact aQ aU|(simp only[intOf];omega)
  case neg=>
   have bq:¬(k:Int)< (n:Int):=by omega
   obtain⟨S,hS⟩:=x_ (f9 (l.take k));rw[hS];have hf:=H_ (show r= -S by rw[<-HR.o,<-hS,show k=n from by omega,<-HN.o,List.take_length]);clear hS;go_wp2_with fail;go_ret;exact⟨hf.o.symm▸rfl,hb⟩
def akk (g:au) (entity n:Int):kF × Int:=
 if bh g=false then({},1)
 else if entity<0\/(g.entities.length:Int)<=entity\/sw n=false then({},2)
 else if n=0 then({},0)else({kind:=1,entity:=entity,other:= -1,rule:=0,parts:=[⟨g.roles.reserve,n⟩]},0)
def VL (w:World) (p:kF × Int) (e:Ending) (w':World):Prop:=∃A c,e=.returned (.tuple #[.agg #[p.1.kind,p.1.entity,p.1.other,p.1.rule,.slice A p.1.parts.length c],p.2])/\
 aj gL 2 w' (λk=>w.heap.size<=k/\k<w'.heap.size) [.slice A p.1.parts.length c] p.1.parts/\Below w.heap.size w w'
theorem VL.bad {w w':World} {e:Int} (hb:Below w.heap.size w w'):VL w ({},e) (.returned (.tuple #[.agg #[(),(),(),(),.slice none 0 0],e])) w':=⟨none,0,rfl,sr _ _ _ _,hb⟩
theorem ln:(Tryz.prog.info? 127).map (·.size)=some 5:=by kernel_rfl
theorem VL.good {w w':World} {b:Nat} {T:TypeId} {k e o r a n err:Int} (hb:Below w.heap.size w w') (hw:w.heap.size<=b) (hB:w'.heap[b]? =some (.cells #[a,n] T (0,0))) (ha:cx a) (hn:cx n):VL w (⟨k,e,o,r,[⟨a,n⟩]⟩,err) (.returned (.tuple #[.agg #[k,e,o,r,.slice (some ⟨b,0,none⟩) 1 1],err])) w':=by
 refine⟨_,_,rfl,⟨_,_,rfl,Nat.le_refl _,by unfold maxLen;simp,λ_=>⟨b,0,rfl,⟨hw,ag hB⟩,λi x hx=>?_⟩⟩,hb⟩;cases i with
 |succ i=>simp at hx
 |zero=>
  simp only[List.getElem?_cons_zero,Option.some.injEq]at hx;subst hx;refine⟨[.int .i64 a,.int .i64 n],⟨[_],[_],rfl,⟨rfl,ha⟩,⟨rfl,hn⟩⟩,?_⟩;rw[Nat.zero_mul,Nat.add_zero];have h2:=dO (cs:=[.int .i64 a,.int .i64 n]) hB;exact⟨⟨hw,ag hB⟩,h2.2⟩
theorem EY {w:World} {g b:Nat} {x:Obj} {cs:Array Value} (h:w.heap[b]? =some x) (bT:b≠g):(w.setRow g cs).heap[b]? =some x:=((cC w g cs).block b bT).trans h
theorem alK {aw:ByteArray} {y m p:Int} {Ac Ae:Option Addr} {cc ce n ne:Nat} {ch:List ah} {es:List aV} {r0 r1 r2 r3 r4 r5 r6 r7 r8 r9 cw cA cy ct cz:Int} (hN:ch.length=n) (hE:es.length=ne) {w:World} (hg:aL w (·<w.heap.size) (fT aw y m p Ac ch.length cc r0 r1 r2 r3 r4 r5 r6 r7 r8 r9 cw cA cy ct cz Ae es.length ce) ⟨aw,⟨y,m,p⟩,ch,⟨r0,r1,r2,r3,r4,r5,r6,r7,r8,r9,cw,cA,cy,ct,cz⟩,es⟩) (hs:dQ ⟨aw,⟨y,m,p⟩,ch,⟨r0,r1,r2,r3,r4,r5,r6,r7,r8,r9,cw,cA,cy,ct,cz⟩,es⟩) {v:Bool} (hv:bh ⟨aw,⟨y,m,p⟩,ch,⟨r0,r1,r2,r3,r4,r5,r6,r7,r8,r9,cw,cA,cy,ct,cz⟩,es⟩=v):Calls Tryz.prog 103 #[.agg (fT aw y m p Ac n cc r0 r1 r2 r3 r4 r5 r6 r7 r8 r9 cw cA cy ct cz Ae ne ce).toArray] w (ap w (.bool v)):=by
 subst hN hE hv;rw[<-Lr];exact SS _ _ w hg hs
theorem ak1 {w w':World} {cs:List Value} {l:List bW} (h:aj je 7 w (·<w.heap.size) cs l) (hb:Below w.heap.size w w'):aj je 7 w' (·<w'.heap.size) cs l:=
 (h.fr (λh=>je.fr h (Fr.ofBelow hb)) (Fr.ofBelow hb)).mono (λh=>je.mono h (λk hk=>by have:=hb.size;omega)) (λk hk=>by have:=hb.size;omega)
theorem aly {l:List bW} {A:Option Addr} {c n:Nat} {w:World} (hN:l.length=n) (hl:aj je 7 w (·<w.heap.size) [.slice A l.length c] l) (hs:akB l) {N:Int} (hv: -f9 l=N):Calls Tryz.prog 38 #[.slice A n c] w (ap w (.int .i64 N)):=by
 subst hN hv;exact alx l A c w hl hs
theorem aln (g:au) (cs:List Value) (ent:Int) (l:List bW) (Al:Option Addr) (cl:Nat) (w:World) (hg:aL w (·<w.heap.size) cs g) (ci:dQ g) (ep:cx ent) (hl:aj je 7 w (·<w.heap.size) [.slice Al l.length cl] l) (hsi:akB l):Calls Tryz.prog 71 #[.agg cs.toArray,ent,.slice Al l.length cl] w (VL w (akk g ent (-f9 l))):=by
 obtain⟨P,hP⟩:=x_ (akk g ent (-f9 l));rw[hP];have FP:=H_ hg;have sW:=H_ ci;have zi:=ci.2.1;obtain⟨N,hN⟩:=x_ (-f9 l);rw[hN]at hP;have hbk:=akN hsi l.length (Nat.le_refl _);rw[List.take_length]at hbk;have amG:=hsi.2;have hNb: -337769972052787200<=N/\N<=337769972052787200:=by rw[<-hN];omega
 obtain⟨hN1,hN2⟩:=hNb;obtain⟨amI,aap⟩:=ep;have HP:=H_ hP;obtain⟨Ac,cc,Ae,ce,rfl,ee,iu,eu,mD⟩:=hg.lit;clear hg;obtain⟨aw,⟨y,m,p⟩,ch,⟨r0,r1,r2,r3,r4,r5,r6,r7,r8,r9,cw,cA,cy,ct,cz⟩,es⟩:=g;simp only at HP zi mD |-;have HR4:=H_ (show cx r4 from mD.2.2.2.2.1);obtain⟨n,bj⟩:=x_ (ch.length);obtain⟨ne,bT⟩:=x_ (es.length);obtain⟨nL,hnL⟩:∃n,l.length=n:=⟨_,rfl⟩;have HN:=H_ bj;have eP:=H_ bT;obtain⟨v,hv⟩:=x_ (bh ⟨aw,⟨y,m,p⟩,ch,⟨r0,r1,r2,r3,r4,r5,r6,r7,r8,r9,cw,cA,cy,ct,cz⟩,es⟩);have HV:=H_ hv;have HGR:=H_ (λ(w2:World) (hb:Below w.heap.size w w2)=>alK bj bT (aL.keep FP.o hb) sW.o hv);have HAM:=H_ (λ(w2:World) (hb:Below w.heap.size w w2)=>aly hnL (ak1 hl hb) hsi hN);rw[bj,bT,hnL];rw[bT]at zi;clear ee iu eu mD bj bT hnL hv hN hP hl hsi ci hbk amG;show Calls Tryz.prog 71 #[.agg #[aw,y,m,p,.slice Ac n cc,r0,r1,r2,r3,r4,r5,r6,r7,r8,r9,cw,cA,cy,ct,cz,.slice Ae ne ce],ent,.slice Al nL cl] w (VL w P);go_enter Tryz.func71,Tryz.ntmps71;go_upto_region 1 with fail;obtain⟨W,hW,H,HB,HS,ewx⟩:=B_ w (.cells #[aw,y,m,p,.slice Ac n cc,r0,r1,r2,r3,r4,r5,r6,r7,r8,r9,cw,cA,cy,ct,cz,.slice Ae ne ce] 29);rw[hW];clear ewx;obtain⟨W2,fR,H2,dz,jK,ewx⟩:=B_ W (.cells #[(),(),(),(),.slice none 0 0] 127);rw[fR];replace H:=(dz.block _ (ag H)).trans H;clear ewx;clear fR;have eW:W.heap.size=w.heap.size+1:=by rw[<-hW];simp
 rw[eW]at H2;clear hW;have aH:=HB.trans (dz.mono HB.size);have dW:=dz.size;have lV:=ag H2;have HH:=H_ H;have HZ:=H_ H2;clear H H2;go_wp2_with (refine W_ 9 29 3 w.heap.size HH.o ay Tryz.underlying29 ?_);refine(HGR.o W2 aH).mono ?_;rintro e w3 ⟨rfl,aZ⟩;have aR:=aH.trans (aZ.mono aH.size);have lE:=aZ.size;have l7:=H_ ((aZ.block _ (by omega)).trans HZ.o);have kS:=H_ ((aZ.block _ (by omega)).trans HH.o);cases v with
 |false=>
  have hf:=H_ (show P=({},1) by rw[<-HP.o];unfold akk;rw[if_pos HV.o]);go_wp2_with (show wpList _ _ _ (Oper.mk none (Op.store _ (Operand.tmp 6) _) _ _ _ _::_) _ _;refine wpList_store_row rfl 127 (.tmp 6) (.tmp 12) rfl (w.heap.size+1) #[(),(),(),(),.slice none 0 0] rfl rfl 127 #[(),(),(),(),.slice none 0 0] l7.o (by rw[ln];rfl) rfl (by simp[Value.oneCell']) ?_);refine bodyPost_ret (v:=.tuple #[.agg #[(),(),(),(),.slice none 0 0],(1:Int)]) (aA rfl _ _ (w.heap.size+1) 127 _ (0,0) _ rfl (aB l7.o _) Tryz.underlying127 rfl (by rw[ln];rfl) _ rfl) rfl ?_;rw[hf.o];exact VL.bad (aD aR (by omega) _)
 |true=>
 go_wp2_with fail;refine(HAM.o w3 aR).mono ?_;rintro e w4 ⟨rfl,bU⟩;have bD:=aR.trans (bU.mono aR.size);have yJ:=bU.size;have kX:=H_ ((bU.block _ (by omega)).trans l7.o);have oW:=H_ ((bU.block _ (by omega)).trans kS.o);have d20:=ab oW.o 20;have d9:=ab oW.o 9;by_cases h1:ent<0
 case pos=>
  have hf:=H_ (show P=({},2) by rw[<-HP.o];unfold akk;rw[if_neg (by rw[HV.o];decide)];rw[if_pos (Or.inl h1)]);go_wp2_with (show wpList _ _ _ (Oper.mk none (Op.store _ (Operand.tmp 6) _) _ _ _ _::_) _ _;refine wpList_store_row rfl 127 (.tmp 6) (.tmp 29) rfl (w.heap.size+1) #[(),(),(),(),.slice none 0 0] rfl rfl 127 #[(),(),(),(),.slice none 0 0] kX.o (by rw[ln];rfl) rfl (by simp[Value.oneCell']) ?_);refine bodyPost_ret (v:=.tuple #[.agg #[(),(),(),(),.slice none 0 0],(2:Int)]) (aA rfl _ _ (w.heap.size+1) 127 _ (0,0) _ rfl (aB kX.o _) Tryz.underlying127 rfl (by rw[ln];rfl) _ rfl) rfl ?_;rw[hf.o];exact VL.bad (aD bD (by omega) _)
 case neg=>
 by_cases h2:(ne:Int)<=ent
 case pos=>
  have hf:=H_ (show P=({},2) by rw[<-HP.o];unfold akk;rw[if_neg (by rw[HV.o];decide)];rw[if_pos (Or.inr (Or.inl (by rw[eP.o];exact h2)))]);go_wp2_with (show wpList _ _ _ (Oper.mk none (Op.store _ (Operand.tmp 6) _) _ _ _ _::_) _ _;refine wpList_store_row rfl 127 (.tmp 6) (.tmp 29) rfl (w.heap.size+1) #[(),(),(),(),.slice none 0 0] rfl rfl 127 #[(),(),(),(),.slice none 0 0] kX.o (by rw[ln];rfl) rfl (by simp[Value.oneCell']) ?_);refine bodyPost_ret (v:=.tuple #[.agg #[(),(),(),(),.slice none 0 0],(2:Int)]) (aA rfl _ _ (w.heap.size+1) 127 _ (0,0) _ rfl (aB kX.o _) Tryz.underlying127 rfl (by rw[ln];rfl) _ rfl) rfl ?_;rw[hf.o];exact VL.bad (aD bD (by omega) _)
 case neg=>
 obtain⟨mv,Yb⟩:∃v,sw N=v:=⟨_,rfl⟩;have aM:=S8 N w4;rw[Yb]at aM;have Fj:=H_ Yb;clear Yb;have h2':¬ent≥(ne:Int):=h2;go_wp2_with fail;refine aM.mono ?_;clear aM;rintro e w5 ⟨rfl,cP⟩;have fG:=bD.trans (cP.mono bD.size);have QU:=cP.size;have vv:=H_ ((cP.block _ (by omega)).trans kX.o);have QZ:=H_ ((cP.block _ (by omega)).trans oW.o);clear d20 d9;have d9:=ab QZ.o 9;cases mv with
 |false=>
  have hf:=H_ (show P=({},2) by rw[<-HP.o];unfold akk;rw[if_neg (by rw[HV.o];decide)];rw[if_pos (Or.inr (Or.inr Fj.o))]);go_wp2_with (show wpList _ _ _ (Oper.mk none (Op.store _ (Operand.tmp 6) _) _ _ _ _::_) _ _;refine wpList_store_row rfl 127 (.tmp 6) (.tmp 29) rfl (w.heap.size+1) #[(),(),(),(),.slice none 0 0] rfl rfl 127 #[(),(),(),(),.slice none 0 0] vv.o (by rw[ln];rfl) rfl (by simp[Value.oneCell']) ?_);refine bodyPost_ret (v:=.tuple #[.agg #[(),(),(),(),.slice none 0 0],(2:Int)]) (aA rfl _ _ (w.heap.size+1) 127 _ (0,0) _ rfl (aB vv.o _) Tryz.underlying127 rfl (by rw[ln];rfl) _ rfl) rfl ?_;rw[hf.o];exact VL.bad (aD fG (by omega) _)
 |true=>
 have HNB:=H_ (show cx N by unfold cx;omega);have Xw:=H_ (show ¬(ent<0\/(es.length:Int)<=ent\/sw N=false) by
  rw[eP.o,Fj.o];rintro(h|h|h)
  ·omega
  ·omega
  ·cases h)
 by_cases h3:N=0
 case pos=>
  subst h3;have hf:=H_ (show P=({},0) by rw[<-HP.o];unfold akk;rw[if_neg (by rw[HV.o];decide)];rw[if_neg Xw.o,if_pos rfl]);go_wp2_with (show wpList _ _ _ (Oper.mk none (Op.store _ (Operand.tmp 6) _) _ _ _ _::_) _ _;refine wpList_store_row rfl 127 (.tmp 6) (.tmp 32) rfl (w.heap.size+1) #[(),(),(),(),.slice none 0 0] rfl rfl 127 #[(),(),(),(),.slice none 0 0] vv.o (by rw[ln];rfl) rfl (by simp[Value.oneCell']) ?_);refine bodyPost_ret (v:=.tuple #[.agg #[(),(),(),(),.slice none 0 0],()]) (aA rfl _ _ (w.heap.size+1) 127 _ (0,0) _ rfl (aB vv.o _) Tryz.underlying127 rfl (by rw[ln];rfl) _ rfl) rfl ?_;rw[hf.o];exact VL.bad (aD fG (by omega) _)
 case neg=>
  have h3':(N==0)=false:=by simpa using h3
  have hf:=H_ (show P=(⟨1,ent,-1,0,[⟨r4,N⟩]⟩,0) by rw[<-HP.o];unfold akk;rw[if_neg (by rw[HV.o];decide)];rw[if_neg Xw.o,if_neg h3]);clear h3;go_wp2_with (show wpList _ _ _ (Oper.mk none (Op.store _ (Operand.tmp 6) _) _ _ _ _::_) _ _;refine wpList_store_row rfl 127 (.tmp 6) (.tmp 40) rfl (w.heap.size+1) #[(1:Int),ent,(-1:Int),(),.slice (some ⟨w5.heap.size,0,none⟩) 1 1] rfl rfl 127 #[(),(),(),(),.slice none 0 0] (al vv.o _) (by rw[ln];rfl) rfl (by simp[Value.oneCell']) ?_);refine bodyPost_ret (v:=.tuple #[.agg #[(1:Int),ent,(-1:Int),(),.slice (some ⟨w5.heap.size,0,none⟩) 1 1],()]) (aA rfl _ _ (w.heap.size+1) 127 _ (0,0) _ rfl (aB (al vv.o _) _) Tryz.underlying127 rfl (by rw[ln];rfl) _ rfl) rfl ?_;rw[hf.o];exact VL.good (aD (fG.alloc fG.size _) (by omega) _) (by omega) (EY (heap_alloc_new w5 _) (by omega)) HR4.o HNB.o
section
variable {P:Program} (w:World)
theorem Cl (base:Nat) (t ty e:TypeId) (i:TypeInfo) (size:Nat) (ht:P.underlying t=some (.slice e)) (hi:P.info? e=some i)
 (v:Value) (n:Nat) (xs:List Value) (bv:w.ownsRow base e size v n xs) (c:Nat):(Builtin.append_ #[t,t] ty #[v,.slice none 0 c]).run P w=.ok v w:=by
 rcases bv.2 with⟨rfl,rfl⟩|⟨g,cap,aw,rfl,_,_,Rc,_⟩
 ·simp[Builtin.append_,run_underlying ht,sizeOf,typeInfo,hi,Builtin.lenOf,Builtin.firstCells]
 ·simp[Builtin.append_,run_underlying ht,sizeOf,typeInfo,hi,Builtin.lenOf,Builtin.firstCells,Rc,storeCells]
theorem JF (base:Nat) (t ty e:TypeId) (i:TypeInfo) (z:Value) (size fF:Nat) (ht:P.underlying t=some (.slice e)) (hi:P.info? e=some i) (hz:i.zero=some z)
 (lf:i.size=size) (MM:i.bytes=fF) (Ns:z.cells.size=size) (bP:0<size)
 (v:Value) (n:Nat) (xs:List Value) (bv:w.ownsRow base e size v n xs)
 (Q:Nat->Prop) (A:Option Addr) (m c:Nat) (gd:List Value) (hr:Rd w Q A m size gd) (h1:∀u∈gd,u.oneCell'=true)
 (Mu:n+m<=maxLen) (jF:(n+m)*fF<=140737488355328) (jR:base<=w.heap.size):
 ∃v' w',(Builtin.append_ #[t,t] ty #[v,.slice A m c]).run P w=.ok v' w'/\w'.ownsRow base e size v' (n+m) (xs++gd)/\w.grownBy w' v.ownBlock/\
  (v'.ownBlock=v.ownBlock\/v'.ownBlock=some w.heap.size):=by
 rcases A with _|ad
 ·have hm:m=0:=by
   rcases Nat.eq_zero_or_pos m with h0|h0
   ·exact h0
   ·obtain⟨ad,h,_⟩:=hr.2 h0;cases h
  subst hm;have hn:gd=[]:=List.eq_nil_of_length_eq_zero (by simpa using hr.1);subst hn;exact⟨v,w,Cl w base t ty e i size ht hi v n xs bv c,by simpa using bv,World.grownBy.refl w _,.inl rfl⟩
 ·have V0:∀j u,gd[j]? =some u->w.cell? (ad.add j)=some u:=by
   intro j u hu;rcases Nat.eq_zero_or_pos m with h0|h0
   ·subst h0;have hn:gd=[]:=List.eq_nil_of_length_eq_zero (by simpa using hr.1);subst hn;simp at hu
   ·obtain⟨ad',h,hc⟩:=hr.2 h0
    injection h with h
    subst h;exact(hc.2 j u hu).1
  obtain⟨v',w',eC,h2,h3,_,h5⟩:=run_append_own_at (P:=P) w base t ty e i z size fF ht hi hz lf MM Ns bP v n xs bv ad m c gd hr.1 V0 h1 Mu jF jR;exact⟨v',w',eC,h2,h3,h5⟩
theorem Qs {o:Oper} {a:Act} {K:Act->World->Prop} {Q':Exit->Act->World->Prop} (s x:Operand) (t:TypeId)
 (ho:o.op=.call {callee:=.builtin .append,args:=#[s,x],argTypes:=#[t,t]})
 (base:Nat) (e:TypeId) (i:TypeInfo) (z:Value) (size fF:Nat) (ht:P.underlying t=some (.slice e)) (hi:P.info? e=some i) (hz:i.zero=some z)
 (lf:i.size=size) (MM:i.bytes=fF) (Ns:z.cells.size=size) (bP:0<size)
 (v:Value) (n:Nat) (xs:List Value) (hs:a.eval s=v) (bv:w.ownsRow base e size v n xs)
 (Q:Nat->Prop) (A:Option Addr) (m c:Nat) (gd:List Value) (hx:a.eval x=.slice A m c) (hr:Rd w Q A m size gd) (h1:∀u∈gd,u.oneCell'=true)
 (Mu:n+m<=maxLen) (jF:(n+m)*fF<=140737488355328) (jR:base<=w.heap.size)
 (h:∀v' w',w'.ownsRow base e size v' (n+m) (xs++gd)->w.grownBy w' v.ownBlock->(v'.ownBlock=v.ownBlock\/v'.ownBlock=some w.heap.size)->K (a.put o.dst v') w'):o.wp P a w K Q':=by
 obtain⟨v',w',eC,h2,h3,h4⟩:=JF (P:=P) w base t o.type e i z size fF ht hi hz lf MM Ns bP v n xs bv Q A m c gd hr h1 Mu jF jR;unfold Oper.wp execOp;simp only[ho,resolve,invoke,builtin,Sem.run_bind,Sem.run_pure,Result.andThen_ok,List.map_toArray,List.map_cons,List.map_nil,hs,hx,eC];exact h v' w' h2 h3 h4
theorem cq {ops:Array Oper} {rest:List Oper} {o:Oper} {a:Act} {Q':Exit->Act->World->Prop} (qE:o.guard=none) (s x:Operand) (t:TypeId)
 (ho:o.op=.call {callee:=.builtin .append,args:=#[s,x],argTypes:=#[t,t]})
 (base:Nat) (e:TypeId) (i:TypeInfo) (z:Value) (size fF:Nat) (ht:P.underlying t=some (.slice e)) (hi:P.info? e=some i) (hz:i.zero=some z)
 (lf:i.size=size) (MM:i.bytes=fF) (Ns:z.cells.size=size) (bP:0<size)
 (v:Value) (n:Nat) (xs:List Value) (hs:a.eval s=v) (bv:w.ownsRow base e size v n xs)
 (Q:Nat->Prop) (A:Option Addr) (m c:Nat) (gd:List Value) (hx:a.eval x=.slice A m c) (hr:Rd w Q A m size gd) (h1:∀u∈gd,u.oneCell'=true)
 (Mu:n+m<=maxLen) (jF:(n+m)*fF<=140737488355328) (jR:base<=w.heap.size)
 (h:∀v' w',w'.ownsRow base e size v' (n+m) (xs++gd)->w.grownBy w' v.ownBlock->(v'.ownBlock=v.ownBlock\/v'.ownBlock=some w.heap.size)->wpList P ops Q' rest (a.put o.dst v') w'):wpList P ops Q' (o::rest) a w:=
 wpList_plain qE λ_ hK=>Qs w s x t ho base e i z size fF ht hi hz lf MM Ns bP v n xs hs bv Q A m c gd hx hr h1 Mu jF jR λv' w' h2 h3 h4=>hK _ _ (h v' w' h2 h3 h4)
theorem Fa {ops:Array Oper} {o:Oper} {a:Act} {K:Act->World->Prop} {Q':Exit->Act->World->Prop} {E:Prop} (qE:o.guard=none) (s x:Operand) (t:TypeId)
 (ho:o.op=.call {callee:=.builtin .append,args:=#[s,x],argTypes:=#[t,t]})
 (base:Nat) (e:TypeId) (i:TypeInfo) (z:Value) (size fF:Nat) (ht:P.underlying t=some (.slice e)) (hi:P.info? e=some i) (hz:i.zero=some z)
 (lf:i.size=size) (MM:i.bytes=fF) (Ns:z.cells.size=size) (bP:0<size)
 (v:Value) (n:Nat) (xs:List Value) (hs:a.eval s=v) (bv:w.ownsRow base e size v n xs)
 (Q:Nat->Prop) (A:Option Addr) (m c:Nat) (gd:List Value) (hx:a.eval x=.slice A m c) (hr:Rd w Q A m size gd) (h1:∀u∈gd,u.oneCell'=true)
 (Mu:n+m<=maxLen) (jF:(n+m)*fF<=140737488355328) (jR:base<=w.heap.size)
 (h:∀v' w',w'.ownsRow base e size v' (n+m) (xs++gd)->w.grownBy w' v.ownBlock->(v'.ownBlock=v.ownBlock\/v'.ownBlock=some w.heap.size)->K (a.put o.dst v') w'):
 if Region.wanted o (yielded ops a.tmps)=true then Oper.wp P o a w K Q' else E:=by
 have hw:Region.wanted o (yielded ops a.tmps)=true:=by simp[Region.wanted,qE]
 rw[if_pos hw];exact Qs w s x t ho base e i z size fF ht hi hz lf MM Ns bP v n xs hs bv Q A m c gd hx hr h1 Mu jF jR h
end
theorem fq {w:World} {g n size:Nat} {T:TypeId} {xs:List Value} (h:w.heap[g]? =some (.cells xs.toArray T (0,0))) (hl:xs.length=n*size):Rd w (λ_=>True) (some ⟨g,0,none⟩) n size xs:=
 ⟨hl,λ_=>⟨⟨g,0,none⟩,rfl,(dO h).mono (λ_ _=>trivial)⟩⟩
theorem sA {α:Type} {El:World->(Nat->Prop)->List Value->α->Prop} {f:α->List Value} {sz:Nat} (hf:∀x,(f x).length=sz) {w:World} {Q:Nat->Prop} {base:Nat} {e:TypeId} {v:Value} {xs:List α} (h:w.ownsRow base e sz v xs.length (xs.flatMap f)) (hE:∀x∈xs,El w Q (f x) x) (hQ:∀g,v.ownBlock=some g->Q g) (hm:xs.length<=1000):aj El sz w Q [v] xs:=by
 rcases Nat.eq_zero_or_pos xs.length with h0|h0
 ·have hx:xs=[]:=List.eq_nil_of_length_eq_zero h0;subst hx;rcases h.2 with⟨rfl,_⟩|⟨g,cap,aw,rfl,_⟩
  ·exact sr _ _ _ _
  ·rename_i h2;exact⟨_,cap,rfl,by simp,h2.2.2.2.1,λh=>absurd h (by simp)⟩
 ·obtain⟨g,cap,rfl,h1,h2⟩:∃g cap,v=.slice (some ⟨g,0,none⟩) xs.length cap/\xs.length<=cap/\cap<=maxLen:=by
   rcases h.2 with⟨_,hz⟩|⟨g,cap,aw,hv,_,_,h3,h4,_⟩
   ·omega
   ·exact⟨g,cap,hv,h3,h4⟩
  refine⟨_,cap,rfl,h1,h2,λ_=>⟨g,0,rfl,hQ g rfl,λi x hx=>⟨f x,hE x (List.mem_of_getElem? hx),?_⟩⟩⟩;have aS:At w Q ⟨g,0,none⟩ (xs.flatMap f):=⟨hQ g rfl,λj u hu=>⟨h.cells (g:=g) rfl j u hu,kc h (g:=g) rfl j⟩⟩;have:=qU f hf xs 0 aS i x hx;exact this
theorem eT {P:Program} {fn:Func} {p:Tmp} {ty:TypeId} (h:fn.results=#[.cell p ty]) (tmps:Array Value) (w:World) (g:Nat) (T:TypeId) (cs:Array Value) (fr:Nat × Nat) (d:TypeDesc)
 (hp:tmps.getD p undef=.pointer (some ⟨g,0,none⟩)) (hg:w.heap[g]? =some (.cells cs T fr))
 (hu:P.underlying ty=some d) (hd:(match d with| .struct _| .array _ _=>true|_=>false)=true) (hi:(P.info? ty).map (·.size)=some cs.size):
 (results fn tmps).run P w=.ok (.agg cs) w:=by
 have hp':tmps[p]?.getD undef=.pointer (some ⟨g,0,none⟩):=by simpa using hp
 simp[results,h,hp',asAddr,run_loadVar_row w g T ty cs fr d hg hu hd hi]
theorem Qa (w:World):Calls Tryz.prog 75 #[] w (λe w'=>e=.returned (.agg #[(1500:Int),(1600:Int),(1700:Int),(1200:Int),(3100:Int),(3200:Int),(3300:Int),(3400:Int),(3500:Int),(4500:Int),(4600:Int),(4700:Int),(5500:Int),(5600:Int),(5700:Int)])/\Below w.heap.size w w'):=by
 go_enter Tryz.func75,Tryz.ntmps75;go_wp2_with fail;refine bodyPost_ret (v:=_) (eT rfl _ _ w.heap.size 26 _ (0,0) _ rfl (heap_alloc_new _ _) Tryz.underlying26 rfl (by rw[kI];rfl)) rfl ⟨rfl,(Below.refl _ _).alloc (Nat.le_refl _) _⟩
end
end Go.Proofs.YtibiddakakgakaaGreat
