/- Where an amount is shown: program and reference. Written by gen_x7.py. -/
import Derived.Test.YtibiddakakgakaaGreatQdW2X6
import Derived.RangeFuncGives
set_option linter.unusedVariables false
set_option linter.unusedSimpArgs false
set_option maxRecDepth 4000
attribute [local go_sem ↓] Go.wp_at_zero Go.wp_at_succ
set_option maxHeartbeats 16000000
namespace Go.Proofs.YtibiddakakgakaaGreat
section
open Go Go.RowKit
theorem I7 {g:au} (hg:bh g=true) {p:Int} (hp:0<=p/\p<g.calendar.periods):akf g.calendar.year g.calendar.month g.calendar.periods p=(tG g p,0):=by
 have hc:=fy hg;have MA:bo g.calendar.year g.calendar.month g.calendar.periods p=0:=by unfold bo;rw[if_pos hc,if_pos hp]
 unfold akf;rw[if_pos MA];unfold tG;rw[An hg (p:=p- p%12) (by omega)]
theorem OS (g:au) (gl:List Value) (code date beg:Int) (w:World) (hg:aL w (·<w.heap.size) gl g):Calls Tryz.prog 117 #[.agg gl.toArray,code,date,beg] w (ap w (.int .i64 (if date<beg/\xV g code=true then g.roles.retained else code))):=by
 have HC:=H_ (λ(w2:World) (hb:Below w.heap.size w w2)=>Lq g gl code w2 (hg.keep hb));have fu:=H_ (show gl.toArray.size=21 by have:=hg.len;simpa using this);have XQ:=H_ hg.cellsA.2.2.2.2;generalize g.roles.retained=ret at*;obtain⟨v,hv⟩:=x_ (xV g code);rw[hv]at HC |-;obtain⟨R,hR⟩:=x_ ((if date<beg/\v=true then ret else code));have HR:=H_ hR;rw[hR];clear hg hv hR;go_enter Tryz.func117,Tryz.ntmps117;go_upto_region 1 with fail;obtain⟨W1,cS,H1,bC,dr,ewx⟩:=B_ w (.cells gl.toArray 29);rw[cS];clear ewx;clear cS;have fB:=H_ H1;clear H1;by_cases aU:date<beg
 case neg=>
  have hf:=H_ (show R=code by rw[<-HR.o,if_neg (λh=>aU h.1)]);have hd:decide (date<beg)=false:=decide_eq_false aU;clear aU;go_wp2_with fail;go_ret;exact⟨hf.o.symm▸rfl,bC⟩
 case pos=>
  have HD:=H_ aU;have hd:decide (date<beg)=true:=decide_eq_true aU;clear aU;go_wp2_with (refine W_ 13 29 4 (w.heap.size) fB.o (by rw[ay];exact congrArg some fu.o.symm) Tryz.underlying29 ?_);refine(HC.o W1 bC).mono ?_;rintro e w2 ⟨rfl,aH⟩;have aF:=bC.trans (aH.mono bC.size);have Nt:=(ab ((aH.block _ dr).trans fB.o) 11).trans XQ.o;cases v with
  |true=>
   have hf:=H_ (show R=ret by rw[<-HR.o,if_pos ⟨HD.o,rfl⟩]);go_wp2_with fail;go_ret;exact⟨hf.o.symm▸rfl,aF⟩
  |false=>
   have hf:=H_ (show R=code by rw[<-HR.o,if_neg (λh=>by cases h.2)]);go_wp2_with fail;go_ret;exact⟨hf.o.symm▸rfl,aF⟩
theorem OJ (g:au) (gl:List Value) (p:Int) (w:World) (hg:aL w (·<w.heap.size) gl g) (ci:dQ g) (hv:bh g=true) (hp:0<=p/\p<g.calendar.periods) (lX:cx p):Calls Tryz.prog 115 #[.agg gl.toArray,p] w (ap w (.tuple #[(tG g p),()])):=by
 have HV:=H_ (λ(w2:World) (hb:Below w.heap.size w w2)=>show Calls Tryz.prog 103 #[.agg gl.toArray] w2 (ap w2 (.bool true)) by
  have h:=BT hg ci w2 hb
  rwa[hv]at h)
 have HBG:=H_ (λ(w2:World)=>show Calls Tryz.prog 157 #[.agg #[g.calendar.year,g.calendar.month,g.calendar.periods],p] w2 (ap w2 (.tuple #[(tG g p),()])) by
  have h:=OH g.calendar.year g.calendar.month g.calendar.periods p w2 lX
  rwa[I7 hv hp]at h)
 have fu:=H_ (show gl.toArray.size=21 by have:=hg.len;simpa using this);obtain⟨h0,h1,h2,h3,dx⟩:=hg.cellsA;have Cv:=H_ (λ(w2:World) (h:w2.heap[w.heap.size]? =some (.cells gl.toArray 29 (0,0)))=>dg h h1 h2 h3);clear hg ci hv hp lX h0 h1 h2 h3 dx;generalize g.calendar.year=y at*;generalize g.calendar.month=m at*;generalize g.calendar.periods=n at*;generalize tG g p=bg at*;go_enter Tryz.func115,Tryz.ntmps115;go_upto_region 1 with fail;obtain⟨W1,cS,H1,bC,dr,ewx⟩:=B_ w (.cells gl.toArray 29);rw[cS];clear ewx;clear cS;have fB:=H_ H1;clear H1;go_wp2_with (refine W_ 8 29 2 (w.heap.size) fB.o (by rw[ay];exact congrArg some fu.o.symm) Tryz.underlying29 ?_);refine(HV.o W1 bC).mono ?_;rintro e w2 ⟨rfl,aH⟩;have aF:=bC.trans (aH.mono bC.size);have vq:=H_ (Cv.o w2 ((aH.block _ dr).trans fB.o));go_wp2_with (show wpList _ _ _ (Oper.mk (some 13) _ _ _ _ _::_) _ _;refine cO rfl 23 (.tmp 12) rfl (w.heap.size) 1 rfl [.int .i64 y,.int .i64 m,.int .i64 n] _ vq.o Tryz.underlying23 rfl bV ?_);refine(HBG.o w2).mono ?_;rintro e w3 ⟨rfl,aZ⟩;have aR:=aF.trans (aZ.mono aF.size);go_wp2_with fail;go_ret2;exact⟨rfl,aR⟩
theorem OR (g:au) (gl:List Value) (code date p:Int) (w:World) (hg:aL w (·<w.heap.size) gl g) (ci:dQ g) (hv:bh g=true) (hp:0<=p/\p<g.calendar.periods) (lX:cx p) (Dv:(aK g.chart code).isSome=true):Calls Tryz.prog 82 #[.agg gl.toArray,code,date,p] w (ap w (.tuple #[(lK g code date p),()])):=by
 have lg:=H_ (λ(w2:World) (hb:Below w.heap.size w w2)=>OJ g gl p w2 (hg.keep hb) ci hv hp lX);have nH:=H_ (λ(w2:World) (hb:Below w.heap.size w w2)=>xq g gl code w2 (hg.keep hb));have RH:=H_ (λ(w2:World) (hb:Below w.heap.size w w2)=>show Calls Tryz.prog 117 #[.agg gl.toArray,code,date,(tG g p)] w2 (ap w2 (.int .i64 (lK g code date p)))from OS g gl code date (tG g p) w2 (hg.keep hb));have fu:=H_ (show gl.toArray.size=21 by have:=hg.len;simpa using this);have e0:cF g.chart code=.tuple #[.agg (bn (gH (aK g.chart code))).toArray,true]:=by unfold cF;rw[Dv]
 rw[e0]at nH;generalize gH (aK g.chart code)=x at*;obtain⟨a1,a2,a3,a4⟩:=x;generalize tG g p=bg at*;generalize lK g code date p=sh at*;clear hg ci hv hp lX Dv e0;go_enter Tryz.func82,Tryz.ntmps82;go_upto_region 1 with fail;obtain⟨W1,cS,H1,bC,dr,ewx⟩:=B_ w (.cells gl.toArray 29);rw[cS];clear ewx;clear cS;have fB:=H_ H1;clear H1;go_wp2_with (refine W_ 15 29 4 (w.heap.size) fB.o (by rw[ay];exact congrArg some fu.o.symm) Tryz.underlying29 ?_);refine(lg.o W1 bC).mono ?_;rintro e w2 ⟨rfl,aH⟩;have aF:=bC.trans (aH.mono bC.size);have dn:=k_ aH fB;have dW:=Nat.lt_of_lt_of_le dr aH.size;go_wp2_with (refine W_ 24 29 4 (w.heap.size) dn.o (by rw[ay];exact congrArg some fu.o.symm) Tryz.underlying29 ?_);refine(nH.o w2 aF).mono ?_;rintro e w3 ⟨rfl,aZ⟩;have aR:=aF.trans (aZ.mono aF.size);have kS:=k_ aZ dn;have lE:=Nat.lt_of_lt_of_le dW aZ.size;simp only[bn];go_upto_region 5 with fail
 have oW:=H_ (al kS.o (.cells #[a1,a2,a3,a4] 78));have gw:=aR.trans ((ai w3 (.cells #[a1,a2,a3,a4] 78)).mono aR.size);generalize JU:w3.alloc (Obj.cells #[a1,a2,a3,a4] 78)=W4 at*;clear JU;go_wp2_with (refine W_ 31 29 4 (w.heap.size) oW.o (by rw[ay];exact congrArg some fu.o.symm) Tryz.underlying29 ?_);refine(RH.o W4 gw).mono ?_;rintro e w5 ⟨rfl,cP⟩;go_wp2_with fail;go_ret2;exact⟨rfl,gw.trans (cP.mono gw.size)⟩
theorem Sv (x y:bu) (w:World):Calls Tryz.prog 128 #[.agg (eI x).toArray,.agg (eI y).toArray] w (ap w (.int .i64 (eG x.since y.since))):=by
 obtain⟨p1,p2,p3⟩:=x;obtain⟨y1,y2,y3⟩:=y;show Calls Tryz.prog 128 #[.agg #[p1,p2,p3],.agg #[y1,y2,y3]] w (ap w (.int .i64 (eG p3 y3)));obtain⟨r,hr⟩:=x_ (eG p3 y3);have HR:=H_ hr;rw[hr];clear hr;go_enter Tryz.func128,Tryz.ntmps128;go_upto_region 1 with fail;obtain⟨W,hW,H,HB,HS,ewx⟩:=B_ w (.cells #[p1,p2,p3] 154);rw[hW];clear ewx;obtain⟨W2,fR,H2,dz,jK,ewx⟩:=B_ W (.cells #[y1,y2,y3] 154);rw[fR];replace H:=(dz.block _ (ag H)).trans H;clear ewx;clear fR;have eW:W.heap.size=w.heap.size+1:=by rw[<-hW];simp
 rw[eW]at H2;clear hW;have aH:=HB.trans (dz.mono HB.size);have dW:=dz.size;have lV:=ag H2;have nf:w.heap.size<W2.heap.size:=by omega
 have HH:=H_ H;have HZ:=H_ H2;have EW:=H_ eW;clear H H2 eW;have aF:=aH;have ku:=nf;have kt:=lV;have dn:=HH;have qN:=HZ;have c2:=ab dn.o 2;have d2:=ab qN.o 2;by_cases h1:p3<y3
 case pos=>
  have hf:=H_ (show r= -1 by rw[<-HR.o];unfold eG;rw[if_pos h1]);have tR:decide (p3<y3)=true:=decide_eq_true h1;clear h1;go_wp2_with fail;go_ret;exact⟨hf.o.symm▸rfl,aF⟩
 case neg=>
  have tR:decide (p3<y3)=false:=decide_eq_false h1;by_cases h2:y3<p3
  case pos=>
   have hf:=H_ (show r=1 by rw[<-HR.o];unfold eG;rw[if_neg h1,if_pos h2]);have tt:decide (p3>y3)=true:=decide_eq_true h2;clear h1 h2;go_wp2_with fail;go_ret;exact⟨hf.o.symm▸rfl,aF⟩
  case neg=>
   have hf:=H_ (show r=0 by rw[<-HR.o];unfold eG;rw[if_neg h1,if_neg h2]);have tt:decide (p3>y3)=false:=decide_eq_false h2;clear h1 h2;go_wp2_with fail;go_ret;exact⟨hf.o.symm▸rfl,aF⟩
def nb (o:Option bu) (l:bu):Option bu:=if sn o l=true then some l else o
def spK (ls:List bu) (code gA:Int):List bu:=ls.filter (λl=>decide (l.from_=code/\l.since<=gA))
theorem GW (ls:List bu) (code gA:Int):js ls code gA=(spK ls code gA).foldl nb none:=by
 have h:∀(ls:List bu) (o:Option bu),ls.foldl (zw code gA) o=(spK ls code gA).foldl nb o:=by
  intro ls
  induction ls with
  |nil=>intro o;rfl
  |cons r rs ih=>
   intro o;rw[List.foldl_cons,ih];unfold spK;by_cases hw:r.from_=code/\r.since<=gA
   ·rw[List.filter_cons_of_pos (by simpa using hw),List.foldl_cons]
    congr 1
    unfold zw nb;by_cases hl:sn o r=true
    ·rw[if_pos ⟨hw.1,hw.2,hl⟩,if_pos hl]
    ·rw[if_neg (λh=>hl h.2.2),if_neg hl]
   ·rw[List.filter_cons_of_neg (by simpa using hw)]
    congr 1
    unfold zw;rw[if_neg (λh=>hw ⟨h.1,h.2.1⟩)]
 exact h ls none
theorem GV {ms:List bu} {k:Nat} (hk:k<ms.length) {s:bu} (h:(ms.take k).foldl nb none=some s):(ms.take (k+1)).foldl nb none=some (if s.since<ms[k].since then ms[k]else s):=by
 rw[List.take_add_one,List.getElem?_eq_getElem hk,List.foldl_append,h];show nb (some s) ms[k]=_;unfold nb sn;by_cases hl:s.since<ms[k].since
 ·rw[if_pos (decide_eq_true hl),if_pos hl]
 ·rw[if_neg (by simpa using hl),if_neg hl]
theorem SI (a b:Int):decide (eG a b>0)=decide (b<a):=by
 unfold eG;by_cases h1:a<b
 ·rw[if_pos h1,decide_eq_false (show ¬b<a by omega)];rfl
 ·by_cases h2:b<a
  ·rw[if_neg h1,if_pos h2,decide_eq_true h2];rfl
  ·rw[if_neg h1,if_neg h2,decide_eq_false h2];rfl
theorem acb (ms:List bu) (A:Option Addr) (cc:Nat) (w:World) (hl:aj bJ 3 w (·<w.heap.size) [.slice A ms.length cc] ms) (bT:0<ms.length):
 Calls Tryz.prog 127 #[.slice A ms.length cc,.func (.func 128) #[] #[]] w (λe w'=>∃s,ms.foldl nb none=some s/\e=.returned (.agg (eI s).toArray)/\Below w.heap.size w w'):=by
 obtain⟨b,o,dj,ed,hall⟩:=aj.base hl bT;subst dj;have eY:=H_ (λ(j:Nat) (hj:j<ms.length)=>show At w (·<w.heap.size) ⟨b,o+j*3,none⟩ (eI ms[j]) by
  obtain⟨es,h1,h2⟩:=hall j hj
  rwa[(bJ.lit h1).1]at h2)
 have go:=H_ ed;have gr:=hl.cap;unfold maxLen at gr;obtain⟨n,hn⟩:=x_ (ms.length);have HN:=H_ hn;rw[hn]at gr bT |-;clear hl hall hn ed;obtain⟨x,hx⟩:∃x,ms[0]'(by have:=HN.o;omega)=x:=⟨_,rfl⟩;have HX:=H_ hx;have h0:=eY.o 0 (by have:=HN.o;omega);rw[hx]at h0;obtain⟨p1,p2,p3⟩:=x;have Bl:=H_ (show w.rangeAt b o [p1,p2,p3] by have:=h0.range;simpa using this);have VE:¬(n:Int)<1:=by omega
 clear hx h0;go_enter Tryz.func127,Tryz.ntmps127;go_upto_region 1 with fail;obtain⟨W1,cS,H1,bC,dr,ewx⟩:=B_ w (.cells #[(),(),()] 154);rw[cS];clear ewx;have yN:=H_ (show W1.heap.size=w.heap.size+1 by rw[<-cS];simp);clear cS;have HZ1:=H_ H1;have Bx:=H_ (show W1.rangeAt b o [p1,p2,p3]from λj v hj=>(bC.cell (p:=⟨b,o+j,none⟩) go.o).trans (Bl.o j v hj));clear H1;go_upto_region 4 with(refine w_ 13 154 12 b (o) [p1,p2,p3] Bx.o dE Tryz.underlying154 ?_)
 have H2:=heap_alloc_new W1 (.cells #[p1,p2,p3] 154);have dz:=bC.trans ((ai W1 (.cells #[p1,p2,p3] 154)).mono bC.size);have qN:=H_ (al HZ1.o (.cells #[p1,p2,p3] 154));rw[yN.o]at H2;rw[yN.o];generalize W1.alloc (Obj.cells #[p1,p2,p3] 154)=W2 at*;have Oh:=H_ H2;have acz:=H_ dz;clear H2 dz bC dr;go_wp2_with fail
 go_loopw [6] (λi wr=>∃(k:Nat) (s:bu),1<=k/\k<=n/\i=.int .i64 (k:Int)/\(ms.take k).foldl nb none=some s/\Below w.heap.size w wr/\wr.heap[w.heap.size]? =some (.cells #[(),(),()] 154 (0,0))/\wr.heap[w.heap.size+1]? =some (.cells (eI s).toArray 154 (0,0))) (λi _=>n- (intOf i).toNat)
 case atStart=>
  refine⟨1,⟨p1,p2,p3⟩,Nat.le_refl _,by omega,rfl,?_,acz.o,qN.o,Oh.o⟩;rw[List.take_add_one,List.getElem?_eq_getElem (by have:=HN.o;omega)];exact congrArg some HX.o
 case round=>
  obtain⟨k,s,Dm,hk,rfl,hs,hb,hz,hm⟩:=hrel;obtain⟨s1,s2,s3⟩:=s;have HSX:=H_ hs;have HZ:=H_ hz;have HM5:=H_ (show wr.heap[w.heap.size+1]? =some (.cells #[s1,s2,s3] 154 (0,0))from hm);have HT5:=H_ (ag hm);have HT4:=H_ (ag hz);clear hs hz hm;by_cases aU:k<n
  case pos=>
   have bq:(k:Int)< (n:Int):=by omega
   have bI:k<ms.length:=by rw[HN.o];exact aU
   have oZ:=H_ (GV bI HSX.o);have aS:=eY.o k bI;obtain⟨x,hx⟩:=x_ (ms[k]);rw[hx]at aS oZ;obtain⟨p1,p2,p3⟩:=x;have rM:=H_ (show At wr (·<wr.heap.size) ⟨b,o+k*3,none⟩ [.int .i64 p1,.int .i64 p2,.int .i64 p3]from(aS.fr (Fr.ofBelow hb)).mono (λq hq=>Nat.lt_of_lt_of_le hq hb.size));obtain⟨c,hc⟩:=x_ (eG p3 s3);have XA:=H_ (λ(w2:World)=>show Calls Tryz.prog 128 #[.agg #[p1,p2,p3],.agg #[s1,s2,s3]] w2 (ap w2 (.int .i64 c)) by
    have h:=Sv ⟨p1,p2,p3⟩ ⟨s1,s2,s3⟩ w2
    rwa[show eG (bu.since ⟨p1,p2,p3⟩) (bu.since ⟨s1,s2,s3⟩)=c from hc]at h)
   have hq:=SI p3 s3;rw[hc]at hq;obtain⟨q,lc⟩:=x_ (decide (s3<p3));rw[lc]at hq;have HQ:=H_ lc;clear hx aS hc lc;go_upto_region 7 with fail;refine bp (Ks wr [.val (.func (.func 128) #[] #[]),.val (.slice (some ⟨b,o,none⟩) n cc),(k:Int),.val (.pointer (some ⟨b,o+k*3,none⟩)),.val (.agg #[p1,p2,p3]),.val (.agg #[s1,s2,s3]),c,q])
    (λw'=>Below wr.heap.size wr w') K_ K_ K_ (Below.refl _ _).drew ?_ ?_
   ·refine⟨b_ (q_ 1),b_ (q_ 0),b_ (q_ 6),c_ (p_ 1 21) (p_ 2 22),?_,?_,?_,b_ (p_ 6 26),trivial⟩
    ·refine O1_ (p_ 3 23) λA0 w2 K e0 hS hK=>?_;have aJ:w2.rangeAt b (o+k*3) [p1,p2,p3]:=(rM.o.fr (Fr.ofBelow hS)).range;have aI:=dE;refine wp_load_mid 154 (.tmp 23) rfl _ _ (v_ e0) _ _ aJ Tryz.underlying154 rfl aI ?_;exact kq hK hS rfl
    ·refine O1_ (q_ 5) λA0 w2 K e0 hS hK=>?_;have aJ:w2.rangeAt (w.heap.size+1) 0 [s1,s2,s3]:=World.rangeAt_of_block ((hS.block _ HT5.o).trans HM5.o) 0 3;have aI:=dE;refine wp_load_mid 154 (.tmp 5) rfl _ _ (v_ e0) _ _ aJ Tryz.underlying154 rfl aI ?_;exact kq hK hS rfl
    ·refine O3_ (p_ 0 20) (p_ 4 24) (p_ 5 25) λA0 w2 K e0 e1 e2 hS hK=>?_;go_simp;refine(XA.o w2).mono ?_;rintro e w3 ⟨rfl,h3⟩;exact hK.out _ _ (hS.trans (h3.mono hS.size)) (Ks.of rfl rfl) (Ks.keep h3)
   ·intro _ A0 w2 hI hall;have hS:=hI.world;have c9:=hI.ch hall [20,21,22,23,24,25,26,27];obtain⟨x0,x1,x2,x3,x4,x5,x6,x7,hA,hV⟩:=c9;obtain rfl:x7=.bool q:=hV 7 _ _ rfl _ rfl;clear hV hI hall;simp only[ba,List.foldl,List.setIfInBounds_toArray,List.set_cons_zero,List.set_cons_succ]at hA;rw[hA];clear hA;have aF:=hb.trans (hS.mono hb.size);have Oh:=H_ ((hS.block _ HT5.o).trans HM5.o);have qN:=H_ ((hS.block _ HT4.o).trans HZ.o);have vq:=H_ ((rM.o.fr (Fr.ofBelow hS)).range);clear hq;cases q with
    |false=>
     have jK:=H_ (show(ms.take (k+1)).foldl nb none=some ⟨s1,s2,s3⟩ by rw[oZ.o,if_neg (of_decide_eq_false HQ.o)]);go_wp2_with fail;go_roundw
     case rel=>exact⟨k+1,_,by omega,by omega,by go_num,jK.o,aF,qN.o,Oh.o⟩
     case measure=>first|exact aQ aU|(simp only[intOf];omega)
    |true=>
     have jK:=H_ (show(ms.take (k+1)).foldl nb none=some ⟨p1,p2,p3⟩ by rw[oZ.o,if_pos (of_decide_eq_true HQ.o)]);go_wp2_with (first|(refine w_ 31 154 30 b (o+k*3) [p1,p2,p3] vq.o dE Tryz.underlying154 ?_)|(show wpList _ _ _ (Oper.mk none (Op.store _ (Operand.tmp 5) _) _ _ _ _::_) _ _;go_loud (refine wpList_store_row rfl 154 (.tmp 5) (.tmp 31) rfl (w.heap.size+1) #[p1,p2,p3] rfl rfl 154 #[s1,s2,s3] Oh.o dE rfl (by simp[Value.oneCell']) ?_)));go_roundw
     case rel=>exact⟨k+1,_,by omega,by omega,by go_num,jK.o,aD aF (by omega) _,((cC _ _ _).block _ (show w.heap.size≠w.heap.size+1 by omega)).trans qN.o,aB Oh.o _⟩
     case measure=>first|exact aQ aU|(simp only[intOf];omega)
  case neg=>
   have bq:¬(k:Int)< (n:Int):=by omega
   have ac3:=H_ (show ms.foldl nb none=some ⟨s1,s2,s3⟩ by
    have h:=HSX.o
    rwa[List.take_of_length_le (by have:=HN.o;omega)]at h)
   go_wp2_with (first|(refine W_ 32 154 5 (w.heap.size+1) HM5.o dE Tryz.underlying154 ?_)|(show wpList _ _ _ (Oper.mk none (Op.store _ (Operand.tmp 4) _) _ _ _ _::_) _ _;go_loud (refine wpList_store_row rfl 154 (.tmp 4) (.tmp 32) rfl w.heap.size #[s1,s2,s3] rfl rfl 154 #[(),(),()] HZ.o dE rfl (by simp[Value.oneCell']) ?_)));refine bodyPost_ret (v:=_) (eT rfl _ _ w.heap.size 154 _ (0,0) _ rfl (aB HZ.o _) Tryz.underlying154 rfl dE) rfl ?_;exact⟨_,ac3.o,rfl,aD hb (Nat.le_refl _) _⟩
theorem Qd {ls:List bu} {k:Nat} (hk:k<ls.length) (code gA:Int):spK (ls.take (k+1)) code gA=if ls[k].from_=code/\ls[k].since<=gA then spK (ls.take k) code gA++[ls[k]]else spK (ls.take k) code gA:=by
 rw[List.take_add_one,List.getElem?_eq_getElem hk];unfold spK;rw[List.filter_append];split
 ·rename_i h;rw[show(some ls[k]).toList=[ls[k]]from rfl,List.filter_cons_of_pos (by simpa using h)];rfl
 ·rename_i h;rw[show(some ls[k]).toList=[ls[k]]from rfl,List.filter_cons_of_neg (by simpa using h)];simp
theorem GZ (a b c:Int) (w:World):(Instr.field 154 (.agg #[a,b,c]) 1).run Tryz.prog w=.ok (.int .i64 b) w:=by kernel_rfl
theorem LD (x:bu):(eI x).length=3:=rfl
theorem Zk (e:aV) (es:List Value) (code gA:Int) (w:World) (he:aN w (·<w.heap.size) es e) (ci:sF e) (lS:cx code) (hd:inD gA):Calls Tryz.prog 93 #[.agg es.toArray,code,gA] w (ap w (.tuple #[.int .i64 (gz e code gA).1,.int .i64 (gz e code gA).2])):=by
 obtain⟨ia,oR,ge,gg,gh⟩:=info_parts pP;obtain⟨Ac,cc,Al,cl,rfl,ee,lP⟩:=he.lit;have C9:=H_ (show ∀r,gz e code gA=r->(aK e.chart code=none->r=(0,8))/\∀a,aK e.chart code=some a->r=(match js e.links code gA with|some l=>(l.to_,0)|none=>(0,15))from λr hr=>by
  unfold gz at hr;rw[if_neg (show ¬¬(-25567<=gA/\gA<=84005)from λh=>h hd)]at hr;refine⟨λh=>?_,λa h=>?_⟩
  ·rw[h]at hr;exact hr.symm
  ·rw[h]at hr;exact hr.symm)
 obtain⟨R,hR⟩:=x_ (gz e code gA);have HR:=H_ (C9.o R hR);rw[hR];have Xn:=H_ (λ(w2:World)=>show Calls Tryz.prog 125 #[gA] w2 (ap w2 (.bool true)) by
  have h:=nS gA w2
  rwa[show decide (inD gA)=true from decide_eq_true hd]at h)
 have ny:=H_ (λ(w2:World) (hb:Below w.heap.size w w2)=>mL e.chart Ac cc code w2 (az ee hb) lS ci.1);have sV:=H_ lP;have bj:=lP.cap;unfold maxLen at bj;have IV:=ci.2.1;obtain⟨nm,aw,ec,ls,jo⟩:=e;simp only at HR ny sV bj IV |-;obtain⟨s,hs⟩:=x_ (nm);obtain⟨cu,hcu⟩:∃s,aw=s:=⟨_,rfl⟩;subst hs hcu;obtain⟨n,hn⟩:=x_ (ec.length);obtain⟨nl,hl⟩:∃n,ls.length=n:=⟨_,rfl⟩;have jz:=H_ hl;rw[hn]at ny;rw[hl]at bj IV;obtain⟨fo,vx⟩:=x_ (aK ec code);have e0:cF ec code=.tuple #[.agg (bn (gH fo)).toArray,fo.isSome]:=by unfold cF;rw[vx]
 rw[e0]at ny;rw[vx]at HR;obtain⟨x,hx⟩:=x_ (gH fo);rw[hx]at ny;obtain⟨a1,a2,a3,a4⟩:=x;clear lP ee hR C9 hd lS ci he hx e0 vx;show Calls Tryz.prog 93 #[.agg #[nm,aw,.slice Ac ec.length cc,.slice Al ls.length cl,jo],code,gA] w _;rw[hn,hl];clear hn hl;have QO:=H_ (λ(x:bu) (hx:x∈ls)=>show mM x by
  obtain⟨j,hj,rfl⟩:=List.getElem_of_mem hx;obtain⟨b,o,MJ,_,_,h3,_⟩:=aj.get sV.o j hj;exact(bJ.lit h3).2)
 go_enter Tryz.func93,Tryz.ntmps93;go_upto_region 1 with fail;obtain⟨W1,cS,H1,bC,dr,ewx⟩:=B_ w (.cells #[nm,aw,.slice Ac n cc,.slice Al nl cl,jo] 74);rw[cS];clear ewx;clear cS;have fB:=H_ H1;clear H1;go_wp2_with fail;refine(Xn.o W1).mono ?_;rintro e w2 ⟨rfl,aH⟩;have aF:=bC.trans (aH.mono bC.size);have dn:=k_ aH fB;have dW:=Nat.lt_of_lt_of_le dr aH.size;have c2:=ab dn.o 2;go_wp2_with fail;refine(ny.o w2 aF).mono ?_;rintro e w3 ⟨rfl,aZ⟩;have aR:=aF.trans (aZ.mono aF.size);have kS:=k_ aZ dn;clear c2;simp only[bn];go_upto_region 4 with fail
 have oW:=H_ (al kS.o (.cells #[a1,a2,a3,a4] 78));have gw:=aR.trans ((ai w3 (.cells #[a1,a2,a3,a4] 78)).mono aR.size);generalize JU:w3.alloc (Obj.cells #[a1,a2,a3,a4] 78)=W4 at*;clear JU;cases fo with
 |none=>
  have hf:=H_ (HR.o.1 rfl);simp only[Option.isSome_none];go_wp2_with fail;go_ret2;exact⟨hf.o.symm▸rfl,gw⟩
 |some fa=>
 have V7:=H_ (HR.o.2 fa rfl);simp only[Option.isSome_some];have yJ:w.heap.size<W4.heap.size:=ag oW.o;have e3:=ab oW.o 3;go_wp2_with fail
 go_loopw [10,28] (λv i wr=>∃k:Nat,k<=nl/\i=.int .i64 (k:Int)/\Below W4.heap.size W4 wr/\wr.ownsRow W4.heap.size 154 3 v (spK (ls.take k) code gA).length ((spK (ls.take k) code gA).flatMap eI)) (λ_ i _=>nl- (intOf i).toNat)
 case atStart=>exact⟨0,by omega,rfl,Below.refl _ _,World.ownsRow_nil _ _ _ _⟩
 case round=>
  obtain⟨k,hk,rfl,hb,bv⟩:=hrel;have tz:=H_ bv;have el:=gw.trans (hb.mono gw.size);have bP:=hb.size;by_cases aU:k<nl
  case pos=>
   have bq:(k:Int)< (nl:Int):=by omega
   have gW:0<nl:=by omega
   have bI:k<ls.length:=by rw[jz.o];exact aU
   obtain⟨b,o,MJ,dj,ed,bL,aS⟩:=aj.get sV.o k bI;subst dj;rw[(bJ.lit bL).1]at aS;have oZ:=H_ (Qd bI code gA);obtain⟨x,hx⟩:=x_ (ls[k]);rw[hx]at aS oZ;obtain⟨l1,l2,l3⟩:=x;have eZ:=H_ (show wr.rangeAt b (o+k*3) [l1,l2,l3]from(aS.fr (Fr.ofBelow el)).range);have eX:(spK (ls.take k) code gA).length<=1000:=Nat.le_trans (List.length_filter_le _ _) (by rw[List.length_take];omega);have XV:=bv.alloc (.cells #[l1,l2,l3] 154);obtain⟨nt,hnt⟩:=x_ ((spK (ls.take k) code gA).length);rw[hnt]at XV eX;have HNT:=H_ hnt;clear bL aS hx ed bv hnt;go_upto_region 10 with(refine w_ 31 154 30 b (o+k*3) [l1,l2,l3] eZ.o dE Tryz.underlying154 ?_);have H6:=heap_alloc_new wr (.cells #[l1,l2,l3] 154);have dK:=ai wr (.cells #[l1,l2,l3] 154);have my:=ag H6;generalize mC:wr.alloc (Obj.cells #[l1,l2,l3] 154)=W6 at*;clear mC;have ga:=H_ XV;have sS:=H_ H6;have dd:=hb.trans (dK.mono hb.size);have c0:=ab H6 0;have c2:=ab H6 2;clear H6 XV;obtain⟨q1,mF⟩:∃q,(l1==code)=q:=⟨_,rfl⟩;obtain⟨q2,lc⟩:∃q,decide (l3<=gA)=q:=⟨_,rfl⟩;have HQ:=H_ (show(l1=code/\l3<=gA)↔(q1=true/\q2=true) by rw[<-mF,<-lc];simp);rcases(show q1=false\/(q1=true/\q2=false)\/(q1=true/\q2=true) by cases q1<;>cases q2<;>simp)with rfl|⟨rfl,rfl⟩|⟨rfl,rfl⟩
   ·have Cx:=H_ (show spK (ls.take (k+1)) code gA=spK (ls.take k) code gA by rw[oZ.o,if_neg (λh=>by have:=HQ.o.1 h;simp at this)]);go_wp2_with fail;go_roundw
    case rel=>exact⟨k+1,by omega,by go_num,dd,by rw[Cx.o,HNT.o];exact ga.o⟩
    case measure=>first|exact aQ aU|(simp only[intOf];omega)
   ·have Cx:=H_ (show spK (ls.take (k+1)) code gA=spK (ls.take k) code gA by rw[oZ.o,if_neg (λh=>by have:=HQ.o.1 h;simp at this)]);go_wp2_with fail;go_roundw
    case rel=>exact⟨k+1,by omega,by go_num,dd,by rw[Cx.o,HNT.o];exact ga.o⟩
    case measure=>first|exact aQ aU|(simp only[intOf];omega)
   ·have Cx:=H_ (show spK (ls.take (k+1)) code gA=spK (ls.take k) code gA++[⟨l1,l2,l3⟩] by rw[oZ.o,if_pos (HQ.o.2 ⟨rfl,rfl⟩)]);have MV:=dd.size;go_wp2_with (first|(refine W_ 43 154 12 (wr.heap.size) sS.o dE Tryz.underlying154 ?_)|(at_builtin;go_loud (refine cq _ rfl (.tmp 42) (.tmp 44) 72 rfl W4.heap.size 154 ia _ 3 24 oD oR ge gg gh rfl (by decide) u10 nt ((spK (ls.take k) code gA).flatMap eI) rfl (ga.o.alloc _) (λ_=>True) (some ⟨W6.heap.size,0,none⟩) 1 1 [l1,l2,l3] rfl (fq (heap_alloc_new _ _) rfl) (by simp[Value.oneCell']) (by simp only[maxLen];omega) (by omega) (by simp;omega) ?_);intro v9 w9 cj gk _));go_roundw
    case rel=>
     refine⟨k+1,by omega,by go_num,bK (dd.alloc (by omega) _) gk (λq hq=>(ga.o.lt _ hq).1) (Nat.le_refl _),?_⟩;rw[Cx.o,List.length_append,HNT.o,List.flatMap_append];exact cj
    case measure=>first|exact aQ aU|(simp only[intOf];omega)
  case neg=>
   have bq:¬(k:Int)< (nl:Int):=by omega
   have IA:ls.take k=ls:=List.take_of_length_le (by rw[jz.o];omega);rw[IA]at bv;obtain⟨A9,n9,c9,rfl⟩:=bS bv;obtain rfl:n9=(spK ls code gA).length:=fV bv;have HLO:=H_ (GW ls code gA);have aau:∀x∈spK ls code gA,x∈ls:=λx hx=>(List.mem_filter.1 hx).1
   have Bb:aj bJ 3 wr (·<wr.heap.size) [.slice A9 (spK ls code gA).length c9] (spK ls code gA):=mr (f:=eI) (size:=3) LD bv (λx hx=>by
    obtain⟨b1,b2,b3⟩:=QO.o x (aau x hx);exact⟨[.int .i64 x.from_],[.int .i64 x.to_],[.int .i64 x.since],rfl,⟨rfl,b1⟩,⟨rfl,b2⟩,⟨rfl,b3⟩⟩) (λg hg=>(bv.lt g hg).2)
   have pb:=H_ Bb;obtain⟨ms,hms⟩:=x_ (spK ls code gA);rw[hms]at pb HLO |-;have HMX:=H_ (λ(h:0<ms.length)=>acb ms A9 c9 wr pb.o h);obtain⟨m,hm⟩:=x_ (ms.length);have HM:=H_ hm;rw[hm]at HMX |-;clear Bb hms aau bv hm IA tz;by_cases hm0:m=0
   case pos=>
    subst hm0;have hf:=H_ (show R=(0,15) by rw[V7.o,HLO.o,List.eq_nil_of_length_eq_zero HM.o];rfl);go_wp2_with fail;go_ret2;exact⟨hf.o.symm▸rfl,el⟩
   case neg=>
    have hmb:((m:Int)==0)=false:=by simpa using hm0
    have hmp:0<m:=by omega
    have HMP:=H_ (HMX.o hmp);clear hm0;go_wp2_with fail;refine HMP.o.mono ?_;rintro e w9 ⟨⟨s1,s2,s3⟩,hs,rfl,kT⟩;have hf:=H_ (show R=(s2,0) by rw[V7.o,HLO.o,hs]);have Kk:=el.trans (kT.mono el.size);have hfd:=GZ s1 s2 s3 w9;clear hs;simp only[eI];go_wp2_with fail;go_ret2;exact⟨hf.o.symm▸rfl,Kk⟩
end
section
open Go Go.RowKit Go.Shelf Go.Lib
open Go.Sort hiding Below
theorem KU {α:Type} [Inhabited α] {enc:α->List Value} {sz:Nat} {w:World} {blk n:Nat} {d:Array α} {os:Array Obj}:Below w.heap.size w w->w.heap.size<=(sortWorldK enc sz w blk 0 n d os).heap.size/\∀k,k<w.heap.size->k≠blk->(sortWorldK enc sz w blk 0 n d os).heap[k]? =w.heap[k]? :=λ_=>by
 refine⟨size_sortWorldK_c _ _ _ _ _ _ _ _,λk hk bT=>?_⟩;unfold sortWorldK Go.Sort.grow putRowK putRow mapBlock Go.Sort.ahead;simp only;rw[Array.getElem?_append_left (by simpa using hk),Array.getElem?_modify,if_neg (λe=>bT e.symm)]
def OB {α:Type} (enc:α->List Value) (_:World) (_:Nat->Prop) (cs:List Value) (c:α):Prop:=cs=enc c
theorem E7 {α:Type} [Inhabited α] {ρ:Go.Shelf.Ren} (L:Go.Proofs.SlLaysF0.n6 Tryz.prog ρ) (sz:Nat) (aao:0<sz) (aE:∀w,(isAgg (ρ.t 24)).run Tryz.prog w=.ok true w) (zE:∀w,(Go.sizeOf (ρ.t 24)).run Tryz.prog w=.ok sz w) (enc:α->List Value) (hk:∀x,(enc x).length=sz) (h1:∀x,∀v∈enc x,v.oneCell'=true) (cf:α->α->Int) (hO:SWO (ltOf cf)) (gf:Nat)
 (eg:∀args w,(callFunc gf args).run Tryz.prog w=.ok (.enter gf args) w) (acN:∀x y w,Calls Tryz.prog gf #[.agg (enc x).toArray,.agg (enc y).toArray] w (λe w'=>e=.returned (.int .i64 (cf x y))/\gP w w'))
 (fj:List α) (v:Value) (base:Nat) (w:World) (T:TypeId) (bv:w.ownsRow base T sz v fj.length (fj.flatMap enc)) (hn:fj.length<=100000) (jR:base<=w.heap.size):
 Calls Tryz.prog (ρ.f 6) #[v,.func (.func gf) #[] #[]] w (λe w'=>e=.returned (.tuple #[])/\∃lZ:List α,lZ.Perm fj/\lZ.Pairwise (λx y=>ltOf cf y x=false)/\aj (OB enc) sz w' (λq=>base<=q/\q<w'.heap.size) [v] lZ/\Below base w w'/\w.heap.size<=w'.heap.size):=by
 rcases Nat.eq_zero_or_pos fj.length with h0|h0
 ·have he:fj=[]:=List.eq_nil_of_length_eq_zero h0;subst he;obtain⟨p,cap,rfl⟩:∃p cap,v=.slice p 0 cap:=by
   rcases bv.2 with⟨rfl,_⟩|⟨g,cap,aw,rfl,_⟩
   ·exact⟨_,_,rfl⟩
   ·exact⟨_,_,rfl⟩
  refine(AnyF.slices_SortFunc_none L p cap (.func (.func gf) #[] #[]) w).mono ?_;rintro e w' ⟨rfl,rfl⟩;refine⟨rfl,[],List.Perm.refl _,List.Pairwise.nil,?_,Below.refl _ _,Nat.le_refl _⟩;have hc:0<=cap/\cap<=maxLen:=by
   rcases bv.2 with⟨e,_⟩|⟨g,abp,aw,e,_,_,h1,h2,_⟩
   ·simp only[Value.slice.injEq]at e;obtain⟨_,_,rfl⟩:=e;exact⟨Nat.le_refl _,by unfold maxLen;decide⟩
   ·simp only[Value.slice.injEq]at e;obtain⟨_,_,rfl⟩:=e;exact⟨Nat.zero_le _,h2⟩
  exact⟨p,cap,rfl,hc.1,hc.2,λh=>absurd h (by simp)⟩
 ·obtain⟨g,cap,rfl,Va,RI,mH,KD⟩:∃g cap,v=.slice (some ⟨g,0,none⟩) fj.length cap/\base<=g/\g<w.heap.size/\fj.length<=cap/\cap<=maxLen:=by
   rcases bv.2 with⟨_,hz⟩|⟨g,cap,aw,hv,h1,h2,h3,h4,_⟩
   ·omega
   ·exact⟨g,cap,hv,h1,ag h2,h3,h4⟩
  have hH:HoldsK enc sz w g 0 fj.toArray:=by
   intro j hj;rw[size_flatK]at hj;have hj':j<fj.length*sz:=by simpa using hj
   rw[get_flatK _ _ _ _ hj];have hg:=D7 (f:=enc) (k:=sz) aao hk fj j hj';have e1:fj.toArray[j/ sz]! =fj[j/ sz]! :=by simp
   have Kc:j%sz< (enc fj[j/ sz]!).length:=by rw[hk];exact Nat.mod_lt _ aao
   rw[List.getElem?_eq_getElem Kc]at hg;have hc:=bv.cells (g:=g) rfl j _ hg;have hf:=kc bv (g:=g) rfl j;rw[Addr.add_lit]at hc hf;rw[e1,getElem!_pos (enc fj[j/ sz]!) (j%sz) Kc];exact⟨hc,hf⟩
  have acI:CmpLays Tryz.prog gf (#[]:Array Value) enc sz cf g 0 fj.toArray.size w:=λm os dk MR x y=>acN x y _
  have aaa:=AnyQ.slices_SortFunc L sz aE zE enc hk h1 cf hO gf #[] g 0 cap fj.toArray w eg acI hH RI (by simp;omega);have bP:fj.toArray.size=fj.length:=by simp
  rw[bP]at aaa;refine aaa.mono ?_;rintro e w' ⟨rfl,d',n,os,hp,hs,rfl⟩;obtain⟨QQ,_,hp3⟩:=hp;have hd:d'.size=fj.length:=by simpa using QQ
  have zM:d'.toList.Perm fj:=by
   have e1:(d'.extract 0 fj.length).toList=d'.toList:=by rw[<-hd];simp
   have e2:(fj.toArray.extract 0 fj.length).toList=fj:=by simp
   rw[e1,e2]at hp3;exact hp3
  have hH':=holdsK_sortWorldK_c enc sz w g 0 fj.toArray d' n os hH RI QQ;obtain⟨IU,QH⟩:=KU (w:=w) (blk:=g) (n:=n) (d:=d') (os:=os) (Below.refl _ _);refine⟨rfl,d'.toList,zM,?_,?_,⟨rfl,rfl,rfl,IU,λk hk=>QH k (by omega) (by omega)⟩,IU⟩
  ·rw[List.pairwise_iff_getElem];intro i j hi hj Gb;have hi':i<d'.size:=by simpa using hi
   have hj':j<d'.size:=by simpa using hj
   have h1:=hs i j (Nat.zero_le _) Gb (by omega);rw[getElem!_pos d' i hi',getElem!_pos d' j hj']at h1;simpa using h1
  ·have eX:d'.toList.length=fj.length:=by simpa using hd
   rw[<-eX];refine⟨_,cap,rfl,by omega,KD,λ_=>⟨g,0,rfl,⟨Va,by omega⟩,λi x hx=>?_⟩⟩;obtain⟨hi,R4⟩:=List.getElem?_eq_some_iff.1 hx;have hi':i<d'.size:=by simpa using hi
   refine⟨enc x,rfl,⟨⟨Va,by show g<_;omega⟩,λj u hj=>?_⟩⟩;have vn:j<sz:=by have:=(List.getElem?_eq_some_iff.1 hj).1;rwa[hk]at this
   have hc:=hH'.cell hi' vn;rw[getElem!_pos d' i hi']at hc;have hxd:d'[i]=x:=by rw[<-R4];simp
   rw[hxd,getElem!_pos (enc x) j (by rw[hk];exact vn)]at hc;rw[Addr.add_lit];obtain⟨_,hju⟩:=List.getElem?_eq_some_iff.1 hj;have adu:(enc x)[j]'(by rw[hk];exact vn)=u:=hju;exact⟨hc.1.trans (congrArg some adu),hc.2⟩
def Mh:Go.Shelf.Ren:=⟨λ|6=>224|15=>99|14=>230|28=>141|29=>142|20=>232|21=>233|22=>234|23=>235|24=>236|25=>237|26=>238|27=>239|46=>240|47=>175|48=>176|49=>241|50=>242|57=>243|n=>n,λ|22=>31|24=>70|25=>242|3=>3|39=>147|0=>0|53=>187|55=>189|4=>4|46=>180|45=>179|50=>184|5=>5|9=>9|66=>210|70=>214|76=>248|77=>249|n=>n,λ|n=>n⟩
theorem acm:Go.Proofs.SlLaysF0.n6 Tryz.prog Mh:={
 mixed:=by kernel_rfl,
 f6:=⟨Tryz.f224.name,by decide,Tryz.func224.trans (congrArg some K_)⟩,
 f14:=⟨Tryz.f230.name,by decide,Tryz.func230.trans (congrArg some K_)⟩,
 f15:=Tryz.func99.trans (congrArg some K_),
 f20:=⟨Tryz.f232.name,by decide,Tryz.func232.trans (congrArg some K_)⟩,
 f21:=⟨Tryz.f233.name,by decide,Tryz.func233.trans (congrArg some K_)⟩,
 f22:=⟨Tryz.f234.name,by decide,Tryz.func234.trans (congrArg some K_)⟩,
 f23:=⟨Tryz.f235.name,by decide,Tryz.func235.trans (congrArg some K_)⟩,
 f24:=⟨Tryz.f236.name,by decide,Tryz.func236.trans (congrArg some K_)⟩,
 f25:=⟨Tryz.f237.name,by decide,Tryz.func237.trans (congrArg some K_)⟩,
 f26:=⟨Tryz.f238.name,by decide,Tryz.func238.trans (congrArg some K_)⟩,
 f27:=⟨Tryz.f239.name,by decide,Tryz.func239.trans (congrArg some K_)⟩,
 f28:=Tryz.func141.trans (congrArg some K_),
 f29:=Tryz.func142.trans (congrArg some K_),
 f46:=⟨Tryz.f240.name,by decide,Tryz.func240.trans (congrArg some K_)⟩,
 f47:=Tryz.func175.trans (congrArg some K_),
 f48:=Tryz.func176.trans (congrArg some K_),
 f49:=⟨Tryz.f241.name,by decide,Tryz.func241.trans (congrArg some K_)⟩,
 f50:=⟨Tryz.f242.name,by decide,Tryz.func242.trans (congrArg some K_)⟩,
 f57:=⟨Tryz.f243.name,by decide,Tryz.func243.trans (congrArg some K_)⟩,
 t0:=Tryz.underlying0,
 a0:=Tryz.isAgg0,
 z0:=Tryz.sizeOf0,
 v0:=Tryz.zeroValue0,
 t3:=Tryz.underlying3,
 a3:=Tryz.isAgg3,
 z3:=Tryz.sizeOf3,
 v3:=Tryz.zeroValue3,
 t4:=Tryz.underlying4,
 a4:=Tryz.isAgg4,
 z4:=Tryz.sizeOf4,
 v4:=Tryz.zeroValue4,
 t5:=Tryz.underlying5,
 a5:=Tryz.isAgg5,
 z5:=Tryz.sizeOf5,
 v5:=Tryz.zeroValue5,
 t9:=Tryz.underlying9,
 a9:=Tryz.isAgg9,
 z9:=Tryz.sizeOf9,
 v9:=Tryz.zeroValue9,
 t22:=Tryz.underlying31,
 a22:=Tryz.isAgg31,
 z22:=Tryz.sizeOf31,
 v22:=Tryz.zeroValue31,
 t25:=Tryz.underlying242,
 a25:=Tryz.isAgg242,
 z25:=Tryz.sizeOf242,
 v25:=Tryz.zeroValue242,
 t39:=Tryz.underlying147,
 a39:=Tryz.isAgg147,
 z39:=Tryz.sizeOf147,
 v39:=Tryz.zeroValue147,
 t45:=Tryz.underlying179,
 a45:=Tryz.isAgg179,
 z45:=Tryz.sizeOf179,
 v45:=Tryz.zeroValue179,
 t46:=Tryz.underlying180,
 a46:=Tryz.isAgg180,
 z46:=Tryz.sizeOf180,
 v46:=Tryz.zeroValue180,
 t50:=Tryz.underlying184,
 a50:=Tryz.isAgg184,
 z50:=Tryz.sizeOf184,
 v50:=Tryz.zeroValue184,
 t53:=Tryz.underlying187,
 a53:=Tryz.isAgg187,
 z53:=Tryz.sizeOf187,
 v53:=Tryz.zeroValue187,
 t55:=Tryz.underlying189,
 a55:=Tryz.isAgg189,
 z55:=Tryz.sizeOf189,
 v55:=Tryz.zeroValue189,
 t66:=Tryz.underlying210,
 a66:=Tryz.isAgg210,
 z66:=Tryz.sizeOf210,
 v66:=Tryz.zeroValue210,
 t70:=Tryz.underlying214,
 a70:=Tryz.isAgg214,
 z70:=Tryz.sizeOf214,
 v70:=Tryz.zeroValue214,
 t76:=Tryz.underlying248,
 a76:=Tryz.isAgg248,
 z76:=Tryz.sizeOf248,
 v76:=Tryz.zeroValue248,
 t77:=Tryz.underlying249,
 a77:=Tryz.isAgg249,
 z77:=Tryz.sizeOf249,
 v77:=Tryz.zeroValue249}
def DO (x y:aC):Int:=eG x.when_ y.when_
theorem iO {α:Type} (f:α->Int) (x y:α):ltOf (λx y=>eG (f x) (f y)) x y=true↔f x<f y:=by
 unfold ltOf eG;rw[decide_eq_true_iff];by_cases h1:f x<f y
 ·simp[h1]
 ·by_cases h2:f y<f x<;>simp[h1,h2]
theorem aeA:SWO (ltOf DO) where
 irrefl x:=by
  cases h:ltOf DO x x with
  |false=>rfl
  |true=>have:=(iO (λx:aC=>x.when_) x x).1 h;omega
 trans x y z h1 h2:=by
  have a:=(iO (λx:aC=>x.when_) x y).1 h1;have b:=(iO (λx:aC=>x.when_) y z).1 h2;exact(iO (λx:aC=>x.when_) x z).2 (by omega)
 ntrans x y z h1 h2:=by
  cases h:ltOf DO x z with
  |false=>rfl
  |true=>
   have a:¬x.when_<y.when_:=λe=>by have h:=(iO (λx:aC=>x.when_) x y).2 e;rw[show ltOf DO x y=true from h]at h1;cases h1
   have b:¬y.when_<z.when_:=λe=>by have h:=(iO (λx:aC=>x.when_) y z).2 e;rw[show ltOf DO y z=true from h]at h2;cases h2
   have c:=(iO (λx:aC=>x.when_) x z).1 h;omega
instance:Inhabited aC:=⟨{}⟩
theorem SH (x y:aC) (w:World):Calls Tryz.prog 207 #[.agg (fN x).toArray,.agg (fN y).toArray] w (λe w'=>e=.returned (.int .i64 (DO x y))/\gP w w'):=by
 obtain⟨xc,xk,xt,xv⟩:=x;obtain⟨yc,yk,yt,yv⟩:=y;show Calls Tryz.prog 207 #[.agg #[xc,xk,xt,xv],.agg #[yc,yk,yt,yv]] w (λe w'=>e=.returned (.int .i64 (eG xt yt))/\gP w w');go_enter Tryz.func207,Tryz.ntmps207;go_upto_region 1 with fail;have K1:=al (heap_alloc_new w (.cells #[xc,xk,xt,xv] 70)) (.cells #[yc,yk,yt,yv] 70);have K2:=heap_alloc_new (w.alloc (.cells #[xc,xk,xt,xv] 70)) (.cells #[yc,yk,yt,yv] 70);have RL:=H_ (((gP.refl w).alloc (.cells #[xc,xk,xt,xv] 70)).alloc (.cells #[yc,yk,yt,yv] 70));simp only[World.size_alloc]at K2;generalize (w.alloc (Obj.cells #[xc,xk,xt,xv] 70)).alloc (Obj.cells #[yc,yk,yt,yv] 70)=W at*;have c2:=ab K1 2;have d2:=ab K2 2;clear K1 K2;go_wp2_with (go_at_call 61;refine(sf _ _ _).mono ?_;rintro e w' ⟨rfl,rfl⟩);go_ret;exact⟨rfl,RL.o⟩
theorem Tx (fj:List aC) (v:Value) (base:Nat) (w:World) (bv:w.ownsRow base 70 4 v fj.length (fj.flatMap fN)) (hn:fj.length<=100000) (jR:base<=w.heap.size):
 Calls Tryz.prog 224 #[v,.func (.func 207) #[] #[]] w (λe w'=>e=.returned (.tuple #[])/\∃lZ:List aC,lZ.Perm fj/\lZ.Pairwise (λx y=>ltOf DO y x=false)/\aj (OB fN) 4 w' (λq=>base<=q/\q<w'.heap.size) [v] lZ/\Below base w w'/\w.heap.size<=w'.heap.size):=
 E7 acm 4 (by omega) Tryz.isAgg70 Tryz.sizeOf70 fN (λ_=>rfl) (λx v hv=>by simp[fN]at hv;rcases hv with rfl|rfl|rfl|rfl<;>rfl) DO aeA 207 (enters_of Tryz.func207 K_ rfl) SH fj v base w _ bv hn jR
end
section
open Go Go.RowKit Go.Shelf
open Go.Maps (Keyed)
theorem Zu {B:Nat} {w0 W W':World} (h:Below B w0 W) (h':Below B w0 W') (hs:W.heap.size<=W'.heap.size):Fr (λq=>q<B) W W':=by
 obtain⟨a1,a2,a3,a4,a5⟩:=h;obtain⟨b1,b2,b3,b4,b5⟩:=h';exact⟨b1.trans a1.symm,b2.trans a2.symm,b3.trans a3.symm,hs,λk hk=>(b5 k hk).trans (a5 k hk).symm⟩
theorem Iu {F:Fence} {m:Nat} {P:Program} {l:Nat} {args:Array Value} {W:World} {R R':Ending->World->Prop} (h:YieldAt F m P l args W R) (hm:∀e W',R e W'->R' e W'):YieldAt F m P l args W R':=by
 obtain⟨fn,tmps,assign,body,h1,h2⟩:=h;exact⟨fn,tmps,assign,body,h1,RoundIn.mono h2 hm⟩
def arA (b:Option Code):Code:=match b with
 |some (.seq _ (.seq (.seq _ (.block _ (.rangeFunc _ _ a _))) _))=>a
 |_=> .ret
def arB (b:Option Code):Code:=match b with
 |some (.seq _ (.seq (.seq _ (.block _ (.rangeFunc _ _ _ b))) _))=>b
 |_=> .ret
def l9 (bd:Option Code) (fn:FuncId) (sv:Value) (Bs D:Nat) (st:LoopState) (aek:Option Code):Loop:=
 {state:=st,pending:=aek,fn,tmps:=#[.slice none 0 0,sv,.pointer (some ⟨Bs,0,none⟩),undef,.slice none 0 0,undef,sv,undef,undef,undef,undef,undef,undef],params:=#[7],assign:=arA bd,body:=arB bd,defers:=D}
theorem GS:(Tryz.prog.info? 70).map (λi=>(i.zero,i.size,i.bytes))=some (some (.agg #[.string ⟨#[]⟩,(),(),()]),4,40):=by kernel_rfl
theorem LS:Tryz.prog.underlying 31=some (.slice 70):=by kernel_rfl
structure OA (w0:World) (fn:FuncId) (sv:Value) (Bs l D:Nat) (ss:List aC) (W:World):Prop where
 box:∃v,W.heap[Bs]? =some (.cells #[v] 31 (0,0))/\W.ownsRow w0.heap.size 70 4 v ss.length (ss.flatMap fN)
 L:W.heap[l]? =some (.loop (l9 Tryz.f229.body fn sv Bs D .ready none))
 K:W.heap[D]? =some (.deferred (some []))
 below:Below w0.heap.size w0 W
theorem KN (w0:World) (fn:FuncId) (sv:Value) (Bs l D B:Nat) (hB:w0.heap.size<=B):AbidesFrom B (OA w0 fn sv Bs l D):=λs W W' row h hg jJ=>by
 have hrow':∀r,row=some r->∃o:Obj,W.heap[r]? =some o/\o.isWalk=true:=λr e=>(jJ r e).2
 obtain⟨v,hv,hr⟩:=h.box;exact⟨⟨v,(grownBy_keeps hg hrow' hv rfl).trans hv,ownsRow_abides_a hr hg hrow'⟩,(grownBy_keeps hg hrow' h.L rfl).trans h.L,(grownBy_keeps hg hrow' h.K rfl).trans h.K,
  h.below.grown hg h.below.size (λk e=>Nat.le_trans hB (jJ k e).1)⟩
set_option maxRecDepth 100000 in
theorem Su (F:Fence) (m:Nat) (w0:World) (fn:FuncId) (Rt:F.fn fn) (sv:Value) (Bs l D:Nat) (hBl:Bs≠l) (hDl:D≠l) (hDB:D≠Bs) (h0B:w0.heap.size<=Bs) (h0l:w0.heap.size<=l)
 (N:Nat) (hN:N<=maxLen) (hNb:N*40<=140737488355328) (ss:List aC) (x:aC) (W:World) (h:OA w0 fn sv Bs l D ss W) (eX:ss.length<N):
 YieldAt F m Tryz.prog l #[oa x] W λe W'=>e=.returned (.bool true)/\OA w0 fn sv Bs l D (ss++[x]) W'/\Fr (λq=>q<w0.heap.size) W W':=by
 have bT:(31:TypeId)≠70:=by decide
 obtain⟨i0,hi,hz0,IU,QH⟩:=info_parts GS;obtain⟨v,hv,jJ⟩:=h.box;refine⟨fn,#[.slice none 0 0,sv,.pointer (some ⟨Bs,0,none⟩),undef,.slice none 0 0,undef,sv,oa x,undef,undef,undef,undef,undef],arA Tryz.f229.body,arB Tryz.f229.body,by simpa[l9]using run_yield (P:=Tryz.prog) (args:=#[oa x]) h.L rfl,roundIn_of_wpIn Rt ?_⟩;obtain⟨xc,xk,xt,xv⟩:=x
 dsimp only[arA,arB,Tryz.f229]
 simp only[oa];have Fx:=H_ h.below
 gi_wp2_with gi_round_op_a
 have Ng:l<W.heap.size:=(Array.getElem?_eq_some_iff.1 h.L).1
 -- the variable's block
 obtain⟨W1,cS⟩:=x_ (W.alloc (.cells #[xc,xk,xt,xv] 70));rw[cS];have mB:∀k,k<W.heap.size->W1.heap[k]? =W.heap[k]? :=λk hk=>by rw[<-cS];exact Below.heap_alloc _ _ k hk
 have tC:W1.heap.size=W.heap.size+1:=by rw[<-cS];simp
 have abX:W1.heap[W.heap.size]? =some (.cells #[xc,xk,xt,xv] 70 (0,0)):=by rw[<-cS];exact heap_alloc_new W _
 have hL1:W1.heap[l]? =some (.loop (l9 Tryz.f229.body fn sv Bs D .ready none)):=(mB _ Ng).trans h.L;have RW:W1.heap[Bs]? =some (.cells #[v] 31 (0,0)):=(mB _ (Array.getElem?_eq_some_iff.1 hv).1).trans hv;have TL:W1.heap[D]? =some (.deferred (some [])):=(mB _ (Array.getElem?_eq_some_iff.1 h.K).1).trans h.K;have MX:W1.ownsRow w0.heap.size 70 4 v ss.length (ss.flatMap fN):=by rw[<-cS];exact jJ.alloc _
 have eL:Below w0.heap.size w0 W1:=by rw[<-cS];exact h.below.alloc h.below.size _
 have QA:=run_beginRound (P:=Tryz.prog) hL1 rfl;obtain⟨W2,fR⟩:∃W2,W1.putObj l (.loop {l9 Tryz.f229.body fn sv Bs D .ready none with state:=.busy})=W2:=⟨_,rfl⟩;rw[fR]at QA;have f8:W1.grownBy W2 (some l):=by rw[<-fR];exact grownBy_putObj_a _ _ _
 have dW:W2.heap.size=W1.heap.size:=by rw[<-fR];simp
 have CJ:W2.heap[Bs]? =some (.cells #[v] 31 (0,0)):=by rw[<-fR];exact(World.putObj_heap_other hBl).trans RW
 have abf:W2.heap[W.heap.size]? =some (.cells #[xc,xk,xt,xv] 70 (0,0)):=by rw[<-fR];exact(World.putObj_heap_other (by omega)).trans abX
 have MY:W2.heap[D]? =some (.deferred (some [])):=by rw[<-fR];exact(World.putObj_heap_other hDl).trans TL
 have hL2:W2.heap[l]? =some (.loop {l9 Tryz.f229.body fn sv Bs D .ready none with state:=.busy}):=by rw[<-fR];exact World.putObj_heap_same (by omega)
 have NR:W2.ownsRow w0.heap.size 70 4 v ss.length (ss.flatMap fN):=MX.kept f8 (ownsRow_ne_a MX hL1 (λaw e=>by first|cases e|exact bT (Obj.cells.inj e).2.1));have aH:Below w0.heap.size w0 W2:=eL.grown f8 eL.size (λk e=>by cases e;exact h0l);obtain⟨gn,jC⟩:=cell_of_box_a CJ;have adN:Bs<W2.heap.size:=(Array.getElem?_eq_some_iff.1 CJ).1;have vl:l<W2.heap.size:=(Array.getElem?_eq_some_iff.1 hL2).1;have acv:D<W2.heap.size:=(Array.getElem?_eq_some_iff.1 MY).1;have Oa:∀{j:Nat} {o:Obj},W2.heap[j]? =some o->(∀aw,o≠ .cells aw 70 (0,0))->some j≠v.ownBlock:=λhj fg=>by
  rcases ownsRow_ne_a NR hj fg with e|e
  ·rw[e];simp
  ·exact λe'=>e e'.symm
 have jI:=H_ abf;have adr:=H_ (And.intro tC dW);clear cS fR mB abX hL1 RW TL MX eL f8 abf tC dW
 gi_wp2_with (first
  |(show wpListIn _ _ _ _ _ (Oper.mk (some 9) _ _ _ _ _::_) _ _;refine lB rfl 70 (.tmp 5) rfl W.heap.size rfl _ _ _ _ jI.o Tryz.underlying70 rfl aT ?_)
  |(gi_at_builtin;refine wpListIn_append_own _ rfl _ _ 31 rfl w0.heap.size 70 i0 _ 4 40 LS hi hz0 IU QH rfl (by decide) _ _ _ rfl (NR.alloc _) ⟨W2.heap.size,0,none⟩ 1 1 [.string xc,.int .i64 xk,.int .i64 xt,.int .i64 xv] rfl rfl (λj u hj=>(((dO (heap_alloc_new W2 (.cells #[xc,xk,xt,xv] 70))).2 j u hj).1)) (by simp[Value.oneCell']) (by omega) (by omega) (by have:=aH.size;simp;omega) ?_;intro v' w3 NG tT aeG
    have hv3:w3.heap[Bs]? =some (.cells #[v] 31 (0,0)):=(tT.block Bs (by simp;omega) (Oa CJ (λaw e=>by first|cases e|exact bT (Obj.cells.inj e).2.1))).trans ((Below.heap_alloc _ _ Bs adN).trans CJ);obtain⟨ot,l6⟩:=cell_of_box_a hv3;obtain⟨A3,n3,c3,rfl⟩:=bS NG
    go_frame)
  |gi_round_op_a)
 have So:(W2.alloc (.cells #[xc,xk,xt,xv] 70)).grownBy w3 v.ownBlock:=tT;have hL3:w3.heap[l]? =some (.loop {l9 Tryz.f229.body fn sv Bs D .ready none with state:=.busy}):=(So.block l (by simp;omega) (Oa hL2 (λaw e=>by first|cases e|exact bT (Obj.cells.inj e).2.1))).trans ((Below.heap_alloc _ _ l vl).trans hL2);have hK3:w3.heap[D]? =some (.deferred (some [])):=(So.block D (by simp;omega) (Oa MY (λaw e=>by first|cases e|exact bT (Obj.cells.inj e).2.1))).trans ((Below.heap_alloc _ _ D acv).trans MY);obtain⟨w4,hw4⟩:=x_ (w3.setCell ⟨Bs,0,none⟩ (.slice A3 n3 c3));rw[hw4];have hg4:w3.grownBy w4 (some Bs):=by rw[<-hw4];exact grownBy_setCell0_a _ _ _
 have hv4:w4.heap[Bs]? =some (.cells #[.slice A3 n3 c3] 31 (0,0)):=by rw[<-hw4];exact heap_setCell_box_a _ hv3
 have hL4:w4.heap[l]? =some (.loop {l9 Tryz.f229.body fn sv Bs D .ready none with state:=.busy}):=(hg4.block l (Array.getElem?_eq_some_iff.1 hL3).1 (λe=>hBl (by cases e;rfl))).trans hL3;have hK4:w4.heap[D]? =some (.deferred (some [])):=(hg4.block D (Array.getElem?_eq_some_iff.1 hK3).1 (λe=>hDB (by cases e;rfl))).trans hK3;have Vy:=NG.kept hg4 (ownsRow_ne_a NG hv3 (λaw e=>by first|cases e|exact bT (Obj.cells.inj e).2.1));have Fg:l<w4.heap.size:=(Array.getElem?_eq_some_iff.1 hL4).1;have aZ:Below w0.heap.size w0 w3:=(aH.alloc aH.size _).grown So (by have:=aH.size;simp;omega) (λk e=>(NR.lt k e).1);have bU:Below w0.heap.size w0 w4:=aZ.grown hg4 aZ.size (λk e=>by cases e;exact h0B);clear hw4;have hbz:=bU.grown (grownBy_putObj_a w4 l (.loop {{l9 Tryz.f229.body fn sv Bs D .ready none with state:=.busy}with state:=if(none:Option Code).isNone then .ready else .done,pending:=none})) bU.size (λk e=>by cases e;exact h0l);refine⟨_,_,run_endRound none hL4,rfl,⟨⟨_,(World.putObj_heap_other hBl).trans hv4,?_⟩,World.putObj_heap_same Fg,(World.putObj_heap_other hDl).trans hK4,hbz⟩,Zu Fx.o hbz ?_⟩
 rotate_left
 ·have h1:=So.size;have h2:=hg4.size;have h3:=adr.o;simp at h1 |-;omega
 have Xk:=Vy.kept (grownBy_putObj_a w4 l (.loop {{l9 Tryz.f229.body fn sv Bs D .ready none with state:=.busy}with state:=if(none:Option Code).isNone then .ready else .done,pending:=none})) (ownsRow_ne_a Vy hL4 (λaw e=>by first|cases e|exact bT (Obj.cells.inj e).2.1));rw[List.flatMap_append,List.length_append];exact Xk
set_option maxRecDepth 100000 in
theorem zr (F:Fence) (n:Nat) (hF:F.fn 229) (mD:F.round=none) (hn:2<=n) (g:Nat) (lb:Array Value) (hFg:F.fn g) (eg:∀args w,(callFunc g args).run Tryz.prog w=.ok (.enter g args) w)
 (Q:Nat->Prop) (S Sp:List aC->Prop) (N:Nat) (hN:N<=maxLen) (hNb:N*40<=140737488355328) (w:World) (hQ:∀q,Q q->q<w.heap.size) (CS:SeqStopsK F (n- 1) Tryz.prog g lb (λx=>#[oa x]) (Fr Q) S Sp N w):
 CallsIn F n Tryz.prog 229 #[.slice none 0 0,.func (.func g) #[] lb] w λe w'=>∃(v:Value) (ss:List aC),e=.returned v/\S ss/\w'.ownsRow w.heap.size 70 4 v ss.length (ss.flatMap fN)/\Below w.heap.size w w':=by
 have h1:1<=n:=by omega
 have bT:(31:TypeId)≠70:=by decide
 refine callsIn_of_wp_marks Tryz.func229 rfl hF ?_ mD;simp only[Tryz.ntmps229,List.size_toArray,List.length_cons,List.length_nil,Nat.reduceAdd,Nat.reduceSub,Array.replicate_succ,Array.replicate_zero,List.push_toArray,List.append_toArray,List.nil_append,List.cons_append]
 gi_wp2
 refine wpIn_rangeFunc ?_;intro fn Rt;rw[mD];obtain⟨W0,Q5⟩:=x_ (w.alloc (.cells #[.slice none 0 0] 31));have CO:W0.heap.size=w.heap.size+1:=by rw[<-Q5];simp
 have zL:W0.heap[w.heap.size]? =some (.cells #[.slice none 0 0] 31 (0,0)):=by rw[<-Q5];exact World.alloc_heap_new w _
 have el:Below w.heap.size w W0:=by rw[<-Q5];exact(Below.refl _ w).alloc (Nat.le_refl _) _
 rw[Q5];obtain⟨W1,cS⟩:=x_ ((W0.alloc (.deferred (some []))).alloc (.loop (l9 Tryz.f229.body fn (.func (.func g) #[] lb) w.heap.size W0.heap.size .ready none)));have mB:∀k,k<W0.heap.size->W1.heap[k]? =W0.heap[k]? :=λk hk=>by
  rw[<-cS];exact(Below.heap_alloc _ _ k (by simp;omega)).trans (Below.heap_alloc _ _ k hk)
 have eL:Below w.heap.size w W1:=by rw[<-cS];exact(el.alloc el.size _).alloc (by have:=el.size;simp;omega) _
 have tC:W1.heap.size=W0.heap.size+2:=by rw[<-cS];simp
 have hM:OA w fn (.func (.func g) #[] lb) w.heap.size (W0.heap.size+1) W0.heap.size [] W1:=
  ⟨⟨_,(mB w.heap.size (by omega)).trans zL,World.ownsRow_nil _ _ _ _⟩,
   by rw[<-cS];have:=World.alloc_heap_new (W0.alloc (.deferred (some []))) (.loop (l9 Tryz.f229.body fn (.func (.func g) #[] lb) w.heap.size W0.heap.size .ready none));rwa[World.size_alloc]at this,
   by rw[<-cS];exact(Below.heap_alloc _ _ _ (by simp)).trans (World.alloc_heap_new W0 _),eL⟩
 refine⟨W0.heap.size+1,[{target:=.collected W0.heap.size,args:=#[]}],W1,{target:=.fn (.func g) lb,args:=#[.func (.yield (W0.heap.size+1)) #[] #[]]},W1,g,
  #[.func (.yield (W0.heap.size+1)) #[] #[]]++lb,W1,?_,?_,?_,?_,λ_=>h1,?_⟩
 ·rw[<-cS];exact run_enterLoop_outer _ _ _ _ _
 ·simp[resolve,go_sem]
 ·intro f' hf';simp[Target.leads]at hf';subst hf';exact hFg
 ·simp[invoke,go_sem,eg]
 ·refine(CS (W0.heap.size+1) (OA w fn (.func (.func g) #[] lb) w.heap.size (W0.heap.size+1) W0.heap.size) (λ_ _=>False) W1 eL (KN _ _ _ _ _ _ _ eL.size) (λ_ _ _ _ hs _ _=>hs)
   (λpre x W hJ hl=>Iu (Su F (n- 1- 1) w fn Rt _ w.heap.size (W0.heap.size+1) W0.heap.size (by omega) (by omega) (by omega) (Nat.le_refl _) (by omega) N hN hNb pre x W hJ hl) (λe W' h=> .inl ⟨h.1,h.2.1,h.2.2.mono hQ⟩)) hM).mono ?_
  rintro e W2 ⟨⟨v0,rfl⟩,(⟨ss,hS,h2⟩|⟨_,_,hf⟩)⟩
  rotate_left
  ·exact hf.elim
  obtain⟨v,hv,jJ⟩:=h2.box;have i8:=run_endLoop (P:=Tryz.prog) h2.L (by simp[l9]);obtain⟨W3,hW3⟩:∃W3,W2.putObj (W0.heap.size+1) (.loop {l9 Tryz.f229.body fn (.func (.func g) #[] lb) w.heap.size W0.heap.size .ready none with state:=.exhausted})=W3:=⟨_,rfl⟩;rw[hW3]at i8;have tT:W2.grownBy W3 (some (W0.heap.size+1)):=by rw[<-hW3];exact grownBy_putObj_a _ _ _
  have hv3:W3.heap[w.heap.size]? =some (.cells #[v] 31 (0,0)):=by rw[<-hW3];exact(World.putObj_heap_other (by omega)).trans hv
  have hK3:W3.heap[W0.heap.size]? =some (.deferred (some [])):=by rw[<-hW3];exact(World.putObj_heap_other (by omega)).trans h2.K
  have Vc:=jJ.kept tT (ownsRow_ne_a jJ h2.L (λaw e=>by first|cases e|exact bT (Obj.cells.inj e).2.1));have aZ:Below w.heap.size w W3:=h2.below.grown tT h2.below.size (λk e=>by cases e;omega);obtain⟨ot,l6⟩:=cell_of_box_a hv3;clear hW3;refine⟨none,W3,i8,?_⟩
  gi_wp2
  rw[<-CO];refine⟨by simp,.inl ⟨_,_,rfl,run_takeDeferred hK3,?_⟩⟩;exact⟨_,results_tmp rfl _ _ _,v,ss,rfl,hS,Vc.kept (grownBy_putObj_a _ _ _) (ownsRow_ne_a Vc hK3 (λaw e=>by first|cases e|exact bT (Obj.cells.inj e).2.1)),aZ.grown (grownBy_putObj_a _ _ _) aZ.size (λk e=>by cases e;omega)⟩
theorem DQ (F:Fence) (n:Nat) (hC:F.fn 223) (hF:F.fn 229) (mD:F.round=none) (hn:3<=n) (g:Nat) (lb:Array Value) (hFg:F.fn g) (eg:∀args w,(callFunc g args).run Tryz.prog w=.ok (.enter g args) w)
 (Q:Nat->Prop) (S Sp:List aC->Prop) (N:Nat) (hN:N<=maxLen) (hNb:N*40<=140737488355328) (w:World) (hQ:∀q,Q q->q<w.heap.size) (CS:SeqStopsK F (n- 1- 1) Tryz.prog g lb (λx=>#[oa x]) (Fr Q) S Sp N w):
 CallsIn F n Tryz.prog 223 #[.func (.func g) #[] lb] w λe w'=>∃(v:Value) (ss:List aC),e=.returned v/\S ss/\w'.ownsRow w.heap.size 70 4 v ss.length (ss.flatMap fN)/\Below w.heap.size w w':=by
 have h1:1<=n:=by omega
 refine callsIn_of_wp Tryz.func223 rfl hC ?_ mD;simp only[Tryz.ntmps223,List.size_toArray,List.length_cons,List.length_nil,Nat.reduceAdd,Nat.reduceSub,Array.replicate_succ,Array.replicate_zero,List.push_toArray,List.append_toArray,List.nil_append,List.cons_append]
 gi_wp2_with (gi_at_call 229;refine(zr F (n- 1) hF mD (by omega) g lb hFg eg Q S Sp N hN hNb _ hQ CS).mono ?_;rintro e w' ⟨v,ss,rfl,hS,jJ,hb⟩)
 go_ret;exact⟨v,ss,rfl,hS,jJ,hb⟩
end
end Go.Proofs.YtibiddakakgakaaGreat
