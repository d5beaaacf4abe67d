/- The link with the greatest date (slices.MaxFunc). Written by gen_x8.py. -/
import Derived.Test.YtibiddakakgakaaGreatQeV10X7
import Derived.RangeFuncGives
set_option linter.unusedVariables false
set_option linter.unusedSimpArgs false
set_option maxRecDepth 4000
attribute [local go_sem ↓] Go.wp_at_zero Go.wp_at_succ
set_option maxHeartbeats 16000000
namespace Go.Proofs.YtibiddakakgakaaGreat
section
open Go Go.RowKit
theorem Sv (x y:bu) (w:World):Calls Tryz.prog 128 #[.agg (eI x).toArray,.agg (eI y).toArray] w (ap w (.int .i64 (eG x.since y.since))):=by
 obtain⟨p1,p2,p3⟩:=x;obtain⟨y1,y2,y3⟩:=y;show Calls Tryz.prog 128 #[.agg #[p1,p2,p3],.agg #[y1,y2,y3]] w (ap w (.int .i64 (eG p3 y3)));obtain⟨r,hr⟩:=x_ (eG p3 y3);have HR:=H_ hr;rw[hr];clear hr;go_enter Tryz.func128,Tryz.ntmps128;go_upto_region 1 with fail;obtain⟨W,hW,H,HB,HS,ewx⟩:=B_ w (.cells #[p1,p2,p3] 154);rw[hW];clear ewx;obtain⟨W2,fR,H2,dz,jK,ewx⟩:=B_ W (.cells #[y1,y2,y3] 154);rw[fR];replace H:=(dz.block _ (ag H)).trans H;clear ewx;clear fR;have eW:W.heap.size=w.heap.size+1:=by rw[<-hW];simp
 rw[eW]at H2;clear hW;have aH:=HB.trans (dz.mono HB.size);have dW:=dz.size;have lV:=ag H2;have nf:w.heap.size<W2.heap.size:=by omega
 have HH:=H_ H;have HZ:=H_ H2;have EW:=H_ eW;clear H H2 eW;have aF:=aH;have ku:=nf;have kt:=lV;have dn:=HH;have qN:=HZ;have c2:=ab dn.o 2;have d2:=ab qN.o 2;by_cases h1:p3<y3
 case pos=>
  have hf:=H_ (show r= -1 by rw[<-HR.o];unfold eG;rw[if_pos h1]);have tR:decide (p3<y3)=true:=decide_eq_true h1;clear h1;go_wp2_with fail;go_ret;exact⟨hf.o.symm▸rfl,aF⟩
 case neg=>
  have tR:decide (p3<y3)=false:=decide_eq_false h1;by_cases h2:y3<p3
  case pos=>
   have hf:=H_ (show r=1 by rw[<-HR.o];unfold eG;rw[if_neg h1,if_pos h2]);have tt:decide (p3>y3)=true:=decide_eq_true h2;clear h1 h2;go_wp2_with fail;go_ret;exact⟨hf.o.symm▸rfl,aF⟩
  case neg=>
   have hf:=H_ (show r=0 by rw[<-HR.o];unfold eG;rw[if_neg h1,if_neg h2]);have tt:decide (p3>y3)=false:=decide_eq_false h2;clear h1 h2;go_wp2_with fail;go_ret;exact⟨hf.o.symm▸rfl,aF⟩
def nb (o:Option bu) (l:bu):Option bu:=if sn o l=true then some l else o
def spK (ls:List bu) (code day:Int):List bu:=ls.filter (λl=>decide (l.from_=code/\l.since<=day))
theorem GW (ls:List bu) (code day:Int):js ls code day=(spK ls code day).foldl nb none:=by
 have h:∀(ls:List bu) (o:Option bu),ls.foldl (zw code day) o=(spK ls code day).foldl nb o:=by
  intro ls
  induction ls with
  |nil=>intro o;rfl
  |cons r rs ih=>
   intro o;rw[List.foldl_cons,ih];unfold spK;by_cases hw:r.from_=code/\r.since<=day
   ·rw[List.filter_cons_of_pos (by simpa using hw),List.foldl_cons]
    congr 1
    unfold zw nb;by_cases hl:sn o r=true
    ·rw[if_pos ⟨hw.1,hw.2,hl⟩,if_pos hl]
    ·rw[if_neg (λh=>hl h.2.2),if_neg hl]
   ·rw[List.filter_cons_of_neg (by simpa using hw)]
    congr 1
    unfold zw;rw[if_neg (λh=>hw ⟨h.1,h.2.1⟩)]
 exact h ls none
theorem GV {ms:List bu} {k:Nat} (hk:k<ms.length) {s:bu} (h:(ms.take k).foldl nb none=some s):(ms.take (k+1)).foldl nb none=some (if s.since<ms[k].since then ms[k]else s):=by
 rw[List.take_add_one,List.getElem?_eq_getElem hk,List.foldl_append,h];show nb (some s) ms[k]=_;unfold nb sn;by_cases hl:s.since<ms[k].since
 ·rw[if_pos (decide_eq_true hl),if_pos hl]
 ·rw[if_neg (by simpa using hl),if_neg hl]
theorem SI (a b:Int):decide (eG a b>0)=decide (b<a):=by
 unfold eG;by_cases h1:a<b
 ·rw[if_pos h1,decide_eq_false (show ¬b<a by omega)];rfl
 ·by_cases h2:b<a
  ·rw[if_neg h1,if_pos h2,decide_eq_true h2];rfl
  ·rw[if_neg h1,if_neg h2,decide_eq_false h2];rfl
theorem acb (ms:List bu) (A:Option Addr) (cc:Nat) (w:World) (hl:aj bJ 3 w (·<w.heap.size) [.slice A ms.length cc] ms) (bT:0<ms.length):
 Calls Tryz.prog 127 #[.slice A ms.length cc,.func (.func 128) #[] #[]] w (λe w'=>∃s,ms.foldl nb none=some s/\e=.returned (.agg (eI s).toArray)/\Below w.heap.size w w'):=by
 obtain⟨b,o,dj,ed,hall⟩:=aj.base hl bT;subst dj;have eY:=H_ (λ(j:Nat) (hj:j<ms.length)=>show At w (·<w.heap.size) ⟨b,o+j*3,none⟩ (eI ms[j]) by
  obtain⟨es,h1,h2⟩:=hall j hj
  rwa[(bJ.lit h1).1]at h2)
 have go:=H_ ed;have gr:=hl.cap;unfold maxLen at gr;obtain⟨n,hn⟩:=x_ (ms.length);have HN:=H_ hn;rw[hn]at gr bT |-;clear hl hall hn ed;obtain⟨x,hx⟩:∃x,ms[0]'(by have:=HN.o;omega)=x:=⟨_,rfl⟩;have HX:=H_ hx;have h0:=eY.o 0 (by have:=HN.o;omega);rw[hx]at h0;obtain⟨p1,p2,p3⟩:=x;have Bl:=H_ (show w.rangeAt b o [p1,p2,p3] by have:=h0.range;simpa using this);have VE:¬(n:Int)<1:=by omega
 clear hx h0;go_enter Tryz.func127,Tryz.ntmps127;go_upto_region 1 with fail;obtain⟨W1,cS,H1,bC,dr,ewx⟩:=B_ w (.cells #[(),(),()] 154);rw[cS];clear ewx;have yN:=H_ (show W1.heap.size=w.heap.size+1 by rw[<-cS];simp);clear cS;have HZ1:=H_ H1;have Bx:=H_ (show W1.rangeAt b o [p1,p2,p3]from λj v hj=>(bC.cell (p:=⟨b,o+j,none⟩) go.o).trans (Bl.o j v hj));clear H1;go_upto_region 4 with(refine w_ 13 154 12 b (o) [p1,p2,p3] Bx.o dE Tryz.underlying154 ?_)
 have H2:=heap_alloc_new W1 (.cells #[p1,p2,p3] 154);have dz:=bC.trans ((ai W1 (.cells #[p1,p2,p3] 154)).mono bC.size);have qN:=H_ (al HZ1.o (.cells #[p1,p2,p3] 154));rw[yN.o]at H2;rw[yN.o];generalize W1.alloc (Obj.cells #[p1,p2,p3] 154)=W2 at*;have Oh:=H_ H2;have acz:=H_ dz;clear H2 dz bC dr;go_wp2_with fail
 go_loopw [6] (λi wr=>∃(k:Nat) (s:bu),1<=k/\k<=n/\i=.int .i64 (k:Int)/\(ms.take k).foldl nb none=some s/\Below w.heap.size w wr/\wr.heap[w.heap.size]? =some (.cells #[(),(),()] 154 (0,0))/\wr.heap[w.heap.size+1]? =some (.cells (eI s).toArray 154 (0,0))) (λi _=>n- (intOf i).toNat)
 case atStart=>
  refine⟨1,⟨p1,p2,p3⟩,Nat.le_refl _,by omega,rfl,?_,acz.o,qN.o,Oh.o⟩;rw[List.take_add_one,List.getElem?_eq_getElem (by have:=HN.o;omega)];exact congrArg some HX.o
 case round=>
  obtain⟨k,s,Dm,hk,rfl,hs,hb,hz,hm⟩:=hrel;obtain⟨s1,s2,s3⟩:=s;have HSX:=H_ hs;have HZ:=H_ hz;have HM5:=H_ (show wr.heap[w.heap.size+1]? =some (.cells #[s1,s2,s3] 154 (0,0))from hm);have HT5:=H_ (ag hm);have HT4:=H_ (ag hz);clear hs hz hm;by_cases aU:k<n
  case pos=>
   have bq:(k:Int)< (n:Int):=by omega
   have bI:k<ms.length:=by rw[HN.o];exact aU
   have oZ:=H_ (GV bI HSX.o);have aS:=eY.o k bI;obtain⟨x,hx⟩:=x_ (ms[k]);rw[hx]at aS oZ;obtain⟨p1,p2,p3⟩:=x;have rM:=H_ (show At wr (·<wr.heap.size) ⟨b,o+k*3,none⟩ [.int .i64 p1,.int .i64 p2,.int .i64 p3]from(aS.fr (Fr.ofBelow hb)).mono (λq hq=>Nat.lt_of_lt_of_le hq hb.size));obtain⟨c,hc⟩:=x_ (eG p3 s3);have XA:=H_ (λ(w2:World)=>show Calls Tryz.prog 128 #[.agg #[p1,p2,p3],.agg #[s1,s2,s3]] w2 (ap w2 (.int .i64 c)) by
    have h:=Sv ⟨p1,p2,p3⟩ ⟨s1,s2,s3⟩ w2
    rwa[show eG (bu.since ⟨p1,p2,p3⟩) (bu.since ⟨s1,s2,s3⟩)=c from hc]at h)
   have hq:=SI p3 s3;rw[hc]at hq;obtain⟨q,lc⟩:=x_ (decide (s3<p3));rw[lc]at hq;have HQ:=H_ lc;clear hx aS hc lc;go_upto_region 7 with fail;refine bp (Ks wr [.val (.func (.func 128) #[] #[]),.val (.slice (some ⟨b,o,none⟩) n cc),(k:Int),.val (.pointer (some ⟨b,o+k*3,none⟩)),.val (.agg #[p1,p2,p3]),.val (.agg #[s1,s2,s3]),c,q])
    (λw'=>Below wr.heap.size wr w') K_ K_ K_ (Below.refl _ _).drew ?_ ?_
   ·refine⟨b_ (q_ 1),b_ (q_ 0),b_ (q_ 6),c_ (p_ 1 21) (p_ 2 22),?_,?_,?_,b_ (p_ 6 26),trivial⟩
    ·refine O1_ (p_ 3 23) λA0 w2 K e0 hS hK=>?_;have aJ:w2.rangeAt b (o+k*3) [p1,p2,p3]:=(rM.o.fr (Fr.ofBelow hS)).range;have aI:=dE;refine wp_load_mid 154 (.tmp 23) rfl _ _ (v_ e0) _ _ aJ Tryz.underlying154 rfl aI ?_;exact kq hK hS rfl
    ·refine O1_ (q_ 5) λA0 w2 K e0 hS hK=>?_;have aJ:w2.rangeAt (w.heap.size+1) 0 [s1,s2,s3]:=World.rangeAt_of_block ((hS.block _ HT5.o).trans HM5.o) 0 3;have aI:=dE;refine wp_load_mid 154 (.tmp 5) rfl _ _ (v_ e0) _ _ aJ Tryz.underlying154 rfl aI ?_;exact kq hK hS rfl
    ·refine O3_ (p_ 0 20) (p_ 4 24) (p_ 5 25) λA0 w2 K e0 e1 e2 hS hK=>?_;go_simp;refine(XA.o w2).mono ?_;rintro e w3 ⟨rfl,h3⟩;exact hK.out _ _ (hS.trans (h3.mono hS.size)) (Ks.of rfl rfl) (Ks.keep h3)
   ·intro _ A0 w2 hI hall;have hS:=hI.world;have c9:=hI.ch hall [20,21,22,23,24,25,26,27];obtain⟨x0,x1,x2,x3,x4,x5,x6,x7,hA,hV⟩:=c9;obtain rfl:x7=.bool q:=hV 7 _ _ rfl _ rfl;clear hV hI hall;simp only[ba,List.foldl,List.setIfInBounds_toArray,List.set_cons_zero,List.set_cons_succ]at hA;rw[hA];clear hA;have aF:=hb.trans (hS.mono hb.size);have Oh:=H_ ((hS.block _ HT5.o).trans HM5.o);have qN:=H_ ((hS.block _ HT4.o).trans HZ.o);have vq:=H_ ((rM.o.fr (Fr.ofBelow hS)).range);clear hq;cases q with
    |false=>
     have jK:=H_ (show(ms.take (k+1)).foldl nb none=some ⟨s1,s2,s3⟩ by rw[oZ.o,if_neg (of_decide_eq_false HQ.o)]);go_wp2_with fail;go_roundw
     case rel=>exact⟨k+1,_,by omega,by omega,by go_num,jK.o,aF,qN.o,Oh.o⟩
     case measure=>first|exact aQ aU|(simp only[intOf];omega)
    |true=>
     have jK:=H_ (show(ms.take (k+1)).foldl nb none=some ⟨p1,p2,p3⟩ by rw[oZ.o,if_pos (of_decide_eq_true HQ.o)]);go_wp2_with (first|(refine w_ 31 154 30 b (o+k*3) [p1,p2,p3] vq.o dE Tryz.underlying154 ?_)|(show wpList _ _ _ (Oper.mk none (Op.store _ (Operand.tmp 5) _) _ _ _ _::_) _ _;go_loud (refine wpList_store_row rfl 154 (.tmp 5) (.tmp 31) rfl (w.heap.size+1) #[p1,p2,p3] rfl rfl 154 #[s1,s2,s3] Oh.o dE rfl (by simp[Value.oneCell']) ?_)));go_roundw
     case rel=>exact⟨k+1,_,by omega,by omega,by go_num,jK.o,aD aF (by omega) _,((cC _ _ _).block _ (show w.heap.size≠w.heap.size+1 by omega)).trans qN.o,aB Oh.o _⟩
     case measure=>first|exact aQ aU|(simp only[intOf];omega)
  case neg=>
   have bq:¬(k:Int)< (n:Int):=by omega
   have ac3:=H_ (show ms.foldl nb none=some ⟨s1,s2,s3⟩ by
    have h:=HSX.o
    rwa[List.take_of_length_le (by have:=HN.o;omega)]at h)
   go_wp2_with (first|(refine W_ 32 154 5 (w.heap.size+1) HM5.o dE Tryz.underlying154 ?_)|(show wpList _ _ _ (Oper.mk none (Op.store _ (Operand.tmp 4) _) _ _ _ _::_) _ _;go_loud (refine wpList_store_row rfl 154 (.tmp 4) (.tmp 32) rfl w.heap.size #[s1,s2,s3] rfl rfl 154 #[(),(),()] HZ.o dE rfl (by simp[Value.oneCell']) ?_)));refine bodyPost_ret (v:=_) (eT rfl _ _ w.heap.size 154 _ (0,0) _ rfl (aB HZ.o _) Tryz.underlying154 rfl dE) rfl ?_;exact⟨_,ac3.o,rfl,aD hb (Nat.le_refl _) _⟩
theorem Qd {ls:List bu} {k:Nat} (hk:k<ls.length) (code day:Int):spK (ls.take (k+1)) code day=if ls[k].from_=code/\ls[k].since<=day then spK (ls.take k) code day++[ls[k]]else spK (ls.take k) code day:=by
 rw[List.take_add_one,List.getElem?_eq_getElem hk];unfold spK;rw[List.filter_append];split
 ·rename_i h;rw[show(some ls[k]).toList=[ls[k]]from rfl,List.filter_cons_of_pos (by simpa using h)];rfl
 ·rename_i h;rw[show(some ls[k]).toList=[ls[k]]from rfl,List.filter_cons_of_neg (by simpa using h)];simp
theorem GZ (a b c:Int) (w:World):(Instr.field 154 (.agg #[a,b,c]) 1).run Tryz.prog w=.ok (.int .i64 b) w:=by kernel_rfl
theorem LD (x:bu):(eI x).length=3:=rfl
theorem Zk (e:aV) (es:List Value) (code day:Int) (w:World) (he:aN w (·<w.heap.size) es e) (ci:sF e) (lS:cx code) (hd:inD day):Calls Tryz.prog 93 #[.agg es.toArray,code,day] w (ap w (.tuple #[.int .i64 (gz e code day).1,.int .i64 (gz e code day).2])):=by
 obtain⟨ia,oR,ge,gg,gh⟩:=info_parts pP;obtain⟨Ac,cc,Al,cl,rfl,ee,lP⟩:=he.lit;have C9:=H_ (show ∀r,gz e code day=r->(aK e.chart code=none->r=(0,8))/\∀a,aK e.chart code=some a->r=(match js e.links code day with|some l=>(l.to_,0)|none=>(0,15))from λr hr=>by
  unfold gz at hr;rw[if_neg (show ¬¬(-25567<=day/\day<=84005)from λh=>h hd)]at hr;refine⟨λh=>?_,λa h=>?_⟩
  ·rw[h]at hr;exact hr.symm
  ·rw[h]at hr;exact hr.symm)
 obtain⟨R,hR⟩:=x_ (gz e code day);have HR:=H_ (C9.o R hR);rw[hR];have Xn:=H_ (λ(w2:World)=>show Calls Tryz.prog 125 #[day] w2 (ap w2 (.bool true)) by
  have h:=nS day w2
  rwa[show decide (inD day)=true from decide_eq_true hd]at h)
 have ny:=H_ (λ(w2:World) (hb:Below w.heap.size w w2)=>mL e.chart Ac cc code w2 (az ee hb) lS ci.1);have sV:=H_ lP;have bj:=lP.cap;unfold maxLen at bj;have IV:=ci.2.1;obtain⟨nm,aw,ec,ls,jo⟩:=e;simp only at HR ny sV bj IV |-;obtain⟨s,hs⟩:=x_ (nm);obtain⟨cu,hcu⟩:∃s,aw=s:=⟨_,rfl⟩;subst hs hcu;obtain⟨n,hn⟩:=x_ (ec.length);obtain⟨nl,hl⟩:∃n,ls.length=n:=⟨_,rfl⟩;have jz:=H_ hl;rw[hn]at ny;rw[hl]at bj IV;obtain⟨fo,vx⟩:=x_ (aK ec code);have e0:cF ec code=.tuple #[.agg (bn (gH fo)).toArray,fo.isSome]:=by unfold cF;rw[vx]
 rw[e0]at ny;rw[vx]at HR;obtain⟨x,hx⟩:=x_ (gH fo);rw[hx]at ny;obtain⟨a1,a2,a3,a4⟩:=x;clear lP ee hR C9 hd lS ci he hx e0 vx;show Calls Tryz.prog 93 #[.agg #[nm,aw,.slice Ac ec.length cc,.slice Al ls.length cl,jo],code,day] w _;rw[hn,hl];clear hn hl;have QO:=H_ (λ(x:bu) (hx:x∈ls)=>show mM x by
  obtain⟨j,hj,rfl⟩:=List.getElem_of_mem hx;obtain⟨b,o,MJ,_,_,h3,_⟩:=aj.get sV.o j hj;exact(bJ.lit h3).2)
 go_enter Tryz.func93,Tryz.ntmps93;go_upto_region 1 with fail;obtain⟨W1,cS,H1,bC,dr,ewx⟩:=B_ w (.cells #[nm,aw,.slice Ac n cc,.slice Al nl cl,jo] 74);rw[cS];clear ewx;clear cS;have fB:=H_ H1;clear H1;go_wp2_with fail;refine(Xn.o W1).mono ?_;rintro e w2 ⟨rfl,aH⟩;have aF:=bC.trans (aH.mono bC.size);have dn:=k_ aH fB;have dW:=Nat.lt_of_lt_of_le dr aH.size;have c2:=ab dn.o 2;go_wp2_with fail;refine(ny.o w2 aF).mono ?_;rintro e w3 ⟨rfl,aZ⟩;have aR:=aF.trans (aZ.mono aF.size);have kS:=k_ aZ dn;clear c2;simp only[bn];go_upto_region 4 with fail
 have oW:=H_ (al kS.o (.cells #[a1,a2,a3,a4] 78));have gw:=aR.trans ((ai w3 (.cells #[a1,a2,a3,a4] 78)).mono aR.size);generalize JU:w3.alloc (Obj.cells #[a1,a2,a3,a4] 78)=W4 at*;clear JU;cases fo with
 |none=>
  have hf:=H_ (HR.o.1 rfl);simp only[Option.isSome_none];go_wp2_with fail;go_ret2;exact⟨hf.o.symm▸rfl,gw⟩
 |some fa=>
 have V7:=H_ (HR.o.2 fa rfl);simp only[Option.isSome_some];have yJ:w.heap.size<W4.heap.size:=ag oW.o;have e3:=ab oW.o 3;go_wp2_with fail
 go_loopw [10,28] (λv i wr=>∃k:Nat,k<=nl/\i=.int .i64 (k:Int)/\Below W4.heap.size W4 wr/\wr.ownsRow W4.heap.size 154 3 v (spK (ls.take k) code day).length ((spK (ls.take k) code day).flatMap eI)) (λ_ i _=>nl- (intOf i).toNat)
 case atStart=>exact⟨0,by omega,rfl,Below.refl _ _,World.ownsRow_nil _ _ _ _⟩
 case round=>
  obtain⟨k,hk,rfl,hb,bv⟩:=hrel;have tz:=H_ bv;have el:=gw.trans (hb.mono gw.size);have bP:=hb.size;by_cases aU:k<nl
  case pos=>
   have bq:(k:Int)< (nl:Int):=by omega
   have gW:0<nl:=by omega
   have bI:k<ls.length:=by rw[jz.o];exact aU
   obtain⟨b,o,MJ,dj,ed,bL,aS⟩:=aj.get sV.o k bI;subst dj;rw[(bJ.lit bL).1]at aS;have oZ:=H_ (Qd bI code day);obtain⟨x,hx⟩:=x_ (ls[k]);rw[hx]at aS oZ;obtain⟨l1,l2,l3⟩:=x;have eZ:=H_ (show wr.rangeAt b (o+k*3) [l1,l2,l3]from(aS.fr (Fr.ofBelow el)).range);have eX:(spK (ls.take k) code day).length<=1000:=Nat.le_trans (List.length_filter_le _ _) (by rw[List.length_take];omega);have XV:=bv.alloc (.cells #[l1,l2,l3] 154);obtain⟨nt,hnt⟩:=x_ ((spK (ls.take k) code day).length);rw[hnt]at XV eX;have HNT:=H_ hnt;clear bL aS hx ed bv hnt;go_upto_region 10 with(refine w_ 31 154 30 b (o+k*3) [l1,l2,l3] eZ.o dE Tryz.underlying154 ?_);have H6:=heap_alloc_new wr (.cells #[l1,l2,l3] 154);have dK:=ai wr (.cells #[l1,l2,l3] 154);have my:=ag H6;generalize mC:wr.alloc (Obj.cells #[l1,l2,l3] 154)=W6 at*;clear mC;have ga:=H_ XV;have sS:=H_ H6;have dd:=hb.trans (dK.mono hb.size);have c0:=ab H6 0;have c2:=ab H6 2;clear H6 XV;obtain⟨q1,mF⟩:∃q,(l1==code)=q:=⟨_,rfl⟩;obtain⟨q2,lc⟩:∃q,decide (l3<=day)=q:=⟨_,rfl⟩;have HQ:=H_ (show(l1=code/\l3<=day)↔(q1=true/\q2=true) by rw[<-mF,<-lc];simp);rcases(show q1=false\/(q1=true/\q2=false)\/(q1=true/\q2=true) by cases q1<;>cases q2<;>simp)with rfl|⟨rfl,rfl⟩|⟨rfl,rfl⟩
   ·have Cx:=H_ (show spK (ls.take (k+1)) code day=spK (ls.take k) code day by rw[oZ.o,if_neg (λh=>by have:=HQ.o.1 h;simp at this)]);go_wp2_with fail;go_roundw
    case rel=>exact⟨k+1,by omega,by go_num,dd,by rw[Cx.o,HNT.o];exact ga.o⟩
    case measure=>first|exact aQ aU|(simp only[intOf];omega)
   ·have Cx:=H_ (show spK (ls.take (k+1)) code day=spK (ls.take k) code day by rw[oZ.o,if_neg (λh=>by have:=HQ.o.1 h;simp at this)]);go_wp2_with fail;go_roundw
    case rel=>exact⟨k+1,by omega,by go_num,dd,by rw[Cx.o,HNT.o];exact ga.o⟩
    case measure=>first|exact aQ aU|(simp only[intOf];omega)
   ·have Cx:=H_ (show spK (ls.take (k+1)) code day=spK (ls.take k) code day++[⟨l1,l2,l3⟩] by rw[oZ.o,if_pos (HQ.o.2 ⟨rfl,rfl⟩)]);have MV:=dd.size;go_wp2_with (first|(refine W_ 43 154 12 (wr.heap.size) sS.o dE Tryz.underlying154 ?_)|(at_builtin;go_loud (refine cq _ rfl (.tmp 42) (.tmp 44) 72 rfl W4.heap.size 154 ia _ 3 24 oD oR ge gg gh rfl (by decide) u10 nt ((spK (ls.take k) code day).flatMap eI) rfl (ga.o.alloc _) (λ_=>True) (some ⟨W6.heap.size,0,none⟩) 1 1 [l1,l2,l3] rfl (fq (heap_alloc_new _ _) rfl) (by simp[Value.oneCell']) (by simp only[maxLen];omega) (by omega) (by simp;omega) ?_);intro v9 w9 cj gk _));go_roundw
    case rel=>
     refine⟨k+1,by omega,by go_num,bK (dd.alloc (by omega) _) gk (λq hq=>(ga.o.lt _ hq).1) (Nat.le_refl _),?_⟩;rw[Cx.o,List.length_append,HNT.o,List.flatMap_append];exact cj
    case measure=>first|exact aQ aU|(simp only[intOf];omega)
  case neg=>
   have bq:¬(k:Int)< (nl:Int):=by omega
   have IA:ls.take k=ls:=List.take_of_length_le (by rw[jz.o];omega);rw[IA]at bv;obtain⟨A9,n9,c9,rfl⟩:=bS bv;obtain rfl:n9=(spK ls code day).length:=fV bv;have HLO:=H_ (GW ls code day);have aau:∀x∈spK ls code day,x∈ls:=λx hx=>(List.mem_filter.1 hx).1
   have Bb:aj bJ 3 wr (·<wr.heap.size) [.slice A9 (spK ls code day).length c9] (spK ls code day):=mr (f:=eI) (size:=3) LD bv (λx hx=>by
    obtain⟨b1,b2,b3⟩:=QO.o x (aau x hx);exact⟨[.int .i64 x.from_],[.int .i64 x.to_],[.int .i64 x.since],rfl,⟨rfl,b1⟩,⟨rfl,b2⟩,⟨rfl,b3⟩⟩) (λg hg=>(bv.lt g hg).2)
   have pb:=H_ Bb;obtain⟨ms,hms⟩:=x_ (spK ls code day);rw[hms]at pb HLO |-;have HMX:=H_ (λ(h:0<ms.length)=>acb ms A9 c9 wr pb.o h);obtain⟨m,hm⟩:=x_ (ms.length);have HM:=H_ hm;rw[hm]at HMX |-;clear Bb hms aau bv hm IA tz;by_cases hm0:m=0
   case pos=>
    subst hm0;have hf:=H_ (show R=(0,15) by rw[V7.o,HLO.o,List.eq_nil_of_length_eq_zero HM.o];rfl);go_wp2_with fail;go_ret2;exact⟨hf.o.symm▸rfl,el⟩
   case neg=>
    have hmb:((m:Int)==0)=false:=by simpa using hm0
    have hmp:0<m:=by omega
    have HMP:=H_ (HMX.o hmp);clear hm0;go_wp2_with fail;refine HMP.o.mono ?_;rintro e w9 ⟨⟨s1,s2,s3⟩,hs,rfl,kT⟩;have hf:=H_ (show R=(s2,0) by rw[V7.o,HLO.o,hs]);have Kk:=el.trans (kT.mono el.size);have hfd:=GZ s1 s2 s3 w9;clear hs;simp only[eI];go_wp2_with fail;go_ret2;exact⟨hf.o.symm▸rfl,Kk⟩
theorem xC {ls:List bu} {k:Nat} (hk:k<ls.length) (code day:Int):js (ls.take (k+1)) code day=zw code day (js (ls.take k) code day) ls[k]:=by
 rw[List.take_add_one,List.getElem?_eq_getElem hk];exact GX _ _ _ _
def qO (ls:List bu) (k:Nat) (code day bi:Int):Prop:=(bi= -1/\js (ls.take k) code day=none)\/∃(j:Nat) (hj:j<ls.length),j<k/\bi=(j:Int)/\js (ls.take k) code day=some ls[j]
theorem qO.skip {ls:List bu} {k:Nat} {code day bi:Int} (h:qO ls k code day bi) (hk:k<ls.length) (fg:¬(ls[k].from_=code/\ls[k].since<=day/\sn (js (ls.take k) code day) ls[k]=true)):qO ls (k+1) code day bi:=by
 have e:js (ls.take (k+1)) code day=js (ls.take k) code day:=by
  rw[xC hk];unfold zw;rw[if_neg fg]
 unfold qO;rw[e];rcases h with h|⟨j,hj,h1,h2,h3⟩
 ·exact .inl h
 ·exact .inr ⟨j,hj,by omega,h2,h3⟩
theorem qO.take {ls:List bu} {k:Nat} {code day:Int} (hk:k<ls.length) (h:ls[k].from_=code/\ls[k].since<=day/\sn (js (ls.take k) code day) ls[k]=true):qO ls (k+1) code day (k:Int):=by
 refine .inr ⟨k,hk,by omega,rfl,?_⟩;rw[xC hk];unfold zw;rw[if_pos h]
theorem Jw (e:aV) (es:List Value) (code day:Int) (w:World) (he:aN w (·<w.heap.size) es e) (ci:sF e) (lS:cx code) (hd:inD day):Calls Tryz.prog 84 #[.agg es.toArray,code,day] w (ap w (.tuple #[.int .i64 (gz e code day).1,.int .i64 (gz e code day).2])):=by
 obtain⟨Ac,cc,Al,cl,rfl,ee,lP⟩:=he.lit;have C9:=H_ (show ∀r,gz e code day=r->(aK e.chart code=none->r=(0,8))/\∀a,aK e.chart code=some a->r=(match js e.links code day with|some l=>(l.to_,0)|none=>(0,15))from λr hr=>by
  unfold gz at hr;rw[if_neg (show ¬¬(-25567<=day/\day<=84005)from λh=>h hd)]at hr;refine⟨λh=>?_,λa h=>?_⟩
  ·rw[h]at hr;exact hr.symm
  ·rw[h]at hr;exact hr.symm)
 obtain⟨R,hR⟩:=x_ (gz e code day);have HR:=H_ (C9.o R hR);rw[hR];have Xn:=H_ (λ(w2:World)=>show Calls Tryz.prog 32 #[day] w2 (ap w2 (.bool true)) by
  have h:=mt day w2
  rwa[show decide (inD day)=true from decide_eq_true hd]at h)
 have ny:=H_ (λ(w2:World) (hb:Below w.heap.size w w2)=>mU e.chart Ac cc code w2 (az ee hb) lS ci.1);have sV:=H_ lP;have bj:=lP.cap;unfold maxLen at bj;have IV:=ci.2.1;obtain⟨nm,aw,ec,ls,jo⟩:=e;simp only at HR ny sV bj IV |-;obtain⟨s,hs⟩:=x_ (nm);obtain⟨cu,hcu⟩:∃s,aw=s:=⟨_,rfl⟩;subst hs hcu;obtain⟨n,hn⟩:=x_ (ec.length);obtain⟨nl,hl⟩:∃n,ls.length=n:=⟨_,rfl⟩;have jz:=H_ hl;rw[hn]at ny;rw[hl]at bj IV;obtain⟨fo,vx⟩:=x_ (aK ec code);have e0:cF ec code=.tuple #[.agg (bn (gH fo)).toArray,fo.isSome]:=by unfold cF;rw[vx]
 rw[e0]at ny;rw[vx]at HR;obtain⟨x,hx⟩:=x_ (gH fo);rw[hx]at ny;obtain⟨a1,a2,a3,a4⟩:=x;clear lP ee hR C9 hd lS ci he hx e0 vx;show Calls Tryz.prog 84 #[.agg #[nm,aw,.slice Ac ec.length cc,.slice Al ls.length cl,jo],code,day] w _;rw[hn,hl];clear hn hl;go_enter Tryz.func84,Tryz.ntmps84;go_upto_region 1 with fail;obtain⟨W1,cS,H1,bC,dr,ewx⟩:=B_ w (.cells #[nm,aw,.slice Ac n cc,.slice Al nl cl,jo] 74);rw[cS];clear ewx;clear cS;have fB:=H_ H1;clear H1;go_wp2_with fail;refine(Xn.o W1).mono ?_;rintro e w2 ⟨rfl,aH⟩;have aF:=bC.trans (aH.mono bC.size);have dn:=k_ aH fB;have dW:=Nat.lt_of_lt_of_le dr aH.size;have c2:=ab dn.o 2;go_wp2_with fail;refine(ny.o w2 aF).mono ?_;rintro e w3 ⟨rfl,aZ⟩;have aR:=aF.trans (aZ.mono aF.size);have kS:=k_ aZ dn;clear c2;simp only[bn];go_upto_region 4 with fail
 have oW:=H_ (al kS.o (.cells #[a1,a2,a3,a4] 78));have gw:=aR.trans ((ai w3 (.cells #[a1,a2,a3,a4] 78)).mono aR.size);generalize JU:w3.alloc (Obj.cells #[a1,a2,a3,a4] 78)=W4 at*;clear JU;cases fo with
 |none=>
  have hf:=H_ (HR.o.1 rfl);simp only[Option.isSome_none];go_wp2_with fail;go_ret2;exact⟨hf.o.symm▸rfl,gw⟩
 |some fa=>
 have V7:=H_ (HR.o.2 fa rfl);simp only[Option.isSome_some];have yJ:w.heap.size<W4.heap.size:=ag oW.o;go_wp2_with fail
 go_loopw [10,11] (λv i wr=>∃(k:Nat) (bi:Int),k<=nl/\i=.int .i64 (k:Int)/\v=.int .i64 bi/\Below W4.heap.size W4 wr/\qO ls k code day bi) (λ_ i _=>nl- (intOf i).toNat)
 case atStart=>exact⟨0,-1,by omega,rfl,rfl,Below.refl _ _,.inl ⟨rfl,rfl⟩⟩
 case round=>
  obtain⟨k,bi,hk,rfl,rfl,hb,m4⟩:=hrel;have Bn:=H_ m4;have el:=gw.trans (hb.mono gw.size);have bP:=hb.size;have TO:=k_ hb oW;clear m4;by_cases aU:k<nl
  case pos=>
   have bq:(k:Int)< (nl:Int):=by omega
   have gW:0<nl:=by omega
   have bI:k<ls.length:=by rw[jz.o];exact aU
   obtain⟨b,o,MJ,dj,ed,bL,aS⟩:=aj.get sV.o k bI;subst dj;rw[(bJ.lit bL).1]at aS;have Iw:=H_ (qO.skip Bn.o bI);have M5:=H_ (qO.take (code:=code) (day:=day) bI);have HRD:=H_ (λ(j:Nat) (hj:j<ls.length)=>show wr.rangeAt b (o+j*3) (eI ls[j]) by
    obtain⟨b2,o2,es3,hA3,_,qp,rK⟩:=aj.get sV.o j hj;simp only[Option.some.injEq,Addr.mk.injEq,and_true]at hA3;obtain⟨rfl,rfl⟩:=hA3;rw[(bJ.lit qp).1]at rK;exact(rK.fr (Fr.ofBelow el)).range)
   obtain⟨x,hx⟩:=x_ (ls[k]);rw[hx]at aS Iw M5;obtain⟨l1,l2,l3⟩:=x;have eZ:=H_ (show wr.rangeAt b (o+k*3) [l1,l2,l3]from(aS.fr (Fr.ofBelow el)).range);have YM:=H_ (show b<wr.heap.size from Nat.lt_of_lt_of_le ed el.size);have e3:=ab TO.o 3;clear bL aS hx ed;go_upto_region 11 with(refine w_ 36 154 35 b (o+k*3) [l1,l2,l3] eZ.o dE Tryz.underlying154 ?_);obtain⟨W6,mC,H6,dK,my,ewx⟩:=B_ wr (.cells #[l1,l2,l3] 154);rw[mC];clear ewx;clear mC;have dd:=hb.trans (dK.mono hb.size);have c0:=ab H6 0;have c2:=ab H6 2;have e6:=(ab ((dK.block _ (ag TO.o)).trans TO.o) 3);clear H6 e3;obtain⟨q1,mF⟩:∃q,(l1==code)=q:=⟨_,rfl⟩;obtain⟨q2,lc⟩:∃q,decide (l3<=day)=q:=⟨_,rfl⟩;have HQ1:=H_ (show q1=true↔l1=code by rw[<-mF];simp);have HQ2:=H_ (show q2=true↔l3<=day by rw[<-lc];simp);rcases(show q1=false\/(q1=true/\q2=false)\/(q1=true/\q2=true) by cases q1<;>cases q2<;>simp)with rfl|⟨rfl,rfl⟩|⟨rfl,rfl⟩
   ·have rN:=H_ (Iw.o (λh=>by have:=HQ1.o.2 h.1;simp at this));go_quiet (fail);go_wp2_with fail;go_roundw
    case rel=>exact⟨k+1,bi,by omega,by go_num,by first|trivial|rfl,((Fr.ofBelow dd).drewN _).below,rN.o⟩
    case measure=>first|exact aQ aU|(simp only[intOf];omega)
   ·have rN:=H_ (Iw.o (λh=>by have:=HQ2.o.2 h.2.1;simp at this));go_quiet (fail);go_wp2_with fail;go_roundw
    case rel=>exact⟨k+1,bi,by omega,by go_num,by first|trivial|rfl,((Fr.ofBelow dd).drewN _).below,rN.o⟩
    case measure=>first|exact aQ aU|(simp only[intOf];omega)
   ·have QV:=H_ (And.intro (HQ1.o.1 rfl) (HQ2.o.1 rfl));rcases Bn.o with⟨rfl,fg⟩|⟨j,hj,m7,rfl,Kf⟩
    ·have rN:=H_ (M5.o ⟨QV.o.1,QV.o.2,by rw[fg];rfl⟩);have nx:decide ((-1:Int)<0)=true:=rfl;clear fg;go_quiet (fail);go_wp2_with fail;go_roundw
     case rel=>exact⟨k+1,(k:Int),by omega,by go_num,by first|trivial|rfl,((Fr.ofBelow dd).drewN _).below,rN.o⟩
     case measure=>first|exact aQ aU|(simp only[intOf];omega)
    ·have QY:=HRD.o j hj;obtain⟨y,hy⟩:=x_ (ls[j]);rw[hy]at QY Kf;obtain⟨s1,s2,s3⟩:=y;have hsj:W6.cell? ⟨b,o+j*3+2,none⟩=some (.int .i64 s3):=(dK.cell (p:=⟨b,o+j*3+2,none⟩) YM.o).trans (QY 2 _ rfl);have hj0:decide ((j:Int)<0)=false:=decide_eq_false (by omega);have hjI:(j:Int)< (nl:Int):=by omega
     have adX:¬(j:Int)<0:=by omega
     have FE:j<nl:=by omega
     by_cases Gt:s3<l3
     case pos=>
      have qE:decide (l3>s3)=true:=decide_eq_true Gt;have rN:=H_ (M5.o ⟨QV.o.1,QV.o.2,by rw[Kf];exact decide_eq_true Gt⟩);clear Kf QY hy Gt;go_quiet (fail);go_wp2_with fail;go_roundw
      case rel=>exact⟨k+1,(k:Int),by omega,by go_num,by first|trivial|rfl,((Fr.ofBelow dd).drewN _).below,rN.o⟩
      case measure=>first|exact aQ aU|(simp only[intOf];omega)
     case neg=>
      have qE:decide (l3>s3)=false:=decide_eq_false Gt;have rN:=H_ (Iw.o (λh=>by have h3:=h.2.2;rw[Kf]at h3;exact Gt (of_decide_eq_true h3)));clear Kf QY hy Gt;go_quiet (fail);go_wp2_with fail;go_roundw
      case rel=>exact⟨k+1,(j:Int),by omega,by go_num,by first|trivial|rfl,((Fr.ofBelow dd).drewN _).below,rN.o⟩
      case measure=>first|exact aQ aU|(simp only[intOf];omega)
  case neg=>
   have bq:¬(k:Int)< (nl:Int):=by omega
   have IA:ls.take k=ls:=List.take_of_length_le (by rw[jz.o];omega);have e3:=ab TO.o 3;rcases Bn.o with⟨rfl,fg⟩|⟨j,hj,m7,rfl,Kf⟩
   ·rw[IA]at fg;have hf:=H_ (show R=(0,15) by rw[V7.o,fg]);have nx:decide ((-1:Int)<0)=true:=rfl;clear fg;go_wp2_with fail;go_ret2;exact⟨hf.o.symm▸rfl,el⟩
   ·rw[IA]at Kf;obtain⟨b,o,MJ,dj,ed,bL,aS⟩:=aj.get sV.o j hj;subst dj;rw[(bJ.lit bL).1]at aS;obtain⟨y,hy⟩:=x_ (ls[j]);rw[hy]at aS Kf;obtain⟨s1,s2,s3⟩:=y;have hf:=H_ (show R=(s2,0) by rw[V7.o,Kf]);have hsj:wr.cell? ⟨b,o+j*3+1,none⟩=some (.int .i64 s2):=(aS.fr (Fr.ofBelow el)).c (j:=1) rfl;have hj0:decide ((j:Int)<0)=false:=decide_eq_false (by omega);have hjI:(j:Int)< (nl:Int):=by have:=jz.o;omega
    have adX:¬(j:Int)<0:=by omega
    clear Kf bL aS hy ed;go_wp2_with fail;go_ret2;exact⟨hf.o.symm▸rfl,el⟩
end
section
open Go Go.RowKit Go.Shelf Go.Lib
open Go.Sort hiding Below
theorem KU {α:Type} [Inhabited α] {enc:α->List Value} {sz:Nat} {w:World} {blk n:Nat} {d:Array α} {os:Array Obj}:Below w.heap.size w w->w.heap.size<=(sortWorldK enc sz w blk 0 n d os).heap.size/\∀k,k<w.heap.size->k≠blk->(sortWorldK enc sz w blk 0 n d os).heap[k]? =w.heap[k]? :=λ_=>by
 refine⟨size_sortWorldK_c _ _ _ _ _ _ _ _,λk hk bT=>?_⟩;unfold sortWorldK Go.Sort.grow putRowK putRow mapBlock Go.Sort.ahead;simp only;rw[Array.getElem?_append_left (by simpa using hk),Array.getElem?_modify,if_neg (λe=>bT e.symm)]
def OB {α:Type} (enc:α->List Value) (_:World) (_:Nat->Prop) (cs:List Value) (c:α):Prop:=cs=enc c
theorem E7 {α:Type} [Inhabited α] {ρ:Go.Shelf.Ren} (L:Go.Proofs.SlLaysF0.n6 Tryz.prog ρ) (sz:Nat) (aao:0<sz) (aE:∀w,(isAgg (ρ.t 24)).run Tryz.prog w=.ok true w) (zE:∀w,(Go.sizeOf (ρ.t 24)).run Tryz.prog w=.ok sz w) (enc:α->List Value) (hk:∀x,(enc x).length=sz) (h1:∀x,∀v∈enc x,v.oneCell'=true) (cf:α->α->Int) (hO:SWO (ltOf cf)) (gf:Nat)
 (eg:∀args w,(callFunc gf args).run Tryz.prog w=.ok (.enter gf args) w) (acN:∀x y w,Calls Tryz.prog gf #[.agg (enc x).toArray,.agg (enc y).toArray] w (λe w'=>e=.returned (.int .i64 (cf x y))/\gP w w'))
 (fj:List α) (v:Value) (base:Nat) (w:World) (T:TypeId) (bv:w.ownsRow base T sz v fj.length (fj.flatMap enc)) (hn:fj.length<=100000) (jR:base<=w.heap.size):
 Calls Tryz.prog (ρ.f 6) #[v,.func (.func gf) #[] #[]] w (λe w'=>e=.returned (.tuple #[])/\∃lZ:List α,lZ.Perm fj/\lZ.Pairwise (λx y=>ltOf cf y x=false)/\aj (OB enc) sz w' (λq=>base<=q/\q<w'.heap.size) [v] lZ/\Below base w w'/\w.heap.size<=w'.heap.size):=by
 rcases Nat.eq_zero_or_pos fj.length with h0|h0
 ·have he:fj=[]:=List.eq_nil_of_length_eq_zero h0;subst he;obtain⟨p,cap,rfl⟩:∃p cap,v=.slice p 0 cap:=by
   rcases bv.2 with⟨rfl,_⟩|⟨g,cap,aw,rfl,_⟩
   ·exact⟨_,_,rfl⟩
   ·exact⟨_,_,rfl⟩
  refine(AnyF.slices_SortFunc_none L p cap (.func (.func gf) #[] #[]) w).mono ?_;rintro e w' ⟨rfl,rfl⟩;refine⟨rfl,[],List.Perm.refl _,List.Pairwise.nil,?_,Below.refl _ _,Nat.le_refl _⟩;have hc:0<=cap/\cap<=maxLen:=by
   rcases bv.2 with⟨e,_⟩|⟨g,abp,aw,e,_,_,h1,h2,_⟩
   ·simp only[Value.slice.injEq]at e;obtain⟨_,_,rfl⟩:=e;exact⟨Nat.le_refl _,by unfold maxLen;decide⟩
   ·simp only[Value.slice.injEq]at e;obtain⟨_,_,rfl⟩:=e;exact⟨Nat.zero_le _,h2⟩
  exact⟨p,cap,rfl,hc.1,hc.2,λh=>absurd h (by simp)⟩
 ·obtain⟨g,cap,rfl,Va,RI,mH,KD⟩:∃g cap,v=.slice (some ⟨g,0,none⟩) fj.length cap/\base<=g/\g<w.heap.size/\fj.length<=cap/\cap<=maxLen:=by
   rcases bv.2 with⟨_,hz⟩|⟨g,cap,aw,hv,h1,h2,h3,h4,_⟩
   ·omega
   ·exact⟨g,cap,hv,h1,ag h2,h3,h4⟩
  have hH:HoldsK enc sz w g 0 fj.toArray:=by
   intro j hj;rw[size_flatK]at hj;have hj':j<fj.length*sz:=by simpa using hj
   rw[get_flatK _ _ _ _ hj];have hg:=D7 (f:=enc) (k:=sz) aao hk fj j hj';have e1:fj.toArray[j/ sz]! =fj[j/ sz]! :=by simp
   have Kc:j%sz< (enc fj[j/ sz]!).length:=by rw[hk];exact Nat.mod_lt _ aao
   rw[List.getElem?_eq_getElem Kc]at hg;have hc:=bv.cells (g:=g) rfl j _ hg;have hf:=kc bv (g:=g) rfl j;rw[Addr.add_lit]at hc hf;rw[e1,getElem!_pos (enc fj[j/ sz]!) (j%sz) Kc];exact⟨hc,hf⟩
  have acI:CmpLays Tryz.prog gf (#[]:Array Value) enc sz cf g 0 fj.toArray.size w:=λm os dk MR x y=>acN x y _
  have aaa:=AnyQ.slices_SortFunc L sz aE zE enc hk h1 cf hO gf #[] g 0 cap fj.toArray w eg acI hH RI (by simp;omega);have bP:fj.toArray.size=fj.length:=by simp
  rw[bP]at aaa;refine aaa.mono ?_;rintro e w' ⟨rfl,d',n,os,hp,hs,rfl⟩;obtain⟨QQ,_,hp3⟩:=hp;have hd:d'.size=fj.length:=by simpa using QQ
  have zM:d'.toList.Perm fj:=by
   have e1:(d'.extract 0 fj.length).toList=d'.toList:=by rw[<-hd];simp
   have e2:(fj.toArray.extract 0 fj.length).toList=fj:=by simp
   rw[e1,e2]at hp3;exact hp3
  have hH':=holdsK_sortWorldK_c enc sz w g 0 fj.toArray d' n os hH RI QQ;obtain⟨IU,QH⟩:=KU (w:=w) (blk:=g) (n:=n) (d:=d') (os:=os) (Below.refl _ _);refine⟨rfl,d'.toList,zM,?_,?_,⟨rfl,rfl,rfl,IU,λk hk=>QH k (by omega) (by omega)⟩,IU⟩
  ·rw[List.pairwise_iff_getElem];intro i j hi hj Gb;have hi':i<d'.size:=by simpa using hi
   have hj':j<d'.size:=by simpa using hj
   have h1:=hs i j (Nat.zero_le _) Gb (by omega);rw[getElem!_pos d' i hi',getElem!_pos d' j hj']at h1;simpa using h1
  ·have eX:d'.toList.length=fj.length:=by simpa using hd
   rw[<-eX];refine⟨_,cap,rfl,by omega,KD,λ_=>⟨g,0,rfl,⟨Va,by omega⟩,λi x hx=>?_⟩⟩;obtain⟨hi,R4⟩:=List.getElem?_eq_some_iff.1 hx;have hi':i<d'.size:=by simpa using hi
   refine⟨enc x,rfl,⟨⟨Va,by show g<_;omega⟩,λj u hj=>?_⟩⟩;have vn:j<sz:=by have:=(List.getElem?_eq_some_iff.1 hj).1;rwa[hk]at this
   have hc:=hH'.cell hi' vn;rw[getElem!_pos d' i hi']at hc;have hxd:d'[i]=x:=by rw[<-R4];simp
   rw[hxd,getElem!_pos (enc x) j (by rw[hk];exact vn)]at hc;rw[Addr.add_lit];obtain⟨_,hju⟩:=List.getElem?_eq_some_iff.1 hj;have adu:(enc x)[j]'(by rw[hk];exact vn)=u:=hju;exact⟨hc.1.trans (congrArg some adu),hc.2⟩
def Mh:Go.Shelf.Ren:=⟨λ|6=>224|15=>99|14=>230|28=>141|29=>142|20=>232|21=>233|22=>234|23=>235|24=>236|25=>237|26=>238|27=>239|46=>240|47=>175|48=>176|49=>241|50=>242|57=>243|n=>n,λ|22=>31|24=>70|25=>242|3=>3|39=>147|0=>0|53=>187|55=>189|4=>4|46=>180|45=>179|50=>184|5=>5|9=>9|66=>210|70=>214|76=>248|77=>249|n=>n,λ|n=>n⟩
theorem acm:Go.Proofs.SlLaysF0.n6 Tryz.prog Mh:={
 mixed:=by kernel_rfl,
 f6:=⟨Tryz.f224.name,by decide,Tryz.func224.trans (congrArg some K_)⟩,
 f14:=⟨Tryz.f230.name,by decide,Tryz.func230.trans (congrArg some K_)⟩,
 f15:=Tryz.func99.trans (congrArg some K_),
 f20:=⟨Tryz.f232.name,by decide,Tryz.func232.trans (congrArg some K_)⟩,
 f21:=⟨Tryz.f233.name,by decide,Tryz.func233.trans (congrArg some K_)⟩,
 f22:=⟨Tryz.f234.name,by decide,Tryz.func234.trans (congrArg some K_)⟩,
 f23:=⟨Tryz.f235.name,by decide,Tryz.func235.trans (congrArg some K_)⟩,
 f24:=⟨Tryz.f236.name,by decide,Tryz.func236.trans (congrArg some K_)⟩,
 f25:=⟨Tryz.f237.name,by decide,Tryz.func237.trans (congrArg some K_)⟩,
 f26:=⟨Tryz.f238.name,by decide,Tryz.func238.trans (congrArg some K_)⟩,
 f27:=⟨Tryz.f239.name,by decide,Tryz.func239.trans (congrArg some K_)⟩,
 f28:=Tryz.func141.trans (congrArg some K_),
 f29:=Tryz.func142.trans (congrArg some K_),
 f46:=⟨Tryz.f240.name,by decide,Tryz.func240.trans (congrArg some K_)⟩,
 f47:=Tryz.func175.trans (congrArg some K_),
 f48:=Tryz.func176.trans (congrArg some K_),
 f49:=⟨Tryz.f241.name,by decide,Tryz.func241.trans (congrArg some K_)⟩,
 f50:=⟨Tryz.f242.name,by decide,Tryz.func242.trans (congrArg some K_)⟩,
 f57:=⟨Tryz.f243.name,by decide,Tryz.func243.trans (congrArg some K_)⟩,
 t0:=Tryz.underlying0,
 a0:=Tryz.isAgg0,
 z0:=Tryz.sizeOf0,
 v0:=Tryz.zeroValue0,
 t3:=Tryz.underlying3,
 a3:=Tryz.isAgg3,
 z3:=Tryz.sizeOf3,
 v3:=Tryz.zeroValue3,
 t4:=Tryz.underlying4,
 a4:=Tryz.isAgg4,
 z4:=Tryz.sizeOf4,
 v4:=Tryz.zeroValue4,
 t5:=Tryz.underlying5,
 a5:=Tryz.isAgg5,
 z5:=Tryz.sizeOf5,
 v5:=Tryz.zeroValue5,
 t9:=Tryz.underlying9,
 a9:=Tryz.isAgg9,
 z9:=Tryz.sizeOf9,
 v9:=Tryz.zeroValue9,
 t22:=Tryz.underlying31,
 a22:=Tryz.isAgg31,
 z22:=Tryz.sizeOf31,
 v22:=Tryz.zeroValue31,
 t25:=Tryz.underlying242,
 a25:=Tryz.isAgg242,
 z25:=Tryz.sizeOf242,
 v25:=Tryz.zeroValue242,
 t39:=Tryz.underlying147,
 a39:=Tryz.isAgg147,
 z39:=Tryz.sizeOf147,
 v39:=Tryz.zeroValue147,
 t45:=Tryz.underlying179,
 a45:=Tryz.isAgg179,
 z45:=Tryz.sizeOf179,
 v45:=Tryz.zeroValue179,
 t46:=Tryz.underlying180,
 a46:=Tryz.isAgg180,
 z46:=Tryz.sizeOf180,
 v46:=Tryz.zeroValue180,
 t50:=Tryz.underlying184,
 a50:=Tryz.isAgg184,
 z50:=Tryz.sizeOf184,
 v50:=Tryz.zeroValue184,
 t53:=Tryz.underlying187,
 a53:=Tryz.isAgg187,
 z53:=Tryz.sizeOf187,
 v53:=Tryz.zeroValue187,
 t55:=Tryz.underlying189,
 a55:=Tryz.isAgg189,
 z55:=Tryz.sizeOf189,
 v55:=Tryz.zeroValue189,
 t66:=Tryz.underlying210,
 a66:=Tryz.isAgg210,
 z66:=Tryz.sizeOf210,
 v66:=Tryz.zeroValue210,
 t70:=Tryz.underlying214,
 a70:=Tryz.isAgg214,
 z70:=Tryz.sizeOf214,
 v70:=Tryz.zeroValue214,
 t76:=Tryz.underlying248,
 a76:=Tryz.isAgg248,
 z76:=Tryz.sizeOf248,
 v76:=Tryz.zeroValue248,
 t77:=Tryz.underlying249,
 a77:=Tryz.isAgg249,
 z77:=Tryz.sizeOf249,
 v77:=Tryz.zeroValue249}
def DO (x y:aC):Int:=eG x.when_ y.when_
theorem iO {α:Type} (f:α->Int) (x y:α):ltOf (λx y=>eG (f x) (f y)) x y=true↔f x<f y:=by
 unfold ltOf eG;rw[decide_eq_true_iff];by_cases h1:f x<f y
 ·simp[h1]
 ·by_cases h2:f y<f x<;>simp[h1,h2]
theorem aeA:SWO (ltOf DO) where
 irrefl x:=by
  cases h:ltOf DO x x with
  |false=>rfl
  |true=>have:=(iO (λx:aC=>x.when_) x x).1 h;omega
 trans x y z h1 h2:=by
  have a:=(iO (λx:aC=>x.when_) x y).1 h1;have b:=(iO (λx:aC=>x.when_) y z).1 h2;exact(iO (λx:aC=>x.when_) x z).2 (by omega)
 ntrans x y z h1 h2:=by
  cases h:ltOf DO x z with
  |false=>rfl
  |true=>
   have a:¬x.when_<y.when_:=λe=>by have h:=(iO (λx:aC=>x.when_) x y).2 e;rw[show ltOf DO x y=true from h]at h1;cases h1
   have b:¬y.when_<z.when_:=λe=>by have h:=(iO (λx:aC=>x.when_) y z).2 e;rw[show ltOf DO y z=true from h]at h2;cases h2
   have c:=(iO (λx:aC=>x.when_) x z).1 h;omega
instance:Inhabited aC:=⟨{}⟩
theorem SH (x y:aC) (w:World):Calls Tryz.prog 207 #[.agg (fN x).toArray,.agg (fN y).toArray] w (λe w'=>e=.returned (.int .i64 (DO x y))/\gP w w'):=by
 obtain⟨xc,xk,xt,xv⟩:=x;obtain⟨yc,yk,yt,yv⟩:=y;show Calls Tryz.prog 207 #[.agg #[xc,xk,xt,xv],.agg #[yc,yk,yt,yv]] w (λe w'=>e=.returned (.int .i64 (eG xt yt))/\gP w w');go_enter Tryz.func207,Tryz.ntmps207;go_upto_region 1 with fail;have K1:=al (heap_alloc_new w (.cells #[xc,xk,xt,xv] 70)) (.cells #[yc,yk,yt,yv] 70);have K2:=heap_alloc_new (w.alloc (.cells #[xc,xk,xt,xv] 70)) (.cells #[yc,yk,yt,yv] 70);have RL:=H_ (((gP.refl w).alloc (.cells #[xc,xk,xt,xv] 70)).alloc (.cells #[yc,yk,yt,yv] 70));simp only[World.size_alloc]at K2;generalize (w.alloc (Obj.cells #[xc,xk,xt,xv] 70)).alloc (Obj.cells #[yc,yk,yt,yv] 70)=W at*;have c2:=ab K1 2;have d2:=ab K2 2;clear K1 K2;go_wp2_with (go_at_call 61;refine(sf _ _ _).mono ?_;rintro e w' ⟨rfl,rfl⟩);go_ret;exact⟨rfl,RL.o⟩
theorem Tx (fj:List aC) (v:Value) (base:Nat) (w:World) (bv:w.ownsRow base 70 4 v fj.length (fj.flatMap fN)) (hn:fj.length<=100000) (jR:base<=w.heap.size):
 Calls Tryz.prog 224 #[v,.func (.func 207) #[] #[]] w (λe w'=>e=.returned (.tuple #[])/\∃lZ:List aC,lZ.Perm fj/\lZ.Pairwise (λx y=>ltOf DO y x=false)/\aj (OB fN) 4 w' (λq=>base<=q/\q<w'.heap.size) [v] lZ/\Below base w w'/\w.heap.size<=w'.heap.size):=
 E7 acm 4 (by omega) Tryz.isAgg70 Tryz.sizeOf70 fN (λ_=>rfl) (λx v hv=>by simp[fN]at hv;rcases hv with rfl|rfl|rfl|rfl<;>rfl) DO aeA 207 (enters_of Tryz.func207 K_ rfl) SH fj v base w _ bv hn jR
end
section
open Go Go.RowKit Go.Shelf
open Go.Maps (Keyed)
theorem Zu {B:Nat} {w0 W W':World} (h:Below B w0 W) (h':Below B w0 W') (hs:W.heap.size<=W'.heap.size):Fr (λq=>q<B) W W':=by
 obtain⟨a1,a2,a3,a4,a5⟩:=h;obtain⟨b1,b2,b3,b4,b5⟩:=h';exact⟨b1.trans a1.symm,b2.trans a2.symm,b3.trans a3.symm,hs,λk hk=>(b5 k hk).trans (a5 k hk).symm⟩
theorem Iu {F:Fence} {m:Nat} {P:Program} {l:Nat} {args:Array Value} {W:World} {R R':Ending->World->Prop} (h:YieldAt F m P l args W R) (hm:∀e W',R e W'->R' e W'):YieldAt F m P l args W R':=by
 obtain⟨fn,tmps,assign,body,h1,h2⟩:=h;exact⟨fn,tmps,assign,body,h1,RoundIn.mono h2 hm⟩
def arA (b:Option Code):Code:=match b with
 |some (.seq _ (.seq (.seq _ (.block _ (.rangeFunc _ _ a _))) _))=>a
 |_=> .ret
def arB (b:Option Code):Code:=match b with
 |some (.seq _ (.seq (.seq _ (.block _ (.rangeFunc _ _ _ b))) _))=>b
 |_=> .ret
def l9 (bd:Option Code) (fn:FuncId) (sv:Value) (Bs D:Nat) (st:LoopState) (aek:Option Code):Loop:=
 {state:=st,pending:=aek,fn,tmps:=#[.slice none 0 0,sv,.pointer (some ⟨Bs,0,none⟩),undef,.slice none 0 0,undef,sv,undef,undef,undef,undef,undef,undef],params:=#[7],assign:=arA bd,body:=arB bd,defers:=D}
theorem GS:(Tryz.prog.info? 70).map (λi=>(i.zero,i.size,i.bytes))=some (some (.agg #[.string ⟨#[]⟩,(),(),()]),4,40):=by kernel_rfl
theorem LS:Tryz.prog.underlying 31=some (.slice 70):=by kernel_rfl
structure OA (w0:World) (fn:FuncId) (sv:Value) (Bs l D:Nat) (ss:List aC) (W:World):Prop where
 box:∃v,W.heap[Bs]? =some (.cells #[v] 31 (0,0))/\W.ownsRow w0.heap.size 70 4 v ss.length (ss.flatMap fN)
 L:W.heap[l]? =some (.loop (l9 Tryz.f229.body fn sv Bs D .ready none))
 K:W.heap[D]? =some (.deferred (some []))
 below:Below w0.heap.size w0 W
theorem KN (w0:World) (fn:FuncId) (sv:Value) (Bs l D B:Nat) (hB:w0.heap.size<=B):AbidesFrom B (OA w0 fn sv Bs l D):=λs W W' row h hg jJ=>by
 have hrow':∀r,row=some r->∃o:Obj,W.heap[r]? =some o/\o.isWalk=true:=λr e=>(jJ r e).2
 obtain⟨v,hv,hr⟩:=h.box;exact⟨⟨v,(grownBy_keeps hg hrow' hv rfl).trans hv,ownsRow_abides_a hr hg hrow'⟩,(grownBy_keeps hg hrow' h.L rfl).trans h.L,(grownBy_keeps hg hrow' h.K rfl).trans h.K,
  h.below.grown hg h.below.size (λk e=>Nat.le_trans hB (jJ k e).1)⟩
set_option maxRecDepth 100000 in
theorem Su (F:Fence) (m:Nat) (w0:World) (fn:FuncId) (Rt:F.fn fn) (sv:Value) (Bs l D:Nat) (hBl:Bs≠l) (hDl:D≠l) (hDB:D≠Bs) (h0B:w0.heap.size<=Bs) (h0l:w0.heap.size<=l)
 (N:Nat) (hN:N<=maxLen) (hNb:N*40<=140737488355328) (ss:List aC) (x:aC) (W:World) (h:OA w0 fn sv Bs l D ss W) (eX:ss.length<N):
 YieldAt F m Tryz.prog l #[oa x] W λe W'=>e=.returned (.bool true)/\OA w0 fn sv Bs l D (ss++[x]) W'/\Fr (λq=>q<w0.heap.size) W W':=by
 have bT:(31:TypeId)≠70:=by decide
 obtain⟨i0,hi,hz0,IU,QH⟩:=info_parts GS;obtain⟨v,hv,jJ⟩:=h.box;refine⟨fn,#[.slice none 0 0,sv,.pointer (some ⟨Bs,0,none⟩),undef,.slice none 0 0,undef,sv,oa x,undef,undef,undef,undef,undef],arA Tryz.f229.body,arB Tryz.f229.body,by simpa[l9]using run_yield (P:=Tryz.prog) (args:=#[oa x]) h.L rfl,roundIn_of_wpIn Rt ?_⟩;obtain⟨xc,xk,xt,xv⟩:=x
 dsimp only[arA,arB,Tryz.f229]
 simp only[oa];have Fx:=H_ h.below
 gi_wp2_with gi_round_op_a
 have Ng:l<W.heap.size:=(Array.getElem?_eq_some_iff.1 h.L).1
 -- the variable's block
 obtain⟨W1,cS⟩:=x_ (W.alloc (.cells #[xc,xk,xt,xv] 70));rw[cS];have mB:∀k,k<W.heap.size->W1.heap[k]? =W.heap[k]? :=λk hk=>by rw[<-cS];exact Below.heap_alloc _ _ k hk
 have tC:W1.heap.size=W.heap.size+1:=by rw[<-cS];simp
 have abX:W1.heap[W.heap.size]? =some (.cells #[xc,xk,xt,xv] 70 (0,0)):=by rw[<-cS];exact heap_alloc_new W _
 have hL1:W1.heap[l]? =some (.loop (l9 Tryz.f229.body fn sv Bs D .ready none)):=(mB _ Ng).trans h.L;have RW:W1.heap[Bs]? =some (.cells #[v] 31 (0,0)):=(mB _ (Array.getElem?_eq_some_iff.1 hv).1).trans hv;have TL:W1.heap[D]? =some (.deferred (some [])):=(mB _ (Array.getElem?_eq_some_iff.1 h.K).1).trans h.K;have MX:W1.ownsRow w0.heap.size 70 4 v ss.length (ss.flatMap fN):=by rw[<-cS];exact jJ.alloc _
 have eL:Below w0.heap.size w0 W1:=by rw[<-cS];exact h.below.alloc h.below.size _
 have QA:=run_beginRound (P:=Tryz.prog) hL1 rfl;obtain⟨W2,fR⟩:∃W2,W1.putObj l (.loop {l9 Tryz.f229.body fn sv Bs D .ready none with state:=.busy})=W2:=⟨_,rfl⟩;rw[fR]at QA;have f8:W1.grownBy W2 (some l):=by rw[<-fR];exact grownBy_putObj_a _ _ _
 have dW:W2.heap.size=W1.heap.size:=by rw[<-fR];simp
 have CJ:W2.heap[Bs]? =some (.cells #[v] 31 (0,0)):=by rw[<-fR];exact(World.putObj_heap_other hBl).trans RW
 have abf:W2.heap[W.heap.size]? =some (.cells #[xc,xk,xt,xv] 70 (0,0)):=by rw[<-fR];exact(World.putObj_heap_other (by omega)).trans abX
 have MY:W2.heap[D]? =some (.deferred (some [])):=by rw[<-fR];exact(World.putObj_heap_other hDl).trans TL
 have hL2:W2.heap[l]? =some (.loop {l9 Tryz.f229.body fn sv Bs D .ready none with state:=.busy}):=by rw[<-fR];exact World.putObj_heap_same (by omega)
 have NR:W2.ownsRow w0.heap.size 70 4 v ss.length (ss.flatMap fN):=MX.kept f8 (ownsRow_ne_a MX hL1 (λaw e=>by first|cases e|exact bT (Obj.cells.inj e).2.1));have aH:Below w0.heap.size w0 W2:=eL.grown f8 eL.size (λk e=>by cases e;exact h0l);obtain⟨gn,jC⟩:=cell_of_box_a CJ;have adN:Bs<W2.heap.size:=(Array.getElem?_eq_some_iff.1 CJ).1;have vl:l<W2.heap.size:=(Array.getElem?_eq_some_iff.1 hL2).1;have acv:D<W2.heap.size:=(Array.getElem?_eq_some_iff.1 MY).1;have Oa:∀{j:Nat} {o:Obj},W2.heap[j]? =some o->(∀aw,o≠ .cells aw 70 (0,0))->some j≠v.ownBlock:=λhj fg=>by
  rcases ownsRow_ne_a NR hj fg with e|e
  ·rw[e];simp
  ·exact λe'=>e e'.symm
 have jI:=H_ abf;have adr:=H_ (And.intro tC dW);clear cS fR mB abX hL1 RW TL MX eL f8 abf tC dW
 gi_wp2_with (first
  |(show wpListIn _ _ _ _ _ (Oper.mk (some 9) _ _ _ _ _::_) _ _;refine lB rfl 70 (.tmp 5) rfl W.heap.size rfl _ _ _ _ jI.o Tryz.underlying70 rfl aT ?_)
  |(gi_at_builtin;refine wpListIn_append_own _ rfl _ _ 31 rfl w0.heap.size 70 i0 _ 4 40 LS hi hz0 IU QH rfl (by decide) _ _ _ rfl (NR.alloc _) ⟨W2.heap.size,0,none⟩ 1 1 [.string xc,.int .i64 xk,.int .i64 xt,.int .i64 xv] rfl rfl (λj u hj=>(((dO (heap_alloc_new W2 (.cells #[xc,xk,xt,xv] 70))).2 j u hj).1)) (by simp[Value.oneCell']) (by omega) (by omega) (by have:=aH.size;simp;omega) ?_;intro v' w3 NG tT aeG
    have hv3:w3.heap[Bs]? =some (.cells #[v] 31 (0,0)):=(tT.block Bs (by simp;omega) (Oa CJ (λaw e=>by first|cases e|exact bT (Obj.cells.inj e).2.1))).trans ((Below.heap_alloc _ _ Bs adN).trans CJ);obtain⟨ot,l6⟩:=cell_of_box_a hv3;obtain⟨A3,n3,c3,rfl⟩:=bS NG
    go_frame)
  |gi_round_op_a)
 have So:(W2.alloc (.cells #[xc,xk,xt,xv] 70)).grownBy w3 v.ownBlock:=tT;have hL3:w3.heap[l]? =some (.loop {l9 Tryz.f229.body fn sv Bs D .ready none with state:=.busy}):=(So.block l (by simp;omega) (Oa hL2 (λaw e=>by first|cases e|exact bT (Obj.cells.inj e).2.1))).trans ((Below.heap_alloc _ _ l vl).trans hL2);have hK3:w3.heap[D]? =some (.deferred (some [])):=(So.block D (by simp;omega) (Oa MY (λaw e=>by first|cases e|exact bT (Obj.cells.inj e).2.1))).trans ((Below.heap_alloc _ _ D acv).trans MY);obtain⟨w4,hw4⟩:=x_ (w3.setCell ⟨Bs,0,none⟩ (.slice A3 n3 c3));rw[hw4];have hg4:w3.grownBy w4 (some Bs):=by rw[<-hw4];exact grownBy_setCell0_a _ _ _
 have hv4:w4.heap[Bs]? =some (.cells #[.slice A3 n3 c3] 31 (0,0)):=by rw[<-hw4];exact heap_setCell_box_a _ hv3
 have hL4:w4.heap[l]? =some (.loop {l9 Tryz.f229.body fn sv Bs D .ready none with state:=.busy}):=(hg4.block l (Array.getElem?_eq_some_iff.1 hL3).1 (λe=>hBl (by cases e;rfl))).trans hL3;have hK4:w4.heap[D]? =some (.deferred (some [])):=(hg4.block D (Array.getElem?_eq_some_iff.1 hK3).1 (λe=>hDB (by cases e;rfl))).trans hK3;have Vy:=NG.kept hg4 (ownsRow_ne_a NG hv3 (λaw e=>by first|cases e|exact bT (Obj.cells.inj e).2.1));have Fg:l<w4.heap.size:=(Array.getElem?_eq_some_iff.1 hL4).1;have aZ:Below w0.heap.size w0 w3:=(aH.alloc aH.size _).grown So (by have:=aH.size;simp;omega) (λk e=>(NR.lt k e).1);have bU:Below w0.heap.size w0 w4:=aZ.grown hg4 aZ.size (λk e=>by cases e;exact h0B);clear hw4;have hbz:=bU.grown (grownBy_putObj_a w4 l (.loop {{l9 Tryz.f229.body fn sv Bs D .ready none with state:=.busy}with state:=if(none:Option Code).isNone then .ready else .done,pending:=none})) bU.size (λk e=>by cases e;exact h0l);refine⟨_,_,run_endRound none hL4,rfl,⟨⟨_,(World.putObj_heap_other hBl).trans hv4,?_⟩,World.putObj_heap_same Fg,(World.putObj_heap_other hDl).trans hK4,hbz⟩,Zu Fx.o hbz ?_⟩
 rotate_left
 ·have h1:=So.size;have h2:=hg4.size;have h3:=adr.o;simp at h1 |-;omega
 have Xk:=Vy.kept (grownBy_putObj_a w4 l (.loop {{l9 Tryz.f229.body fn sv Bs D .ready none with state:=.busy}with state:=if(none:Option Code).isNone then .ready else .done,pending:=none})) (ownsRow_ne_a Vy hL4 (λaw e=>by first|cases e|exact bT (Obj.cells.inj e).2.1));rw[List.flatMap_append,List.length_append];exact Xk
set_option maxRecDepth 100000 in
theorem zr (F:Fence) (n:Nat) (hF:F.fn 229) (mD:F.round=none) (hn:2<=n) (g:Nat) (lb:Array Value) (hFg:F.fn g) (eg:∀args w,(callFunc g args).run Tryz.prog w=.ok (.enter g args) w)
 (Q:Nat->Prop) (S Sp:List aC->Prop) (N:Nat) (hN:N<=maxLen) (hNb:N*40<=140737488355328) (w:World) (hQ:∀q,Q q->q<w.heap.size) (CS:SeqStopsK F (n- 1) Tryz.prog g lb (λx=>#[oa x]) (Fr Q) S Sp N w):
 CallsIn F n Tryz.prog 229 #[.slice none 0 0,.func (.func g) #[] lb] w λe w'=>∃(v:Value) (ss:List aC),e=.returned v/\S ss/\w'.ownsRow w.heap.size 70 4 v ss.length (ss.flatMap fN)/\Below w.heap.size w w':=by
 have h1:1<=n:=by omega
 have bT:(31:TypeId)≠70:=by decide
 refine callsIn_of_wp_marks Tryz.func229 rfl hF ?_ mD;simp only[Tryz.ntmps229,List.size_toArray,List.length_cons,List.length_nil,Nat.reduceAdd,Nat.reduceSub,Array.replicate_succ,Array.replicate_zero,List.push_toArray,List.append_toArray,List.nil_append,List.cons_append]
 gi_wp2
 refine wpIn_rangeFunc ?_;intro fn Rt;rw[mD];obtain⟨W0,Q5⟩:=x_ (w.alloc (.cells #[.slice none 0 0] 31));have CO:W0.heap.size=w.heap.size+1:=by rw[<-Q5];simp
 have zL:W0.heap[w.heap.size]? =some (.cells #[.slice none 0 0] 31 (0,0)):=by rw[<-Q5];exact World.alloc_heap_new w _
 have el:Below w.heap.size w W0:=by rw[<-Q5];exact(Below.refl _ w).alloc (Nat.le_refl _) _
 rw[Q5];obtain⟨W1,cS⟩:=x_ ((W0.alloc (.deferred (some []))).alloc (.loop (l9 Tryz.f229.body fn (.func (.func g) #[] lb) w.heap.size W0.heap.size .ready none)));have mB:∀k,k<W0.heap.size->W1.heap[k]? =W0.heap[k]? :=λk hk=>by
  rw[<-cS];exact(Below.heap_alloc _ _ k (by simp;omega)).trans (Below.heap_alloc _ _ k hk)
 have eL:Below w.heap.size w W1:=by rw[<-cS];exact(el.alloc el.size _).alloc (by have:=el.size;simp;omega) _
 have tC:W1.heap.size=W0.heap.size+2:=by rw[<-cS];simp
 have hM:OA w fn (.func (.func g) #[] lb) w.heap.size (W0.heap.size+1) W0.heap.size [] W1:=
  ⟨⟨_,(mB w.heap.size (by omega)).trans zL,World.ownsRow_nil _ _ _ _⟩,
   by rw[<-cS];have:=World.alloc_heap_new (W0.alloc (.deferred (some []))) (.loop (l9 Tryz.f229.body fn (.func (.func g) #[] lb) w.heap.size W0.heap.size .ready none));rwa[World.size_alloc]at this,
   by rw[<-cS];exact(Below.heap_alloc _ _ _ (by simp)).trans (World.alloc_heap_new W0 _),eL⟩
 refine⟨W0.heap.size+1,[{target:=.collected W0.heap.size,args:=#[]}],W1,{target:=.fn (.func g) lb,args:=#[.func (.yield (W0.heap.size+1)) #[] #[]]},W1,g,
  #[.func (.yield (W0.heap.size+1)) #[] #[]]++lb,W1,?_,?_,?_,?_,λ_=>h1,?_⟩
 ·rw[<-cS];exact run_enterLoop_outer _ _ _ _ _
 ·simp[resolve,go_sem]
 ·intro f' hf';simp[Target.leads]at hf';subst hf';exact hFg
 ·simp[invoke,go_sem,eg]
 ·refine(CS (W0.heap.size+1) (OA w fn (.func (.func g) #[] lb) w.heap.size (W0.heap.size+1) W0.heap.size) (λ_ _=>False) W1 eL (KN _ _ _ _ _ _ _ eL.size) (λ_ _ _ _ hs _ _=>hs)
   (λpre x W hJ hl=>Iu (Su F (n- 1- 1) w fn Rt _ w.heap.size (W0.heap.size+1) W0.heap.size (by omega) (by omega) (by omega) (Nat.le_refl _) (by omega) N hN hNb pre x W hJ hl) (λe W' h=> .inl ⟨h.1,h.2.1,h.2.2.mono hQ⟩)) hM).mono ?_
  rintro e W2 ⟨⟨v0,rfl⟩,(⟨ss,hS,h2⟩|⟨_,_,hf⟩)⟩
  rotate_left
  ·exact hf.elim
  obtain⟨v,hv,jJ⟩:=h2.box;have i8:=run_endLoop (P:=Tryz.prog) h2.L (by simp[l9]);obtain⟨W3,hW3⟩:∃W3,W2.putObj (W0.heap.size+1) (.loop {l9 Tryz.f229.body fn (.func (.func g) #[] lb) w.heap.size W0.heap.size .ready none with state:=.exhausted})=W3:=⟨_,rfl⟩;rw[hW3]at i8;have tT:W2.grownBy W3 (some (W0.heap.size+1)):=by rw[<-hW3];exact grownBy_putObj_a _ _ _
  have hv3:W3.heap[w.heap.size]? =some (.cells #[v] 31 (0,0)):=by rw[<-hW3];exact(World.putObj_heap_other (by omega)).trans hv
  have hK3:W3.heap[W0.heap.size]? =some (.deferred (some [])):=by rw[<-hW3];exact(World.putObj_heap_other (by omega)).trans h2.K
  have Vc:=jJ.kept tT (ownsRow_ne_a jJ h2.L (λaw e=>by first|cases e|exact bT (Obj.cells.inj e).2.1));have aZ:Below w.heap.size w W3:=h2.below.grown tT h2.below.size (λk e=>by cases e;omega);obtain⟨ot,l6⟩:=cell_of_box_a hv3;clear hW3;refine⟨none,W3,i8,?_⟩
  gi_wp2
  rw[<-CO];refine⟨by simp,.inl ⟨_,_,rfl,run_takeDeferred hK3,?_⟩⟩;exact⟨_,results_tmp rfl _ _ _,v,ss,rfl,hS,Vc.kept (grownBy_putObj_a _ _ _) (ownsRow_ne_a Vc hK3 (λaw e=>by first|cases e|exact bT (Obj.cells.inj e).2.1)),aZ.grown (grownBy_putObj_a _ _ _) aZ.size (λk e=>by cases e;omega)⟩
theorem DQ (F:Fence) (n:Nat) (hC:F.fn 223) (hF:F.fn 229) (mD:F.round=none) (hn:3<=n) (g:Nat) (lb:Array Value) (hFg:F.fn g) (eg:∀args w,(callFunc g args).run Tryz.prog w=.ok (.enter g args) w)
 (Q:Nat->Prop) (S Sp:List aC->Prop) (N:Nat) (hN:N<=maxLen) (hNb:N*40<=140737488355328) (w:World) (hQ:∀q,Q q->q<w.heap.size) (CS:SeqStopsK F (n- 1- 1) Tryz.prog g lb (λx=>#[oa x]) (Fr Q) S Sp N w):
 CallsIn F n Tryz.prog 223 #[.func (.func g) #[] lb] w λe w'=>∃(v:Value) (ss:List aC),e=.returned v/\S ss/\w'.ownsRow w.heap.size 70 4 v ss.length (ss.flatMap fN)/\Below w.heap.size w w':=by
 have h1:1<=n:=by omega
 refine callsIn_of_wp Tryz.func223 rfl hC ?_ mD;simp only[Tryz.ntmps223,List.size_toArray,List.length_cons,List.length_nil,Nat.reduceAdd,Nat.reduceSub,Array.replicate_succ,Array.replicate_zero,List.push_toArray,List.append_toArray,List.nil_append,List.cons_append]
 gi_wp2_with (gi_at_call 229;refine(zr F (n- 1) hF mD (by omega) g lb hFg eg Q S Sp N hN hNb _ hQ CS).mono ?_;rintro e w' ⟨v,ss,rfl,hS,jJ,hb⟩)
 go_ret;exact⟨v,ss,rfl,hS,jJ,hb⟩
end
section
open Go Go.RowKit Go.Shelf
theorem aj.imp {α:Type} {El El':World->(Nat->Prop)->List Value->α->Prop} {size:Nat} {w:World} {Q:Nat->Prop} {cs:List Value} {xs:List α} (h:aj El size w Q cs xs) (hi:∀x∈xs,∀es,El w Q es x->El' w Q es x):aj El' size w Q cs xs:=by
 obtain⟨A,c,e,h1,h2,h3⟩:=h;refine⟨A,c,e,h1,h2,λhp=>?_⟩;obtain⟨b,o,e2,h4,h5⟩:=h3 hp;refine⟨b,o,e2,h4,λi x hx=>?_⟩;obtain⟨es,h6,h7⟩:=h5 i x hx;exact⟨es,hi x (List.mem_of_getElem? hx) es h6,h7⟩
theorem Jy {w:World} {Q:Nat->Prop} {x:aC} (h1:cx x.kind) (h2:cx x.when_) (h3:cx x.value):bN w Q (fN x) x:=⟨[.string x.currency],[.int .i64 x.kind],[.int .i64 x.when_],[.int .i64 x.value],rfl,rfl,⟨rfl,h1⟩,⟨rfl,h2⟩,⟨rfl,h3⟩⟩
theorem PJ {w:World} {Q:Nat->Prop} {A:Option Addr} {n c:Nat} {rs:List aC} (hl:aj bN 4 w Q [.slice A n c] rs):∀x∈rs,cx x.kind/\cx x.when_/\cx x.value:=λx hx=>by
 obtain⟨j,hj,rfl⟩:=List.getElem_of_mem hx;obtain⟨b,o,es,_,_,h3,_⟩:=aj.get hl j hj;exact(io h3).2
def VK (sp:List aC) (w:World) (v:Value) (w':World):Prop:=∃(A:Option Addr) (c:Nat) (ks:List aC),v=.slice A ks.length c/\ks.Perm sp/\aj bN 4 w' (·<w'.heap.size) [.slice A ks.length c] ks/\Below w.heap.size w w'
theorem Mi (B1 B2 B3 B4:Nat) (rs:List aC) (A:Option Addr) (c:Nat) (aw:ByteArray) (ta tb:Int) (w:World) (yI:w.heap[B1]? =some (.cells #[.slice A rs.length c] 31 (0,0))) (yH:w.heap[B2]? =some (.cells #[aw] 9 (0,0))) (MS:w.heap[B3]? =some (.cells #[ta] 3 (0,0))) (MI:w.heap[B4]? =some (.cells #[tb] 3 (0,0)))
 (hl:aj bN 4 w (·<w.heap.size) [.slice A rs.length c] rs) (hn:rs.length<=100000):Calls Tryz.prog 205 #[.func (.func 225) #[] #[.pointer (some ⟨B1,0,none⟩),.pointer (some ⟨B2,0,none⟩),.pointer (some ⟨B3,0,none⟩),.pointer (some ⟨B4,0,none⟩)],.func (.func 207) #[] #[]] w (λe w'=>∃v,e=.returned v/\VK (spW rs aw ta tb) w v w'):=by
 have IV:(spW rs aw ta tb).length<=100000:=Nat.le_trans (List.length_filter_le _ _) hn;have CS:=tp Fence.wide 3 trivial rfl (by omega) B1 B2 B3 B4 (·<w.heap.size) rs A c aw ta tb 100000 w (λq hq=>hq) ⟨ag yI,yI⟩ ⟨ag yH,yH⟩ ⟨ag MS,MS⟩ ⟨ag MI,MI⟩ hl IV;have abA:=callsIn_wide.1 (DQ Fence.wide 5 trivial trivial rfl (by omega) 225 #[.pointer (some ⟨B1,0,none⟩),.pointer (some ⟨B2,0,none⟩),.pointer (some ⟨B3,0,none⟩),.pointer (some ⟨B4,0,none⟩)] trivial (enters_of Tryz.func225 K_ rfl) (·<w.heap.size) _ _ 100000 (by unfold maxLen;omega) (by omega) w (λq hq=>hq) CS);have abc:=H_ abA;have QO:=H_ (λx (hx:x∈spW rs aw ta tb)=>PJ hl x (List.mem_filter.1 hx).1);have VC:=H_ IV;generalize spW rs aw ta tb=sp at*;clear CS abA hl yI yH MS MI IV;go_enter Tryz.func205,Tryz.ntmps205;go_wp2_with fail;refine abc.o.mono ?_;rintro e w2 ⟨v,ss,rfl,rfl,jJ,aH⟩;have aF:=H_ aH;have aa3:=H_ (Tx ss v w.heap.size w2 jJ VC.o aH.size);obtain⟨A2,n1,c1,rfl⟩:=bS jJ;clear jJ aH abc;go_wp2_with fail;refine aa3.o.mono ?_;rintro e w3 ⟨rfl,ks,hp,hs,Bb,aZ,bP⟩;have eX:n1=ks.length:=by
  obtain⟨A2,c2,he,_⟩:=Bb.form;simp only[List.cons.injEq,and_true,Value.slice.injEq]at he;exact he.2.1
 subst eX;have pb:=H_ (show aj bN 4 w3 (·<w3.heap.size) [.slice A2 ks.length c1] ks from(Bb.imp (El':=bN) (λx hx es he=>by
  obtain⟨b1,b2,b3⟩:=QO.o x (hp.mem_iff.1 hx);rw[show es=fN x from he];exact Jy b1 b2 b3)).mono (λh=>bN.mono h (λq hq=>hq.2)) (λq hq=>hq.2))
 have eA:=H_ (show Below w.heap.size w w3 from aF.o.trans aZ);have HP:=H_ hp;clear hp hs Bb aZ bP aa3;go_wp2_with fail;go_ret;exact⟨_,rfl,A2,c1,ks,rfl,HP.o,pb.o,eA.o⟩
theorem Tp (gl:List Value) (grp aw:ByteArray) (rs:List aC) (A:Option Addr) (cc:Nat) (y m n q:Int) (w:World) (fZ:gl.toArray.size=21) (nj:gl.toArray[0]? =some (.string grp)) (jy:gl.toArray[1]? =some (.int .i64 y)) (f8:gl.toArray[2]? =some (.int .i64 m)) (tT:gl.toArray[3]? =some (.int .i64 n))
 (hl:aj bN 4 w (·<w.heap.size) [.slice A rs.length cc] rs) (bP:∀r∈rs,r.currency.size<=140737488355328) (kC:grp.size<=140737488355328) (ft:aw.size<=140737488355328) (hm:rs.length<=100000) (hv:dJ grp rs) (eh:cQ aw=true) (eu:du y m n=true) (hq:0<=q/\q<n):Calls Tryz.prog 168 #[.agg gl.toArray,.slice A rs.length cc,aw,q] w (λe w'=>∃v,e=.returned (.tuple #[v,()])/\VK (spW rs aw (aX y m n q).1 (bH y m n q).1) w v w'):=by
 have HPE:=H_ (λ(w2:World) (hb:Below w.heap.size w w2)=>Hn gl grp aw rs A cc y m n q w2 fZ nj jy f8 tT (di hl hb) bP kC ft hm hv eh eu hq);have HL:=H_ hl;have HM:=H_ hm;have fu:=H_ fZ;generalize (aX y m n q).1=f at*;generalize (bH y m n q).1=la at*;obtain⟨N,hN⟩:∃n,rs.length=n:=⟨_,rfl⟩;have HN:=H_ hN;rw[hN]at HPE |-;clear fZ nj jy f8 tT hl bP kC ft hm hv eh eu hq hN;go_enter Tryz.func168,Tryz.ntmps168;go_upto_region 1 with fail;obtain⟨W1,cS,H1,bC,dr,ewx⟩:=B_ w (.cells gl.toArray 29);rw[cS];clear ewx;clear cS;have fB:=H_ H1;clear H1;go_wp2_with (refine W_ 14 29 4 (w.heap.size) fB.o (by rw[ay];exact congrArg some fu.o.symm) Tryz.underlying29 ?_);refine(HPE.o W1 bC).mono ?_;rintro e w2 ⟨rfl,aH⟩;have aF:=H_ (bC.trans (aH.mono bC.size));clear bC aH dr;go_wp2_with fail;refine(JH A N cc aw f la w2).mono ?_;rintro e w7 ⟨rfl,rfl⟩;obtain⟨E1,E2,E3,E4,E5,E6⟩:=pN w2 (.cells #[.slice A N cc] 31) (.cells #[aw] 9) (.cells #[f] 3) (.cells #[la] 3);generalize (((w2.alloc (.cells #[.slice A N cc] 31)).alloc (.cells #[aw] 9)).alloc (.cells #[f] 3)).alloc (.cells #[la] 3)=W7 at*;have gb:=t_ aF E6;have Xx:=H_ (Mi w2.heap.size (w2.heap.size+1) (w2.heap.size+2) (w2.heap.size+3) rs A cc aw f la W7 (by rw[HN.o];exact E1) E2 E3 E4 (di HL.o gb.o) HM.o);clear E1 E2 E3 E4 E5 E6;go_wp2_with fail;refine Xx.o.mono ?_;rintro e w8 ⟨v,rfl,A2,c2,ks,rfl,hp,Bb,jX⟩;have HP:=H_ hp;have pb:=H_ Bb;have o9:=t_ gb jX;obtain⟨nk,Bh⟩:∃n,ks.length=n:=⟨_,rfl⟩;have yV:=H_ Bh;rw[Bh];clear hp Bb jX Bh;go_wp2_with fail;go_ret2;exact⟨_,rfl,A2,c2,ks,by rw[yV.o];rfl,HP.o,pb.o,o9.o⟩
def oS (rs:List aC) (grp aw:ByteArray) (a b q:Int):Int × Int:=if aw=grp then(1000000,0)else DG rs aw a b q
theorem JJ {ks:List aC} (h:∀r∈ks,1<=r.value/\r.value<=1000000000000):0<=(ks.map (·.value)).sum/\(ks.map (·.value)).sum<=1000000000000*(ks.length:Int):=by
 induction ks with
 |nil=>simp
 |cons r ks ih=>
  have h1:=ih (λs hs=>h s (List.mem_cons_of_mem _ hs));have h2:=h r (List.mem_cons_self ..);rw[List.map_cons,List.sum_cons,List.length_cons];omega
theorem KO (gl:List Value) (grp aw:ByteArray) (rs:List aC) (A:Option Addr) (cc:Nat) (y m n q:Int) (w:World) (fZ:gl.toArray.size=21) (nj:gl.toArray[0]? =some (.string grp)) (jy:gl.toArray[1]? =some (.int .i64 y)) (f8:gl.toArray[2]? =some (.int .i64 m)) (tT:gl.toArray[3]? =some (.int .i64 n))
 (hl:aj bN 4 w (·<w.heap.size) [.slice A rs.length cc] rs) (bP:∀r∈rs,r.currency.size<=140737488355328) (kC:grp.size<=140737488355328) (ft:aw.size<=140737488355328) (hm:rs.length<=100000) (hv:dJ grp rs) (eh:cQ aw=true) (eu:du y m n=true) (hq:0<=q/\q<n):Calls Tryz.prog 129 #[.agg gl.toArray,.slice A rs.length cc,aw,q] w (ap w (.tuple #[.int .i64 (oS rs grp aw (aX y m n q).1 (bH y m n q).1 q).1,.int .i64 (oS rs grp aw (aX y m n q).1 (bH y m n q).1 q).2])):=by
 have HDY:=H_ (λ(w2:World) (hb:Below w.heap.size w w2)=>Tp gl grp aw rs A cc y m n q w2 fZ nj jy f8 tT (di hl hb) bP kC ft hm hv eh eu hq);have tW:=H_ (λ(w2:World) (hb:Below w.heap.size w w2)=>O2 rs A cc aw 2 q w2 (di hl hb));have fu:=H_ fZ;have lF:=H_ nj;have jI:=H_ (λ(f la:Int) (x:aC) (hx:x∈spW rs aw f la)=>show 1<=x.value/\x.value<=1000000000000 from(EE (hv.1 x (List.mem_filter.1 hx).1)).2.2.1);have jD:=H_ (λ(f la:Int)=>show(spW rs aw f la).length<=1000 from Nat.le_trans (List.length_filter_le _ _) hv.2.2.2);generalize (aX y m n q).1=f at*;generalize (bH y m n q).1=la at*;have sW:=H_ (λ(ks:List aC) (h:ks.Perm (spW rs aw f la))=>Mk (c:=aw) (a:=f) (b:=la) h);obtain⟨R,hR⟩:=x_ (oS rs grp aw f la q);have HR:=H_ hR;rw[hR];have jI:=H_ (jI.o f la);have jD:=H_ (jD.o f la);generalize spW rs aw f la=sp at*;obtain⟨fo,vx⟩:=x_ (dq rs aw 2 q);have Bm:=H_ vx;rw[vx]at tW;obtain⟨N,hN⟩:∃n,rs.length=n:=⟨_,rfl⟩;rw[hN]at HDY tW |-;clear fZ nj jy f8 tT hl bP kC ft hm hv eh eu hq hN hR vx;go_enter Tryz.func129,Tryz.ntmps129;go_upto_region 1 with fail;obtain⟨W1,cS,H1,bC,dr,ewx⟩:=B_ w (.cells gl.toArray 29);rw[cS];clear ewx;clear cS;have fB:=H_ H1;clear H1;go_wp2_with (refine W_ 18 29 4 (w.heap.size) fB.o (by rw[ay];exact congrArg some fu.o.symm) Tryz.underlying29 ?_);refine(HDY.o W1 bC).mono ?_;rintro e w2 ⟨v,rfl,A2,c2,ks,rfl,hp,Bb,aH⟩;have aF:=bC.trans (aH.mono bC.size);have c0:=(ab ((aH.block _ dr).trans fB.o) 0).trans lF.o;have pb:=H_ Bb;obtain⟨tC,dW⟩:=sW.o ks hp;have dr:=H_ tC;have jK:=H_ dW;have HVK:=H_ (λx (hx:x∈ks)=>jI.o x (hp.mem_iff.1 hx));have bI:ks.length<=1000:=by rw[hp.length_eq];exact jD.o
 obtain⟨nk,Bh⟩:∃n,ks.length=n:=⟨_,rfl⟩;have yV:=H_ Bh;rw[Bh]at bI |-;obtain⟨qq,Ct⟩:∃q:Bool,decide (aw=grp)=q:=⟨_,rfl⟩;have zT:(aw.toList==grp.toList)=qq:=by rw[gI];exact Ct
 have HQ:=H_ Ct;clear hp Bb tC dW Bh Ct;cases qq with
 |true=>
  have hf:=H_ (show R=(1000000,0) by rw[<-HR.o];unfold oS;rw[if_pos (of_decide_eq_true HQ.o)]);go_wp2_with fail;go_ret2;exact⟨hf.o.symm▸rfl,aF⟩
 |false=>
 have TK:=H_ (show R=DG rs aw f la q by rw[<-HR.o];unfold oS;rw[if_neg (of_decide_eq_false HQ.o)]);go_wp2_with fail;refine(tW.o w2 aF).mono ?_;rintro e w3 ⟨rfl,aZ⟩;have aR:=aF.trans (aZ.mono aF.size);have Bc:=H_ (di pb.o aZ);clear c0;cases fo with
 |some v=>
  have hf:=H_ (show R=(v,0) by rw[TK.o];unfold DG;rw[Bm.o]);simp only[Option.getD_some,Option.isSome_some];go_wp2_with fail;go_ret2;exact⟨hf.o.symm▸rfl,aR⟩
 |none=>
 simp only[Option.getD_none,Option.isSome_none];have Ki:=H_ (show R=if nk=0 then(0,13)else((2*(ks.map (·.value)).sum+nk) / (2*nk),0) by
  rw[TK.o];unfold DG;rw[Bm.o,<-dr.o,<-jK.o,yV.o])
 by_cases h0:nk=0
 case pos=>
  subst h0;have hf:=H_ (show R=(0,13) by rw[Ki.o,if_pos rfl]);go_wp2_with fail;go_ret2;exact⟨hf.o.symm▸rfl,aR⟩
 case neg=>
 have h0b:((nk:Int)==0)=false:=by simpa using h0
 have HR9:=H_ (show R=((2*(ks.map (·.value)).sum+nk) / (2*nk),0) by rw[Ki.o,if_neg h0]);have Se:=H_ h0;clear h0;go_wp2_with fail
 go_loopw [14,46] (λv i wr=>∃k:Nat,k<=nk/\i=.int .i64 (k:Int)/\v=.int .i64 (((ks.take k).map (·.value)).sum)/\Below w3.heap.size w3 wr) (λ_ i _=>nk- (intOf i).toNat)
 case atStart=>exact⟨0,by omega,rfl,rfl,Below.refl _ _⟩
 case round=>
  obtain⟨k,hk,rfl,rfl,hb⟩:=hrel;have el:=aR.trans (hb.mono aR.size);have Dd:=H_ (JJ (ks:=ks.take k) (λr hr=>HVK.o r (List.mem_of_mem_take hr)));have Bi:=Dd.o;rw[List.length_take]at Bi;by_cases aU:k<nk
  case pos=>
   have bq:(k:Int)< (nk:Int):=by omega
   have gW:0<nk:=by omega
   have Xv:k<ks.length:=by rw[yV.o];exact aU
   obtain⟨b,o,es,dj,ed,bL,aS⟩:=aj.get Bc.o k Xv;subst dj;obtain⟨bE,_⟩:=io bL;rw[bE]at aS;have eU:=HVK.o _ (List.getElem_mem Xv);have tA:=H_ (show((ks.take (k+1)).map (·.value)).sum=((ks.take k).map (·.value)).sum+ks[k].value by rw[List.take_add_one,List.getElem?_eq_getElem Xv,List.map_append,List.sum_append];simp);obtain⟨x,hx⟩:=x_ (ks[k]);rw[hx]at aS eU tA;obtain⟨rc,rk,rt,rv⟩:=x;have eZ:=H_ (show wr.rangeAt b (o+k*4) [rc,rk,rt,rv]from(aS.fr (Fr.ofBelow hb)).range);obtain⟨s,hs⟩:=x_ (((ks.take k).map (·.value)).sum);rw[hs]at Bi tA |-;simp only at eU;have qI: -9223372036854775808<=s+rv:=by omega
   have nJ:s+rv<=9223372036854775807:=by omega
   clear bL bE aS hx ed hs eU Dd;go_upto_region 15 with(refine w_ 49 70 48 b (o+k*4) [rc,rk,rt,rv] eZ.o aT Tryz.underlying70 ?_);obtain⟨W6,mC,H6,dK,my,ewx⟩:=B_ wr (.cells #[rc,rk,rt,rv] 70);rw[mC];clear ewx;clear mC;have c3:=ab H6 3;have dd:=hb.trans (dK.mono hb.size);clear H6;go_wp2_with fail;go_roundw
   case rel=>exact⟨k+1,by omega,by go_num,by rw[tA.o],dd⟩
   case measure=>first|exact aQ aU|(simp only[intOf];omega)
  case neg=>
   have bq:¬(k:Int)< (nk:Int):=by omega
   obtain⟨s,hs⟩:=x_ (((ks.take k).map (·.value)).sum);rw[hs]at Bi |-;have CB:=H_ (show(ks.map (·.value)).sum=s by rw[<-hs,List.take_of_length_le (by have:=yV.o;omega)]);have hnp:0<nk:=by have:=Se.o;omega
   have hbz:0<=s/\s<=1000000000000000:=by omega
   obtain⟨z,hz⟩:=x_ ((2*s+nk) / (2*nk));have hf:=H_ (show R=(z,0) by rw[HR9.o,CB.o,hz]);have TV:0<=z/\z<=2000000000001000:=by
    rw[<-hz];exact⟨Int.ediv_nonneg (by omega) (by omega),Int.le_trans (Int.ediv_le_self _ (by omega)) (by omega)⟩
   have hzt:(2*s+nk).tdiv (2*nk)=z:=by rw[Int.tdiv_eq_ediv_of_nonneg (by omega)];exact hz
   have bT:¬2*(nk:Int)=0:=by omega
   have hwz:IntKind.i64.wrap z=z:=by rw[IntKind.wrap_i64];omega
   clear hs hz TV Bi Dd;go_wp2_with fail;go_ret2;exact⟨hf.o.symm▸rfl,el⟩
end
section
open Go Go.RowKit
theorem yq (grp:ByteArray) (rs:List aC) (A:Option Addr) (cc:Nat) (w:World) (hl:aj bN 4 w (·<w.heap.size) [.slice A rs.length cc] rs) (bP:∀r∈rs,r.currency.size<=140737488355328) (kC:grp.size<=140737488355328) (hm:rs.length<=100000):
 Calls Tryz.prog 31 #[grp,.slice A rs.length cc] w (ap w (.bool (decide (dJ grp rs)))):=by
 obtain⟨R,hR⟩:∃b:Bool,decide (dJ grp rs)=b:=⟨_,rfl⟩;have HR:=H_ hR;rw[hR];clear hR;have HL:=H_ hl;have N2:=H_ bP;have fu:=H_ kC;obtain⟨n,hn⟩:=x_ (rs.length);have HN:=H_ hn;rw[hn]at hm |-;clear hl hn bP kC;go_enter Tryz.func31,Tryz.ntmps31;go_wp2_with fail
 go_loopw [5] (λi wr=>∃k:Nat,k<=n/\i=.int .i64 (k:Int)/\Below w.heap.size w wr/\(∀j (hj:j<rs.length),j<k->eO grp rs[j]=true)/\((rs.take k).map cW).Nodup) (λi _=>n- (intOf i).toNat)
 case atStart=>exact⟨0,by omega,rfl,Below.refl _ _,λj hj h=>by omega,by simp⟩
 case round=>
  obtain⟨k,hk,rfl,hb,hall,N4⟩:=hrel;generalize wr=w3 at*;have HA:=H_ hall;have Vi:=H_ N4;have bP:=hb.size;clear hall N4;by_cases aU:k<n
  case pos=>
   have bq:(k:Int)< (n:Int):=by omega
   have gW:0<n:=by omega
   have bI:k<rs.length:=by rw[HN.o];exact aU
   obtain⟨b,o,es,dj,ed,bL,aS⟩:=aj.get HL.o k bI;subst dj;obtain⟨bE,_⟩:=io bL;rw[bE]at aS;have T2:=N2.o _ (List.getElem_mem bI);have acB:=H_ (λ(j:Nat) (hj:j<rs.length)=>show At w (·<w.heap.size) ⟨b,o+j*4,none⟩ (fN rs[j]) by
    obtain⟨b2,o2,MJ,hA2,_,h3,h4⟩:=aj.get HL.o j hj;simp only[Option.some.injEq,Addr.mk.injEq,and_true]at hA2;obtain⟨rfl,rfl⟩:=hA2
    rwa[(io h3).1]at h4)
   obtain⟨x,hx⟩:=x_ (rs[k]);rw[hx]at aS T2;have HX:=H_ hx;obtain⟨rc,rk,rt,rv⟩:=x;have Dh:=H_ (show At w (·<w.heap.size) ⟨b,o+k*4,none⟩ [.string rc,.int .i64 rk,.int .i64 rt,.int .i64 rv]from aS);have eZ:=H_ ((Dh.o.fr (Fr.ofBelow hb)).range);obtain⟨v,hv⟩:=x_ (eO grp ⟨rc,rk,rt,rv⟩);have Y8:=EQ grp rc rk rt rv w3 T2;rw[hv]at Y8;have rD:=H_ Y8;have HV:=H_ (show eO grp rs[k]=v by rw[HX.o];exact hv);have HHB:=H_ ed;clear bL bE aS hx ed T2 Y8 hv;go_wp2_with (refine w_ 17 70 16 b (o+k*4) [rc,rk,rt,rv] eZ.o aT Tryz.underlying70 ?_);refine rD.o.mono ?_;rintro e w7 ⟨rfl,fC⟩;have gb:=hb.trans (fC.mono hb.size);cases v with
   |false=>
    have hf:=H_ (show R=false by rw[<-HR.o];exact decide_eq_false (AY bI HV.o));go_wp2_with fail;go_ret;exact⟨hf.o.symm▸rfl,gb⟩
   |true=>
    go_wp2_with fail
    go_loopw [6] (λi wr=>∃j:Nat,j<=k/\i=.int .i64 (j:Int)/\Below w.heap.size w wr/\∀i (hi:i<rs.length),i<j->cW rs[i]≠cW rs[k]) (λi _=>k- (intOf i).toNat)
    case atStart=>exact⟨0,by omega,rfl,gb,λi hi h=>by omega⟩
    case round=>
     obtain⟨j,hj,rfl,jX,bT⟩:=hrel;have eP:=H_ bT;clear bT;by_cases hlj:j<k
     case pos=>
      have adV:(j:Int)< (k:Int):=by omega
      have aeP:(j:Int)< (n:Int):=by omega
      have vn:j<rs.length:=by omega
      have Yv:=acB.o j vn;obtain⟨y,hy⟩:=x_ (rs[j]);rw[hy]at Yv;have HY:=H_ hy;obtain⟨sc,sk,st,sv⟩:=y;have acL:=H_ (show At wr (·<wr.heap.size) ⟨b,o+j*4,none⟩ [.string sc,.int .i64 sk,.int .i64 st,.int .i64 sv]from(Yv.fr (Fr.ofBelow jX)).mono (λq hq=>Nat.lt_of_lt_of_le hq jX.size));have aef:=H_ (show At wr (·<wr.heap.size) ⟨b,o+k*4,none⟩ [.string rc,.int .i64 rk,.int .i64 rt,.int .i64 rv]from(Dh.o.fr (Fr.ofBelow jX)).mono (λq hq=>Nat.lt_of_lt_of_le hq jX.size));obtain⟨q,hq⟩:=x_ (decide (sc=rc/\sk=rk/\st=rt));have J5:=H_ (λ(w2:World)=>show Calls Tryz.prog 68 #[.agg #[sc,sk,st,sv],.agg #[rc,rk,rt,rv]] w2 (ap w2 (.bool q)) by rw[<-hq];exact AT sc rc sk st sv rk rt rv w2);have HQ:=H_ (show q=true↔cW rs[j]=cW rs[k] by
       rw[HX.o,HY.o,<-hq];unfold cW;simp only[decide_eq_true_eq,Prod.mk.injEq])
      clear hy Yv hq;go_upto_region 9 with fail;refine bp (Ks wr [.val (.slice (some ⟨b,o,none⟩) n cc),(j:Int),.val (.pointer (some ⟨b,o+j*4,none⟩)),.val (.agg #[sc,sk,st,sv]),.val (.slice (some ⟨b,o,none⟩) n cc),(k:Int),.val (.pointer (some ⟨b,o+k*4,none⟩)),.val (.agg #[rc,rk,rt,rv]),q])
       (λw'=>Below wr.heap.size wr w') K_ K_ K_ (Below.refl _ _).drew ?_ ?_
      ·refine⟨b_ (q_ 1),b_ (q_ 6),c_ (p_ 0 25) (p_ 1 26),?_,b_ (q_ 1),b_ (q_ 5),c_ (p_ 4 29) (p_ 5 30),?_,?_,trivial⟩
       ·refine O1_ (p_ 2 27) λA0 w2 K e0 hS hK=>?_;have aJ:w2.rangeAt b (o+j*4) [sc,sk,st,sv]:=(acL.o.fr (Fr.ofBelow hS)).range;have aI:=aT;refine wp_load_mid 70 (.tmp 27) rfl _ _ (v_ e0) _ _ aJ Tryz.underlying70 rfl aI ?_;exact kq hK hS rfl
       ·refine O1_ (p_ 6 31) λA0 w2 K e0 hS hK=>?_;have aJ:w2.rangeAt b (o+k*4) [rc,rk,rt,rv]:=(aef.o.fr (Fr.ofBelow hS)).range;have aI:=aT;refine wp_load_mid 70 (.tmp 31) rfl _ _ (v_ e0) _ _ aJ Tryz.underlying70 rfl aI ?_;exact kq hK hS rfl
       ·refine O2_ (p_ 3 28) (p_ 7 32) λA0 w2 K e0 e1 hS hK=>?_;go_simp
        go_at_call 68
        refine(J5.o w2).mono ?_;rintro e w3 ⟨rfl,h3⟩;exact hK.out _ _ (hS.trans (h3.mono hS.size)) (Ks.of rfl (rfl)) (Ks.keep h3)
      ·intro _ A0 w2 hI hall;have hS:=hI.world;have c9:=hI.ch hall [25,26,27,28,29,30,31,32,33];obtain⟨x0,x1,x2,x3,x4,x5,x6,x7,x8,hA,hV⟩:=c9;obtain rfl:x8=.bool q:=hV 8 _ _ rfl _ rfl;clear hV hI hall;simp only[ba,List.foldl,List.setIfInBounds_toArray,List.set_cons_zero,List.set_cons_succ]at hA;rw[hA];clear hA;have Kk:=jX.trans (hS.mono jX.size);cases q with
       |true=>
        have hf:=H_ (show R=false by
         rw[<-HR.o];refine decide_eq_false (AZ bI (List.any_eq_true.2 ⟨rs[j],List.mem_take_iff_getElem.2 ⟨j,by omega,rfl⟩,decide_eq_true (HQ.o.1 rfl)⟩)))
        go_wp2_with fail;go_ret;exact⟨hf.o.symm▸rfl,Kk⟩
       |false=>
        have rN:=H_ (show ∀i (hi:i<rs.length),i<j+1->cW rs[i]≠cW rs[k]from λi hi Gb=>by
         rcases Nat.lt_or_ge i j with h|h
         ·exact eP.o i hi h
         ·obtain rfl:i=j:=by omega
          exact λh=>by have:=HQ.o.2 h;cases this)
        go_wp2_with fail;go_roundw
        case rel=>exact⟨j+1,by omega,by go_num,Kk,rN.o⟩
        case measure=>first|exact aQ hlj|(simp only[intOf];omega)
     case neg=>
      have adV:¬(j:Int)< (k:Int):=by omega
      have HNS:=H_ (show((rs.take k).any λx=>decide (cW x=cW rs[k]))=false by
       rw[List.any_eq_false];intro x hx;obtain⟨i,hi,rfl⟩:=List.mem_take_iff_getElem.1 hx;simpa using eP.o i (by omega) (by omega))
      go_wp2_with fail;go_roundw
      case rel=>
       refine⟨k+1,by omega,by go_num,jX,λi hi TG=>?_,ace bI Vi.o HNS.o⟩;rcases Nat.lt_or_ge i k with h|h
       ·exact HA.o i hi h
       ·obtain rfl:i=k:=by omega
        exact HV.o
      case measure=>first|exact aQ aU|(simp only[intOf];omega)
  case neg=>
   have bq:¬(k:Int)< (n:Int):=by omega
   obtain⟨v,hv⟩:=x_ (cQ grp);have cI:=xU grp w3 fu.o;rw[hv]at cI;have FK:=H_ cI;have HV:=H_ hv;have eY:=H_ (show(∀r∈rs,eO grp r=true)/\(rs.map cW).Nodup by
    refine⟨λr hr=>?_,?_⟩
    ·obtain⟨j,hj,rfl⟩:=List.getElem_of_mem hr;exact HA.o j hj (by have:=HN.o;omega)
    ·have:=Vi.o
     rwa[List.take_of_length_le (by have:=HN.o;omega)]at this)
   clear cI hv;go_wp2_with fail;refine FK.o.mono ?_;rintro e w7 ⟨rfl,fC⟩;have gb:=hb.trans (fC.mono hb.size);cases v with
   |false=>
    have hf:=H_ (show R=false by rw[<-HR.o];exact decide_eq_false (λh=>by have:=h.2.2.1;rw[HV.o]at this;cases this));go_wp2_with fail;go_ret;exact⟨hf.o.symm▸rfl,gb⟩
   |true=>
    by_cases rJ:n<=1000
    case pos=>
     have hf:=H_ (show R=true by rw[<-HR.o];exact decide_eq_true ⟨eY.o.1,eY.o.2,HV.o,by rw[HN.o];exact rJ⟩);have FS_:decide ((n:Int)<=1000)=true:=decide_eq_true (by omega);clear rJ;go_wp2_with fail;go_ret;exact⟨hf.o.symm▸rfl,gb⟩
    case neg=>
     have hf:=H_ (show R=false by rw[<-HR.o];exact decide_eq_false (λh=>rJ (by have:=h.2.2.2;rw[HN.o]at this;exact this)));have FS_:decide ((n:Int)<=1000)=false:=decide_eq_false (by omega);clear rJ;go_wp2_with fail;go_ret;exact⟨hf.o.symm▸rfl,gb⟩
end
end Go.Proofs.YtibiddakakgakaaGreat
