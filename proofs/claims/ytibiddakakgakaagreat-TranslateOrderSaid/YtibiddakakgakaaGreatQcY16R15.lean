/- Items of the program. Written by gen_y16.py. -/
import Derived.Test.YtibiddakakgakaaGreatQcR5Y15
set_option linter.unusedVariables false
set_option linter.unusedSimpArgs false
set_option maxRecDepth 4000
attribute [local go_sem ↓] Go.wp_at_zero Go.wp_at_succ
set_option maxHeartbeats 16000000
namespace Go.Proofs.YtibiddakakgakaaGreat
open Go Go.RowKit
theorem Fd {es:List ak} {ent t:Int} {k:Nat} (hk:k<es.length):gJ (es.take (k+1)) ent t=if es[k].entity=ent/\es[k].date<=t then gJ (es.take k) ent t++[es[k]]else gJ (es.take k) ent t:=by
 unfold gJ;rw[List.take_add_one,List.getElem?_eq_getElem hk,Option.toList_some,List.filter_append];by_cases h:es[k].entity=ent/\es[k].date<=t
 ·rw[if_pos h,List.filter_cons,if_pos (decide_eq_true h)];rfl
 ·rw[if_neg h,List.filter_cons,if_neg (by simpa using h)];simp
theorem Qc {es:List ak} {fj lZ:List jS} (hn:(es.map (·.id)).Nodup) (hm:fj.map (·.1)=es) (hp:lZ.Perm fj) (hw:lZ.Pairwise (λx y=>ltOf Lb y x=false)):lZ.map (·.1)=jV es:=by
 have Gp:(lZ.map (·.1)).Perm es:=by rw[<-hm];exact hp.map _
 have mA:(lZ.map (λx=>x.1.id)).Nodup:=by
  have e:lZ.map (λx=>x.1.id)=(lZ.map (·.1)).map (·.id):=by rw[List.map_map];rfl
  rw[e];exact(Gp.map _).nodup_iff.2 hn
 have ad5:lZ.Pairwise (λx y=>x.1.id≠y.1.id):=List.pairwise_map.1 mA;refine j5.uniq (es:=es) ⟨Gp,?_⟩ (mu hn);rw[List.pairwise_map];refine(hw.and ad5).imp ?_;rintro x y ⟨h1,h2⟩;have h3:¬(y.1.date<x.1.date\/(y.1.date=x.1.date/\y.1.id<x.1.id)):=λh=>by
  have:=(jt (λx:jS=>x.1.date) (λx=>x.1.id) y x).2 h;unfold Lb at h1;rw[this]at h1;cases h1
 unfold ltX;omega
def m9 (b:XBk) (p:Int) (E:List ak) (k:Nat):List (bW × Int):=(E.take k).flatMap (cB b p)
theorem vZ (b:XBk) (p:Int) {E:List ak} {k:Nat} (hk:k<E.length):m9 b p E (k+1)=m9 b p E k++cB b p E[k]:=by
 unfold m9;rw[List.take_add_one,List.getElem?_eq_getElem hk,Option.toList_some,List.flatMap_append,List.flatMap_singleton]
theorem Ld (b:XBk) (p:Int) (E:List ak):m9 b p E E.length=E.flatMap (cB b p):=by unfold m9;rw[List.take_length]
theorem DS (b:XBk) (p:Int) {E:List ak} {k:Nat} (hk:k<E.length):∃R,E.flatMap (cB b p)=m9 b p E k++cB b p E[k]++R:=by
 refine⟨(E.drop (k+1)).flatMap (cB b p),?_⟩;rw[<-vZ b p hk];unfold m9;rw[<-List.flatMap_append,List.take_append_drop]
theorem fM (b:XBk) (p:Int) (x:ak):(cB b p x).length=x.lines.length:=by unfold cB;simp
theorem pT (b:XBk) (p:Int) (x:ak) {j:Nat} (hj:j<x.lines.length):(cB b p x)[j]? =some (jr b x j p):=by unfold cB;simp[hj]
theorem tg (b:XBk) (p:Int) (x:ak) {j:Nat} (hj:j<x.lines.length):(cB b p x).take (j+1)=(cB b p x).take j++[jr b x j p]:=by
 rw[List.take_add_one,pT b p x hj,Option.toList_some]
theorem Jq {w:World} {base n b c:Nat} {e T:TypeId} {size:Nat} {A:Option Addr} {m:Nat} {xs:List Value} {cs:Array Value} {z:Nat × Nat} (h:w.ownsRow base e size (.slice A m c) n xs) (hT:e≠T) (hb:w.heap[b]? =some (.cells cs T z)):∀q,Value.ownBlock (.slice A m c)=some q->q≠b:=λq hq zO=>by
 rcases h.2 with⟨e1,_⟩|⟨g,cap,cur,e1,_,hg,_⟩
 ·rw[e1]at hq;cases hq
 ·rw[e1]at hq;simp only[Value.ownBlock,Option.some.injEq]at hq;subst hq zO;rw[hg]at hb;simp only[Option.some.injEq,Obj.cells.injEq]at hb;exact hT hb.2.1
theorem Ti {w w':World} {base:Nat} {e:TypeId} {size n:Nat} {v:Value} {xs:List Value} {Q:Nat->Prop} (h:w.ownsRow base e size v n xs) (hf:Fr Q w w') (hQ:∀q,v.ownBlock=some q->Q q):w'.ownsRow base e size v n xs:=by
 refine⟨h.1,?_⟩;rcases h.2 with h0|⟨g,cap,cur,rfl,h1,h2,h3⟩
 ·exact .inl h0
 ·exact .inr ⟨g,cap,cur,rfl,h1,(hf.block g (hQ g rfl)).trans h2,h3⟩
def ISt (b:XBk) (bl:List Value) (ent p:Int) (D M:Nat) (V:World) (G:List (bW × Int)) (K:Nat) (v:Value) (w:World):Prop:=
 ∃kd,kd<=K/\G.length<=K/\kD w D M kd bl b ent p/\(∀q∈G,q.2=0)/\w.ownsRow V.heap.size 42 7 v G.length ((G.map (·.1)).flatMap lq)/\Fr (λq=>q<V.heap.size/\q≠M) V w
theorem ISt.below {b:XBk} {bl:List Value} {ent p:Int} {D M:Nat} {V:World} {G:List (bW × Int)} {K:Nat} {v:Value} {w w':World} (h:ISt b bl ent p D M V G K v w) (hb:Below w.heap.size w w'):ISt b bl ent p D M V G K v w':=by
 obtain⟨kd,h1,h2,h3,h4,h5,h6⟩:=h;exact⟨kd,h1,h2,h3.below hb,h4,bb h5 hb,h6.trans ((Fr.ofBelow hb).mono (λq hq=>Nat.lt_of_lt_of_le hq.1 h6.size))⟩
theorem ISt.done {b:XBk} {bl:List Value} {ent p:Int} {D M:Nat} {V:World} {G:List (bW × Int)} {K:Nat} {v:Value} {w:World} (h:ISt b bl ent p D M V G K v w):∃A c,v=.slice A (kH G).1.length c/\(kH G).2=0/\ItV w (·<w.heap.size) (.slice A (kH G).1.length c) (kH G).1:=by
 obtain⟨kd,h1,h2,h3,h4,h5,h6⟩:=h;rw[DP h4];have h5':w.ownsRow V.heap.size 42 7 v (G.map (·.1)).length ((G.map (·.1)).flatMap lq):=by rw[List.length_map];exact h5
 obtain⟨A,m,c,rfl⟩:=bS h5';obtain rfl:=fV h5';exact⟨A,c,rfl,rfl,AG (f:=lq) (λ_=>rfl) h5' (λ_ _=>rfl) (λq hq=>(h5'.lt q hq).2)⟩
theorem Qn (b:XBk) (bl gl tl:List Value) (Ae Ar:Option Addr) (ce cr:Nat) (ent p:Int) (w:World) (hk:BkC w (·<w.heap.size) bl b gl Ae ce Ar cr tl) (ci:okB b) (lX:am p):Calls Tryz.prog 27 #[.agg bl.toArray,ent,p] w (rX (pQ b ent p) w):=by
 obtain⟨ia,oR,ge,gg,gh⟩:=info_parts ll;obtain⟨ib,hib,X7,Xu,XU⟩:=info_parts xr;have FF:=H_ (λ(w2:World) (hb:Below w.heap.size w w2)=>Hl b bl gl tl Ae Ar ce cr ent p false w2 (hk.keep hb) ci);obtain⟨kY,yO,lF,CA,HE,m8,jG,jv,kB,Ac,cc,Iy,Ds,nF,zF⟩:=agt hk;obtain⟨I,hI⟩:=x_ (pQ b ent p);rw[hI];unfold pQ at hI;rw[<-xL]at hI;obtain⟨OE,rO⟩:∃c,jU b ent p false=c:=⟨_,rfl⟩;have C6:=H_ rO;unfold nN at FF;rw[rO]at hI FF;have HI:=H_ hI;have HK:=H_ hk;have sW:=H_ ci;have Yf:=H_ lX;obtain⟨zC,Bq,TW⟩:=pX hk.es;have TQ:=H_ Bq;have Xi:=H_ TW;obtain⟨n,bj⟩:=x_ (b.es.length);have HN:=H_ bj;have hn5:n<=100000:=by rw[<-bj];exact ci.2.1.2
 have Bc:=H_ (show zC.length=n by rw[<-bj,<-Bq,List.length_map]);rw[bj]at HE;clear hk ci hI rO lX Bq TW bj;go_enter Tryz.func27,Tryz.ntmps27;go_upto_region 1 with fail;obtain⟨W1,cS,H1,bC,dr,ewx⟩:=B_ w (.cells bl.toArray 36);rw[cS];clear ewx;have yN:=H_ (show W1.heap.size=w.heap.size+1 by rw[<-cS];simp);clear cS;have Br:=H_ bC;have vm:=H_ H1;clear H1 bC dr;go_wp2_with (refine W_ 20 36 3 (w.heap.size) vm.o (by rw[bF];exact congrArg some kY.o.symm) Tryz.underlying36 ?_);refine(FF.o W1 Br.o).mono ?_;rintro e w2 (⟨bT,rfl,aH⟩|⟨h0,D,rfl,F7,aH,pC⟩)
 ·have yU:=t_ Br aH;have MZ:(OE !=0)=true:=by simpa using bT
  have hf:=H_ (show I=(([]:List bW),OE) by rw[<-HI.o,if_neg bT]);clear bT aH;go_wp2_with fail;go_ret2;exact⟨none,0,by rw[hf.o];rfl,by rw[hf.o];exact sr _ _ _ _,yU.o⟩
 ·subst h0;obtain⟨eU,iu,iA⟩:=Cc C6.o;have ep:dZ b ent:=iu.resolve_left (by decide);unfold rY at pC;rw[if_neg (by decide)]at pC;obtain⟨M,FU,MR⟩:=pC;have jI:=H_ (show cE b/\dZ b ent/\eN b p from⟨eU,ep,iA⟩);have hi:=HI.o;rw[if_pos rfl]at hi;have Sn:=H_ hi;have yU:=t_ Br aH;have rP:=k_ aH vm;have adH:=H_ MR;have yQ:=H_ (show w.heap.size+1<=D/\w.heap.size+1<=M/\D<w2.heap.size/\M<w2.heap.size/\M≠D by
   have:=MR.lt;have:=yN.o;omega)
  obtain⟨la,hla⟩:∃x,bA b.g p=x:=⟨_,rfl⟩;have vw:=H_ hla;have acJ:=H_ (show w2.cell? ⟨D,29,none⟩=some (.int .i64 la) by
   obtain⟨f,h1,_⟩:=MR;rw[<-hla];exact(ab h1 29).trans (mc HK.o.len _ _ _ _ _ _).2.2.1)
  have qx:=(ab rP.o 21).trans HE.o.1;clear eU iu iA ep hi aH MR hla FU F7 HI;go_wp2_with fail
  go_loopw [10,32] (λv i wr=>∃j:Nat,j<=n/\i=.int .i64 (j:Int)/\∃fj:List jS,fj.map (·.1)=gJ (b.es.take j) ent la/\(∀x∈fj,x∈zC)/\wr.ownsRow w2.heap.size 51 7 v fj.length (fj.flatMap bY)/\Below w2.heap.size w2 wr) (λ_ i _=>n- (intOf i).toNat)
  case atStart=>exact⟨0,by omega,rfl,[],rfl,by simp,World.ownsRow_nil _ _ _ _,Below.refl _ _⟩
  case round=>
   obtain⟨j,hj,rfl,fj,Gr,hox,bv,QA⟩:=hrel;have Vp:=H_ Gr;have MH:=H_ hox;have iI:=H_ bv;have zI:=H_ QA;have hol:fj.length<=100000:=by
    have h1:=congrArg List.length Gr;rw[List.length_map]at h1;rw[h1];refine Nat.le_trans (List.length_filter_le _ _) ?_;rw[List.length_take,HN.o];omega
   have dW:=QA.size;clear Gr hox bv QA qx;by_cases aU:j<n
   case pos=>
    have bq:(j:Int)< (n:Int):=by omega
    have Vk:j<zC.length:=by rw[Bc.o];exact aU
    have hje:j<b.es.length:=by rw[HN.o];exact aU
    obtain⟨Be,b0,o0,Ms,aS⟩:=Xi.o j zC[j] (List.getElem?_eq_getElem Vk);have jB:=List.getElem_mem Vk;have rQ:b.es[j]=zC[j].1:=by
     have h:=TQ.o;simp[<-h]
    have hun:=Fd (ent:=ent) (t:=la) hje;rw[rQ]at hun;obtain⟨x,hx⟩:=x_ (zC[j]);rw[hx]at Be aS jB hun;subst Ms;have⟨xi,xe,xd,xk,xo,xt,Al,nl,cl,FV,hee,VG,kZ⟩:∃xi xe xd xk xo xt Al nl cl,bY x=[.int .i64 xi,.int .i64 xe,.int .i64 xd,.int .i64 xk,.int .i64 xo,.string xt,.slice Al nl cl]/\x.1.entity=xe/\x.1.date=xd/\x.1.lines.length=nl:=⟨_,_,_,_,_,_,_,_,_,rfl,rfl,rfl,rfl⟩;rw[FV]at aS;rw[hee,VG]at hun;have Rv:=H_ FV;have ld:=H_ jB;have HUN:=H_ hun;have eZ:=H_ (show wr.rangeAt b0 (o0+j*7) [xi,xe,xd,xk,xo,xt,.slice Al nl cl]from gC aS (Fr.ofBelow (yU.o.trans (zI.o.mono yU.o.size))));clear Be aS jB hun FV hx rQ hee VG kZ hje Vk;go_upto_region 8 with(first|(refine w_ 35 51 34 b0 (o0+j*7) [xi,xe,xd,xk,xo,xt,.slice Al nl cl] eZ.o aY Tryz.underlying51 ?_)|(show wpList _ _ _ (Oper.mk none (Op.store _ (Operand.tmp 12) _) _ _ _ _::_) _ _;refine aO rfl 51 (.tmp 12) (.tmp 35) rfl rfl wr #[(),(),(),(),(),.string ⟨#[]⟩,.slice none 0 0] 51 #[xi,xe,xd,xk,xo,xt,.slice Al nl cl] rfl rfl rfl aY rfl (by simp[Value.oneCell']) ?_;intro W3 H3 eA rE))
    have adQ:=H_ H3;have eA:=H_ eA;have e1:=ab H3 1;have e2:=ab H3 2;have d29:W3.cell? ⟨D,29,none⟩=some (.int .i64 la):=((eA.o.cell (p:=⟨D,29,none⟩) (show D<wr.heap.size by have:=yQ.o;omega)).trans (zI.o.cell (p:=⟨D,29,none⟩) (show D<w2.heap.size from yQ.o.2.2.1))).trans acJ.o;clear H3 rE;by_cases h1:xe=ent
    case neg=>
     have h1b:(xe==ent)=false:=by simpa using h1
     have Cx:=H_ (show gJ (b.es.take (j+1)) ent la=gJ (b.es.take j) ent la by rw[HUN.o,if_neg (λh=>h1 h.1)]);clear h1;go_quiet (fail);have gw:=H_ (show Below wr.heap.size wr (W3.drewN nq)from((Fr.ofBelow eA.o).drewN nq).below);generalize W3.drewN nq=w4 at*;go_wp2_with fail;go_roundw
     case rel=>exact⟨j+1,by omega,by go_num,fj,by rw[Cx.o];exact Vp.o,MH.o,bb iI.o gw.o,zI.o.trans (gw.o.mono dW)⟩
     case measure=>first|exact aQ aU|(simp only[intOf];omega)
    case pos=>
    have h1b:(xe==ent)=true:=by simpa using h1
    by_cases h2:xd<=la
    case neg=>
     have h2b:decide (xd<=la)=false:=decide_eq_false h2;have Cx:=H_ (show gJ (b.es.take (j+1)) ent la=gJ (b.es.take j) ent la by rw[HUN.o,if_neg (λh=>h2 h.2)]);clear h1 h2;go_quiet (fail);have gw:=H_ (show Below wr.heap.size wr (W3.drewN nq)from((Fr.ofBelow eA.o).drewN nq).below);generalize W3.drewN nq=w4 at*;go_wp2_with fail;go_roundw
     case rel=>exact⟨j+1,by omega,by go_num,fj,by rw[Cx.o];exact Vp.o,MH.o,bb iI.o gw.o,zI.o.trans (gw.o.mono dW)⟩
     case measure=>first|exact aQ aU|(simp only[intOf];omega)
    case pos=>
    have h2b:decide (xd<=la)=true:=decide_eq_true h2;have Cx:=H_ (show gJ (b.es.take (j+1)) ent la=gJ (b.es.take j) ent la++[x.1] by rw[HUN.o,if_pos ⟨h1,h2⟩]);clear h1 h2;go_quiet (fail);have gw:=H_ (show Below wr.heap.size wr (W3.drewN nq)from((Fr.ofBelow eA.o).drewN nq).below);have HX4:=H_ (show(W3.drewN nq).heap[wr.heap.size]? =some (.cells #[xi,xe,xd,xk,xo,xt,.slice Al nl cl] 51 (0,0))from adQ.o);generalize W3.drewN nq=w4 at*;have Kw:=H_ (bb iI.o gw.o);have abw:=H_ (zI.o.trans (gw.o.mono dW));have yJ:=abw.o.size;clear e1 e2 d29;go_wp2_with (first|(refine W_ 50 51 12 (wr.heap.size) HX4.o aY Tryz.underlying51 ?_)|(at_builtin;go_loud (refine cq _ rfl (.tmp 49) (.tmp 51) 30 rfl w2.heap.size 51 ia _ 7 80 Tryz.underlying30 oR ge gg gh rfl (by decide) u10 fj.length (fj.flatMap bY) rfl (Kw.o.alloc _) (λ_=>True) (some ⟨w4.heap.size,0,none⟩) 1 1 [xi,xe,xd,xk,xo,xt,.slice Al nl cl] rfl (fq (heap_alloc_new _ _) rfl) (by simp[Value.oneCell']) (by simp only[maxLen];omega) (by omega) (by simp;omega) ?_);intro v9 wa cj gk qw));go_roundw
    case rel=>
     refine⟨j+1,by omega,by go_num,fj++[x],by rw[Cx.o,List.map_append,Vp.o];rfl,λy hy=>?_,?_,bK (abw.o.alloc (by omega) _) gk (λq hq=>(Kw.o.lt _ hq).1) (Nat.le_refl _)⟩
     ·rcases List.mem_append.1 hy with hy|hy
      ·exact MH.o y hy
      ·rw[List.mem_singleton]at hy;rw[hy];exact ld.o
     ·rw[List.length_append,List.flatMap_append,List.flatMap_singleton,Rv.o];exact cj
    case measure=>first|exact aQ aU|(simp only[intOf];omega)
   case neg=>
    have bq:¬(j:Int)< (n:Int):=by omega
    have FE:j=n:=by omega
    subst FE;obtain⟨Ao,no,co,rfl⟩:=bS iI.o;obtain rfl:no=fj.length:=fV iI.o;have Xx:=H_ (Tw fj _ w2.heap.size wr iI.o hol dW);go_wp2_with fail;refine Xx.o.mono ?_;rintro e w5 ⟨rfl,L,zM,hpw,Nw,abP,acP⟩;have aaw:=HN.o;have RU:=H_ (show L.map (·.1)=Je b ent p by
     have h1:=Vp.o;rw[<-aaw,List.take_length]at h1;have h2:=Qc (fU _ (ri jI.o.1.2.1)) h1 zM hpw;rw[h2,<-vw.o];rfl)
    have HXL:=H_ (show ∀x∈L,ax w (·<w.heap.size) (bY x) x.1/\x.1∈b.es/\x.1.entity=ent from λx hx=>by
     obtain⟨i,hi⟩:=List.mem_iff_getElem?.1 (MH.o x (zM.mem_iff.1 hx));have h2:=(Lj jI.o.1).1 (by rw[<-RU.o];exact List.mem_map_of_mem hx);exact⟨(Xi.o i x hi).1,h2.1,h2.2.1⟩)
    obtain⟨m,hm⟩:=x_ (fj.length);have HLM:=H_ (show L.length=m by rw[zM.length_eq,hm]);rw[hm]at Nw hol |-;have HLI:=H_ Nw;have nA:=H_ (show Below w2.heap.size w2 w5 from zI.o.trans abP);have l5:=t_ yU nA.o;have acX:=H_ (adH.o.below nA.o);have Nk:=H_ (show I=kH ((L.map (·.1)).flatMap (cB b p)) by rw[RU.o,<-Sn.o];rfl);clear zM hpw Nw abP acP hm aaw Vp MH iI zI Xx;go_wp2_with fail
    go_loopw [13,58] (λv i wr=>∃k:Nat,k<=m/\i=.int .i64 (k:Int)/\ISt b bl ent p D M w5 (m9 b p (L.map (·.1)) k) (k*100000) v wr) (λ_ i _=>m- (intOf i).toNat)
    case atStart=>exact⟨0,by omega,rfl,0,by omega,by simp[m9],acX.o,by simp[m9],World.ownsRow_nil _ _ _ _,Fr.refl _ _⟩
    case round=>
     obtain⟨k,hk,rfl,kW⟩:=hrel;have tA:=H_ kW;have adz:w5.heap.size<=wr.heap.size:=by obtain⟨_,_,_,_,_,_,h⟩:=kW;exact h.size
     have X9:=H_ (show Fr (λq=>q<w5.heap.size/\q≠M) w5 wr by obtain⟨_,_,_,_,_,_,h⟩:=kW;exact h);clear kW;rename World=>U;by_cases aU:k<m
     case neg=>
      have bq:¬(k:Int)< (m:Int):=by omega
      have yW:k=(L.map (·.1)).length:=by rw[List.length_map,HLM.o];omega
      obtain⟨A2,c2,CJ,Rx,vl⟩:=tA.o.done;rw[yW,Ld,<-Nk.o]at CJ Rx vl;subst CJ;have IP:=H_ vl;have YN:=H_ Rx;have HBU:=H_ (show Below w.heap.size w U from((Fr.ofBelow l5.o).trans (X9.o.mono (λq (h:q<w.heap.size)=>⟨Nat.lt_of_lt_of_le h l5.o.size,by have:=yQ.o;omega⟩))).below);obtain⟨I1,I2⟩:=I;simp only;obtain⟨q1,mF⟩:∃q,I1.length=q:=⟨_,rfl⟩;have HQ1:=H_ mF;rw[mF];clear yW Rx vl mF;go_wp2_with fail;go_ret2;exact⟨A2,c2,by rw[show I2=0 from YN.o,HQ1.o];first|done|rfl,IP.o,HBU.o⟩
     case pos=>
     have bq:(k:Int)< (m:Int):=by omega
     have hkL:k<L.length:=by rw[HLM.o];exact aU
     have hli:=HLI.o;rw[<-HLM.o]at hli;obtain⟨b1,o1,VD,YU,hQ1,aaH,yT⟩:=aj.get hli k hkL;have Vm:=List.getElem_mem hkL;have ns:=vZ b p (E:=L.map (·.1)) (k:=k) (by rw[List.length_map];exact hkL);obtain⟨RG,TF⟩:=DS b p (E:=L.map (·.1)) (k:=k) (by rw[List.length_map];exact hkL);rw[List.getElem_map]at ns TF;rw[GI aaH]at yT;obtain⟨Be,QJ,hxn⟩:=HXL.o _ Vm;obtain⟨x,hx⟩:=x_ (L[k]);rw[hx]at yT ns TF Be QJ hxn;subst YU;have⟨xi,xe,xd,xk,xo,xt,Al,nl,cl,FV,kZ⟩:∃xi xe xd xk xo xt Al nl cl,bY x=[.int .i64 xi,.int .i64 xe,.int .i64 xd,.int .i64 xk,.int .i64 xo,.string xt,.slice Al nl cl]/\x.1.lines.length=nl:=⟨_,_,_,_,_,_,_,_,_,rfl,rfl⟩;rw[FV]at yT;have Rv:=H_ FV;have tM:=H_ kZ;have adc:nl<=100000:=by rw[<-kZ];exact(sW.o.2.1.1 _ QJ).2
     have Z4:=H_ ns;have MB:=H_ (And.intro Be (And.intro QJ hxn));have HRG:=H_ TF;obtain⟨G,hG⟩:=x_ (m9 b p (L.map (·.1)) k);rw[hG]at tA Z4 HRG;have eZ:=H_ (show U.rangeAt b1 (o1+k*7) [xi,xe,xd,xk,xo,xt,.slice Al nl cl]from gC yT (X9.o.mono (λq (h:w2.heap.size<=q/\q<w5.heap.size)=>⟨h.2,by have:=yQ.o;omega⟩)));clear yT ns TF Be QJ hxn FV kZ hx Vm hkL hli aaH hQ1 hG;go_upto_region 16 with(first|(refine w_ 61 51 60 b1 (o1+k*7) [xi,xe,xd,xk,xo,xt,.slice Al nl cl] eZ.o aY Tryz.underlying51 ?_)|(show wpList _ _ _ (Oper.mk none (Op.store _ (Operand.tmp 15) _) _ _ _ _::_) _ _;refine aO rfl 51 (.tmp 15) (.tmp 61) rfl rfl U #[(),(),(),(),(),.string ⟨#[]⟩,.slice none 0 0] 51 #[xi,xe,xd,xk,xo,xt,.slice Al nl cl] rfl rfl rfl aY rfl (by simp[Value.oneCell']) ?_;intro W3 H3 eA rE))
     have Kn:=H_ H3;have eA:=H_ eA;have NZ:=H_ (tA.o.below eA.o);have e6:=ab H3 6;clear H3 rE;go_wp2_with fail
     go_loopw [13,65] (λv i wr=>∃j:Nat,j<=nl/\i=.int .i64 (j:Int)/\ISt b bl ent p D M w5 (G++(cB b p x.1).take j) (k*100000+j) v wr/\wr.heap[U.heap.size]? =some (.cells #[xi,xe,xd,xk,xo,xt,.slice Al nl cl] 51 (0,0))) (λ_ i _=>nl- (intOf i).toNat)
     case atStart=>
      refine⟨0,by omega,rfl,?_,?_⟩
      ·rw[List.take_zero,List.append_nil,Nat.add_zero];exact NZ.o
      ·exact Kn.o
     case round=>
      obtain⟨j,hj,rfl,MU,CQ⟩:=hrel;have N1:=H_ MU;have FM:=H_ CQ;clear MU CQ e6;rename World=>Z;by_cases iZ:j<nl
      case neg=>
       have gW:¬(j:Int)< (nl:Int):=by omega
       have HJ:=H_ (show ISt b bl ent p D M w5 (m9 b p (L.map (·.1)) (k+1)) ((k+1)*100000) u13 Z by
        have h:=N1.o;rw[show j=(cB b p x.1).length by rw[fM,tM.o];omega,List.take_length,<-Z4.o]at h;obtain⟨kd,h1,h2,h3⟩:=h;rw[fM,tM.o]at h1 h2;exact⟨kd,by omega,by omega,h3⟩)
       go_wp2_with fail;go_roundw
       case rel=>exact⟨k+1,by omega,by go_num,HJ.o⟩
       case measure=>first|exact aQ aU|(simp only[intOf];omega)
      case pos=>
      have gW:(j:Int)< (nl:Int):=by omega
      obtain⟨kd,yS,fZ,MR,mG,bv,lM⟩:=N1.o;have ML:=H_ mG;have iI:=H_ bv;have HFR:=H_ lM;have Ga:=H_ (show kd<=k*100000+j/\(G++(cB b p x.1).take j).length<=k*100000+j from⟨yS,fZ⟩);have IK:=H_ (show Fr (·<w.heap.size) w Z from(Fr.ofBelow l5.o).trans (lM.mono (λq (h:q<w.heap.size)=>⟨Nat.lt_of_lt_of_le h l5.o.size,by have:=yQ.o;omega⟩)));have RM:j<x.1.lines.length:=by rw[tM.o];exact iZ
      have Sf:=Jb D M kd b bl gl tl Ae Ar ce cr ent p Z ((HK.o.fr IK.o).mono (λq (h:q<w.heap.size)=>⟨Nat.lt_of_lt_of_le h IK.o.size,by have:=yQ.o;omega,by have:=yQ.o;omega⟩)) MR jI.o.1 sW.o jI.o.2.1 jI.o.2.2 x.1 (bY x) j
       (ax.mono (ax.fr MB.o.1 IK.o) (λq (h:q<w.heap.size)=>⟨Nat.lt_of_lt_of_le h IK.o.size,by have:=yQ.o;omega,by have:=yQ.o;omega⟩)) MB.o.2.2 RM (oz jI.o.1 MB.o.2.1) Yf.o (by unfold maxLen;omega)
      rw[Rv.o]at Sf;have IA:=tg b p x.1 RM;have Gt:=pT b p x.1 RM;obtain⟨it,RN⟩:=x_ (jr b x.1 j p);rw[RN]at Sf IA Gt;obtain⟨⟨⟨i1,i2⟩,i3,i4,i5,i6,i7⟩,code⟩:=it;have XH:=H_ Sf;have Nl:=H_ IA;have HGT:=H_ Gt;clear Sf IA Gt RN MR mG bv lM yS fZ RM;go_wp2_with (refine W_ 70 51 15 (U.heap.size) FM.o aY Tryz.underlying51 ?_);refine XH.o.mono ?_;rintro e w6 ⟨rfl,k',Fi,hd6,hf6⟩;have TJ:=H_ hf6;have T6:=H_ (show kD w6 D M k' bl b ent p/\k'<=kd+1 from⟨hd6,Fi⟩);have ga:=H_ (Ti iI.o hf6 (λq hq=>⟨(iI.o.lt q hq).2,by have:=(iI.o.lt q hq).1;have:=yQ.o;have:=nA.o.size;omega⟩));have vk:=H_ ((hf6.block _ ⟨ag FM.o,by have:=yQ.o;have:=nA.o.size;omega⟩).trans FM.o);have FZ:=H_ (HFR.o.trans (hf6.mono (λq (h:q<w5.heap.size/\q≠M)=>⟨Nat.lt_of_lt_of_le h.1 HFR.o.size,h.2⟩)));clear Fi hd6 hf6;go_upto_region 20 with(show wpList _ _ _ (Oper.mk none (Op.store _ (Operand.tmp 17) _) _ _ _ _::_) _ _;refine aO rfl 42 (.tmp 17) (.tmp 73) rfl rfl w6 #[(),(),(),(),(),(),()] 42 #[i1,i2,i3,i4,i5,i6,i7] rfl rfl rfl aP rfl (by simp[Value.oneCell']) ?_;intro W7 H7 em HS7)
      have Da:=H_ H7;have em:=H_ em;clear H7 HS7;by_cases hc:code=0
      case neg=>
       have lS:(code !=0)=true:=by simpa using hc
       have hf:=H_ (show I=(([]:List bW),code) by
        rw[Nk.o,HRG.o];have h1:cB b p x.1=(cB b p x.1).take j++((⟨⟨i1,i2⟩,i3,i4,i5,i6,i7⟩,code):bW × Int)::(cB b p x.1).drop (j+1):=by
         conv=>lhs;rw[<-List.take_append_drop j (cB b p x.1)]
         rw[List.drop_eq_getElem_cons (by rw[fM,tM.o];exact iZ)];have h2:=HGT.o;rw[List.getElem?_eq_getElem (by rw[fM,tM.o];exact iZ)]at h2;rw[Option.some.inj h2]
        rw[h1];have h3:=Ai (m:=(cB b p x.1).drop (j+1)++RG) (i:=((⟨⟨i1,i2⟩,i3,i4,i5,i6,i7⟩,code):bW × Int)) ML.o hc;simp only[List.append_assoc,List.cons_append]at h3 |-;exact h3)
       have Gf:=H_ (show Below w.heap.size w W7 from((IK.o.trans (TJ.o.mono (λq (h:q<w.heap.size)=>⟨Nat.lt_of_lt_of_le h IK.o.size,by have:=yQ.o;omega⟩))).trans ((Fr.ofBelow em.o).mono (λq (h:q<w.heap.size)=>Nat.lt_of_lt_of_le h (Nat.le_trans IK.o.size TJ.o.size)))).below);clear hc;go_wp2_with fail;go_ret2;exact⟨none,0,by rw[hf.o];rfl,by rw[hf.o];exact sr _ _ _ _,Gf.o⟩
      case pos=>
      subst hc;obtain⟨GG,VT⟩:=x_ (G++(cB b p x.1).take j);rw[VT]at ga ML Ga;have R1:=H_ VT;have Xb:GG.length<=10000100000:=by have:=Ga.o.2;have:k*100000<=10000000000:=Nat.mul_le_mul_right 100000 (show k<=100000 by omega);omega
      obtain⟨ng,Xa⟩:=x_ (GG.length);rw[Xa]at ga Xb;have Xw:=H_ Xa;have rF:=H_ (bb ga.o em.o);have QN:w5.heap.size<=W7.heap.size:=Nat.le_trans FZ.o.size em.o.size;clear VT Xa;go_wp2_with (first|(refine W_ 79 42 17 (w6.heap.size) Da.o aP Tryz.underlying42 ?_)|(at_builtin;go_loud (refine cq _ rfl (.tmp 78) (.tmp 80) 63 rfl w5.heap.size 42 ib _ 7 56 Tryz.underlying63 hib X7 Xu XU rfl (by decide) u13 ng ((GG.map (·.1)).flatMap lq) rfl (rF.o.alloc _) (λ_=>True) (some ⟨W7.heap.size,0,none⟩) 1 1 [i1,i2,i3,i4,i5,i6,i7] rfl (fq (heap_alloc_new _ _) rfl) (by simp[Value.oneCell']) (by simp only[maxLen];omega) (by omega) (by simp;omega) ?_);intro v9 wa cj gk qw));go_roundw
      case rel=>
       have hwa:Fr (λq=>q<W7.heap.size/\¬u13.ownBlock=some q) W7 wa:=(((Fr.refl (λq=>q<W7.heap.size) W7).alloc (λ_ h=>h) _).mono (λq h=>h.1)).grown gk (λq h=>h.1) (λq hq h=>h.2 hq);have h67:Fr (λq=>q<w6.heap.size) w6 W7:=Fr.ofBelow em.o;have JS:∀q,u13.ownBlock=some q->w5.heap.size<=q/\q≠U.heap.size:=λq hq=>⟨(rF.o.lt q hq).1,by
        obtain⟨A5,n5,c5,h5⟩:=bS rF.o;have fC:W7.heap[U.heap.size]? =some (.cells #[xi,xe,xd,xk,xo,xt,.slice Al nl cl] 51 (0,0)):=(em.o.block _ (ag vk.o)).trans vk.o;have h:=rF.o;rw[h5]at h hq;exact Jq (T:=51) h (by decide) fC q hq⟩
       refine⟨j+1,by omega,by go_num,⟨k',by have:=T6.o.2;have:=Ga.o.1;omega,?_,?_,?_,?_,?_⟩,?_⟩
       ·rw[Nl.o,<-List.append_assoc,R1.o,List.length_append,Xw.o];have:=Ga.o.2;have:=Xw.o;simp;omega
       ·exact(T6.o.1.below em.o).fr hwa ⟨Nat.lt_of_lt_of_le T6.o.1.lt.1 em.o.size,λh=>by have:=(JS _ h).1;have:=yQ.o;have:=nA.o.size;omega⟩ ⟨Nat.lt_of_lt_of_le T6.o.1.lt.2.1 em.o.size,λh=>by have:=(JS _ h).1;have:=yQ.o;have:=nA.o.size;omega⟩
       ·rw[Nl.o,<-List.append_assoc,R1.o];intro q hq;rcases List.mem_append.1 hq with hq|hq
        ·exact ML.o q hq
        ·rw[List.mem_singleton]at hq;rw[hq]
       ·rw[Nl.o,<-List.append_assoc,R1.o,List.length_append,Xw.o,List.map_append,List.flatMap_append];exact cj
       ·exact(FZ.o.trans (h67.mono (λq (h:q<w5.heap.size/\q≠M)=>Nat.lt_of_lt_of_le h.1 FZ.o.size))).trans (hwa.mono (λq (h:q<w5.heap.size/\q≠M)=>⟨Nat.lt_of_lt_of_le h.1 QN,λe=>by have:=(JS _ e).1;omega⟩))
       ·exact(hwa.block _ ⟨Nat.lt_of_lt_of_le (ag vk.o) em.o.size,λe=>(JS _ e).2 rfl⟩).trans ((em.o.block _ (ag vk.o)).trans vk.o)
      case measure=>first|exact aQ iZ|(simp only[intOf];omega)
theorem Me (l:List bW) (A B:Option Addr) (n c d:Nat) (w:World) (hn:l.length=n) (hl:ItV w (·<w.heap.size) (.slice A n c) l) (hm:ItV w (·<w.heap.size) (.slice B n d) l):Calls Tryz.prog 29 #[.slice A n c,.slice B n d] w (ap w (.bool true)):=by
 have fP:=hl.cap;unfold maxLen at fP;have HL:=H_ hl;have HM:=H_ hm;have HN:=H_ hn;rw[hn]at fP;clear hl hm hn;go_enter Tryz.func29,Tryz.ntmps29;go_wp2_with fail
 go_loopw [5] (λi wr=>∃k:Nat,k<=n/\i=.int .i64 (k:Int)/\Below w.heap.size w wr) (λi _=>n- (intOf i).toNat)
 case atStart=>exact⟨0,by omega,rfl,Below.refl _ _⟩
 case round=>
  obtain⟨k,hk,rfl,hb⟩:=hrel;have HB:=H_ hb;by_cases aU:k<n
  case neg=>
   have bq:¬(k:Int)< (n:Int):=by omega
   clear hb;go_wp2_with fail;go_ret;exact⟨rfl,HB.o⟩
  case pos=>
  have bq:(k:Int)< (n:Int):=by omega
  have Dm:k<l.length:=by rw[HN.o];exact aU
  obtain⟨b,o,es,dj,ed,bL,aS⟩:=aj.get HL.o k Dm;obtain⟨b2,o2,MJ,YD,tv,iy,dt⟩:=aj.get HM.o k Dm;subst dj;subst YD;rw[GI bL]at aS;rw[GI iy]at dt;generalize l[k]=x at*;obtain⟨⟨p1,p2⟩,p3,p4,p5,p6,p7⟩:=x;have rM:=H_ (show At wr (·<w.heap.size) ⟨b,o+k*7,none⟩ [.int .i64 p1,.int .i64 p2,.int .i64 p3,.int .i64 p4,.int .i64 p5,.int .i64 p6,.int .i64 p7]from aS.fr (Fr.ofBelow hb));have adh:=H_ (show At wr (·<w.heap.size) ⟨b2,o2+k*7,none⟩ [.int .i64 p1,.int .i64 p2,.int .i64 p3,.int .i64 p4,.int .i64 p5,.int .i64 p6,.int .i64 p7]from dt.fr (Fr.ofBelow hb));clear aS dt bL iy ed tv hb;go_upto_region 6 with fail;refine bp (Ks wr [.val (.slice (some ⟨b,o,none⟩) n c),(k:Int),.val (.pointer (some ⟨b,o+k*7,none⟩)),.val (.agg #[p1,p2,p3,p4,p5,p6,p7]),.val (.slice (some ⟨b2,o2,none⟩) n d),(k:Int),.val (.pointer (some ⟨b2,o2+k*7,none⟩)),.val (.agg #[p1,p2,p3,p4,p5,p6,p7]),false])
   (λw'=>Below wr.heap.size wr w') K_ K_ K_ (Below.refl _ _).drew ?_ ?_
  ·refine⟨b_ (q_ 0),b_ (q_ 5),c_ (p_ 0 17) (p_ 1 18),?_,b_ (q_ 1),b_ (q_ 5),c_ (p_ 4 21) (p_ 5 22),?_,c_ (p_ 3 20) (p_ 7 24),trivial⟩
   ·refine O1_ (p_ 2 19) λA0 w2 K e0 hS hK=>?_;have aJ:w2.rangeAt b (o+k*7) [p1,p2,p3,p4,p5,p6,p7]:=(rM.o.fr ((Fr.ofBelow hS).mono (λq h=>Nat.lt_of_lt_of_le h HB.o.size))).range;have aI:=aP;refine wp_load_mid 42 (.tmp 19) rfl _ _ (v_ e0) _ _ aJ Tryz.underlying42 rfl aI ?_;exact kq hK hS rfl
   ·refine O1_ (p_ 6 23) λA0 w2 K e0 hS hK=>?_;have aJ:w2.rangeAt b2 (o2+k*7) [p1,p2,p3,p4,p5,p6,p7]:=(adh.o.fr ((Fr.ofBelow hS).mono (λq h=>Nat.lt_of_lt_of_le h HB.o.size))).range;have aI:=aP;refine wp_load_mid 42 (.tmp 23) rfl _ _ (v_ e0) _ _ aJ Tryz.underlying42 rfl aI ?_;exact kq hK hS rfl
  ·intro _ A0 w2 hI hall;have hS:=hI.world;have c9:=hI.ch hall [17,18,19,20,21,22,23,24,25];obtain⟨x0,x1,x2,x3,x4,x5,x6,x7,x8,hA,hV⟩:=c9;obtain rfl:x8=.bool false:=hV 8 _ _ rfl _ rfl;clear hV hI hall;simp only[ba,List.foldl,List.setIfInBounds_toArray,List.set_cons_zero,List.set_cons_succ]at hA;rw[hA];clear hA;have kY:=t_ HB hS;clear hS;go_wp2_with fail;go_roundw
   case rel=>exact⟨k+1,by omega,by go_num,kY.o⟩
   case measure=>first|exact aQ aU|(simp only[intOf];omega)
end Go.Proofs.YtibiddakakgakaaGreat
