/- Items of the program. Written by gen_y16.py. -/
import Derived.Test.YtibiddakakgakaaGreatQdI18
import Derived.Test.YtibiddakakgakaaGreatQdW5
import Derived.Test.YtibiddakakgakaaGreatQdY8Y11
import Derived.Test.YtibiddakakgakaaGreatQdR12
import Derived.Test.YtibiddakakgakaaGreatQdY15Z9
set_option linter.unusedVariables false
set_option linter.unusedSimpArgs false
set_option maxRecDepth 4000
attribute [local go_sem ↓] Go.wp_at_zero Go.wp_at_succ
set_option maxHeartbeats 16000000
namespace Go.Proofs.YtibiddakakgakaaGreat
open Go Go.RowKit
theorem Fd {es:List ak} {ent t:Int} {k:Nat} (hk:k<es.length):gJ (es.take (k+1)) ent t=if es[k].entity=ent/\es[k].date<=t then gJ (es.take k) ent t++[es[k]]else gJ (es.take k) ent t:=by
 unfold gJ;rw[List.take_add_one,List.getElem?_eq_getElem hk,Option.toList_some,List.filter_append];by_cases h:es[k].entity=ent/\es[k].date<=t
 ·rw[if_pos h,List.filter_cons,if_pos (decide_eq_true h)];rfl
 ·rw[if_neg h,List.filter_cons,if_neg (by simpa using h)];simp
theorem Qc {es:List ak} {fj lZ:List jS} (hn:(es.map (·.id)).Nodup) (hm:fj.map (·.1)=es) (hp:lZ.Perm fj) (hw:lZ.Pairwise (λx y=>ltOf Lb y x=false)):lZ.map (·.1)=jV es:=by
 have Gp:(lZ.map (·.1)).Perm es:=by rw[<-hm];exact hp.map _
 have mA:(lZ.map (λx=>x.1.id)).Nodup:=by
  have e:lZ.map (λx=>x.1.id)=(lZ.map (·.1)).map (·.id):=by rw[List.map_map];rfl
  rw[e];exact(Gp.map _).nodup_iff.2 hn
 have ad5:lZ.Pairwise (λx y=>x.1.id≠y.1.id):=List.pairwise_map.1 mA;refine xw.uniq (es:=es) ⟨Gp,?_⟩ (mu hn);rw[List.pairwise_map];refine(hw.and ad5).imp ?_;rintro x y ⟨h1,h2⟩;have h3:¬(y.1.date<x.1.date\/(y.1.date=x.1.date/\y.1.id<x.1.id)):=λh=>by
  have:=(jt (λx:jS=>x.1.date) (λx=>x.1.id) y x).2 h;unfold Lb at h1;rw[this]at h1;cases h1
 unfold ltX;omega
def m9 (b:XBk) (p:Int) (E:List ak) (k:Nat):List (bW × Int):=(E.take k).flatMap (kx b p)
theorem vZ (b:XBk) (p:Int) {E:List ak} {k:Nat} (hk:k<E.length):m9 b p E (k+1)=m9 b p E k++kx b p E[k]:=by
 unfold m9;rw[List.take_add_one,List.getElem?_eq_getElem hk,Option.toList_some,List.flatMap_append,List.flatMap_singleton]
theorem Ld (b:XBk) (p:Int) (E:List ak):m9 b p E E.length=E.flatMap (kx b p):=by unfold m9;rw[List.take_length]
theorem DS (b:XBk) (p:Int) {E:List ak} {k:Nat} (hk:k<E.length):∃R,E.flatMap (kx b p)=m9 b p E k++kx b p E[k]++R:=by
 refine⟨(E.drop (k+1)).flatMap (kx b p),?_⟩;rw[<-vZ b p hk];unfold m9;rw[<-List.flatMap_append,List.take_append_drop]
theorem fM (b:XBk) (p:Int) (x:ak):(kx b p x).length=x.lines.length:=by unfold kx;simp
theorem pT (b:XBk) (p:Int) (x:ak) {j:Nat} (hj:j<x.lines.length):(kx b p x)[j]? =some (jr b x j p):=by unfold kx;simp[hj]
theorem tg (b:XBk) (p:Int) (x:ak) {j:Nat} (hj:j<x.lines.length):(kx b p x).take (j+1)=(kx b p x).take j++[jr b x j p]:=by
 rw[List.take_add_one,pT b p x hj,Option.toList_some]
theorem Jq {w:World} {base n b c:Nat} {e T:TypeId} {size:Nat} {A:Option Addr} {m:Nat} {xs:List Value} {cs:Array Value} {z:Nat × Nat} (h:w.ownsRow base e size (.slice A m c) n xs) (hT:e≠T) (hb:w.heap[b]? =some (.cells cs T z)):∀q,Value.ownBlock (.slice A m c)=some q->q≠b:=λq hq zO=>by
 rcases h.2 with⟨e1,_⟩|⟨g,cap,aw,e1,_,hg,_⟩
 ·rw[e1]at hq;cases hq
 ·rw[e1]at hq;simp only[Value.ownBlock,Option.some.injEq]at hq;subst hq zO;rw[hg]at hb;simp only[Option.some.injEq,Obj.cells.injEq]at hb;exact hT hb.2.1
theorem Ti {w w':World} {base:Nat} {e:TypeId} {size n:Nat} {v:Value} {xs:List Value} {Q:Nat->Prop} (h:w.ownsRow base e size v n xs) (hf:Fr Q w w') (hQ:∀q,v.ownBlock=some q->Q q):w'.ownsRow base e size v n xs:=by
 refine⟨h.1,?_⟩;rcases h.2 with h0|⟨g,cap,aw,rfl,h1,h2,h3⟩
 ·exact .inl h0
 ·exact .inr ⟨g,cap,aw,rfl,h1,(hf.block g (hQ g rfl)).trans h2,h3⟩
def ISt (b:XBk) (bl:List Value) (ent p:Int) (D M:Nat) (V:World) (G:List (bW × Int)) (K:Nat) (v:Value) (w:World):Prop:=
 ∃kd,kd<=K/\G.length<=K/\kD w D M kd bl b ent p/\(∀q∈G,q.2=0)/\w.ownsRow V.heap.size 42 7 v G.length ((G.map (·.1)).flatMap lq)/\Fr (λq=>q<V.heap.size/\q≠M) V w
theorem ISt.below {b:XBk} {bl:List Value} {ent p:Int} {D M:Nat} {V:World} {G:List (bW × Int)} {K:Nat} {v:Value} {w w':World} (h:ISt b bl ent p D M V G K v w) (hb:Below w.heap.size w w'):ISt b bl ent p D M V G K v w':=by
 obtain⟨kd,h1,h2,h3,h4,h5,h6⟩:=h;exact⟨kd,h1,h2,h3.below hb,h4,bb h5 hb,h6.trans ((Fr.ofBelow hb).mono (λq hq=>Nat.lt_of_lt_of_le hq.1 h6.size))⟩
theorem ISt.done {b:XBk} {bl:List Value} {ent p:Int} {D M:Nat} {V:World} {G:List (bW × Int)} {K:Nat} {v:Value} {w:World} (h:ISt b bl ent p D M V G K v w):∃A c,v=.slice A (kH G).1.length c/\(kH G).2=0/\ItV w (·<w.heap.size) (.slice A (kH G).1.length c) (kH G).1:=by
 obtain⟨kd,h1,h2,h3,h4,h5,h6⟩:=h;rw[DP h4];have h5':w.ownsRow V.heap.size 42 7 v (G.map (·.1)).length ((G.map (·.1)).flatMap lq):=by rw[List.length_map];exact h5
 obtain⟨A,m,c,rfl⟩:=bS h5';obtain rfl:=fV h5';exact⟨A,c,rfl,rfl,AG (f:=lq) (λ_=>rfl) h5' (λ_ _=>rfl) (λq hq=>(h5'.lt q hq).2)⟩
theorem Qn (b:XBk) (bl gl tl:List Value) (Ae Ar:Option Addr) (ce cr:Nat) (ent p:Int) (w:World) (hk:BkC w (·<w.heap.size) bl b gl Ae ce Ar cr tl) (ci:okB b) (lX:cx p):Calls Tryz.prog 27 #[.agg bl.toArray,ent,p] w (rX (pQ b ent p) w):=by
 obtain⟨ia,oR,ge,gg,gh⟩:=info_parts ll;obtain⟨ib,hib,X7,Xu,XU⟩:=info_parts xr;have FF:=H_ (λ(w2:World) (hb:Below w.heap.size w w2)=>Hl b bl gl tl Ae Ar ce cr ent p false w2 (hk.keep hb) ci);obtain⟨kY,yO,lF,CA,HE,m8,jG,jv,kB,Ac,cc,Iy,Ds,nF,zF⟩:=agt hk;obtain⟨I,hI⟩:=x_ (pQ b ent p);rw[hI];unfold pQ at hI;rw[<-xL]at hI;obtain⟨OE,rO⟩:∃c,jU b ent p false=c:=⟨_,rfl⟩;have C6:=H_ rO;unfold nN at FF;rw[rO]at hI FF;have HI:=H_ hI;have HK:=H_ hk;have sW:=H_ ci;have Yf:=H_ lX;obtain⟨zC,Bq,TW⟩:=pX hk.es;have TQ:=H_ Bq;have Xi:=H_ TW;obtain⟨n,bj⟩:=x_ (b.es.length);have HN:=H_ bj;have hn5:n<=100000:=by rw[<-bj];exact ci.2.1.2
 have Bc:=H_ (show zC.length=n by rw[<-bj,<-Bq,List.length_map]);rw[bj]at HE;clear hk ci hI rO lX Bq TW bj;go_enter Tryz.func27,Tryz.ntmps27;go_upto_region 1 with fail;obtain⟨W1,cS,H1,bC,dr,ewx⟩:=B_ w (.cells bl.toArray 36);rw[cS];clear ewx;have yN:=H_ (show W1.heap.size=w.heap.size+1 by rw[<-cS];simp);clear cS;have Br:=H_ bC;have akW:=H_ H1;clear H1 bC dr;go_wp2_with (refine W_ 20 36 3 (w.heap.size) akW.o (by rw[bF];exact congrArg some kY.o.symm) Tryz.underlying36 ?_);refine(FF.o W1 Br.o).mono ?_;rintro e w2 (⟨bT,rfl,aH⟩|⟨h0,D,rfl,F7,aH,pC⟩)
 ·have yU:=t_ Br aH;have MZ:(OE !=0)=true:=by simpa using bT
  have hf:=H_ (show I=(([]:List bW),OE) by rw[<-HI.o,if_neg bT]);clear bT aH;go_wp2_with fail;go_ret2;exact⟨none,0,by rw[hf.o];rfl,by rw[hf.o];exact sr _ _ _ _,yU.o⟩
 ·subst h0;obtain⟨eU,iu,iA⟩:=Cc C6.o;have ep:dZ b ent:=iu.resolve_left (by decide);unfold rY at pC;rw[if_neg (by decide)]at pC;obtain⟨M,FU,MR⟩:=pC;have jI:=H_ (show cE b/\dZ b ent/\eN b p from⟨eU,ep,iA⟩);have hi:=HI.o;rw[if_pos rfl]at hi;have Sn:=H_ hi;have yU:=t_ Br aH;have rP:=k_ aH akW;have adH:=H_ MR;have yQ:=H_ (show w.heap.size+1<=D/\w.heap.size+1<=M/\D<w2.heap.size/\M<w2.heap.size/\M≠D by
   have:=MR.lt;have:=yN.o;omega)
  obtain⟨la,m5⟩:∃x,bA b.g p=x:=⟨_,rfl⟩;have vw:=H_ m5;have acJ:=H_ (show w2.cell? ⟨D,29,none⟩=some (.int .i64 la) by
   obtain⟨f,h1,_⟩:=MR;rw[<-m5];exact(ab h1 29).trans (mc HK.o.len _ _ _ _ _ _).2.2.1)
  have qx:=(ab rP.o 21).trans HE.o.1;clear eU iu iA ep hi aH MR m5 FU F7 HI;go_wp2_with fail
  go_loopw [10,32] (λv i wr=>∃j:Nat,j<=n/\i=.int .i64 (j:Int)/\∃fj:List jS,fj.map (·.1)=gJ (b.es.take j) ent la/\(∀x∈fj,x∈zC)/\wr.ownsRow w2.heap.size 51 7 v fj.length (fj.flatMap bY)/\Below w2.heap.size w2 wr) (λ_ i _=>n- (intOf i).toNat)
  case atStart=>exact⟨0,by omega,rfl,[],rfl,by simp,World.ownsRow_nil _ _ _ _,Below.refl _ _⟩
  case round=>
   obtain⟨j,hj,rfl,fj,Gr,hox,bv,QA⟩:=hrel;have Vp:=H_ Gr;have MH:=H_ hox;have iI:=H_ bv;have zI:=H_ QA;have hol:fj.length<=100000:=by
    have h1:=congrArg List.length Gr;rw[List.length_map]at h1;rw[h1];refine Nat.le_trans (List.length_filter_le _ _) ?_;rw[List.length_take,HN.o];omega
   have dW:=QA.size;clear Gr hox bv QA qx;by_cases aU:j<n
   case pos=>
    have bq:(j:Int)< (n:Int):=by omega
    have Vk:j<zC.length:=by rw[Bc.o];exact aU
    have hje:j<b.es.length:=by rw[HN.o];exact aU
    obtain⟨Be,b0,o0,Ms,aS⟩:=Xi.o j zC[j] (List.getElem?_eq_getElem Vk);have jB:=List.getElem_mem Vk;have rQ:b.es[j]=zC[j].1:=by
     have h:=TQ.o;simp[<-h]
    have hun:=Fd (ent:=ent) (t:=la) hje;rw[rQ]at hun;obtain⟨x,hx⟩:=x_ (zC[j]);rw[hx]at Be aS jB hun;subst Ms;have⟨xi,xe,xd,xk,xo,xt,Al,nl,cl,FV,hee,VG,kZ⟩:∃xi xe xd xk xo xt Al nl cl,bY x=[.int .i64 xi,.int .i64 xe,.int .i64 xd,.int .i64 xk,.int .i64 xo,.string xt,.slice Al nl cl]/\x.1.entity=xe/\x.1.date=xd/\x.1.lines.length=nl:=⟨_,_,_,_,_,_,_,_,_,rfl,rfl,rfl,rfl⟩;rw[FV]at aS;rw[hee,VG]at hun;have Rv:=H_ FV;have ld:=H_ jB;have HUN:=H_ hun;have eZ:=H_ (show wr.rangeAt b0 (o0+j*7) [xi,xe,xd,xk,xo,xt,.slice Al nl cl]from gC aS (Fr.ofBelow (yU.o.trans (zI.o.mono yU.o.size))));clear Be aS jB hun FV hx rQ hee VG kZ hje Vk;go_upto_region 8 with(first|(refine w_ 35 51 34 b0 (o0+j*7) [xi,xe,xd,xk,xo,xt,.slice Al nl cl] eZ.o aY Tryz.underlying51 ?_)|(show wpList _ _ _ (Oper.mk none (Op.store _ (Operand.tmp 12) _) _ _ _ _::_) _ _;refine aO rfl 51 (.tmp 12) (.tmp 35) rfl rfl wr #[(),(),(),(),(),.string ⟨#[]⟩,.slice none 0 0] 51 #[xi,xe,xd,xk,xo,xt,.slice Al nl cl] rfl rfl rfl aY rfl (by simp[Value.oneCell']) ?_;intro W3 H3 eA rE))
    have adQ:=H_ H3;have eA:=H_ eA;have e1:=ab H3 1;have e2:=ab H3 2;have d29:W3.cell? ⟨D,29,none⟩=some (.int .i64 la):=((eA.o.cell (p:=⟨D,29,none⟩) (show D<wr.heap.size by have:=yQ.o;omega)).trans (zI.o.cell (p:=⟨D,29,none⟩) (show D<w2.heap.size from yQ.o.2.2.1))).trans acJ.o;clear H3 rE;by_cases h1:xe=ent
    case neg=>
     have h1b:(xe==ent)=false:=by simpa using h1
     have Cx:=H_ (show gJ (b.es.take (j+1)) ent la=gJ (b.es.take j) ent la by rw[HUN.o,if_neg (λh=>h1 h.1)]);clear h1;go_quiet (fail);have gw:=H_ (show Below wr.heap.size wr (W3.drewN nq)from((Fr.ofBelow eA.o).drewN nq).below);generalize W3.drewN nq=w4 at*;go_wp2_with fail;go_roundw
     case rel=>exact⟨j+1,by omega,by go_num,fj,by rw[Cx.o];exact Vp.o,MH.o,bb iI.o gw.o,zI.o.trans (gw.o.mono dW)⟩
     case measure=>first|exact aQ aU|(simp only[intOf];omega)
    case pos=>
    have h1b:(xe==ent)=true:=by simpa using h1
    by_cases h2:xd<=la
    case neg=>
     have h2b:decide (xd<=la)=false:=decide_eq_false h2;have Cx:=H_ (show gJ (b.es.take (j+1)) ent la=gJ (b.es.take j) ent la by rw[HUN.o,if_neg (λh=>h2 h.2)]);clear h1 h2;go_quiet (fail);have gw:=H_ (show Below wr.heap.size wr (W3.drewN nq)from((Fr.ofBelow eA.o).drewN nq).below);generalize W3.drewN nq=w4 at*;go_wp2_with fail;go_roundw
     case rel=>exact⟨j+1,by omega,by go_num,fj,by rw[Cx.o];exact Vp.o,MH.o,bb iI.o gw.o,zI.o.trans (gw.o.mono dW)⟩
     case measure=>first|exact aQ aU|(simp only[intOf];omega)
    case pos=>
    have h2b:decide (xd<=la)=true:=decide_eq_true h2;have Cx:=H_ (show gJ (b.es.take (j+1)) ent la=gJ (b.es.take j) ent la++[x.1] by rw[HUN.o,if_pos ⟨h1,h2⟩]);clear h1 h2;go_quiet (fail);have gw:=H_ (show Below wr.heap.size wr (W3.drewN nq)from((Fr.ofBelow eA.o).drewN nq).below);have HX4:=H_ (show(W3.drewN nq).heap[wr.heap.size]? =some (.cells #[xi,xe,xd,xk,xo,xt,.slice Al nl cl] 51 (0,0))from adQ.o);generalize W3.drewN nq=w4 at*;have Kw:=H_ (bb iI.o gw.o);have abw:=H_ (zI.o.trans (gw.o.mono dW));have yJ:=abw.o.size;clear e1 e2 d29;go_wp2_with (first|(refine W_ 50 51 12 (wr.heap.size) HX4.o aY Tryz.underlying51 ?_)|(at_builtin;go_loud (refine cq _ rfl (.tmp 49) (.tmp 51) 30 rfl w2.heap.size 51 ia _ 7 80 Tryz.underlying30 oR ge gg gh rfl (by decide) u10 fj.length (fj.flatMap bY) rfl (Kw.o.alloc _) (λ_=>True) (some ⟨w4.heap.size,0,none⟩) 1 1 [xi,xe,xd,xk,xo,xt,.slice Al nl cl] rfl (fq (heap_alloc_new _ _) rfl) (by simp[Value.oneCell']) (by simp only[maxLen];omega) (by omega) (by simp;omega) ?_);intro v9 wa cj gk qw));go_roundw
    case rel=>
     refine⟨j+1,by omega,by go_num,fj++[x],by rw[Cx.o,List.map_append,Vp.o];rfl,λy hy=>?_,?_,bK (abw.o.alloc (by omega) _) gk (λq hq=>(Kw.o.lt _ hq).1) (Nat.le_refl _)⟩
     ·rcases List.mem_append.1 hy with hy|hy
      ·exact MH.o y hy
      ·rw[List.mem_singleton]at hy;rw[hy];exact ld.o
     ·rw[List.length_append,List.flatMap_append,List.flatMap_singleton,Rv.o];exact cj
    case measure=>first|exact aQ aU|(simp only[intOf];omega)
   case neg=>
    have bq:¬(j:Int)< (n:Int):=by omega
    have FE:j=n:=by omega
    subst FE;obtain⟨Ao,no,co,rfl⟩:=bS iI.o;obtain rfl:no=fj.length:=fV iI.o;have Xx:=H_ (Tw fj _ w2.heap.size wr iI.o hol dW);go_wp2_with fail;refine Xx.o.mono ?_;rintro e w5 ⟨rfl,L,zM,hpw,Nw,abP,acP⟩;have aaw:=HN.o;have RU:=H_ (show L.map (·.1)=Je b ent p by
     have h1:=Vp.o;rw[<-aaw,List.take_length]at h1;have h2:=Qc (fU _ (ri jI.o.1.2.1)) h1 zM hpw;rw[h2,<-vw.o];rfl)
    have HXL:=H_ (show ∀x∈L,ax w (·<w.heap.size) (bY x) x.1/\x.1∈b.es/\x.1.entity=ent from λx hx=>by
     obtain⟨i,hi⟩:=List.mem_iff_getElem?.1 (MH.o x (zM.mem_iff.1 hx));have h2:=(Lj jI.o.1).1 (by rw[<-RU.o];exact List.mem_map_of_mem hx);exact⟨(Xi.o i x hi).1,h2.1,h2.2.1⟩)
    obtain⟨m,hm⟩:=x_ (fj.length);have HLM:=H_ (show L.length=m by rw[zM.length_eq,hm]);rw[hm]at Nw hol |-;have HLI:=H_ Nw;have nA:=H_ (show Below w2.heap.size w2 w5 from zI.o.trans abP);have l5:=t_ yU nA.o;have acX:=H_ (adH.o.below nA.o);have Nk:=H_ (show I=kH ((L.map (·.1)).flatMap (kx b p)) by rw[RU.o,<-Sn.o];rfl);clear zM hpw Nw abP acP hm aaw Vp MH iI zI Xx;go_wp2_with fail
    go_loopw [13,58] (λv i wr=>∃k:Nat,k<=m/\i=.int .i64 (k:Int)/\ISt b bl ent p D M w5 (m9 b p (L.map (·.1)) k) (k*100000) v wr) (λ_ i _=>m- (intOf i).toNat)
    case atStart=>exact⟨0,by omega,rfl,0,by omega,by simp[m9],acX.o,by simp[m9],World.ownsRow_nil _ _ _ _,Fr.refl _ _⟩
    case round=>
     obtain⟨k,hk,rfl,kW⟩:=hrel;have tA:=H_ kW;have adz:w5.heap.size<=wr.heap.size:=by obtain⟨_,_,_,_,_,_,h⟩:=kW;exact h.size
     have X9:=H_ (show Fr (λq=>q<w5.heap.size/\q≠M) w5 wr by obtain⟨_,_,_,_,_,_,h⟩:=kW;exact h);clear kW;rename World=>U;by_cases aU:k<m
     case neg=>
      have bq:¬(k:Int)< (m:Int):=by omega
      have yW:k=(L.map (·.1)).length:=by rw[List.length_map,HLM.o];omega
      obtain⟨A2,c2,CJ,Rx,vl⟩:=tA.o.done;rw[yW,Ld,<-Nk.o]at CJ Rx vl;subst CJ;have IP:=H_ vl;have YN:=H_ Rx;have HBU:=H_ (show Below w.heap.size w U from((Fr.ofBelow l5.o).trans (X9.o.mono (λq (h:q<w.heap.size)=>⟨Nat.lt_of_lt_of_le h l5.o.size,by have:=yQ.o;omega⟩))).below);obtain⟨I1,I2⟩:=I;simp only;obtain⟨q1,mF⟩:∃q,I1.length=q:=⟨_,rfl⟩;have HQ1:=H_ mF;rw[mF];clear yW Rx vl mF;go_wp2_with fail;go_ret2;exact⟨A2,c2,by rw[show I2=0 from YN.o,HQ1.o];first|done|rfl,IP.o,HBU.o⟩
     case pos=>
     have bq:(k:Int)< (m:Int):=by omega
     have hkL:k<L.length:=by rw[HLM.o];exact aU
     have hli:=HLI.o;rw[<-HLM.o]at hli;obtain⟨b1,o1,VD,YU,hQ1,aaH,yT⟩:=aj.get hli k hkL;have Vm:=List.getElem_mem hkL;have ns:=vZ b p (E:=L.map (·.1)) (k:=k) (by rw[List.length_map];exact hkL);obtain⟨RG,TF⟩:=DS b p (E:=L.map (·.1)) (k:=k) (by rw[List.length_map];exact hkL);rw[List.getElem_map]at ns TF;rw[GI aaH]at yT;obtain⟨Be,QJ,hxn⟩:=HXL.o _ Vm;obtain⟨x,hx⟩:=x_ (L[k]);rw[hx]at yT ns TF Be QJ hxn;subst YU;have⟨xi,xe,xd,xk,xo,xt,Al,nl,cl,FV,kZ⟩:∃xi xe xd xk xo xt Al nl cl,bY x=[.int .i64 xi,.int .i64 xe,.int .i64 xd,.int .i64 xk,.int .i64 xo,.string xt,.slice Al nl cl]/\x.1.lines.length=nl:=⟨_,_,_,_,_,_,_,_,_,rfl,rfl⟩;rw[FV]at yT;have Rv:=H_ FV;have tM:=H_ kZ;have adc:nl<=100000:=by rw[<-kZ];exact(sW.o.2.1.1 _ QJ).2
     have Z4:=H_ ns;have MB:=H_ (And.intro Be (And.intro QJ hxn));have HRG:=H_ TF;obtain⟨G,hG⟩:=x_ (m9 b p (L.map (·.1)) k);rw[hG]at tA Z4 HRG;have eZ:=H_ (show U.rangeAt b1 (o1+k*7) [xi,xe,xd,xk,xo,xt,.slice Al nl cl]from gC yT (X9.o.mono (λq (h:w2.heap.size<=q/\q<w5.heap.size)=>⟨h.2,by have:=yQ.o;omega⟩)));clear yT ns TF Be QJ hxn FV kZ hx Vm hkL hli aaH hQ1 hG;go_upto_region 16 with(first|(refine w_ 61 51 60 b1 (o1+k*7) [xi,xe,xd,xk,xo,xt,.slice Al nl cl] eZ.o aY Tryz.underlying51 ?_)|(show wpList _ _ _ (Oper.mk none (Op.store _ (Operand.tmp 15) _) _ _ _ _::_) _ _;refine aO rfl 51 (.tmp 15) (.tmp 61) rfl rfl U #[(),(),(),(),(),.string ⟨#[]⟩,.slice none 0 0] 51 #[xi,xe,xd,xk,xo,xt,.slice Al nl cl] rfl rfl rfl aY rfl (by simp[Value.oneCell']) ?_;intro W3 H3 eA rE))
     have Kn:=H_ H3;have eA:=H_ eA;have NZ:=H_ (tA.o.below eA.o);have e6:=ab H3 6;clear H3 rE;go_wp2_with fail
     go_loopw [13,65] (λv i wr=>∃j:Nat,j<=nl/\i=.int .i64 (j:Int)/\ISt b bl ent p D M w5 (G++(kx b p x.1).take j) (k*100000+j) v wr/\wr.heap[U.heap.size]? =some (.cells #[xi,xe,xd,xk,xo,xt,.slice Al nl cl] 51 (0,0))) (λ_ i _=>nl- (intOf i).toNat)
     case atStart=>
      refine⟨0,by omega,rfl,?_,?_⟩
      ·rw[List.take_zero,List.append_nil,Nat.add_zero];exact NZ.o
      ·exact Kn.o
     case round=>
      obtain⟨j,hj,rfl,MU,CQ⟩:=hrel;have N1:=H_ MU;have FM:=H_ CQ;clear MU CQ e6;rename World=>Z;by_cases iZ:j<nl
      case neg=>
       have gW:¬(j:Int)< (nl:Int):=by omega
       have HJ:=H_ (show ISt b bl ent p D M w5 (m9 b p (L.map (·.1)) (k+1)) ((k+1)*100000) u13 Z by
        have h:=N1.o;rw[show j=(kx b p x.1).length by rw[fM,tM.o];omega,List.take_length,<-Z4.o]at h;obtain⟨kd,h1,h2,h3⟩:=h;rw[fM,tM.o]at h1 h2;exact⟨kd,by omega,by omega,h3⟩)
       go_wp2_with fail;go_roundw
       case rel=>exact⟨k+1,by omega,by go_num,HJ.o⟩
       case measure=>first|exact aQ aU|(simp only[intOf];omega)
      case pos=>
      have gW:(j:Int)< (nl:Int):=by omega
      obtain⟨kd,yS,fZ,MR,mG,bv,lM⟩:=N1.o;have ML:=H_ mG;have iI:=H_ bv;have HFR:=H_ lM;have Ga:=H_ (show kd<=k*100000+j/\(G++(kx b p x.1).take j).length<=k*100000+j from⟨yS,fZ⟩);have IK:=H_ (show Fr (·<w.heap.size) w Z from(Fr.ofBelow l5.o).trans (lM.mono (λq (h:q<w.heap.size)=>⟨Nat.lt_of_lt_of_le h l5.o.size,by have:=yQ.o;omega⟩)));have RM:j<x.1.lines.length:=by rw[tM.o];exact iZ
      have Sf:=Jb D M kd b bl gl tl Ae Ar ce cr ent p Z ((HK.o.fr IK.o).mono (λq (h:q<w.heap.size)=>⟨Nat.lt_of_lt_of_le h IK.o.size,by have:=yQ.o;omega,by have:=yQ.o;omega⟩)) MR jI.o.1 sW.o jI.o.2.1 jI.o.2.2 x.1 (bY x) j
       (ax.mono (ax.fr MB.o.1 IK.o) (λq (h:q<w.heap.size)=>⟨Nat.lt_of_lt_of_le h IK.o.size,by have:=yQ.o;omega,by have:=yQ.o;omega⟩)) MB.o.2.2 RM (oz jI.o.1 MB.o.2.1) Yf.o (by unfold maxLen;omega)
      rw[Rv.o]at Sf;have IA:=tg b p x.1 RM;have Gt:=pT b p x.1 RM;obtain⟨it,RN⟩:=x_ (jr b x.1 j p);rw[RN]at Sf IA Gt;obtain⟨⟨⟨i1,i2⟩,i3,i4,i5,i6,i7⟩,code⟩:=it;have XH:=H_ Sf;have Nl:=H_ IA;have HGT:=H_ Gt;clear Sf IA Gt RN MR mG bv lM yS fZ RM;go_wp2_with (refine W_ 70 51 15 (U.heap.size) FM.o aY Tryz.underlying51 ?_);refine XH.o.mono ?_;rintro e w6 ⟨rfl,k',Fi,hd6,hf6⟩;have TJ:=H_ hf6;have T6:=H_ (show kD w6 D M k' bl b ent p/\k'<=kd+1 from⟨hd6,Fi⟩);have ga:=H_ (Ti iI.o hf6 (λq hq=>⟨(iI.o.lt q hq).2,by have:=(iI.o.lt q hq).1;have:=yQ.o;have:=nA.o.size;omega⟩));have alt:=H_ ((hf6.block _ ⟨ag FM.o,by have:=yQ.o;have:=nA.o.size;omega⟩).trans FM.o);have FZ:=H_ (HFR.o.trans (hf6.mono (λq (h:q<w5.heap.size/\q≠M)=>⟨Nat.lt_of_lt_of_le h.1 HFR.o.size,h.2⟩)));clear Fi hd6 hf6;go_upto_region 20 with(show wpList _ _ _ (Oper.mk none (Op.store _ (Operand.tmp 17) _) _ _ _ _::_) _ _;refine aO rfl 42 (.tmp 17) (.tmp 73) rfl rfl w6 #[(),(),(),(),(),(),()] 42 #[i1,i2,i3,i4,i5,i6,i7] rfl rfl rfl aP rfl (by simp[Value.oneCell']) ?_;intro W7 H7 em HS7)
      have Da:=H_ H7;have em:=H_ em;clear H7 HS7;by_cases hc:code=0
      case neg=>
       have lS:(code !=0)=true:=by simpa using hc
       have hf:=H_ (show I=(([]:List bW),code) by
        rw[Nk.o,HRG.o];have h1:kx b p x.1=(kx b p x.1).take j++((⟨⟨i1,i2⟩,i3,i4,i5,i6,i7⟩,code):bW × Int)::(kx b p x.1).drop (j+1):=by
         conv=>lhs;rw[<-List.take_append_drop j (kx b p x.1)]
         rw[List.drop_eq_getElem_cons (by rw[fM,tM.o];exact iZ)];have h2:=HGT.o;rw[List.getElem?_eq_getElem (by rw[fM,tM.o];exact iZ)]at h2;rw[Option.some.inj h2]
        rw[h1];have h3:=Ai (m:=(kx b p x.1).drop (j+1)++RG) (i:=((⟨⟨i1,i2⟩,i3,i4,i5,i6,i7⟩,code):bW × Int)) ML.o hc;simp only[List.append_assoc,List.cons_append]at h3 |-;exact h3)
       have Gf:=H_ (show Below w.heap.size w W7 from((IK.o.trans (TJ.o.mono (λq (h:q<w.heap.size)=>⟨Nat.lt_of_lt_of_le h IK.o.size,by have:=yQ.o;omega⟩))).trans ((Fr.ofBelow em.o).mono (λq (h:q<w.heap.size)=>Nat.lt_of_lt_of_le h (Nat.le_trans IK.o.size TJ.o.size)))).below);clear hc;go_wp2_with fail;go_ret2;exact⟨none,0,by rw[hf.o];rfl,by rw[hf.o];exact sr _ _ _ _,Gf.o⟩
      case pos=>
      subst hc;obtain⟨GG,VT⟩:=x_ (G++(kx b p x.1).take j);rw[VT]at ga ML Ga;have R1:=H_ VT;have Xb:GG.length<=10000100000:=by have:=Ga.o.2;have:k*100000<=10000000000:=Nat.mul_le_mul_right 100000 (show k<=100000 by omega);omega
      obtain⟨ng,Xa⟩:=x_ (GG.length);rw[Xa]at ga Xb;have Xw:=H_ Xa;have rF:=H_ (bb ga.o em.o);have QN:w5.heap.size<=W7.heap.size:=Nat.le_trans FZ.o.size em.o.size;clear VT Xa;go_wp2_with (first|(refine W_ 79 42 17 (w6.heap.size) Da.o aP Tryz.underlying42 ?_)|(at_builtin;go_loud (refine cq _ rfl (.tmp 78) (.tmp 80) 63 rfl w5.heap.size 42 ib _ 7 56 Tryz.underlying63 hib X7 Xu XU rfl (by decide) u13 ng ((GG.map (·.1)).flatMap lq) rfl (rF.o.alloc _) (λ_=>True) (some ⟨W7.heap.size,0,none⟩) 1 1 [i1,i2,i3,i4,i5,i6,i7] rfl (fq (heap_alloc_new _ _) rfl) (by simp[Value.oneCell']) (by simp only[maxLen];omega) (by omega) (by simp;omega) ?_);intro v9 wa cj gk qw));go_roundw
      case rel=>
       have hwa:Fr (λq=>q<W7.heap.size/\¬u13.ownBlock=some q) W7 wa:=(((Fr.refl (λq=>q<W7.heap.size) W7).alloc (λ_ h=>h) _).mono (λq h=>h.1)).grown gk (λq h=>h.1) (λq hq h=>h.2 hq);have h67:Fr (λq=>q<w6.heap.size) w6 W7:=Fr.ofBelow em.o;have JS:∀q,u13.ownBlock=some q->w5.heap.size<=q/\q≠U.heap.size:=λq hq=>⟨(rF.o.lt q hq).1,by
        obtain⟨A5,n5,c5,h5⟩:=bS rF.o;have fC:W7.heap[U.heap.size]? =some (.cells #[xi,xe,xd,xk,xo,xt,.slice Al nl cl] 51 (0,0)):=(em.o.block _ (ag alt.o)).trans alt.o;have h:=rF.o;rw[h5]at h hq;exact Jq (T:=51) h (by decide) fC q hq⟩
       refine⟨j+1,by omega,by go_num,⟨k',by have:=T6.o.2;have:=Ga.o.1;omega,?_,?_,?_,?_,?_⟩,?_⟩
       ·rw[Nl.o,<-List.append_assoc,R1.o,List.length_append,Xw.o];have:=Ga.o.2;have:=Xw.o;simp;omega
       ·exact(T6.o.1.below em.o).fr hwa ⟨Nat.lt_of_lt_of_le T6.o.1.lt.1 em.o.size,λh=>by have:=(JS _ h).1;have:=yQ.o;have:=nA.o.size;omega⟩ ⟨Nat.lt_of_lt_of_le T6.o.1.lt.2.1 em.o.size,λh=>by have:=(JS _ h).1;have:=yQ.o;have:=nA.o.size;omega⟩
       ·rw[Nl.o,<-List.append_assoc,R1.o];intro q hq;rcases List.mem_append.1 hq with hq|hq
        ·exact ML.o q hq
        ·rw[List.mem_singleton]at hq;rw[hq]
       ·rw[Nl.o,<-List.append_assoc,R1.o,List.length_append,Xw.o,List.map_append,List.flatMap_append];exact cj
       ·exact(FZ.o.trans (h67.mono (λq (h:q<w5.heap.size/\q≠M)=>Nat.lt_of_lt_of_le h.1 FZ.o.size))).trans (hwa.mono (λq (h:q<w5.heap.size/\q≠M)=>⟨Nat.lt_of_lt_of_le h.1 QN,λe=>by have:=(JS _ e).1;omega⟩))
       ·exact(hwa.block _ ⟨Nat.lt_of_lt_of_le (ag alt.o) em.o.size,λe=>(JS _ e).2 rfl⟩).trans ((em.o.block _ (ag alt.o)).trans alt.o)
      case measure=>first|exact aQ iZ|(simp only[intOf];omega)
theorem j9 {b:XBk} (hf:pI b) (bP:Fb b):okB b:=⟨hf.1.2.2.small,GL hf.1,λr hr=>by have h:r.currency.size<=140737488355327:=bP.2.2 r hr;omega,by have:=hf.2;omega⟩
theorem alg {b:XBk} (hf:pI b):b.es.length<=61/\∀x∈b.es,x.lines.length<=60:=⟨hf.1.2.1,λx hx=>(hf.1.1 x hx).1⟩
theorem ak7 {α β:Type} {f:α->List β} {K:Nat}:∀{l:List α},(∀x∈l,(f x).length<=K)->(l.flatMap f).length<=l.length*K
 |[],_=>by simp
 |x::l,h=>by
  rw[List.flatMap_cons,List.length_append,List.length_cons,Nat.succ_mul];have h1:=h x (List.mem_cons_self ..);have h2:=ak7 (l:=l) (λy hy=>h y (List.mem_cons_of_mem _ hy));omega
theorem te {b:XBk} (hf:pI b) (ent p:Int):aks (pQ b ent p).1:=by
 by_cases h:(pQ b ent p).2=0
 ·obtain⟨hb,hall,he⟩:=rl h;have hv:=(vN hb).1;obtain⟨f1,f2⟩:=alg hf;rw[he];refine⟨λi hi=>?_,?_⟩
  ·obtain⟨x,hx,hi⟩:=List.mem_flatMap.1 hi;obtain⟨j,hj,rfl⟩:=List.mem_map.1 hi;have h0:=hall x hx j (List.mem_range.1 hj);unfold jr at h0 |-;simp only at h0 |-;split
   ·simp
   ·split
    ·simp
    ·exact OQ _ _
  ·have hm:∀x∈Je b ent p,((List.range x.lines.length).map (λj=>(jr b x j p).1)).length<=60:=λx hx=>by
    rw[List.length_map,List.length_range];exact f2 x ((Lj hv).1 hx).1
   have h1:=ak7 hm;have h2:(Je b ent p).length<=b.es.length:=by
    rw[(OY hv ent p).1.length_eq];exact List.length_filter_le _ _
   have h3:(Je b ent p).length*60<=61*60:=Nat.mul_le_mul_right 60 (by omega);omega
 ·rw[ak0 h];exact⟨λi hi=>(by cases hi),by simp⟩
def akn (B L:List bW):List Int × Int:=([-f9 B,f9 B- f9 (L.take B.length),-(f9 L- f9 (L.take B.length)),-f9 L],0)
def akh (b:XBk) (ent p:Int):List Int × Int:=
 if(pQ b ent p).2≠0 then([0,0,0,0],(pQ b ent p).2)
 else if 0<p/\(pQ b ent (p- 1)).2≠0 then([0,0,0,0],(pQ b ent (p- 1)).2)
 else akn (if 0<p then(pQ b ent (p- 1)).1 else[]) (pQ b ent p).1
def exC (l:List Int):List Value:=l.map (λn=> .int .i64 n)
theorem akt {b:XBk} {ent p:Int} (h:(akh b ent p).2=0):∃B,(p<=0->B=[])/\(0<p->pQ b ent (p- 1)=(B,0))/\(pQ b ent p).2=0/\akh b ent p=akn B (pQ b ent p).1:=by
 unfold akh at h |-;split at h
 ·rename_i h1;exact absurd h h1
 rename_i h1;rw[if_neg h1];split at h
 ·rename_i h2;exact absurd h h2.2
 rename_i h2;rw[if_neg h2];refine⟨_,λhp=>if_neg (by omega),λhp=>?_,by simpa using h1,rfl⟩;rw[if_pos hp];have:(pQ b ent (p- 1)).2=0:=by
  have:=λh=>h2 ⟨hp,h⟩
  simpa using this
 exact Prod.ext rfl this
theorem akR {b:XBk} {ent p:Int} {L B0 B:List bW} {le be:Int} (hL:pQ b ent p=(L,le)) (hB0:pQ b ent (p- 1)=(B0,be)) (h:le=0) (hB:(p=0/\B=[])\/(1<=p/\(B0,be)=(B,0))):
 B.length<=L.length/\(∀i (h1:i<B.length) (h2:i<L.length),L[i].date<lJ b.g p/\L[i].ref=B[i].ref)/\∀i (h2:i<L.length),B.length<=i->lJ b.g p<=L[i].date:=by
 subst h;rw[<-hB0]at hB;have h:=akZ (b:=b) (ent:=ent) (p:=p) (B:=B) (by rw[hL]) hB;rw[hL]at h;exact h
theorem alC {g:au} (h:bh g=true) {p:Int} (hp:0<=p/\p<g.calendar.periods):(aX g.calendar.year g.calendar.month g.calendar.periods p).2=0:=by
 have hc:du g.calendar.year g.calendar.month g.calendar.periods=true:=by
  unfold bh at h;simp only[Bool.and_eq_true]at h;exact h.1.1.1.1.2
 unfold aX bo;rw[if_pos hc,if_pos hp];rfl
theorem p7:(Tryz.prog.info? 88).map (·.size)=some 4:=by kernel_rfl
theorem akg {l:List bW} {A:Option Addr} {n c:Nat} {w:World} (hl:ItV w (·<w.heap.size) (.slice A n c) l) (hn:l.length=n) (hs:aks l):∀w2,Below w.heap.size w w2->Calls Tryz.prog 38 #[.slice A n c] w2 (ap w2 (.int .i64 (-f9 l))):=λw2 hb=>by
 subst hn;exact ala l A c w2 (hl.keep hb) hs
theorem ak8 (b:XBk) (bl gl tl:List Value) (Ae Ar:Option Addr) (ce cr:Nat) (ent p:Int) (w:World) (hk:BkC w (·<w.heap.size) bl b gl Ae ce Ar cr tl) (ci:okB b) (lX:cx p) (Od:pI b):Calls Tryz.prog 39 #[.agg bl.toArray,ent,p] w (ap w (.tuple #[.agg (exC (akh b ent p).1).toArray,.int .i64 (akh b ent p).2])):=by
 have HIT:=H_ (λ(w2:World) (hb:Below w.heap.size w w2)=>Qn b bl gl tl Ae Ar ce cr ent p w2 (hk.keep hb) ci lX);have alF:=H_ (λ(hp:0<p) (w2:World) (hb:Below w.heap.size w w2)=>Qn b bl gl tl Ae Ar ce cr ent (p- 1) w2 (hk.keep hb) ci (by unfold cx at lX |-;omega));have kY:=H_ (show bl.toArray.size=27 by have:=hk.len;simpa using this);have xn:=λ(i:Nat) (hi:i<21)=>(show bl.toArray[i]? =gl.toArray[i]? by rw[List.getElem?_toArray,List.getElem?_toArray];exact hk.at_g hi)
 obtain⟨h0,h1,h2,h3,_⟩:=hk.g.cellsA;have jG:=H_ ((xn 1 (by omega)).trans h1);have jv:=H_ ((xn 2 (by omega)).trans h2);have kB:=H_ ((xn 3 (by omega)).trans h3);have VC:=H_ (te Od ent p);have al2:=H_ (te Od ent (p- 1));have alY:=H_ (λ(h:(pQ b ent p).2=0) (w2:World)=>show Calls Tryz.prog 72 #[.agg #[b.g.calendar.year,b.g.calendar.month,b.g.calendar.periods],p] w2 (ap w2 (.tuple #[(lJ b.g p),()])) by
  obtain⟨eU,_,iA⟩:=vN (rl h).1;have h:=vP b.g.calendar.year b.g.calendar.month b.g.calendar.periods p w2
  rwa[show(aX b.g.calendar.year b.g.calendar.month b.g.calendar.periods p).2=0 from alC eU.1 iA]at h)
 have Yf:=H_ lX;have amk:=H_ (λ(h:(pQ b ent p).2=0)=>(vN (rl h).1).2.2);obtain⟨R,hR⟩:=x_ (akh b ent p);rw[hR];have hRE:=hR;unfold akh at hRE;unfold rX at HIT alF;obtain⟨L,le,hL⟩:∃L le,pQ b ent p=(L,le):=⟨_,_,rfl⟩;simp only[hL]at HIT VC alY amk hRE;obtain⟨B0,be,hB⟩:∃B be,pQ b ent (p- 1)=(B,be):=⟨_,_,rfl⟩;simp only[hB]at alF al2 hRE;have alZ:=H_ (λ(B:List bW) (h:le=0) hBB=>akR hL hB (B:=B) h hBB);obtain⟨fd,hfd⟩:∃x,lJ b.g p=x:=⟨_,rfl⟩;rw[hfd]at alZ alY;have yP:=H_ hRE;obtain⟨q,hq⟩:=x_ (L.length);rw[hq]at HIT;have HQ:=H_ hq;clear hk ci lX Od xn h0 h1 h2 h3 hR hRE hL hB hfd hq;go_enter Tryz.func39,Tryz.ntmps39;go_upto_region 1 with fail;obtain⟨W1,cS,H1,bC,dr,ewx⟩:=B_ w (.cells bl.toArray 36);rw[cS];clear ewx;have yN:=H_ (show W1.heap.size=w.heap.size+1 by rw[<-cS];simp);clear cS;obtain⟨W2,fR,H2,dz,jK,ewx⟩:=B_ W1 (.cells #[(),(),(),()] 88);rw[fR];clear ewx;clear fR;have Vr:=H_ (bC.trans (dz.mono bC.size));have rP:=H_ ((dz.block _ dr).trans H1);have qN:=H_ (show W2.heap[w.heap.size+1]? =some (.cells #[(),(),(),()] 88 (0,0)) by rw[<-yN.o];exact H2);clear H1 H2 bC dz dr jK;go_wp2_with (refine W_ 18 36 3 (w.heap.size) rP.o (by rw[bF];exact congrArg some kY.o.symm) Tryz.underlying36 ?_);refine(HIT.o W2 Vr.o).mono ?_;rintro e w3 ⟨A3,c3,rfl,hl3,aZ⟩;have Bw:=H_ hl3;have NO:=t_ Vr aZ;have iY:=k_ aZ rP;have l7:=k_ aZ qN;clear aZ hl3;by_cases h0:le=0
 case neg=>
  have h0b:(le !=0)=true:=by simpa using h0
  have hf:=H_ (show R=(([0,0,0,0]:List Int),le) by rw[<-yP.o,if_pos h0]);clear h0;go_wp2_with (show wpList _ _ _ (Oper.mk none (Op.store _ (Operand.tmp 6) _) _ _ _ _::_) _ _;go_loud (refine wpList_store_row rfl 88 (.tmp 6) (.tmp 26) rfl (w.heap.size+1) #[(),(),(),()] rfl rfl 88 #[(),(),(),()] l7.o p7 rfl (by simp[Value.oneCell']) ?_));refine bodyPost_ret (v:=.tuple #[.agg #[(),(),(),()],le]) (aA rfl _ _ (w.heap.size+1) 88 #[(),(),(),()] (0,0) _ rfl (aB l7.o _) Tryz.underlying88 rfl p7 _ rfl) rfl ?_;exact⟨by rw[hf.o];rfl,aD NO.o (by omega) _⟩
 case pos=>
 subst h0;have ny:=H_ (alY.o rfl);have HPK:=H_ (amk.o rfl);have hre:=yP.o;rw[if_neg (by simp)]at hre;have h0p:=HPK.o.1;have sU:=H_ hre;clear hre yP
 go_upto_if 29 with fail
 go_cut [9,10]from 29 to 41 (λv9 v10 wx=>∃(AB:Option Addr) (m cB:Nat) (B:List bW),v10=.slice AB m cB/\ItV wx (·<wx.heap.size) (.slice AB m cB) B/\B.length=m/\aks B/\((p=0/\B=[])\/(1<=p/\(B0,be)=(B,0)))/\R=akn B L/\Below w3.heap.size w3 wx)
 case first=>
  by_cases hp:0<p
  case neg=>
   have hpz:p=0:=by have:=HPK.o.1;omega
   have HRN:=H_ (show R=akn [] L by
    have h:=sU.o;rw[if_neg (λh=>hp h.1),if_neg hp]at h;exact h.symm)
   have HPZ:=H_ hpz;clear hpz h0p;go_wp2_with fail;go_meet;exact⟨none,0,0,[],rfl,sr _ _ _ _,rfl,⟨λx h=>(by cases h),by simp⟩,.inl ⟨HPZ.o,rfl⟩,HRN.o,Below.refl _ _⟩
  case pos=>
   have hwp:IntKind.i64.wrap (p- 1)=p- 1:=by rw[IntKind.wrap_i64];have:=HPK.o;have:=Yf.o;unfold cx at*;omega
   have HPP:=H_ hp;clear h0p;go_wp2_with (refine W_ 31 36 3 (w.heap.size) iY.o (by rw[bF];exact congrArg some kY.o.symm) Tryz.underlying36 ?_);refine(alF.o HPP.o w3 NO.o).mono ?_;rintro e w4 ⟨A4,c4,rfl,Fg,bU⟩;have Z5:=H_ Fg;have zn:=t_ NO bU;have i9:=k_ bU iY;have kX:=k_ bU l7;have gw:=H_ bU;clear bU Fg;by_cases h1:be=0
   case neg=>
    have h1b:(be !=0)=true:=by simpa using h1
    have hf:=H_ (show R=(([0,0,0,0]:List Int),be) by rw[<-sU.o,if_pos ⟨HPP.o,h1⟩]);clear h1;go_wp2_with (show wpList _ _ _ (Oper.mk none (Op.store _ (Operand.tmp 6) _) _ _ _ _::_) _ _;go_loud (refine wpList_store_row rfl 88 (.tmp 6) (.tmp 40) rfl (w.heap.size+1) #[(),(),(),()] rfl rfl 88 #[(),(),(),()] kX.o p7 rfl (by simp[Value.oneCell']) ?_));refine bodyPost_ret (v:=.tuple #[.agg #[(),(),(),()],be]) (aA rfl _ _ (w.heap.size+1) 88 #[(),(),(),()] (0,0) _ rfl (aB kX.o _) Tryz.underlying88 rfl p7 _ rfl) rfl ?_;exact⟨by rw[hf.o];rfl,aD zn.o (by omega) _⟩
   case pos=>
    subst h1;have HRN:=H_ (show R=akn B0 L by
     have h:=sU.o;rw[if_neg (λh=>h.2 rfl),if_pos HPP.o]at h;exact h.symm)
    go_wp2_with fail;go_meet;exact⟨A4,_,c4,B0,rfl,Z5.o,rfl,al2.o,.inr ⟨by have:=HPP.o;omega,rfl⟩,HRN.o,gw.o⟩
 case rest=>
 obtain⟨AB,m,cB,B,rfl,hlb,hm,Bi,hBB,hre,Vs⟩:=hcut;have HM:=H_ hm;have Dd:=H_ Bi;have jD:=H_ hlb;have Kq:=H_ hre;obtain⟨s1,s2,s3⟩:=alZ.o B (by trivial) hBB;have HSP:=H_ (And.intro s2 s3);have HMQ:=H_ (show m<=q by rw[<-HM.o,<-HQ.o];exact s1);have Bw:=H_ (Bw.o.keep Vs);have HWc:=t_ NO Vs;have ajR:=k_ Vs iY;have HZc:=k_ Vs l7;clear hm Bi hlb hre s1 s2 s3 hBB Vs sU alF al2 alZ h0p;have lT:=H_ (dg ajR.o jG.o jv.o kB.o);go_wp2_with (refine w_ 45 23 44 w.heap.size (1) _ lT.o bV Tryz.underlying23 ?_);refine(ny.o wc).mono ?_;rintro e w8 ⟨rfl,jX⟩;have al4:=H_ (jD.o.keep jX);have amh:=H_ (Bw.o.keep jX);have HW8:=t_ HWc jX;have NJ:=k_ jX ajR;have Nv:=k_ jX HZc;clear jX;go_wp2_with fail
 go_loopw [12,13,14,56] (λva vb vk vi wr=>∃i k:Nat,i<=q/\(i<=m->k=i)/\(m<=i->k=m)/\vi=.int .i64 (i:Int)/\vk=.int .i64 (k:Int)/\va=.int .i64 (f9 (B.take k) - f9 (L.take k))/\vb=.int .i64 (-(f9 (L.take i) - f9 (L.take k)))/\Below w8.heap.size w8 wr) (λ_ _ _ i _=>q- (intOf i).toNat)
 case atStart=>exact⟨0,0,by omega,λ_=>rfl,λh=>by omega,rfl,rfl,by simp[f9],by simp[f9],Below.refl _ _⟩
 case round=>
  obtain⟨i,k,hi,Dm,Iv,rfl,rfl,rfl,rfl,hb⟩:=hrel;have zI:=H_ hb;have hsr:=hb.size;clear hb;by_cases aU:i<q
  case neg=>
   have bq:¬(i:Int)< (q:Int):=by omega
   have hiq:i=L.length:=by rw[HQ.o];omega
   have yW:k=m:=Iv (by have:=HMQ.o;omega);have Dd:=H_ (akg al4.o HM.o Dd.o);have VC:=H_ (akg amh.o HQ.o VC.o);obtain⟨s1,tC⟩:∃s,f9 (B.take k) - f9 (L.take k)=s:=⟨_,rfl⟩;obtain⟨s2,dW⟩:∃s,-(f9 (L.take i) - f9 (L.take k))=s:=⟨_,rfl⟩;obtain⟨s3,lE⟩:∃s,-f9 B=s:=⟨_,rfl⟩;obtain⟨s4,yJ⟩:∃s,-f9 L=s:=⟨_,rfl⟩;have HV:=H_ (show akn B L=([s3,s1,s2,s4],0) by
    unfold akn;rw[<-tC,<-dW,<-lE,<-yJ,hiq,yW,List.take_length,<-HM.o,List.take_length])
   rw[tC,dW];rw[lE]at Dd;rw[yJ]at VC;clear Dm Iv hiq yW tC dW lE yJ;have HW9:=t_ HW8 zI.o;have ad2:=k_ zI.o NJ;have HZ9:=k_ zI.o Nv;go_wp2_with fail;refine(Dd.o wr zI.o).mono ?_;rintro e w10 ⟨rfl,abV⟩;have al7:=H_ (zI.o.trans (abV.mono hsr));have ahj:=t_ HW9 abV;have ag5:=k_ abV ad2;have amm:=k_ abV HZ9;clear abV;go_wp2_with fail;refine(VC.o w10 al7.o).mono ?_;rintro e w11 ⟨rfl,Np⟩;have ahi:=t_ ahj Np;have ahG:=k_ Np ag5;have ami:=k_ Np amm;clear Np;go_wp2_with (show wpList _ _ _ (Oper.mk none (Op.store _ (Operand.tmp 6) _) _ _ _ _::_) _ _;go_loud (refine wpList_store_row rfl 88 (.tmp 6) (.tmp 102) rfl (w.heap.size+1) #[s3,s1,s2,s4] rfl rfl 88 #[(),(),(),()] ami.o p7 rfl (by simp[Value.oneCell']) ?_));refine bodyPost_ret (v:=.tuple #[.agg #[s3,s1,s2,s4],()]) (aA rfl _ _ (w.heap.size+1) 88 #[s3,s1,s2,s4] (0,0) _ rfl (aB ami.o _) Tryz.underlying88 rfl p7 _ rfl) rfl ?_;exact⟨by rw[Kq.o,HV.o];rfl,aD ahi.o (by omega) _⟩
  case pos=>
  have bq:(i:Int)< (q:Int):=by omega
  have hiL:i<L.length:=by rw[HQ.o];exact aU
  have TM:=amh.o;obtain⟨b1,o1,VD,YU,hQ1,aaH,yT⟩:=aj.get TM i hiL;rw[GI aaH]at yT;have IV:=ake hiL;obtain⟨hx1,hx2⟩:(∀h:i<B.length,L[i].date<fd/\L[i].ref=B[i].ref)/\(B.length<=i->fd<=L[i].date):=⟨λh=>HSP.o.1 i h hiL,λh=>HSP.o.2 i hiL h⟩;have zD:=KG VC.o i (by omega);have alI:=KG VC.o (i+1) (by omega);have hbk:=KG VC.o k (by have:=HMQ.o;have:=HQ.o;omega);have dA:=KG Dd.o k (by have:=HM.o;omega);have m4:=VC.o.1 _ (List.getElem_mem hiL);have hq6:L.length<=1000000:=VC.o.2;have hm6:B.length<=1000000:=Dd.o.2;obtain⟨x,hx⟩:=x_ (L[i]);rw[hx]at yT IV hx1 hx2 m4;subst YU;obtain⟨⟨i1,i2⟩,i3,i4,i5,i6,i7⟩:=x;simp only at IV hx2 m4;have eZ:=H_ (show wr.rangeAt b1 (o1+i*7) [i1,i2,i3,i4,i5,i6,i7]from gC yT ((Fr.ofBelow zI.o)));clear TM aaH yT hQ1 hx;go_upto_region 16 with(first|(refine w_ 59 42 58 b1 (o1+i*7) [i1,i2,i3,i4,i5,i6,i7] eZ.o aP Tryz.underlying42 ?_)|(show wpList _ _ _ (Oper.mk none (Op.store _ (Operand.tmp 16) _) _ _ _ _::_) _ _;refine aO rfl 42 (.tmp 16) (.tmp 59) rfl rfl wr #[(),(),(),(),(),(),()] 42 #[i1,i2,i3,i4,i5,i6,i7] rfl rfl rfl aP rfl (by simp[Value.oneCell']) ?_;intro W3 H3 eA rE))
  have TQ:=H_ H3;have eA:=H_ eA;have x5:=ab H3 5;have x6:=ab H3 6;clear H3 rE;by_cases sO:i<m
  case neg=>
   have yW:k=m:=Iv (by omega);have Fs:fd<=i6:=hx2 (by rw[HM.o];omega);have amA:decide (i6≥fd)=true:=decide_eq_true Fs;obtain⟨S1,hS1⟩:∃S,f9 (L.take i)=S:=⟨_,rfl⟩;obtain⟨S2,hS2⟩:∃S,f9 (L.take k)=S:=⟨_,rfl⟩;obtain⟨S3,hS3⟩:∃S,f9 (L.take (i+1))=S:=⟨_,rfl⟩;obtain⟨S0,hS0⟩:∃S,f9 (B.take k) - S2=S:=⟨_,rfl⟩;rw[hS1,hS3]at IV;rw[hS1]at zD;rw[hS2]at hbk;rw[hS3]at alI;rw[hS1,hS2,hS0];have CB:=H_ (show f9 (L.take k)=S2/\f9 (L.take (i+1))=S3/\f9 (B.take k) - S2=S0 from⟨hS2,hS3,hS0⟩);have Fh:IntKind.i64.wrap (-(S1- S2) - i7)= -(S3- S2):=by rw[IntKind.wrap_i64];omega
   have HKK:=H_ yW;clear hx1 hx2 Fs m4 hS1 hS2 hS3 hS0 IV zD alI hbk dA Dm Iv;clear yW;go_wp2_with fail;go_roundw
   case rel=>exact⟨i+1,k,by omega,λh=>by omega,λ_=>HKK.o,by go_num,rfl,by rw[CB.o.1,CB.o.2.2],by rw[CB.o.1,CB.o.2.1],zI.o.trans (eA.o.mono hsr)⟩
   case measure=>first|exact aQ aU|(simp only[intOf];omega)
  case pos=>
   have hki:k=i:=Dm (by omega);subst hki;have hkB:k<B.length:=by rw[HM.o];exact sO
   obtain⟨Fq,Re⟩:=hx1 hkB;have Fq:i6<fd:=Fq;have amA:decide (i6≥fd)=false:=decide_eq_false (by omega);have Bi:=ake hkB;have al5:=KG Dd.o (k+1) (by omega);have hlb:=al4.o;obtain⟨b2,o2,cs2,hA2,hQ2,agv,dt⟩:=aj.get hlb k hkB;rw[GI agv]at dt;obtain⟨y,hy⟩:=x_ (B[k]);rw[hy]at dt Bi Re;obtain⟨⟨j1,j2⟩,j3,j4,j5,j6,j7⟩:=y;simp only[DC.mk.injEq]at Bi Re;obtain⟨rfl,rfl⟩:=Re;subst hA2;have ak9:=H_ (zI.o.trans (eA.o.mono hsr));have Ki:=H_ (λ(w2:World) (hS:Below W3.heap.size W3 w2)=>show w2.rangeAt b2 (o2+k*7) [i1,i2]from λj v hj=>gC dt (Fr.ofBelow (ak9.o.trans (hS.mono ak9.o.size))) j v (by
    rcases j with _|_|j
    ·exact hj
    ·exact hj
    ·simp at hj))
   have HRX:=H_ (λ(w2:World) (hS:Below W3.heap.size W3 w2)=>show w2.rangeAt wr.heap.size 0 [i1,i2]from ag3 ((hS.block _ (ag TQ.o)).trans TQ.o) 0 _ (λj v hj=>by
    rw[Nat.zero_add];rcases j with _|_|j
    ·exact hj
    ·exact hj
    ·simp at hj))
   have dK:=H_ (λ(w2:World) (hS:Below W3.heap.size W3 w2)=>show w2.cell? ⟨b2,o2+k*7+6,none⟩=some (.int .i64 j7)from(dt.fr (Fr.ofBelow (ak9.o.trans (hS.mono ak9.o.size)))).c (j:=6) rfl);obtain⟨S1,hS1⟩:∃S,f9 (L.take k)=S:=⟨_,rfl⟩;obtain⟨T1,hT1⟩:∃S,f9 (B.take k)=S:=⟨_,rfl⟩;obtain⟨S3,hS3⟩:∃S,f9 (L.take (k+1))=S:=⟨_,rfl⟩;obtain⟨T3,hT3⟩:∃S,f9 (B.take (k+1))=S:=⟨_,rfl⟩;rw[hS1,hS3]at IV;rw[hT1,hT3]at Bi;rw[hS1]at zD;rw[hT1]at dA;rw[hS3]at alI;rw[hT3]at al5;have hbj: -1000000000000<=i7/\i7<=1000000000000:=m4;rw[hS1,hT1];have CB:=H_ (show f9 (L.take (k+1))=S3/\f9 (B.take (k+1))=T3 from⟨hS3,hT3⟩);have amv:IntKind.i64.wrap (T1- S1- i7)=T1- S1- i7:=by rw[IntKind.wrap_i64];omega
   have amy:=H_ (show IntKind.i64.wrap (T1- S1- i7+j7)=T3- S3 by rw[IntKind.wrap_i64];omega);have HKM:=H_ (show decide ((k:Int)< (m:Int))=true from decide_eq_true (by omega));have HKL:=H_ (show(k:Int)< (m:Int) by omega);have amK:(k:Int)< (m:Int):=by omega
   have QV:=H_ (show IntKind.i64.wrap ((k:Int)+1)=(k:Int)+1 by rw[IntKind.wrap_i64];omega);have hz: -(S1- S1)=(0:Int):=by omega
   rw[hz];clear hx1 hx2 Fq m4 hS1 hS3 hT1 hT3 IV Bi zD alI hbk dA al5 Dm Iv hlb agv dt hQ2 hy hbj hkB hz;go_upto_region 19 with fail;refine bk (Ks W3 [(k:Int),.val (.slice (some ⟨b2,o2,none⟩) m cB),(m:Int),true,true,.val (.slice (some ⟨b2,o2,none⟩) m cB),(k:Int),.val (.pointer (some ⟨b2,o2+k*7,none⟩)),.val (.pointer (some ⟨b2,o2+k*7,none⟩)),.val (.agg #[i1,i2]),.val (.pointer (some ⟨wr.heap.size,0,none⟩)),.val (.agg #[i1,i2]),true,true])
    (λw'=>Below W3.heap.size W3 w') K_ K_ K_ (Below.refl _ _).drew ?_ ?_
   ·refine⟨b_ (q_ 14),b_ (q_ 10),b_ (p_ 1 73),?_,b_ (p_ 3 75),f_ (q_ 10),f_ (q_ 14),g_ (p_ 5 77) (p_ 6 78),f_ (p_ 7 79),?_,f_ (q_ 16),?_,g_ (p_ 9 81) (p_ 11 83),c_ (p_ 4 76) (p_ 12 84),trivial⟩
    ·intro _ A0 w2 hI hd hnd K hK;have e0:=hI.p hd 0 72;have e1:=hI.p hd 2 74;have hS:=hI.world;have yW:=HKM.o;exact hI.z hK
    ·refine P1_ (p_ 8 80) λA0 w2 K e0 hS hK=>?_;have aJ:w2.rangeAt b2 (o2+k*7) [i1,i2]:=Ki.o _ hS;have aI:=Eg;refine wp_load_mid 38 (.tmp 80) rfl _ _ (v_ e0) _ _ aJ Tryz.underlying38 rfl aI ?_;exact kq hK hS rfl
    ·refine P1_ (p_ 10 82) λA0 w2 K e0 hS hK=>?_;have aJ:w2.rangeAt wr.heap.size 0 [i1,i2]:=HRX.o _ hS;have aI:=Eg;refine wp_load_mid 38 (.tmp 82) rfl _ _ (v_ e0) _ _ aJ Tryz.underlying38 rfl aI ?_;exact kq hK hS rfl
   ·intro _ A0 w2 hI hall;have hS:=hI.world;have c9:=hI.ch hall [72,73,74,75,76,77,78,79,80,81,82,83,84,85];obtain⟨x0,x1,x2,x3,x4,x5,x6,x7,x8,x9,dN,ef,fh,gU,hA,hV⟩:=c9;obtain rfl:gU=.bool true:=hV 13 _ _ rfl _ rfl;clear hV hI hall;simp only[ba,List.foldl,List.setIfInBounds_toArray,List.set_cons_zero,List.set_cons_succ]at hA;rw[hA];clear hA;have c6:=dK.o _ hS;have HBN:=t_ ak9 hS;have amJ:=amy.o;clear hS amv;go_wp2_with fail;go_roundw
    case rel=>exact⟨k+1,k+1,by omega,λ_=>rfl,λh=>by omega,by go_num,by go_num,by rw[CB.o.1,CB.o.2],by rw[CB.o.1];simp,HBN.o⟩
    case measure=>first|exact aQ aU|(simp only[intOf];omega)
end Go.Proofs.YtibiddakakgakaaGreat
