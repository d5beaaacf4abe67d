/- sorted of the reference. Written by gen_r12.py. -/
import Derived.Test.YtibiddakakgakaaGreatQeY13R9
set_option linter.unusedVariables false
set_option linter.unusedSimpArgs false
set_option maxRecDepth 4000
attribute [local go_sem ↓] Go.wp_at_zero Go.wp_at_succ
set_option maxHeartbeats 16000000
namespace Go.Proofs.YtibiddakakgakaaGreat
open Go Go.RowKit
theorem GO {α:Type} {f:α->List Value} {sz:Nat} (hf:∀x,(f x).length=sz) (l:List α) (k:Nat):(l.flatMap f).take (k*sz)=(l.take k).flatMap f:=by
 induction l generalizing k with
 |nil=>simp
 |cons x l ih=>
  cases k with
  |zero=>simp
  |succ k=>
   rw[List.flatMap_cons,List.take_succ_cons,List.flatMap_cons,Nat.succ_mul,Nat.add_comm,<-hf x,List.take_length_add_append,hf x,ih]
theorem GN {α:Type} {f:α->List Value} {sz:Nat} (hf:∀x,(f x).length=sz) (l:List α) (k:Nat):(l.flatMap f).drop (k*sz)=(l.drop k).flatMap f:=by
 induction l generalizing k with
 |nil=>simp
 |cons x l ih=>
  cases k with
  |zero=>simp
  |succ k=>
   rw[List.flatMap_cons,List.drop_succ_cons,Nat.succ_mul,Nat.add_comm,<-hf x,List.drop_length_add_append,hf x,ih]
theorem aev (l:List jS):∀u∈l.flatMap bY,u.oneCell'=true:=λu hu=>by
 obtain⟨x,_,hx⟩:=List.mem_flatMap.1 hu;simp[bY]at hx;rcases hx with rfl|rfl|rfl|rfl|rfl|rfl|rfl<;>rfl
def BB (W:World) (cells:List Value) (v:Value) (w:World):Prop:=∃g,v=.slice (some ⟨g,0,none⟩) 1 1/\W.heap.size<=g/\w.heap[g]? =some (.cells cells.toArray 51 (0,0))
theorem BB.keep (W:World) (cells:List Value):∀v w w',Below w.heap.size w w'->BB W cells v w->BB W cells v w':=λv w w' hb ⟨g,e,h1,h2⟩=>⟨g,e,h1,(hb.block g (ag h2)).trans h2⟩
theorem BB.grow {W w w':World} {cells:List Value} {v:Value} {row:Option Nat} (h:BB W cells v w) (hg:w.grownBy w' row) (hr:∀q,row=some q->q<W.heap.size):BB W cells v w':=by
 obtain⟨g,e,h1,h2⟩:=h;exact⟨g,e,h1,(hg.block g (ag h2) (λe=>by have:=hr g e.symm;omega)).trans h2⟩
def PE (V:World) (base:Nat) (v0:Value) (n:Nat) (cf:List Value) (v:Value) (w:World):Prop:=∃W3,Fr (λq=>q<V.heap.size/\v0.ownBlock≠some q) V W3/\w.ownsRow base 51 7 v n cf/\W3.grownBy w v0.ownBlock/\(v.ownBlock=v0.ownBlock\/v.ownBlock=some W3.heap.size)
theorem PE.keep (V:World) (base:Nat) (v0:Value) (n:Nat) (cf:List Value):∀v w w',Below w.heap.size w w'->PE V base v0 n cf v w->PE V base v0 n cf v w':=λv w w' hb ⟨W3,h1,h3,h4,h5⟩=>⟨W3,h1,bb h3 hb,h4.andThen ((fL hb).but _) (λj hj=> .inr hj),h5⟩
theorem Zl {w:World} {base g n c:Nat} {T:TypeId} {AL:List jS} (h:w.ownsRow base T 7 (.slice (some ⟨g,0,none⟩) n c) n (AL.flatMap bY)) (j:Nat) (hj:j<AL.length):At w (·<w.heap.size) ⟨g,j*7,none⟩ (bY AL[j]):=by
 have h1:=qU (Q:=(·<w.heap.size)) (sz:=7) bY (λ_=>rfl) AL 0 (xN h (h.lt g rfl).2) j AL[j] (List.getElem?_eq_getElem hj);rw[Nat.zero_add]at h1;exact h1
theorem Ji {x:ak}:∀{L:List ak} {k:Nat},k<=L.length->(∀j (hj:j<L.length),j<k->ltX L[j] x)->(∀h:k<L.length,¬ltX L[k] x)->oT x L=L.take k++x::L.drop k
 |[],k,hk,_,_=>by
  have:k=0:=by simpa using hk
  subst this;rfl
 |y::L,0,_,_,h2=>by
  rw[sj,if_neg (show ¬ltX y x from h2 (by simp))];rfl
 |y::L,k+1,hk,h1,h2=>by
  rw[sj,if_pos (show ltX y x from h1 0 (by simp) (by omega)),Ji (k:=k) (by simpa using hk) (λj hj m7=>h1 (j+1) (by simpa using hj) (by omega)) (λh=>h2 (by simpa using h))];rfl
def Dx (R:List ak) (w:World) (e:Ending) (w':World):Prop:=∃(A:Option Addr) (c:Nat),e=.returned (.slice A R.length c)/\aj ax 7 w' (·<w'.heap.size) [.slice A R.length c] R/\Below w.heap.size w w'
theorem Mc (l:List ak) (A:Option Addr) (c:Nat) (w:World) (hl:aj ax 7 w (·<w.heap.size) [.slice A l.length c] l) (hn:l.length<=100000):Calls Tryz.prog 62 #[.slice A l.length c] w (Dx (jV l) w):=by
 obtain⟨ia,oR,ge,gg,gh⟩:=info_parts ll;obtain⟨zC,Bq,TW⟩:=pX hl;have TQ:=H_ Bq;have Xi:=H_ TW;obtain⟨n,bj⟩:=x_ (l.length);have HN:=H_ bj;have Bc:=H_ (show zC.length=n by rw[<-bj,<-Bq,List.length_map]);rw[bj]at hn |-;clear hl Bq TW bj;go_enter Tryz.func62,Tryz.ntmps62;go_wp2_with fail
 go_loopw [3,4] (λv i wr=>∃k:Nat,k<=n/\i=.int .i64 (k:Int)/\Below w.heap.size w wr/\∃fj:List jS,fj.map (·.1)=jV (l.take k)/\(∀x∈fj,x∈zC)/\wr.ownsRow w.heap.size 51 7 v fj.length (fj.flatMap bY)) (λ_ i _=>n- (intOf i).toNat)
 case atStart=>exact⟨0,by omega,rfl,Below.refl _ _,[],rfl,by simp,World.ownsRow_nil _ _ _ _⟩
 case round=>
  obtain⟨k,hk,rfl,QA,AL,Gr,hox,bv⟩:=hrel;have Vp:=H_ Gr;have MH:=H_ hox;have HB:=H_ QA;obtain⟨Aa,na,ca,rfl⟩:=bS bv;obtain rfl:na=AL.length:=fV bv;obtain⟨na,Ix⟩:=x_ (AL.length);rw[Ix]at bv |-;have Rm:=H_ Ix;have aeO:na<=100000:=by
   have h1:=congrArg List.length Gr;rw[List.length_map,Ix]at h1;have h2:∀L:List ak,(jV L).length<=L.length:=λL=>by
    have h3:∀(L O:List ak),(L.foldl (λo x=>oT x o) O).length=O.length+L.length:=by
     intro L
     induction L with
     |nil=>intro O;rfl
     |cons y L ih=>
      intro O;rw[List.foldl_cons,ih,(sl y O).length_eq,List.length_cons,List.length_cons];omega
    unfold jV;rw[h3];simp
   have h4:=h2 (l.take k);rw[List.length_take]at h4;omega
  have tz:=H_ bv;have CO:=QA.size;clear Gr hox bv QA Ix;by_cases aU:k<n
  case pos=>
   have bq:(k:Int)< (n:Int):=by omega
   have lO:k<zC.length:=by rw[Bc.o];exact aU
   have bI:k<l.length:=by rw[HN.o];exact aU
   obtain⟨Be,b,o,Ms,aS⟩:=Xi.o k zC[k] (List.getElem?_eq_getElem lO);have jB:=List.getElem_mem lO;have rQ:l[k]=zC[k].1:=by
    have h:=TQ.o;subst h;simp
   have kW:jV (l.take (k+1))=oT zC[k].1 (AL.map (·.1)):=by
    rw[List.take_add_one,List.getElem?_eq_getElem bI,Option.toList_some,Ij,Vp.o,rQ]
   obtain⟨x,hx⟩:=x_ (zC[k]);rw[hx]at Be aS jB kW;subst Ms;have⟨xi,xe,xd,xk,xo,xt,Al,nl,cl,FV,hei,VG⟩:∃xi xe xd xk xo xt Al nl cl,bY x=[.int .i64 xi,.int .i64 xe,.int .i64 xd,.int .i64 xk,.int .i64 xo,.string xt,.slice Al nl cl]/\x.1.id=xi/\x.1.date=xd:=⟨_,_,_,_,_,_,_,_,_,rfl,rfl,rfl⟩;rw[FV]at aS;have Rv:=H_ FV;have ld:=H_ jB;have tA:=H_ kW;have HED:=H_ (And.intro hei VG);have zg:=H_ aS;clear Be aS jB kW FV hx rQ hei VG bI lO;rename World=>U;go_wp2_with fail
   go_loopw [5] (λi wr2=>∃at_:Nat,at_<=na/\i=.int .i64 (at_:Int)/\Below U.heap.size U wr2/\∀j (hj:j<AL.length),j<at_->ltX AL[j].1 x.1) (λi _=>na- (intOf i).toNat)
   case atStart=>exact⟨0,by omega,rfl,Below.refl _ _,λj hj h=>by omega⟩
   case round=>
    obtain⟨at_,Rq,rfl,hbV,hall⟩:=hrel;have TY:=H_ hall;rename World=>V;have Xf:=H_ hbV;have X4:=H_ (bb tz.o hbV);have aaC:=t_ HB hbV;obtain⟨G,hG⟩:=x_ (decide (at_<na/\∀h:at_<AL.length,ltX AL[at_].1 x.1));have HG:=H_ hG;have YP:=(zg.o.fr (Fr.ofBelow aaC.o));have l0:V.cell? ⟨b,o+k*7,none⟩=some (.int .i64 xi):=by have h:=YP.c (j:=0) rfl;simpa using h
    have l2:V.cell? ⟨b,o+k*7+2,none⟩=some (.int .i64 xd):=YP.c (j:=2) rfl;clear hbV hall hG YP;go_upto_region 6 with fail
    go_cut [55]from 13 to 55 (λv wx=>v=.bool G/\Below V.heap.size V wx)
    case first=>
     by_cases iZ:at_<na
     case pos=>
      obtain⟨gA,ca',aa9,hgA,ad0⟩:=X4.o.form (by omega);simp only[Value.slice.injEq,true_and]at aa9;obtain⟨rfl,rfl⟩:=aa9;have vn:at_<AL.length:=by rw[Rm.o];exact iZ
      have RS:=Zl X4.o at_ vn;have hgx:G=decide (ltX AL[at_].1 x.1):=by rw[<-HG.o];exact decide_eq_decide.2 ⟨λh=>h.2 vn,λh=>⟨iZ,λ_=>h⟩⟩
      obtain⟨y,hy⟩:=x_ (AL[at_]);rw[hy]at RS hgx;obtain⟨⟨yi,ye,yd,yk,yo,yt,ys⟩,Ay,cy⟩:=y;have HGY:=H_ (show G=decide (yd<xd\/yd=xd/\yi<xi) by rw[hgx,<-HED.o.1,<-HED.o.2];rfl);have y0:V.cell? ⟨gA,at_*7,none⟩=some (.int .i64 yi):=by have h:=RS.c (j:=0) rfl;simpa using h
      have y2:V.cell? ⟨gA,at_*7+2,none⟩=some (.int .i64 yd):=RS.c (j:=2) rfl;have gW:(at_:Int)< (na:Int):=by omega
      have aec:decide ((at_:Int)< (na:Int))=true:=decide_eq_true gW;clear RS hgx hy hgA ad0 vn;by_cases q1:yd<xd
      case pos=>
       have q1d:decide (yd<xd)=true:=decide_eq_true q1;have hf:=H_ (show G=true by rw[HGY.o];simp[q1]);clear q1;go_quiet (fail)
       first|go_meet|(go_wp2_with fail;go_meet)
       exact⟨by rw[hf.o],((Fr.refl _ _).drewN nq).below⟩
      case neg=>
      have q1d:decide (yd<xd)=false:=decide_eq_false q1;by_cases q2:yd=xd
      case neg=>
       have q2d:(yd==xd)=false:=by simp[q2]
       have hf:=H_ (show G=false by rw[HGY.o];simp[q1,q2]);clear q1 q2;go_quiet (fail)
       first|go_meet|(go_wp2_with fail;go_meet)
       exact⟨by rw[hf.o],((Fr.refl _ _).drewN nq).below⟩
      case pos=>
      have q2d:(yd==xd)=true:=by simp[q2]
      by_cases q3:yi<xi
      case pos=>
       have q3d:decide (yi<xi)=true:=decide_eq_true q3;have hf:=H_ (show G=true by rw[HGY.o];simp[q2,q3]);clear q1 q2 q3;go_quiet (fail)
       first|go_meet|(go_wp2_with fail;go_meet)
       exact⟨by rw[hf.o],((Fr.refl _ _).drewN nq).below⟩
      case neg=>
       have q3d:decide (yi<xi)=false:=decide_eq_false q3;have hf:=H_ (show G=false by rw[HGY.o];simp[q2,q3]);clear q1 q2 q3;go_quiet (fail)
       first|go_meet|(go_wp2_with fail;go_meet)
       exact⟨by rw[hf.o],((Fr.refl _ _).drewN nq).below⟩
     case neg=>
      have gW:¬(at_:Int)< (na:Int):=by omega
      have aec:decide ((at_:Int)< (na:Int))=false:=decide_eq_false gW;have hf:=H_ (show G=false by rw[<-HG.o];simp[iZ]);clear l0 l2;go_quiet (fail)
      first|go_meet|(go_wp2_with fail;go_meet)
      exact⟨by rw[hf.o],((Fr.refl _ _).drewN nq).below⟩
    case rest=>
    obtain⟨hv,NB⟩:=hcut;subst hv;have Kn:=t_ Xf NB;rename World=>V2;clear NB l0 l2 X4 Xf aaC;cases G with
    |true=>
     have hg:at_<na/\∀h:at_<AL.length,ltX AL[at_].1 x.1:=by simpa using HG.o
     have R1:=H_ hg;have iZ:=hg.1;clear hg;go_wp2_with fail;go_roundw
     case rel=>exact⟨at_+1,by omega,congrArg (Value.int .i64) (by omega),Kn.o,λj hj h=>by
      rcases Nat.lt_or_ge j at_ with h3|h3
      ·exact TY.o j hj h3
      ·obtain rfl:j=at_:=by omega
       exact R1.o.2 hj⟩
     case measure=>exact aQ iZ
    |false=>
     have adW:=H_ (show(AL.take at_++x::AL.drop at_).map (·.1)=jV (l.take (k+1)) by
      rw[tA.o,Ji (k:=at_) (by rw[List.length_map,Rm.o];exact Rq) (λj hj hja=>by rw[List.getElem_map];exact TY.o j (by simpa using hj) hja) (λh hx=>by
       rw[List.getElem_map]at hx;have hg:¬(at_<na/\∀h:at_<AL.length,ltX AL[at_].1 x.1):=by simpa using HG.o
       rw[List.length_map]at h;exact hg ⟨by rw[<-Rm.o];exact h,λ_=>hx⟩)]
      simp)
     have J9:=H_ (bb tz.o Kn.o);have aad:=t_ HB Kn.o;clear HG;generalize V2=V at*;have aeI:at_<=ca:=by have:=Jo J9.o;omega
     obtain⟨A1,YU⟩:=x_ ((if ca=at_ then(Aa:Option Addr)else Option.map (λx:Addr=>x.add (at_*7)) Aa));have adg:(at_:Int)<=(ca:Int):=by omega
     have acF:(at_:Int)<=(na:Int):=by omega
     have Yq:=(Rd.own J9.o (Q:=(·<V.heap.size)) (λq hq=>(J9.o.lt q hq).2)).cut Rq (Jo J9.o);rw[YU,GN (f:=bY) (λ_=>rfl)]at Yq;have Yx:=H_ Yq;obtain⟨F0,hF0⟩:=x_ ((AL.take at_).flatMap bY);have HF0:=H_ hF0;obtain⟨F1,hF1⟩:=x_ ((AL.drop at_).flatMap bY);rw[hF1]at Yx;have kU:=H_ hF1;have F4:=H_ (show ∀u∈F1,u.oneCell'=true from hF1▸aev _);obtain⟨m6,hm6⟩:=x_ (na- at_);rw[hm6]at Yx;have HA1:=H_ YU;have HM6:=H_ (show at_+m6=na by omega);have aeY:m6<=na:=by omega
     clear Yq hF0 hF1;go_upto_region 9 with(at_builtin;go_loud (refine cq _ rfl (.tmp 58) (.tmp 61) 30 rfl V.heap.size 51 ia _ 7 80 jp oR ge gg gh rfl (by decide) (.slice (some ⟨V.heap.size,0,none⟩) 0 0) 0 [] rfl (mp (Nat.le_refl _) (heap_alloc_new _ _)) (·<V.heap.size) A1 m6 (ca- at_) F1 rfl (Yx.o.fr (Fr.ofBelow (ai V _))) F4.o (by simp only[maxLen];omega) (by omega) (by simp) ?_);intro v9 V9 cj gk _)
     rw[Nat.zero_add,List.nil_append]at cj;have adK:=gk.size;have aak:=H_ (show Below V.heap.size V V9 from bK (ai V _) gk (λq hq=>by simp[Value.ownBlock]at hq;omega) (Nat.le_refl _));have ND:=t_ aad aak.o;have FT:=H_ (show V9.ownsRow w.heap.size 51 7 (.slice Aa at_ ca) at_ F0 by
      have h:=EC (bb J9.o aak.o) Rq;rw[GO (f:=bY) (λ_=>rfl),HF0.o]at h;exact h)
     have acD:=H_ (show ∀q,Value.ownBlock (.slice Aa at_ ca)=some q->q<V9.heap.size from λq hq=>(FT.o.lt q hq).2);have ac1:=H_ (show ∀q,Value.ownBlock (.slice Aa at_ ca)=some q->q<V.heap.size from λq hq=>((EC J9.o Rq).lt q hq).2);have aai:=H_ (show At V9 (λq=>q<V9.heap.size/\Value.ownBlock (.slice Aa at_ ca)≠some q) ⟨b,o+k*7,none⟩ [.int .i64 xi,.int .i64 xe,.int .i64 xd,.int .i64 xk,.int .i64 xo,.string xt,.slice Al nl cl]from((zg.o.fr (Fr.ofBelow ND.o)).mono (λq hq=>⟨Nat.lt_of_lt_of_le hq ND.o.size,λe=>absurd (FT.o.lt q e).1 (by omega)⟩)));obtain⟨A6,m6',c6,rfl⟩:=bS cj;obtain rfl:m6=m6':=(fV cj).symm;have NI:=H_ cj;clear cj gk adK YU;refine kR 10 (Ks V9 [.val (.slice Aa na ca),(at_:Int),.val (.slice Aa at_ ca),.val (.slice (some ⟨b,o,none⟩) n c),(k:Int),.val (.pointer (some ⟨b,o+k*7,none⟩)),.val (.agg #[xi,xe,xd,xk,xo,xt,.slice Al nl cl]),.own (BB V9 [.int .i64 xi,.int .i64 xe,.int .i64 xd,.int .i64 xk,.int .i64 xo,.string xt,.slice Al nl cl]) (BB.keep _ _),.own (PE V9 w.heap.size (.slice Aa at_ ca) (at_+1) (F0++[.int .i64 xi,.int .i64 xe,.int .i64 xd,.int .i64 xk,.int .i64 xo,.string xt,.slice Al nl cl])) (PE.keep _ _ _ _ _),.val (.slice A6 m6 c6)])
      (λw'=>Fr (λq=>q<V9.heap.size/\Value.ownBlock (.slice Aa at_ ca)≠some q) V9 w'/\w'.ownsRow w.heap.size 51 7 (.slice Aa at_ ca) at_ F0) K_ K_ K_ (by decide) K_ K_ K_ ⟨(Fr.ofBelow ((Below.refl V9.heap.size V9).drew)).mono (λq hq=>hq.1),FT.o.drew⟩ ?_ ?_
     ·refine⟨?_,?_,?_,?_,?_,?_,?_,?_,?_,?_,trivial⟩
      ·intro _ A0 w2 hI hd hnd K hK;have e0:=hI.q hnd 3;have hS:=hI.world;refine aa rfl ?_;clear hI hd hnd;go_simp;exact hK.out _ _ hS (Ks.of rfl rfl) (λ_ _ _ h=>h)
      ·intro _ A0 w2 hI hd hnd K hK;have e0:=hI.q hnd 5;have hS:=hI.world;refine aa rfl ?_;clear hI hd hnd;go_simp;exact hK.out _ _ hS (Ks.of rfl rfl) (λ_ _ _ h=>h)
      ·intro _ A0 w2 hI hd hnd K hK;have e0:=hI.p hd 0 63;have e1:=hI.p hd 1 64;have hS:=hI.world;refine aa rfl ?_;clear hI hd hnd;go_simp;exact hK.out _ _ hS (Ks.of rfl rfl) (λ_ _ _ h=>h)
      ·intro _ A0 w2 hI hd hnd K hK;have e0:=hI.q hnd 0;have hS:=hI.world;refine aa rfl ?_;clear hI hd hnd;go_simp;exact hK.out _ _ hS (Ks.of rfl rfl) (λ_ _ _ h=>h)
      ·intro _ A0 w2 hI hd hnd K hK;have e0:=hI.q hnd 4;have hS:=hI.world;refine aa rfl ?_;clear hI hd hnd;go_simp;exact hK.out _ _ hS (Ks.of rfl rfl) (λ_ _ _ h=>h)
      ·intro _ A0 w2 hI hd hnd K hK;have e0:=hI.p hd 3 66;have e1:=hI.p hd 4 67;have hS:=hI.world;refine aa rfl ?_;clear hI hd hnd;go_simp;exact hK.out _ _ hS (Ks.of rfl rfl) (λ_ _ _ h=>h)
      ·intro _ A0 w2 hI hd hnd K hK;have e0:=hI.p hd 5 68;have hS:=hI.world;have aJ:w2.rangeAt b (o+k*7) [xi,xe,xd,xk,xo,xt,.slice Al nl cl]:=(aai.o.fr hS.1).range;have aI:=aY;refine aa rfl ?_;clear hI hd hnd;refine wp_load_mid 51 (.tmp 68) rfl _ _ (v_ e0) _ _ aJ Tryz.underlying51 rfl aI ?_;exact hK.out _ _ hS (Ks.of rfl rfl) (λ_ _ _ h=>h)
      ·intro _ A0 w2 hI hd hnd K hK;have e0:=hI.p hd 6 69;have hS:=hI.world;refine aa rfl ?_;clear hI hd hnd;go_simp;exact hK.out _ _ ⟨hS.1.alloc (λk hk=>hk.1) _,bb hS.2 (ai w2 _)⟩ (Ks.of rfl ⟨w2.heap.size,rfl,hS.1.size,heap_alloc_new _ _⟩) (Ks.keepW (ai w2 _))
      ·intro _ A0 w2 hI hd hnd K hK;have e0:=hI.p hd 2 65;obtain⟨x1,e1,h1⟩:=hI.dep hd 7 70 rfl rfl rfl K_;have hS:=hI.world;obtain⟨gq,rfl,hgq,hbk⟩:=h1;refine aa rfl ?_;clear hI hd hnd;refine Cr (w:=w2) (.tmp 65) (.tmp 70) 30 rfl w.heap.size 51 ia _ 7 80 jp oR ge gg gh rfl (by decide) (.slice Aa at_ ca) at_ F0 (v_ e0) hS.2 (λ_=>True) (some ⟨gq,0,none⟩) 1 1 [xi,xe,xd,xk,xo,xt,.slice Al nl cl] (v_ e1) (fq hbk rfl) (by simp[Value.oneCell']) (by simp only[maxLen];omega) (by omega) (Nat.le_trans ND.o.size hS.1.size) (by omega) ?_;intro v9 w9 cj CT gk qw;exact hK.out _ _ ⟨hS.1.grown gk (λk hk=>hk.1) (λk hk hq=>hq.2 hk),CT⟩ (Ks.of rfl ⟨w2,hS.1,cj,gk,qw⟩) (by
        intro j u hj hV k hk;rcases j with _|_|_|_|_|_|_|_|_|_|j
        all_goals first|(exact absurd rfl hj)|(cases hk;done)|(cases hk;first|exact hV _ rfl|exact BB.grow (hV _ rfl) gk acD.o))
      ·intro _ A0 w2 hI hd hnd K hK;have e0:=hI.q hnd 6;have hS:=hI.world;refine aa rfl ?_;clear hI hd hnd;go_simp;exact hK.out _ _ hS (Ks.of rfl rfl) (λ_ _ _ h=>h)
     ·intro A0 w2 hI;have hS:=hI.world;have c9:=hI.cg [(0,63),(1,64),(2,65),(3,66),(4,67),(5,68),(6,69),(7,70),(8,71),(9,72)] [73,3] j_;obtain⟨x0,x1,x2,x3,x4,x5,x6,x7,x8,x9,y73,y3,hA,hV⟩:=c9;have k8:(PE V9 w.heap.size (.slice Aa at_ ca) (at_+1) (F0++[.int .i64 xi,.int .i64 xe,.int .i64 xd,.int .i64 xk,.int .i64 xo,.string xt,.slice Al nl cl])) x8 w2:=hV 8 _ _ _ rfl rfl _ rfl;obtain rfl:x9=.slice A6 m6 c6:=hV 9 _ _ _ rfl rfl _ rfl;clear hV hI;simp only[ba,List.foldl,List.setIfInBounds_toArray,List.set_cons_zero,List.set_cons_succ]at hA;rw[hA];clear hA;simp only[List.drop_succ_cons,List.drop_zero];obtain⟨W3,l6,II,Z7,adA⟩:=k8;have Vv:=H_ II;have dz:=H_ (OI ND.o hS.1 (λq hq=>⟨Nat.lt_of_lt_of_le hq ND.o.size,λe=>absurd (FT.o.lt q e).1 (by omega)⟩));have HR6:=H_ ((Rd.own NI.o (Q:=(λq=>q<V9.heap.size/\Value.ownBlock (.slice Aa at_ ca)≠some q)) (λq hq=>⟨(NI.o.lt q hq).2,λe=>absurd (ac1.o q e) (by have:=(NI.o.lt q hq).1;omega)⟩)).fr hS.1);clear l6 II Z7 adA hS;refine cq _ rfl (.tmp 71) (.tmp 72) 30 rfl w.heap.size 51 ia _ 7 80 jp oR ge gg gh rfl (by decide) x8 (at_+1) (F0++[.int .i64 xi,.int .i64 xe,.int .i64 xd,.int .i64 xk,.int .i64 xo,.string xt,.slice Al nl cl]) rfl Vv.o (λq=>q<V9.heap.size/\Value.ownBlock (.slice Aa at_ ca)≠some q) A6 m6 c6 F1 rfl HR6.o F4.o (by simp only[maxLen];omega) (by omega) dz.o.size ?_;intro v10 nd NP aba _;have Ox:=H_ (bK dz.o aba (λq hq=>(Vv.o.lt q hq).1) (Nat.le_refl _));have V5:=H_ NP;clear NP aba;go_wp2_with fail;go_roundw
      case rel=>
       refine⟨k+1,by omega,congrArg (Value.int .i64) (by omega),Ox.o,AL.take at_++x::AL.drop at_,adW.o,λy hy=>?_,?_⟩
       ·rcases List.mem_append.1 hy with hy|hy
        ·exact MH.o y (List.mem_of_mem_take hy)
        ·rcases List.mem_cons.1 hy with hy|hy
         ·rw[hy];exact ld.o
         ·exact MH.o y (List.mem_of_mem_drop hy)
       ·have h:=V5.o;have e1:(AL.take at_++x::AL.drop at_).length=at_+1+m6:=by
         have h1:=HM6.o;have h2:=Rm.o;simp;omega
        have e2:(AL.take at_++x::AL.drop at_).flatMap bY=F0++[.int .i64 xi,.int .i64 xe,.int .i64 xd,.int .i64 xk,.int .i64 xo,.string xt,.slice Al nl cl]++F1:=by
         rw[List.flatMap_append,List.flatMap_cons,HF0.o,kU.o,Rv.o];simp
        rw[e1,e2];exact h
      case measure=>exact aQ aU
  case neg=>
   have bq:¬(k:Int)< (n:Int):=by omega
   have Kz:k=l.length:=by have:=HN.o;omega
   have IV:=Vp.o;rw[Kz,List.take_length]at IV;have hL:aj ax 7 wr (·<wr.heap.size) [.slice Aa AL.length ca] (AL.map (·.1)):=by
    have bv:=tz.o;rw[<-Rm.o]at bv;refine kO (css:=AL.map bY) (λcs h=>by obtain⟨x,_,rfl⟩:=List.mem_map.1 h;rfl) (by rw[List.length_map,<-List.flatMap_def];exact bv) (λi y hy=>?_) (λq hq=>(bv.lt q hq).2);rw[List.getElem?_map]at hy;obtain⟨x,hx,rfl⟩:=Option.map_eq_some_iff.1 hy;refine⟨bY x,by rw[List.getElem?_map,hx];rfl,?_⟩;obtain⟨i3,Ky⟩:=List.mem_iff_getElem?.1 (MH.o x (List.mem_of_getElem? hx));exact ax.mono (ax.fr (Xi.o i3 x Ky).1 (Fr.ofBelow HB.o)) (λq hq=>Nat.lt_of_lt_of_le hq CO)
   rw[IV]at hL;have Rh:=H_ hL;have HNX:=H_ (show na=(jV l).length by rw[<-Rm.o,<-IV,List.length_map]);have ad7:=Rm;clear hL IV Kz;go_wp2_with fail;go_ret;refine⟨Aa,ca,by rw[<-HNX.o];rfl,?_,HB.o⟩;have h:=Rh.o;rw[ad7.o,HNX.o]at h;exact h
theorem Fd {es:List ak} {ent t:Int} {k:Nat} (hk:k<es.length):gJ (es.take (k+1)) ent t=if es[k].entity=ent/\es[k].date<=t then gJ (es.take k) ent t++[es[k]]else gJ (es.take k) ent t:=by
 unfold gJ;rw[List.take_add_one,List.getElem?_eq_getElem hk,Option.toList_some,List.filter_append];by_cases h:es[k].entity=ent/\es[k].date<=t
 ·rw[if_pos h,List.filter_cons,if_pos (decide_eq_true h)];rfl
 ·rw[if_neg h,List.filter_cons,if_neg (by simpa using h)];simp
theorem Qc {es:List ak} {fj lZ:List jS} (hn:(es.map (·.id)).Nodup) (hm:fj.map (·.1)=es) (hp:lZ.Perm fj) (hw:lZ.Pairwise (λx y=>ltOf Lb y x=false)):lZ.map (·.1)=jV es:=by
 have Gp:(lZ.map (·.1)).Perm es:=by rw[<-hm];exact hp.map _
 have mA:(lZ.map (λx=>x.1.id)).Nodup:=by
  have e:lZ.map (λx=>x.1.id)=(lZ.map (·.1)).map (·.id):=by rw[List.map_map];rfl
  rw[e];exact(Gp.map _).nodup_iff.2 hn
 have ad5:lZ.Pairwise (λx y=>x.1.id≠y.1.id):=List.pairwise_map.1 mA;refine xw.uniq (es:=es) ⟨Gp,?_⟩ (mu hn);rw[List.pairwise_map];refine(hw.and ad5).imp ?_;rintro x y ⟨h1,h2⟩;have h3:¬(y.1.date<x.1.date\/(y.1.date=x.1.date/\y.1.id<x.1.id)):=λh=>by
  have:=(jt (λx:jS=>x.1.date) (λx=>x.1.id) y x).2 h;unfold Lb at h1;rw[this]at h1;cases h1
 unfold ltX;omega
def m9 (b:XBk) (p:Int) (E:List ak) (k:Nat):List (bW × Int):=(E.take k).flatMap (kx b p)
theorem vZ (b:XBk) (p:Int) {E:List ak} {k:Nat} (hk:k<E.length):m9 b p E (k+1)=m9 b p E k++kx b p E[k]:=by
 unfold m9;rw[List.take_add_one,List.getElem?_eq_getElem hk,Option.toList_some,List.flatMap_append,List.flatMap_singleton]
theorem Ld (b:XBk) (p:Int) (E:List ak):m9 b p E E.length=E.flatMap (kx b p):=by unfold m9;rw[List.take_length]
theorem DS (b:XBk) (p:Int) {E:List ak} {k:Nat} (hk:k<E.length):∃R,E.flatMap (kx b p)=m9 b p E k++kx b p E[k]++R:=by
 refine⟨(E.drop (k+1)).flatMap (kx b p),?_⟩;rw[<-vZ b p hk];unfold m9;rw[<-List.flatMap_append,List.take_append_drop]
theorem fM (b:XBk) (p:Int) (x:ak):(kx b p x).length=x.lines.length:=by unfold kx;simp
theorem pT (b:XBk) (p:Int) (x:ak) {j:Nat} (hj:j<x.lines.length):(kx b p x)[j]? =some (jr b x j p):=by unfold kx;simp[hj]
theorem tg (b:XBk) (p:Int) (x:ak) {j:Nat} (hj:j<x.lines.length):(kx b p x).take (j+1)=(kx b p x).take j++[jr b x j p]:=by
 rw[List.take_add_one,pT b p x hj,Option.toList_some]
theorem Jq {w:World} {base n b c:Nat} {e T:TypeId} {size:Nat} {A:Option Addr} {m:Nat} {xs:List Value} {cs:Array Value} {z:Nat × Nat} (h:w.ownsRow base e size (.slice A m c) n xs) (hT:e≠T) (hb:w.heap[b]? =some (.cells cs T z)):∀q,Value.ownBlock (.slice A m c)=some q->q≠b:=λq hq zO=>by
 rcases h.2 with⟨e1,_⟩|⟨g,cap,aw,e1,_,hg,_⟩
 ·rw[e1]at hq;cases hq
 ·rw[e1]at hq;simp only[Value.ownBlock,Option.some.injEq]at hq;subst hq zO;rw[hg]at hb;simp only[Option.some.injEq,Obj.cells.injEq]at hb;exact hT hb.2.1
theorem Ti {w w':World} {base:Nat} {e:TypeId} {size n:Nat} {v:Value} {xs:List Value} {Q:Nat->Prop} (h:w.ownsRow base e size v n xs) (hf:Fr Q w w') (hQ:∀q,v.ownBlock=some q->Q q):w'.ownsRow base e size v n xs:=by
 refine⟨h.1,?_⟩;rcases h.2 with h0|⟨g,cap,aw,rfl,h1,h2,h3⟩
 ·exact .inl h0
 ·exact .inr ⟨g,cap,aw,rfl,h1,(hf.block g (hQ g rfl)).trans h2,h3⟩
def ISt (b:XBk) (bl:List Value) (ent p:Int) (D M:Nat) (V:World) (G:List (bW × Int)) (K:Nat) (v:Value) (w:World):Prop:=
 ∃kd,kd<=K/\G.length<=K/\kD w D M kd bl b ent p/\(∀q∈G,q.2=0)/\w.ownsRow V.heap.size 42 7 v G.length ((G.map (·.1)).flatMap lq)/\Fr (λq=>q<V.heap.size/\q≠M) V w
theorem ISt.below {b:XBk} {bl:List Value} {ent p:Int} {D M:Nat} {V:World} {G:List (bW × Int)} {K:Nat} {v:Value} {w w':World} (h:ISt b bl ent p D M V G K v w) (hb:Below w.heap.size w w'):ISt b bl ent p D M V G K v w':=by
 obtain⟨kd,h1,h2,h3,h4,h5,h6⟩:=h;exact⟨kd,h1,h2,h3.below hb,h4,bb h5 hb,h6.trans ((Fr.ofBelow hb).mono (λq hq=>Nat.lt_of_lt_of_le hq.1 h6.size))⟩
theorem ISt.done {b:XBk} {bl:List Value} {ent p:Int} {D M:Nat} {V:World} {G:List (bW × Int)} {K:Nat} {v:Value} {w:World} (h:ISt b bl ent p D M V G K v w):∃A c,v=.slice A (kH G).1.length c/\(kH G).2=0/\ItV w (·<w.heap.size) (.slice A (kH G).1.length c) (kH G).1:=by
 obtain⟨kd,h1,h2,h3,h4,h5,h6⟩:=h;rw[DP h4];have h5':w.ownsRow V.heap.size 42 7 v (G.map (·.1)).length ((G.map (·.1)).flatMap lq):=by rw[List.length_map];exact h5
 obtain⟨A,m,c,rfl⟩:=bS h5';obtain rfl:=fV h5';exact⟨A,c,rfl,rfl,AG (f:=lq) (λ_=>rfl) h5' (λ_ _=>rfl) (λq hq=>(h5'.lt q hq).2)⟩
theorem Qn (b:XBk) (bl gl tl:List Value) (Ae Ar:Option Addr) (ce cr:Nat) (ent p:Int) (w:World) (hk:BkC w (·<w.heap.size) bl b gl Ae ce Ar cr tl) (ci:okB b) (lX:cx p):Calls Tryz.prog 27 #[.agg bl.toArray,ent,p] w (rX (pQ b ent p) w):=by
 obtain⟨ia,oR,ge,gg,gh⟩:=info_parts ll;obtain⟨ib,hib,X7,Xu,XU⟩:=info_parts xr;have FF:=H_ (λ(w2:World) (hb:Below w.heap.size w w2)=>Hl b bl gl tl Ae Ar ce cr ent p false w2 (hk.keep hb) ci);obtain⟨kY,yO,lF,CA,HE,m8,jG,jv,kB,Ac,cc,Iy,Ds,nF,zF⟩:=agt hk;obtain⟨I,hI⟩:=x_ (pQ b ent p);rw[hI];unfold pQ at hI;rw[<-xL]at hI;obtain⟨OE,rO⟩:∃c,jU b ent p false=c:=⟨_,rfl⟩;have HOE:=H_ rO;unfold nN at FF;rw[rO]at hI FF;have HI:=H_ hI;have HK:=H_ hk;have sW:=H_ ci;have Yf:=H_ lX;obtain⟨zC,Bq,TW⟩:=pX hk.es;have TQ:=H_ Bq;have Xi:=H_ TW;obtain⟨n,bj⟩:=x_ (b.es.length);have HN:=H_ bj;have hn5:n<=100000:=by rw[<-bj];exact ci.2.1.2
 have Bc:=H_ (show zC.length=n by rw[<-bj,<-Bq,List.length_map]);rw[bj]at HE;clear hk ci hI rO lX Bq TW bj;go_enter Tryz.func27,Tryz.ntmps27;go_upto_region 1 with fail;obtain⟨W1,cS,H1,bC,dr,ewx⟩:=B_ w (.cells bl.toArray 36);rw[cS];clear ewx;have yN:=H_ (show W1.heap.size=w.heap.size+1 by rw[<-cS];simp);clear cS;have Br:=H_ bC;have akW:=H_ H1;clear H1 bC dr;go_wp2_with (refine W_ 20 36 3 (w.heap.size) akW.o (by rw[bF];exact congrArg some kY.o.symm) Tryz.underlying36 ?_);refine(FF.o W1 Br.o).mono ?_;rintro e w2 (⟨bT,rfl,aH⟩|⟨h0,D,rfl,F7,aH,pC⟩)
 ·have yU:=t_ Br aH;have MZ:(OE !=0)=true:=by simpa using bT
  have hf:=H_ (show I=(([]:List bW),OE) by rw[<-HI.o,if_neg bT]);clear bT aH;go_wp2_with fail;go_ret2;exact⟨none,0,by rw[hf.o];rfl,by rw[hf.o];exact sr _ _ _ _,yU.o⟩
 ·subst h0;obtain⟨eU,iu,iA⟩:=Cc HOE.o;have ep:dZ b ent:=iu.resolve_left (by decide);unfold rY at pC;rw[if_neg (by decide)]at pC;obtain⟨M,FU,MR⟩:=pC;have jI:=H_ (show cE b/\dZ b ent/\eN b p from⟨eU,ep,iA⟩);have hi:=HI.o;rw[if_pos rfl]at hi;have Sn:=H_ hi;have yU:=t_ Br aH;have rP:=k_ aH akW;have adH:=H_ MR;have yQ:=H_ (show w.heap.size+1<=D/\w.heap.size+1<=M/\D<w2.heap.size/\M<w2.heap.size/\M≠D by
   have:=MR.lt;have:=yN.o;omega)
  obtain⟨la,m5⟩:∃x,bA b.g p=x:=⟨_,rfl⟩;have vw:=H_ m5;have acJ:=H_ (show w2.cell? ⟨D,29,none⟩=some (.int .i64 la) by
   obtain⟨f,h1,_⟩:=MR;rw[<-m5];exact(ab h1 29).trans (mc HK.o.len _ _ _ _ _ _).2.2.1)
  have qx:=(ab rP.o 21).trans HE.o.1;clear eU iu iA ep hi aH MR m5 FU F7 HI;go_wp2_with fail
  go_loopw [10,32] (λv i wr=>∃j:Nat,j<=n/\i=.int .i64 (j:Int)/\∃fj:List jS,fj.map (·.1)=gJ (b.es.take j) ent la/\(∀x∈fj,x∈zC)/\wr.ownsRow w2.heap.size 51 7 v fj.length (fj.flatMap bY)/\Below w2.heap.size w2 wr) (λ_ i _=>n- (intOf i).toNat)
  case atStart=>exact⟨0,by omega,rfl,[],rfl,by simp,World.ownsRow_nil _ _ _ _,Below.refl _ _⟩
  case round=>
   obtain⟨j,hj,rfl,fj,Gr,hox,bv,QA⟩:=hrel;have Vp:=H_ Gr;have MH:=H_ hox;have iI:=H_ bv;have zI:=H_ QA;have hol:fj.length<=100000:=by
    have h1:=congrArg List.length Gr;rw[List.length_map]at h1;rw[h1];refine Nat.le_trans (List.length_filter_le _ _) ?_;rw[List.length_take,HN.o];omega
   have dW:=QA.size;clear Gr hox bv QA qx;by_cases aU:j<n
   case pos=>
    have bq:(j:Int)< (n:Int):=by omega
    have Vk:j<zC.length:=by rw[Bc.o];exact aU
    have hje:j<b.es.length:=by rw[HN.o];exact aU
    obtain⟨Be,b0,o0,Ms,aS⟩:=Xi.o j zC[j] (List.getElem?_eq_getElem Vk);have jB:=List.getElem_mem Vk;have rQ:b.es[j]=zC[j].1:=by
     have h:=TQ.o;simp[<-h]
    have hun:=Fd (ent:=ent) (t:=la) hje;rw[rQ]at hun;obtain⟨x,hx⟩:=x_ (zC[j]);rw[hx]at Be aS jB hun;subst Ms;have⟨xi,xe,xd,xk,xo,xt,Al,nl,cl,FV,hee,VG,kZ⟩:∃xi xe xd xk xo xt Al nl cl,bY x=[.int .i64 xi,.int .i64 xe,.int .i64 xd,.int .i64 xk,.int .i64 xo,.string xt,.slice Al nl cl]/\x.1.entity=xe/\x.1.date=xd/\x.1.lines.length=nl:=⟨_,_,_,_,_,_,_,_,_,rfl,rfl,rfl,rfl⟩;rw[FV]at aS;rw[hee,VG]at hun;have Rv:=H_ FV;have ld:=H_ jB;have HUN:=H_ hun;have eZ:=H_ (show wr.rangeAt b0 (o0+j*7) [xi,xe,xd,xk,xo,xt,.slice Al nl cl]from gC aS (Fr.ofBelow (yU.o.trans (zI.o.mono yU.o.size))));clear Be aS jB hun FV hx rQ hee VG kZ hje Vk;go_upto_region 8 with(first|(refine w_ 35 51 34 b0 (o0+j*7) [xi,xe,xd,xk,xo,xt,.slice Al nl cl] eZ.o aY Tryz.underlying51 ?_)|(show wpList _ _ _ (Oper.mk none (Op.store _ (Operand.tmp 12) _) _ _ _ _::_) _ _;refine aO rfl 51 (.tmp 12) (.tmp 35) rfl rfl wr #[(),(),(),(),(),.string ⟨#[]⟩,.slice none 0 0] 51 #[xi,xe,xd,xk,xo,xt,.slice Al nl cl] rfl rfl rfl aY rfl (by simp[Value.oneCell']) ?_;intro W3 H3 eA rE))
    have adQ:=H_ H3;have eA:=H_ eA;have e1:=ab H3 1;have e2:=ab H3 2;have d29:W3.cell? ⟨D,29,none⟩=some (.int .i64 la):=((eA.o.cell (p:=⟨D,29,none⟩) (show D<wr.heap.size by have:=yQ.o;omega)).trans (zI.o.cell (p:=⟨D,29,none⟩) (show D<w2.heap.size from yQ.o.2.2.1))).trans acJ.o;clear H3 rE;by_cases h1:xe=ent
    case neg=>
     have h1b:(xe==ent)=false:=by simpa using h1
     have Cx:=H_ (show gJ (b.es.take (j+1)) ent la=gJ (b.es.take j) ent la by rw[HUN.o,if_neg (λh=>h1 h.1)]);clear h1;go_quiet (fail);have gw:=H_ (show Below wr.heap.size wr (W3.drewN nq)from((Fr.ofBelow eA.o).drewN nq).below);generalize W3.drewN nq=w4 at*;go_wp2_with fail;go_roundw
     case rel=>exact⟨j+1,by omega,by go_num,fj,by rw[Cx.o];exact Vp.o,MH.o,bb iI.o gw.o,zI.o.trans (gw.o.mono dW)⟩
     case measure=>first|exact aQ aU|(simp only[intOf];omega)
    case pos=>
    have h1b:(xe==ent)=true:=by simpa using h1
    by_cases h2:xd<=la
    case neg=>
     have h2b:decide (xd<=la)=false:=decide_eq_false h2;have Cx:=H_ (show gJ (b.es.take (j+1)) ent la=gJ (b.es.take j) ent la by rw[HUN.o,if_neg (λh=>h2 h.2)]);clear h1 h2;go_quiet (fail);have gw:=H_ (show Below wr.heap.size wr (W3.drewN nq)from((Fr.ofBelow eA.o).drewN nq).below);generalize W3.drewN nq=w4 at*;go_wp2_with fail;go_roundw
     case rel=>exact⟨j+1,by omega,by go_num,fj,by rw[Cx.o];exact Vp.o,MH.o,bb iI.o gw.o,zI.o.trans (gw.o.mono dW)⟩
     case measure=>first|exact aQ aU|(simp only[intOf];omega)
    case pos=>
    have h2b:decide (xd<=la)=true:=decide_eq_true h2;have Cx:=H_ (show gJ (b.es.take (j+1)) ent la=gJ (b.es.take j) ent la++[x.1] by rw[HUN.o,if_pos ⟨h1,h2⟩]);clear h1 h2;go_quiet (fail);have gw:=H_ (show Below wr.heap.size wr (W3.drewN nq)from((Fr.ofBelow eA.o).drewN nq).below);have HX4:=H_ (show(W3.drewN nq).heap[wr.heap.size]? =some (.cells #[xi,xe,xd,xk,xo,xt,.slice Al nl cl] 51 (0,0))from adQ.o);generalize W3.drewN nq=w4 at*;have Kw:=H_ (bb iI.o gw.o);have abw:=H_ (zI.o.trans (gw.o.mono dW));have yJ:=abw.o.size;clear e1 e2 d29;go_wp2_with (first|(refine W_ 50 51 12 (wr.heap.size) HX4.o aY Tryz.underlying51 ?_)|(at_builtin;go_loud (refine cq _ rfl (.tmp 49) (.tmp 51) 30 rfl w2.heap.size 51 ia _ 7 80 Tryz.underlying30 oR ge gg gh rfl (by decide) u10 fj.length (fj.flatMap bY) rfl (Kw.o.alloc _) (λ_=>True) (some ⟨w4.heap.size,0,none⟩) 1 1 [xi,xe,xd,xk,xo,xt,.slice Al nl cl] rfl (fq (heap_alloc_new _ _) rfl) (by simp[Value.oneCell']) (by simp only[maxLen];omega) (by omega) (by simp;omega) ?_);intro v9 wa cj gk qw));go_roundw
    case rel=>
     refine⟨j+1,by omega,by go_num,fj++[x],by rw[Cx.o,List.map_append,Vp.o];rfl,λy hy=>?_,?_,bK (abw.o.alloc (by omega) _) gk (λq hq=>(Kw.o.lt _ hq).1) (Nat.le_refl _)⟩
     ·rcases List.mem_append.1 hy with hy|hy
      ·exact MH.o y hy
      ·rw[List.mem_singleton]at hy;rw[hy];exact ld.o
     ·rw[List.length_append,List.flatMap_append,List.flatMap_singleton,Rv.o];exact cj
    case measure=>first|exact aQ aU|(simp only[intOf];omega)
   case neg=>
    have bq:¬(j:Int)< (n:Int):=by omega
    have FE:j=n:=by omega
    subst FE;obtain⟨Ao,no,co,rfl⟩:=bS iI.o;obtain rfl:no=fj.length:=fV iI.o;have Xx:=H_ (Tw fj _ w2.heap.size wr iI.o hol dW);go_wp2_with fail;refine Xx.o.mono ?_;rintro e w5 ⟨rfl,L,zM,hpw,Nw,abP,acP⟩;have aaw:=HN.o;have RU:=H_ (show L.map (·.1)=Je b ent p by
     have h1:=Vp.o;rw[<-aaw,List.take_length]at h1;have h2:=Qc (fU _ (ri jI.o.1.2.1)) h1 zM hpw;rw[h2,<-vw.o];rfl)
    have HXL:=H_ (show ∀x∈L,ax w (·<w.heap.size) (bY x) x.1/\x.1∈b.es/\x.1.entity=ent from λx hx=>by
     obtain⟨i,hi⟩:=List.mem_iff_getElem?.1 (MH.o x (zM.mem_iff.1 hx));have h2:=(Lj jI.o.1).1 (by rw[<-RU.o];exact List.mem_map_of_mem hx);exact⟨(Xi.o i x hi).1,h2.1,h2.2.1⟩)
    obtain⟨m,hm⟩:=x_ (fj.length);have HLM:=H_ (show L.length=m by rw[zM.length_eq,hm]);rw[hm]at Nw hol |-;have HLI:=H_ Nw;have nA:=H_ (show Below w2.heap.size w2 w5 from zI.o.trans abP);have l5:=t_ yU nA.o;have acX:=H_ (adH.o.below nA.o);have Nk:=H_ (show I=kH ((L.map (·.1)).flatMap (kx b p)) by rw[RU.o,<-Sn.o];rfl);clear zM hpw Nw abP acP hm aaw Vp MH iI zI Xx;go_wp2_with fail
    go_loopw [13,58] (λv i wr=>∃k:Nat,k<=m/\i=.int .i64 (k:Int)/\ISt b bl ent p D M w5 (m9 b p (L.map (·.1)) k) (k*100000) v wr) (λ_ i _=>m- (intOf i).toNat)
    case atStart=>exact⟨0,by omega,rfl,0,by omega,by simp[m9],acX.o,by simp[m9],World.ownsRow_nil _ _ _ _,Fr.refl _ _⟩
    case round=>
     obtain⟨k,hk,rfl,kW⟩:=hrel;have tA:=H_ kW;have adz:w5.heap.size<=wr.heap.size:=by obtain⟨_,_,_,_,_,_,h⟩:=kW;exact h.size
     have X9:=H_ (show Fr (λq=>q<w5.heap.size/\q≠M) w5 wr by obtain⟨_,_,_,_,_,_,h⟩:=kW;exact h);clear kW;rename World=>U;by_cases aU:k<m
     case neg=>
      have bq:¬(k:Int)< (m:Int):=by omega
      have yW:k=(L.map (·.1)).length:=by rw[List.length_map,HLM.o];omega
      obtain⟨A2,c2,CJ,Rx,vl⟩:=tA.o.done;rw[yW,Ld,<-Nk.o]at CJ Rx vl;subst CJ;have IP:=H_ vl;have YN:=H_ Rx;have HBU:=H_ (show Below w.heap.size w U from((Fr.ofBelow l5.o).trans (X9.o.mono (λq (h:q<w.heap.size)=>⟨Nat.lt_of_lt_of_le h l5.o.size,by have:=yQ.o;omega⟩))).below);obtain⟨I1,I2⟩:=I;simp only;obtain⟨q1,mF⟩:∃q,I1.length=q:=⟨_,rfl⟩;have HQ1:=H_ mF;rw[mF];clear yW Rx vl mF;go_wp2_with fail;go_ret2;exact⟨A2,c2,by rw[show I2=0 from YN.o,HQ1.o];first|done|rfl,IP.o,HBU.o⟩
     case pos=>
     have bq:(k:Int)< (m:Int):=by omega
     have hkL:k<L.length:=by rw[HLM.o];exact aU
     have hli:=HLI.o;rw[<-HLM.o]at hli;obtain⟨b1,o1,VD,YU,hQ1,aaH,yT⟩:=aj.get hli k hkL;have Vm:=List.getElem_mem hkL;have ns:=vZ b p (E:=L.map (·.1)) (k:=k) (by rw[List.length_map];exact hkL);obtain⟨RG,TF⟩:=DS b p (E:=L.map (·.1)) (k:=k) (by rw[List.length_map];exact hkL);rw[List.getElem_map]at ns TF;rw[GI aaH]at yT;obtain⟨Be,QJ,hxn⟩:=HXL.o _ Vm;obtain⟨x,hx⟩:=x_ (L[k]);rw[hx]at yT ns TF Be QJ hxn;subst YU;have⟨xi,xe,xd,xk,xo,xt,Al,nl,cl,FV,kZ⟩:∃xi xe xd xk xo xt Al nl cl,bY x=[.int .i64 xi,.int .i64 xe,.int .i64 xd,.int .i64 xk,.int .i64 xo,.string xt,.slice Al nl cl]/\x.1.lines.length=nl:=⟨_,_,_,_,_,_,_,_,_,rfl,rfl⟩;rw[FV]at yT;have Rv:=H_ FV;have tM:=H_ kZ;have adc:nl<=100000:=by rw[<-kZ];exact(sW.o.2.1.1 _ QJ).2
     have Z4:=H_ ns;have MB:=H_ (And.intro Be (And.intro QJ hxn));have HRG:=H_ TF;obtain⟨G,hG⟩:=x_ (m9 b p (L.map (·.1)) k);rw[hG]at tA Z4 HRG;have eZ:=H_ (show U.rangeAt b1 (o1+k*7) [xi,xe,xd,xk,xo,xt,.slice Al nl cl]from gC yT (X9.o.mono (λq (h:w2.heap.size<=q/\q<w5.heap.size)=>⟨h.2,by have:=yQ.o;omega⟩)));clear yT ns TF Be QJ hxn FV kZ hx Vm hkL hli aaH hQ1 hG;go_upto_region 16 with(first|(refine w_ 61 51 60 b1 (o1+k*7) [xi,xe,xd,xk,xo,xt,.slice Al nl cl] eZ.o aY Tryz.underlying51 ?_)|(show wpList _ _ _ (Oper.mk none (Op.store _ (Operand.tmp 15) _) _ _ _ _::_) _ _;refine aO rfl 51 (.tmp 15) (.tmp 61) rfl rfl U #[(),(),(),(),(),.string ⟨#[]⟩,.slice none 0 0] 51 #[xi,xe,xd,xk,xo,xt,.slice Al nl cl] rfl rfl rfl aY rfl (by simp[Value.oneCell']) ?_;intro W3 H3 eA rE))
     have Kn:=H_ H3;have eA:=H_ eA;have NZ:=H_ (tA.o.below eA.o);have e6:=ab H3 6;clear H3 rE;go_wp2_with fail
     go_loopw [13,65] (λv i wr=>∃j:Nat,j<=nl/\i=.int .i64 (j:Int)/\ISt b bl ent p D M w5 (G++(kx b p x.1).take j) (k*100000+j) v wr/\wr.heap[U.heap.size]? =some (.cells #[xi,xe,xd,xk,xo,xt,.slice Al nl cl] 51 (0,0))) (λ_ i _=>nl- (intOf i).toNat)
     case atStart=>
      refine⟨0,by omega,rfl,?_,?_⟩
      ·rw[List.take_zero,List.append_nil,Nat.add_zero];exact NZ.o
      ·exact Kn.o
     case round=>
      obtain⟨j,hj,rfl,MU,CQ⟩:=hrel;have N1:=H_ MU;have FM:=H_ CQ;clear MU CQ e6;rename World=>Z;by_cases iZ:j<nl
      case neg=>
       have gW:¬(j:Int)< (nl:Int):=by omega
       have HJ:=H_ (show ISt b bl ent p D M w5 (m9 b p (L.map (·.1)) (k+1)) ((k+1)*100000) u13 Z by
        have h:=N1.o;rw[show j=(kx b p x.1).length by rw[fM,tM.o];omega,List.take_length,<-Z4.o]at h;obtain⟨kd,h1,h2,h3⟩:=h;rw[fM,tM.o]at h1 h2;exact⟨kd,by omega,by omega,h3⟩)
       go_wp2_with fail;go_roundw
       case rel=>exact⟨k+1,by omega,by go_num,HJ.o⟩
       case measure=>first|exact aQ aU|(simp only[intOf];omega)
      case pos=>
      have gW:(j:Int)< (nl:Int):=by omega
      obtain⟨kd,yS,fZ,MR,mG,bv,lM⟩:=N1.o;have ML:=H_ mG;have iI:=H_ bv;have HFR:=H_ lM;have Ga:=H_ (show kd<=k*100000+j/\(G++(kx b p x.1).take j).length<=k*100000+j from⟨yS,fZ⟩);have IK:=H_ (show Fr (·<w.heap.size) w Z from(Fr.ofBelow l5.o).trans (lM.mono (λq (h:q<w.heap.size)=>⟨Nat.lt_of_lt_of_le h l5.o.size,by have:=yQ.o;omega⟩)));have RM:j<x.1.lines.length:=by rw[tM.o];exact iZ
      have Sf:=Jb D M kd b bl gl tl Ae Ar ce cr ent p Z ((HK.o.fr IK.o).mono (λq (h:q<w.heap.size)=>⟨Nat.lt_of_lt_of_le h IK.o.size,by have:=yQ.o;omega,by have:=yQ.o;omega⟩)) MR jI.o.1 sW.o jI.o.2.1 jI.o.2.2 x.1 (bY x) j
       (ax.mono (ax.fr MB.o.1 IK.o) (λq (h:q<w.heap.size)=>⟨Nat.lt_of_lt_of_le h IK.o.size,by have:=yQ.o;omega,by have:=yQ.o;omega⟩)) MB.o.2.2 RM (oz jI.o.1 MB.o.2.1) Yf.o (by unfold maxLen;omega)
      rw[Rv.o]at Sf;have IA:=tg b p x.1 RM;have Gt:=pT b p x.1 RM;obtain⟨it,RN⟩:=x_ (jr b x.1 j p);rw[RN]at Sf IA Gt;obtain⟨⟨⟨i1,i2⟩,i3,i4,i5,i6,i7⟩,code⟩:=it;have XH:=H_ Sf;have Nl:=H_ IA;have HGT:=H_ Gt;clear Sf IA Gt RN MR mG bv lM yS fZ RM;go_wp2_with (refine W_ 70 51 15 (U.heap.size) FM.o aY Tryz.underlying51 ?_);refine XH.o.mono ?_;rintro e w6 ⟨rfl,k',Fi,hd6,hf6⟩;have TJ:=H_ hf6;have T6:=H_ (show kD w6 D M k' bl b ent p/\k'<=kd+1 from⟨hd6,Fi⟩);have ga:=H_ (Ti iI.o hf6 (λq hq=>⟨(iI.o.lt q hq).2,by have:=(iI.o.lt q hq).1;have:=yQ.o;have:=nA.o.size;omega⟩));have alt:=H_ ((hf6.block _ ⟨ag FM.o,by have:=yQ.o;have:=nA.o.size;omega⟩).trans FM.o);have FZ:=H_ (HFR.o.trans (hf6.mono (λq (h:q<w5.heap.size/\q≠M)=>⟨Nat.lt_of_lt_of_le h.1 HFR.o.size,h.2⟩)));clear Fi hd6 hf6;go_upto_region 20 with(show wpList _ _ _ (Oper.mk none (Op.store _ (Operand.tmp 17) _) _ _ _ _::_) _ _;refine aO rfl 42 (.tmp 17) (.tmp 73) rfl rfl w6 #[(),(),(),(),(),(),()] 42 #[i1,i2,i3,i4,i5,i6,i7] rfl rfl rfl aP rfl (by simp[Value.oneCell']) ?_;intro W7 H7 em HS7)
      have Da:=H_ H7;have em:=H_ em;clear H7 HS7;by_cases hc:code=0
      case neg=>
       have lS:(code !=0)=true:=by simpa using hc
       have hf:=H_ (show I=(([]:List bW),code) by
        rw[Nk.o,HRG.o];have h1:kx b p x.1=(kx b p x.1).take j++((⟨⟨i1,i2⟩,i3,i4,i5,i6,i7⟩,code):bW × Int)::(kx b p x.1).drop (j+1):=by
         conv=>lhs;rw[<-List.take_append_drop j (kx b p x.1)]
         rw[List.drop_eq_getElem_cons (by rw[fM,tM.o];exact iZ)];have h2:=HGT.o;rw[List.getElem?_eq_getElem (by rw[fM,tM.o];exact iZ)]at h2;rw[Option.some.inj h2]
        rw[h1];have h3:=Ai (m:=(kx b p x.1).drop (j+1)++RG) (i:=((⟨⟨i1,i2⟩,i3,i4,i5,i6,i7⟩,code):bW × Int)) ML.o hc;simp only[List.append_assoc,List.cons_append]at h3 |-;exact h3)
       have Gf:=H_ (show Below w.heap.size w W7 from((IK.o.trans (TJ.o.mono (λq (h:q<w.heap.size)=>⟨Nat.lt_of_lt_of_le h IK.o.size,by have:=yQ.o;omega⟩))).trans ((Fr.ofBelow em.o).mono (λq (h:q<w.heap.size)=>Nat.lt_of_lt_of_le h (Nat.le_trans IK.o.size TJ.o.size)))).below);clear hc;go_wp2_with fail;go_ret2;exact⟨none,0,by rw[hf.o];rfl,by rw[hf.o];exact sr _ _ _ _,Gf.o⟩
      case pos=>
      subst hc;obtain⟨GG,VT⟩:=x_ (G++(kx b p x.1).take j);rw[VT]at ga ML Ga;have R1:=H_ VT;have Xb:GG.length<=10000100000:=by have:=Ga.o.2;have:k*100000<=10000000000:=Nat.mul_le_mul_right 100000 (show k<=100000 by omega);omega
      obtain⟨ng,Xa⟩:=x_ (GG.length);rw[Xa]at ga Xb;have Xw:=H_ Xa;have rF:=H_ (bb ga.o em.o);have QN:w5.heap.size<=W7.heap.size:=Nat.le_trans FZ.o.size em.o.size;clear VT Xa;go_wp2_with (first|(refine W_ 79 42 17 (w6.heap.size) Da.o aP Tryz.underlying42 ?_)|(at_builtin;go_loud (refine cq _ rfl (.tmp 78) (.tmp 80) 63 rfl w5.heap.size 42 ib _ 7 56 Tryz.underlying63 hib X7 Xu XU rfl (by decide) u13 ng ((GG.map (·.1)).flatMap lq) rfl (rF.o.alloc _) (λ_=>True) (some ⟨W7.heap.size,0,none⟩) 1 1 [i1,i2,i3,i4,i5,i6,i7] rfl (fq (heap_alloc_new _ _) rfl) (by simp[Value.oneCell']) (by simp only[maxLen];omega) (by omega) (by simp;omega) ?_);intro v9 wa cj gk qw));go_roundw
      case rel=>
       have hwa:Fr (λq=>q<W7.heap.size/\¬u13.ownBlock=some q) W7 wa:=(((Fr.refl (λq=>q<W7.heap.size) W7).alloc (λ_ h=>h) _).mono (λq h=>h.1)).grown gk (λq h=>h.1) (λq hq h=>h.2 hq);have h67:Fr (λq=>q<w6.heap.size) w6 W7:=Fr.ofBelow em.o;have JS:∀q,u13.ownBlock=some q->w5.heap.size<=q/\q≠U.heap.size:=λq hq=>⟨(rF.o.lt q hq).1,by
        obtain⟨A5,n5,c5,h5⟩:=bS rF.o;have fC:W7.heap[U.heap.size]? =some (.cells #[xi,xe,xd,xk,xo,xt,.slice Al nl cl] 51 (0,0)):=(em.o.block _ (ag alt.o)).trans alt.o;have h:=rF.o;rw[h5]at h hq;exact Jq (T:=51) h (by decide) fC q hq⟩
       refine⟨j+1,by omega,by go_num,⟨k',by have:=T6.o.2;have:=Ga.o.1;omega,?_,?_,?_,?_,?_⟩,?_⟩
       ·rw[Nl.o,<-List.append_assoc,R1.o,List.length_append,Xw.o];have:=Ga.o.2;have:=Xw.o;simp;omega
       ·exact(T6.o.1.below em.o).fr hwa ⟨Nat.lt_of_lt_of_le T6.o.1.lt.1 em.o.size,λh=>by have:=(JS _ h).1;have:=yQ.o;have:=nA.o.size;omega⟩ ⟨Nat.lt_of_lt_of_le T6.o.1.lt.2.1 em.o.size,λh=>by have:=(JS _ h).1;have:=yQ.o;have:=nA.o.size;omega⟩
       ·rw[Nl.o,<-List.append_assoc,R1.o];intro q hq;rcases List.mem_append.1 hq with hq|hq
        ·exact ML.o q hq
        ·rw[List.mem_singleton]at hq;rw[hq]
       ·rw[Nl.o,<-List.append_assoc,R1.o,List.length_append,Xw.o,List.map_append,List.flatMap_append];exact cj
       ·exact(FZ.o.trans (h67.mono (λq (h:q<w5.heap.size/\q≠M)=>Nat.lt_of_lt_of_le h.1 FZ.o.size))).trans (hwa.mono (λq (h:q<w5.heap.size/\q≠M)=>⟨Nat.lt_of_lt_of_le h.1 QN,λe=>by have:=(JS _ e).1;omega⟩))
       ·exact(hwa.block _ ⟨Nat.lt_of_lt_of_le (ag alt.o) em.o.size,λe=>(JS _ e).2 rfl⟩).trans ((em.o.block _ (ag alt.o)).trans alt.o)
      case measure=>first|exact aQ iZ|(simp only[intOf];omega)
def lj (b:XBk) (p t:Int) (S:List ak) (k:Nat):List (bW × Int):=((S.take k).filter (λx=>decide (x.date<=t))).flatMap (kx b p)
theorem v6 (b:XBk) (p t:Int) {S:List ak} {k:Nat} (hk:k<S.length):lj b p t S (k+1)=if S[k].date<=t then lj b p t S k++kx b p S[k]else lj b p t S k:=by
 unfold lj;rw[List.take_add_one,List.getElem?_eq_getElem hk,Option.toList_some,List.filter_append];by_cases h:S[k].date<=t
 ·rw[if_pos h,List.filter_cons,if_pos (decide_eq_true h),List.flatMap_append];simp
 ·rw[if_neg h,List.filter_cons,if_neg (by simpa using h)];simp
theorem DT (b:XBk) (p t:Int) {S:List ak} {k:Nat} (hk:k<S.length) (h:S[k].date<=t):∃R,(S.filter (λx=>decide (x.date<=t))).flatMap (kx b p)=lj b p t S k++kx b p S[k]++R:=by
 refine⟨((S.drop (k+1)).filter (λx=>decide (x.date<=t))).flatMap (kx b p),?_⟩;have h1:=v6 b p t hk;rw[if_pos h]at h1;rw[<-h1];unfold lj;rw[<-List.flatMap_append,<-List.filter_append,List.take_append_drop]
theorem Ik {es:List ak} (hn:(es.map (·.id)).Nodup) (ent t:Int):(jV (ofE ent es)).filter (λx=>decide (x.date<=t))=jV (gJ es ent t):=by
 have h1:=(mu (fU (λx=>decide (x.entity=ent)) hn)).filter (λx=>decide (x.date<=t));have h2:=mu (fU (λx=>decide (x.entity=ent/\x.date<=t)) hn);have e:(es.filter (λx=>decide (x.entity=ent))).filter (λx=>decide (x.date<=t))=es.filter (λx=>decide (x.entity=ent/\x.date<=t)):=by
  rw[List.filter_filter];apply List.filter_congr;intro x _;rw[<-Bool.decide_and];exact decide_eq_decide.2 And.comm
 rw[e]at h1;exact h1.uniq h2
def BC (V:World) (G:List (bW × Int)) (K:Nat) (v:Value) (w:World):Prop:=
 G.length<=K/\(∀q∈G,q.2=0)/\w.ownsRow V.heap.size 42 7 v G.length ((G.map (·.1)).flatMap lq)/\Below V.heap.size V w
theorem BC.below {V:World} {G:List (bW × Int)} {K:Nat} {v:Value} {w w':World} (h:BC V G K v w) (hb:Below w.heap.size w w'):BC V G K v w':=
 ⟨h.1,h.2.1,bb h.2.2.1 hb,h.2.2.2.trans (hb.mono h.2.2.2.size)⟩
theorem BC.done {V:World} {G:List (bW × Int)} {K:Nat} {v:Value} {w:World} (h:BC V G K v w):∃A c,v=.slice A (kH G).1.length c/\(kH G).2=0/\ItV w (·<w.heap.size) (.slice A (kH G).1.length c) (kH G).1:=by
 obtain⟨h2,h4,h5,h6⟩:=h;rw[DP h4];have h5':w.ownsRow V.heap.size 42 7 v (G.map (·.1)).length ((G.map (·.1)).flatMap lq):=by rw[List.length_map];exact h5
 obtain⟨A,m,c,rfl⟩:=bS h5';obtain rfl:=fV h5';exact⟨A,c,rfl,rfl,AG (f:=lq) (λ_=>rfl) h5' (λ_ _=>rfl) (λq hq=>(h5'.lt q hq).2)⟩
theorem Hy (b:XBk) (bl gl tl:List Value) (Ae Ar:Option Addr) (ce cr:Nat) (ent p:Int) (w:World) (hk:BkC w (·<w.heap.size) bl b gl Ae ce Ar cr tl) (ci:okB b) (lX:cx p):Calls Tryz.prog 28 #[.agg bl.toArray,ent,p] w (rX (pQ b ent p) w):=by
 obtain⟨ib,hib,X7,Xu,XU⟩:=info_parts xr;have lg:=H_ (λ(w2:World) (hb:Below w.heap.size w w2)=>se b bl gl tl Ae Ar ce cr ent p w2 (hk.keep hb) ci);obtain⟨kY,yO,lF,CA,HE,m8,jG,jv,kB,Ac,cc,Iy,Ds,nF,zF⟩:=agt hk;obtain⟨I,hI⟩:=x_ (pQ b ent p);rw[hI];unfold pQ at hI;obtain⟨OE,rO⟩:∃c,fH b ent p=c:=⟨_,rfl⟩;have HOE:=H_ rO;rw[rO]at hI lg;have HI:=H_ hI;have HK:=H_ hk;have sW:=H_ ci;have Yf:=H_ lX;clear hk ci hI rO lX;go_enter Tryz.func28,Tryz.ntmps28;go_upto_region 1 with fail;obtain⟨W1,cS,H1,bC,dr,ewx⟩:=B_ w (.cells bl.toArray 36);rw[cS];clear ewx;have yN:=H_ (show W1.heap.size=w.heap.size+1 by rw[<-cS];simp);clear cS;have Br:=H_ bC;have akW:=H_ H1;clear H1 bC dr;go_wp2_with (refine W_ 17 36 3 (w.heap.size) akW.o (by rw[bF];exact congrArg some kY.o.symm) Tryz.underlying36 ?_);refine(lg.o W1 Br.o).mono ?_;rintro e w2 ⟨rfl,aH⟩;have yU:=t_ Br aH;have rP:=k_ aH akW;clear aH;by_cases h0:OE=0
 case neg=>
  have MZ:(OE !=0)=true:=by simpa using h0
  have hf:=H_ (show I=(([]:List bW),OE) by rw[<-HI.o,if_neg h0]);clear h0;go_wp2_with fail;go_ret2;exact⟨none,0,by rw[hf.o];rfl,by rw[hf.o];exact sr _ _ _ _,yU.o⟩
 case pos=>
 subst h0;obtain⟨eU,ep,iA⟩:=vN HOE.o;obtain⟨la,m5⟩:∃x,bA b.g p=x:=⟨_,rfl⟩;have vw:=H_ m5;have jI:=H_ (show cE b/\dZ b ent/\eN b p from⟨eU,ep,iA⟩);have pb:=H_ (λ(w2:World)=>show Calls Tryz.prog 30 #[.agg #[b.g.calendar.year,b.g.calendar.month,b.g.calendar.periods],p] w2 (ap w2 (.tuple #[la,()])) by
  have h:=eS b.g.calendar.year b.g.calendar.month b.g.calendar.periods p w2;rw[(mj eU.1 p).2 iA]at h;rw[<-m5];exact h)
 have hi:=HI.o;rw[if_pos rfl]at hi;have Sn:=H_ hi;have lT:=H_ (dg rP.o jG.o jv.o kB.o);clear eU ep iA m5 hi HI;go_wp2_with (refine w_ 27 23 26 w.heap.size (1) _ lT.o bV Tryz.underlying23 ?_);refine(pb.o _).mono ?_;rintro e w3 ⟨rfl,aZ⟩;have qF:=t_ yU aZ;have iY:=k_ aZ rP;have qx:=(ab iY.o 21).trans HE.o.1;have hm5:=sW.o.2.1.2;have IS:=H_ (aci b.es Ae ce ent w3 (HK.o.keep qF.o).es hm5);have hol:(ofE ent b.es).length<=100000:=Nat.le_trans (List.length_filter_le _ _) hm5;obtain⟨ne,bT⟩:∃n,b.es.length=n:=⟨_,rfl⟩;rw[bT]at qx IS;clear aZ bT hm5;go_wp2_with fail;refine IS.o.mono ?_;rintro e w4 ⟨A4,c4,rfl,Fg,bU⟩;have Xx:=H_ (Mc _ A4 c4 w4 Fg hol);have oP:=t_ qF bU;have i9:=k_ bU iY;obtain⟨S,hS⟩:=x_ (jV (ofE ent b.es));obtain⟨n4,Z8⟩:∃n,(ofE ent b.es).length=n:=⟨_,rfl⟩;rw[hS,Z8]at Xx;rw[Z8]at hol |-;have CB:=H_ hS;have VC:=H_ (show S.length=n4 by rw[<-hS,<-Z8];exact(mu (fU _ (ri jI.o.1.2.1))).1.length_eq);have aed:=H_ (show ∀x∈S,x∈b.es/\x.entity=ent by
  intro x hx;rw[<-hS]at hx;have h:=(mu (fU _ (ri jI.o.1.2.1))).1.mem_iff.1 hx;unfold ofE at h;simpa using h)
 have Nk:=H_ (show I=kH ((S.filter (λx=>decide (x.date<=la))).flatMap (kx b p)) by
  rw[<-hS,Ik (ri jI.o.1.2.1) ent la,<-Sn.o,<-vw.o];rfl)
 clear bU Fg hS Z8 qx;go_wp2_with fail;refine Xx.o.mono ?_;rintro e w5 ⟨A5,c5,rfl,hl5,cP⟩;have l5:=t_ oP cP;have lW:=k_ cP i9;obtain⟨zC,Bq,TW⟩:=pX hl5;have TQ:=H_ Bq;have Xi:=H_ TW;have Bc:=H_ (show zC.length=n4 by rw[<-VC.o,<-Bq,List.length_map]);rw[VC.o];clear cP hl5 Bq TW;go_wp2_with fail
 go_loopw [11,38] (λv i wr=>∃k:Nat,k<=n4/\i=.int .i64 (k:Int)/\BC w5 (lj b p la S k) (k*100000) v wr) (λ_ i _=>n4- (intOf i).toNat)
 case atStart=>exact⟨0,by omega,rfl,by simp[lj],by simp[lj],World.ownsRow_nil _ _ _ _,Below.refl _ _⟩
 case round=>
  obtain⟨k,hk,rfl,kW⟩:=hrel;have tA:=H_ kW;have X9:=H_ (show Below w5.heap.size w5 wr from kW.2.2.2);have adz:=kW.2.2.2.size;clear kW;rename World=>U;by_cases aU:k<n4
  case neg=>
   have bq:¬(k:Int)< (n4:Int):=by omega
   have yW:k=S.length:=by rw[VC.o];omega
   obtain⟨A2,c2,CJ,Rx,vl⟩:=tA.o.done;rw[show lj b p la S k=(S.filter (λx=>decide (x.date<=la))).flatMap (kx b p) by unfold lj;rw[yW,List.take_length],<-Nk.o]at CJ Rx vl;subst CJ;have IP:=H_ vl;have YN:=H_ Rx;have HBU:=H_ (show Below w.heap.size w U from l5.o.trans (X9.o.mono l5.o.size));obtain⟨I1,I2⟩:=I;simp only;obtain⟨q1,mF⟩:∃q,I1.length=q:=⟨_,rfl⟩;have HQ1:=H_ mF;rw[mF];clear yW Rx vl mF;go_wp2_with fail;go_ret2;exact⟨A2,c2,by rw[show I2=0 from YN.o,HQ1.o];first|done|rfl,IP.o,HBU.o⟩
  case pos=>
  have bq:(k:Int)< (n4:Int):=by omega
  have lO:k<zC.length:=by rw[Bc.o];exact aU
  have hkS:k<S.length:=by rw[VC.o];exact aU
  obtain⟨Be,b1,o1,YU,yT⟩:=Xi.o k zC[k] (List.getElem?_eq_getElem lO);have rQ:S[k]=zC[k].1:=by
   have h:=TQ.o;subst h;simp
  have QJ:=aed.o _ (List.getElem_mem hkS);have ns:=v6 b p la hkS;have hrg:=λh=>DT b p la hkS h
  rw[rQ]at QJ ns hrg;obtain⟨x,hx⟩:=x_ (zC[k]);rw[hx]at Be yT QJ ns hrg;subst YU;have⟨xi,xe,xd,xk,xo,xt,Al,nl,cl,FV,VG,kZ⟩:∃xi xe xd xk xo xt Al nl cl,bY x=[.int .i64 xi,.int .i64 xe,.int .i64 xd,.int .i64 xk,.int .i64 xo,.string xt,.slice Al nl cl]/\x.1.date=xd/\x.1.lines.length=nl:=⟨_,_,_,_,_,_,_,_,_,rfl,rfl,rfl⟩;rw[FV]at yT;rw[VG]at ns hrg;have Rv:=H_ FV;have tM:=H_ kZ;have adc:nl<=100000:=by rw[<-kZ];exact(sW.o.2.1.1 _ QJ.1).2
  have Z4:=H_ ns;have HRG:=H_ hrg;have MB:=H_ (And.intro Be QJ);have eZ:=H_ (show U.rangeAt b1 (o1+k*7) [xi,xe,xd,xk,xo,xt,.slice Al nl cl]from gC yT (Fr.ofBelow X9.o));clear yT ns hrg Be QJ FV kZ VG hx rQ hkS lO;go_upto_region 9 with(first|(refine w_ 41 51 40 b1 (o1+k*7) [xi,xe,xd,xk,xo,xt,.slice Al nl cl] eZ.o aY Tryz.underlying51 ?_)|(show wpList _ _ _ (Oper.mk none (Op.store _ (Operand.tmp 13) _) _ _ _ _::_) _ _;refine aO rfl 51 (.tmp 13) (.tmp 41) rfl rfl U #[(),(),(),(),(),.string ⟨#[]⟩,.slice none 0 0] 51 #[xi,xe,xd,xk,xo,xt,.slice Al nl cl] rfl rfl rfl aY rfl (by simp[Value.oneCell']) ?_;intro W3 H3 eA rE))
  have Kn:=H_ H3;have eA:=H_ eA;have NZ:=H_ (tA.o.below eA.o);have e2:=ab H3 2;clear H3 rE;by_cases hd:xd<=la
  case neg=>
   have Mv:decide (xd>la)=true:=decide_eq_true (by omega);have HJ:=H_ (show BC w5 (lj b p la S (k+1)) ((k+1)*100000) u11 W3 by
    rw[Z4.o,if_neg hd];obtain⟨h1,h2⟩:=NZ.o;exact⟨Nat.le_trans h1 (Nat.mul_le_mul_right _ (Nat.le_succ k)),h2⟩)
   clear hd;go_wp2_with fail;go_roundw
   case rel=>exact⟨k+1,by omega,by go_num,HJ.o⟩
   case measure=>first|exact aQ aU|(simp only[intOf];omega)
  case pos=>
  have Mv:decide (xd>la)=false:=decide_eq_false (by omega);obtain⟨RG,TF⟩:=HRG.o hd;have ns:=Z4.o;rw[if_pos hd]at ns;obtain⟨G,hG⟩:=x_ (lj b p la S k);rw[hG]at ns TF NZ;have adL:=H_ ns;have acs:=H_ TF;clear ns TF hG hd Z4 HRG;go_wp2_with fail
  go_loopw [11,14] (λv i wr=>∃j:Nat,j<=nl/\i=.int .i64 (j:Int)/\BC w5 (G++(kx b p x.1).take j) (k*100000+j) v wr/\wr.heap[U.heap.size]? =some (.cells #[xi,xe,xd,xk,xo,xt,.slice Al nl cl] 51 (0,0))) (λ_ i _=>nl- (intOf i).toNat)
  case atStart=>
   refine⟨0,by omega,rfl,?_,?_⟩
   ·rw[List.take_zero,List.append_nil,Nat.add_zero];exact NZ.o
   ·exact Kn.o
  case round=>
   obtain⟨j,hj,rfl,MU,CQ⟩:=hrel;have N1:=H_ MU;have FM:=H_ CQ;have e6:=ab CQ 6;clear MU CQ e2;rename World=>Z;by_cases iZ:j<nl
   case neg=>
    have gW:¬(j:Int)< (nl:Int):=by omega
    have HJ:=H_ (show BC w5 (lj b p la S (k+1)) ((k+1)*100000) u11 Z by
     have h:=N1.o;rw[show j=(kx b p x.1).length by rw[fM,tM.o];omega,List.take_length,<-adL.o]at h;obtain⟨h2,h3⟩:=h;rw[fM,tM.o]at h2;exact⟨by omega,h3⟩)
    go_wp2_with fail;go_roundw
    case rel=>exact⟨k+1,by omega,by go_num,HJ.o⟩
    case measure=>first|exact aQ aU|(simp only[intOf];omega)
   case pos=>
   have gW:(j:Int)< (nl:Int):=by omega
   obtain⟨fZ,mG,bv,lM⟩:=N1.o;have ML:=H_ mG;have iI:=H_ bv;have HFR:=H_ lM;have Ga:=H_ fZ;have IK:=H_ (show Below w.heap.size w Z from l5.o.trans (lM.mono l5.o.size));have ada:=k_ lM lW;have RM:j<x.1.lines.length:=by rw[tM.o];exact iZ
   have Sf:=AO b bl gl tl Ae Ar ce cr ent p Z (HK.o.keep IK.o) sW.o jI.o.1 jI.o.2.2 jI.o.2.1 Yf.o x.1 (bY x) j
    (ax.mono (ax.fr MB.o.1 (Fr.ofBelow lM)) (λq h=>Nat.lt_of_lt_of_le h lM.size)) MB.o.2.2 RM (oz jI.o.1 MB.o.2.1)
   rw[Rv.o]at Sf;have IA:=tg b p x.1 RM;have Gt:=pT b p x.1 RM;obtain⟨it,RN⟩:=x_ (jr b x.1 j p);rw[RN]at Sf IA Gt;obtain⟨⟨⟨i1,i2⟩,i3,i4,i5,i6,i7⟩,code⟩:=it;have XH:=H_ Sf;have Nl:=H_ IA;have HGT:=H_ Gt;clear Sf IA Gt RN mG bv lM fZ RM;go_wp2_with (first|(refine W_ 54 36 3 (w.heap.size) ada.o (by rw[bF];exact congrArg some kY.o.symm) Tryz.underlying36 ?_)|(refine W_ 55 51 13 (U.heap.size) FM.o aY Tryz.underlying51 ?_));refine XH.o.mono ?_;rintro e w6 ⟨rfl,dd⟩;have dK:=H_ dd;have ga:=H_ (bb iI.o dd);have alt:=k_ dd FM;have FZ:=t_ HFR dd;clear dd e6;go_upto_region 14 with(show wpList _ _ _ (Oper.mk none (Op.store _ (Operand.tmp 15) _) _ _ _ _::_) _ _;refine aO rfl 42 (.tmp 15) (.tmp 59) rfl rfl w6 #[(),(),(),(),(),(),()] 42 #[i1,i2,i3,i4,i5,i6,i7] rfl rfl rfl aP rfl (by simp[Value.oneCell']) ?_;intro W7 H7 em HS7)
   have Da:=H_ H7;have em:=H_ em;clear H7 HS7;by_cases hc:code=0
   case neg=>
    have lS:(code !=0)=true:=by simpa using hc
    have hf:=H_ (show I=(([]:List bW),code) by
     rw[Nk.o,acs.o];have h1:kx b p x.1=(kx b p x.1).take j++((⟨⟨i1,i2⟩,i3,i4,i5,i6,i7⟩,code):bW × Int)::(kx b p x.1).drop (j+1):=by
      conv=>lhs;rw[<-List.take_append_drop j (kx b p x.1)]
      rw[List.drop_eq_getElem_cons (by rw[fM,tM.o];exact iZ)];have h2:=HGT.o;rw[List.getElem?_eq_getElem (by rw[fM,tM.o];exact iZ)]at h2;rw[Option.some.inj h2]
     rw[h1];have h3:=Ai (m:=(kx b p x.1).drop (j+1)++RG) (i:=((⟨⟨i1,i2⟩,i3,i4,i5,i6,i7⟩,code):bW × Int)) ML.o hc;simp only[List.append_assoc,List.cons_append]at h3 |-;exact h3)
    have Gf:=H_ (show Below w.heap.size w W7 from(IK.o.trans (dK.o.mono IK.o.size)).trans (em.o.mono (Nat.le_trans IK.o.size dK.o.size)));clear hc;go_wp2_with fail;go_ret2;exact⟨none,0,by rw[hf.o];rfl,by rw[hf.o];exact sr _ _ _ _,Gf.o⟩
   case pos=>
   subst hc;obtain⟨GG,VT⟩:=x_ (G++(kx b p x.1).take j);rw[VT]at ga ML Ga;have R1:=H_ VT;have Xb:GG.length<=10000100000:=by have:=Ga.o;have:k*100000<=10000000000:=Nat.mul_le_mul_right 100000 (show k<=100000 by omega);omega
   obtain⟨ng,Xa⟩:=x_ (GG.length);rw[Xa]at ga Xb;have Xw:=H_ Xa;have rF:=H_ (bb ga.o em.o);have QN:w5.heap.size<=W7.heap.size:=Nat.le_trans FZ.o.size em.o.size;clear VT Xa;go_wp2_with (first|(refine W_ 65 42 15 (w6.heap.size) Da.o aP Tryz.underlying42 ?_)|(at_builtin;go_loud (refine cq _ rfl (.tmp 64) (.tmp 66) 63 rfl w5.heap.size 42 ib _ 7 56 Tryz.underlying63 hib X7 Xu XU rfl (by decide) u11 ng ((GG.map (·.1)).flatMap lq) rfl (rF.o.alloc _) (λ_=>True) (some ⟨W7.heap.size,0,none⟩) 1 1 [i1,i2,i3,i4,i5,i6,i7] rfl (fq (heap_alloc_new _ _) rfl) (by simp[Value.oneCell']) (by simp only[maxLen];omega) (by omega) (by simp;omega) ?_);intro v9 wa cj gk qw));go_roundw
   case rel=>
    have hwa:Fr (λq=>q<W7.heap.size/\¬u11.ownBlock=some q) W7 wa:=(((Fr.refl (λq=>q<W7.heap.size) W7).alloc (λ_ h=>h) _).mono (λq h=>h.1)).grown gk (λq h=>h.1) (λq hq h=>h.2 hq);have JS:∀q,u11.ownBlock=some q->w5.heap.size<=q/\q≠U.heap.size:=λq hq=>⟨(rF.o.lt q hq).1,by
     obtain⟨A6,n6,c6,h6⟩:=bS rF.o;have fC:W7.heap[U.heap.size]? =some (.cells #[xi,xe,xd,xk,xo,xt,.slice Al nl cl] 51 (0,0)):=(em.o.block _ (ag alt.o)).trans alt.o;have h:=rF.o;rw[h6]at h hq;exact Jq (T:=51) h (by decide) fC q hq⟩
    refine⟨j+1,by omega,by go_num,⟨?_,?_,?_,?_⟩,?_⟩
    ·rw[Nl.o,<-List.append_assoc,R1.o,List.length_append,Xw.o];have:=Ga.o;have:=Xw.o;simp;omega
    ·rw[Nl.o,<-List.append_assoc,R1.o];intro q hq;rcases List.mem_append.1 hq with hq|hq
     ·exact ML.o q hq
     ·rw[List.mem_singleton]at hq;rw[hq]
    ·rw[Nl.o,<-List.append_assoc,R1.o,List.length_append,Xw.o,List.map_append,List.flatMap_append];exact cj
    ·exact(((Fr.ofBelow (FZ.o.trans (em.o.mono FZ.o.size)))).trans (hwa.mono (λq (h:q<w5.heap.size)=>⟨Nat.lt_of_lt_of_le h QN,λe=>by have:=(JS _ e).1;omega⟩))).below
    ·exact(hwa.block _ ⟨Nat.lt_of_lt_of_le (ag alt.o) em.o.size,λe=>(JS _ e).2 rfl⟩).trans ((em.o.block _ (ag alt.o)).trans alt.o)
   case measure=>first|exact aQ iZ|(simp only[intOf];omega)
theorem j9 {b:XBk} (hf:pI b) (bP:Fb b):okB b:=⟨hf.1.2.2.small,GL hf.1,λr hr=>by have h:r.currency.size<=140737488355327:=bP.2.2 r hr;omega,by have:=hf.2;omega⟩
theorem alg {b:XBk} (hf:pI b):b.es.length<=61/\∀x∈b.es,x.lines.length<=60:=⟨hf.1.2.1,λx hx=>(hf.1.1 x hx).1⟩
theorem ak7 {α β:Type} {f:α->List β} {K:Nat}:∀{l:List α},(∀x∈l,(f x).length<=K)->(l.flatMap f).length<=l.length*K
 |[],_=>by simp
 |x::l,h=>by
  rw[List.flatMap_cons,List.length_append,List.length_cons,Nat.succ_mul];have h1:=h x (List.mem_cons_self ..);have h2:=ak7 (l:=l) (λy hy=>h y (List.mem_cons_of_mem _ hy));omega
theorem te {b:XBk} (hf:pI b) (ent p:Int):aks (pQ b ent p).1:=by
 by_cases h:(pQ b ent p).2=0
 ·obtain⟨hb,hall,he⟩:=rl h;have hv:=(vN hb).1;obtain⟨f1,f2⟩:=alg hf;rw[he];refine⟨λi hi=>?_,?_⟩
  ·obtain⟨x,hx,hi⟩:=List.mem_flatMap.1 hi;obtain⟨j,hj,rfl⟩:=List.mem_map.1 hi;have h0:=hall x hx j (List.mem_range.1 hj);unfold jr at h0 |-;simp only at h0 |-;split
   ·simp
   ·split
    ·simp
    ·exact OQ _ _
  ·have hm:∀x∈Je b ent p,((List.range x.lines.length).map (λj=>(jr b x j p).1)).length<=60:=λx hx=>by
    rw[List.length_map,List.length_range];exact f2 x ((Lj hv).1 hx).1
   have h1:=ak7 hm;have h2:(Je b ent p).length<=b.es.length:=by
    rw[(OY hv ent p).1.length_eq];exact List.length_filter_le _ _
   have h3:(Je b ent p).length*60<=61*60:=Nat.mul_le_mul_right 60 (by omega);omega
 ·rw[ak0 h];exact⟨λi hi=>(by cases hi),by simp⟩
def akn (B L:List bW):List Int × Int:=([-f9 B,f9 B- f9 (L.take B.length),-(f9 L- f9 (L.take B.length)),-f9 L],0)
def akh (b:XBk) (ent p:Int):List Int × Int:=
 if(pQ b ent p).2≠0 then([0,0,0,0],(pQ b ent p).2)
 else if 0<p/\(pQ b ent (p- 1)).2≠0 then([0,0,0,0],(pQ b ent (p- 1)).2)
 else akn (if 0<p then(pQ b ent (p- 1)).1 else[]) (pQ b ent p).1
def exC (l:List Int):List Value:=l.map (λn=> .int .i64 n)
end Go.Proofs.YtibiddakakgakaaGreat
