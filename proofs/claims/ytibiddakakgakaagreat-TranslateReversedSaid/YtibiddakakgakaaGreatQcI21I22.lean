/- journal.Reversal; the reference's Reverse. Written by gen_i21.py. -/
import Derived.Test.YtibiddakakgakaaGreatQcI16A1
set_option linter.unusedVariables false
set_option linter.unusedSimpArgs false
set_option maxRecDepth 4000
attribute [local go_sem ↓] Go.wp_at_zero Go.wp_at_succ
set_option maxHeartbeats 16000000
namespace Go.Proofs.YtibiddakakgakaaGreat
open Go Go.RowKit
def ajj (nid nd:Int) (x:ak) (w:World) (e:Ending) (w':World):Prop:=∃A c,e=.returned (.agg #[nid,x.entity,nd,(3:Int),x.id,x.text,.slice A x.lines.length c])/\
 w'.ownsRow w.heap.size 60 3 (.slice A x.lines.length c) x.lines.length ((x.lines.map nu).flatMap iH)/\aj bc 3 w' (λq=>w.heap.size<=q/\q<w'.heap.size) [.slice A x.lines.length c] (x.lines.map nu)/\Below w.heap.size w w'
theorem ah1 (xi xe xd xk xo:Int) (xt:ByteArray) (ls:List bG) (Al:Option Addr) (cl:Nat) (nid nd:Int) (w:World) (hl:aj bc 3 w (·<w.heap.size) [.slice Al ls.length cl] ls) (hm:∀x∈ls,Hf x) (hn:ls.length<=1000):Calls Tryz.prog 22 #[.agg #[xi,xe,xd,xk,xo,xt,.slice Al ls.length cl],nid,nd] w (ajj nid nd ⟨xi,xe,xd,xk,xo,xt,ls⟩ w):=by
 obtain⟨ia,oR,ge,gg,gh⟩:=info_parts xu;have HL:=H_ hl;have RV:=H_ hm;obtain⟨nl,bj⟩:∃n,ls.length=n:=⟨_,rfl⟩;have HN:=H_ bj;rw[bj]at hn |-;clear hl hm bj;go_enter Tryz.func22,Tryz.ntmps22;go_upto_region 1 with fail;obtain⟨W,hW,H,HB,HS,ewx⟩:=B_ w (.cells #[xi,xe,xd,xk,xo,xt,.slice Al nl cl] 51);rw[hW];clear ewx;obtain⟨W2,fR,H2,dz,jK,ewx⟩:=B_ W (.cells #[(),(),(),(),(),.string ⟨#[]⟩,.slice none 0 0] 51);rw[fR];replace H:=(dz.block _ (ag H)).trans H;clear ewx;clear fR;have eW:W.heap.size=w.heap.size+1:=by rw[<-hW];simp
 rw[eW]at H2;clear hW;have aH:=HB.trans (dz.mono HB.size);have dW:=dz.size;have lV:=ag H2;have nf:w.heap.size<W2.heap.size:=by omega
 have HH:=H_ H;have HZ:=H_ H2;have EW:=H_ eW;clear H H2 eW;have c0:=ab HH.o 0;have c1:=ab HH.o 1;have c5:=ab HH.o 5;go_upto_region 2 with(show wpList _ _ _ (Oper.mk none (Op.store _ (Operand.tmp 7) _) _ _ _ _::_) _ _;refine aO rfl 51 (.tmp 7) (.tmp 18) rfl rfl W2 #[(),(),(),(),(),.string ⟨#[]⟩,.slice none 0 0] 51 #[nid,xe,nd,(3:Int),xi,xt,.slice none 0 0] rfl rfl rfl aY rfl (by simp[Value.oneCell']) ?_;intro W3 H3 eA rE)
 have zA:=H_ H3;have kS:=k_ eA HH;have l7:=k_ eA HZ;have aR:=aH.trans (eA.mono aH.size);have c6:=ab kS.o 6;clear H3 c0 c1 c5;clear c6;go_wp2_with fail
 go_loopw [8] (λi wr=>∃(k:Nat) (v:Value),k<=nl/\i=.int .i64 (k:Int)/\Fr (QX W3.heap.size W2.heap.size) W3 wr/\wr.heap[W2.heap.size]? =some (.cells #[nid,xe,nd,(3:Int),xi,xt,v] 51 (0,0))/\wr.ownsRow W3.heap.size 60 3 v k (((ls.take k).map nu).flatMap iH)) (λi _=>nl- (intOf i).toNat)
 case atStart=>exact⟨0,_,by omega,rfl,Fr.refl _ _,zA.o,World.ownsRow_nil _ _ _ _⟩
 case round=>
  obtain⟨k,v,hk,rfl,lM,hE,VZ⟩:=hrel;have HF:=H_ lM;have Z1:=H_ hE;have tz:=H_ VZ;have bP:=lM.size;have c6:=ab ((HF.o.block w.heap.size ⟨by have:=eA.size;omega,by omega⟩).trans kS.o) 6;by_cases aU:k<nl
  case pos=>
   have bq:(k:Int)< (nl:Int):=by omega
   have bI:k<ls.length:=by rw[HN.o];exact aU
   obtain⟨b,o,es,dj,ed,bL,aS⟩:=aj.get HL.o k bI;subst dj;have bE:=(bc.lit bL).1;rw[bE]at aS;have Mz:=RV.o _ (List.getElem_mem bI);have tA:=H_ (Pi bI);obtain⟨x,hx⟩:=x_ (ls[k]);rw[hx]at aS Mz tA;obtain⟨la,lm,lp⟩:=x;obtain⟨nx,jA⟩:=Mz
   try simp only at aS nx jA
   have zD:b<W2.heap.size:=by have:=HB.size;have:=dz.size;have:=nf;show b<_;exact Nat.lt_of_lt_of_le ed aH.size
   have eZ:=H_ (((aS.fr (Fr.ofBelow aR)).fr (HF.o.mono (λq (hq:q<w.heap.size)=>⟨by have:=aR.size;omega,by have:=aH.size;omega⟩))).range);clear bL bE aS hx lM;go_upto_region 6 with(refine w_ 30 60 29 b (o+k*3) [la,lm,lp] eZ.o cK Tryz.underlying60 ?_);have H6:=heap_alloc_new wr (.cells #[la,lm,lp] 60);have dK:=ai wr (.cells #[la,lm,lp] 60);have my:=ag H6;have yK:=al hE (.cells #[la,lm,lp] 60);have MH:=VZ.alloc (.cells #[la,lm,lp] 60);generalize mC:wr.alloc (Obj.cells #[la,lm,lp] 60)=W6 at*;clear mC;have q1:=ab H6 1;have q2:=bB H6 1;have Vj:=H_ yK;have ac5:=H_ MH;have QP:=H_ H6;have dd:=dK;clear H6 hE VZ yK MH;go_upto_region 7 with fail
   have H7:=aG QP.o 1 (.int .i64 (-lm));have em:Below wr.heap.size wr (W6.setCell ⟨wr.heap.size,1,none⟩ (.int .i64 (-lm))):=dK.setCell (p:=⟨wr.heap.size,1,none⟩) (Nat.le_refl _) _;have QM:=(Below.heap_setCell W6 ⟨wr.heap.size,1,none⟩ (.int .i64 (-lm)) W2.heap.size (by show W2.heap.size≠wr.heap.size;omega)).trans Vj.o;have HO7:=cU (w':=W6.setCell ⟨wr.heap.size,1,none⟩ (.int .i64 (-lm))) ac5.o (λg hg=>Below.heap_setCell W6 ⟨wr.heap.size,1,none⟩ _ g (by show g≠wr.heap.size;have:=(tz.o.lt _ hg).2;omega));generalize W6.setCell ⟨wr.heap.size,1,none⟩ (.int .i64 (-lm))=W7 at*;have Mo:=H_ (show W7.heap[wr.heap.size]? =some (.cells #[la,(-lm:Int),lp] 60 (0,0))from H7);have ajn:=H_ QM;have rF:=H_ HO7;have adF:=H_ em;have ae5:=em.size;clear H7 QM HO7 em q1 q2;have d6:=ab ajn.o 6;have NEO:=H_ (show some W2.heap.size≠v.ownBlock from λe=>by have:=(rF.o.lt _ e.symm).1;omega);go_wp2_with (first|(refine W_ 37 60 9 wr.heap.size Mo.o cK Tryz.underlying60 ?_)|(at_builtin;go_loud (refine cq _ rfl (.tmp 36) (.tmp 38) 49 rfl W3.heap.size 60 ia _ 3 24 sq oR ge gg gh rfl (by decide) v k (((ls.take k).map nu).flatMap iH) rfl (rF.o.alloc _) (λ_=>True) (some ⟨W7.heap.size,0,none⟩) 1 1 [la,(-lm:Int),lp] rfl (fq (heap_alloc_new _ _) rfl) (by simp[Value.oneCell']) (by simp only[maxLen];omega) (by omega) (by simp;omega) ?_);intro v9 w9 cj gk qw;obtain⟨A9,n9,c9,rfl⟩:=bS cj;have hE9:=(gk.block W2.heap.size (by simp;omega) NEO.o).trans (al ajn.o _);have s6:=ab hE9 6;have s7:=bB hE9 6));go_roundw
   case rel=>
    obtain⟨a1,_,a3,_⟩:=DW (i:=6) (eB:=60) (sB:=3) (nB:=0) (xsB:=[]) (vB:=.slice none 0 0) rE HF.o (adF.o.alloc (by omega) _) gk (λg hg=>(rF.o.lt _ hg).1) (World.ownsRow_nil _ _ _ _) (λg _ h=>by cases h) qw cj;refine⟨k+1,.slice A9 n9 c9,by omega,by go_num,a3,aG hE9 6 _,?_⟩;rw[tA.o];exact a1
   case measure=>first|exact aQ aU|(simp only[intOf];omega)
  case neg=>
   have bq:¬(k:Int)< (nl:Int):=by omega
   have Kz:k=nl:=by omega
   subst Kz;have QW:=H_ ((HF.o.block (w.heap.size+1) ⟨by have:=eA.size;omega,by omega⟩).trans l7.o);have tQ:Below w.heap.size w wr:=((Fr.ofBelow aR).trans (HF.o.mono (λq (hq:q<w.heap.size)=>⟨by have:=aR.size;omega,by have:=aH.size;omega⟩))).below;have go:=H_ tQ;have CR:=tQ.size;have eX:((ls.take k).map nu).length=k:=by rw[List.length_map,List.length_take];have:=HN.o;omega
   have hall:(ls.take k)=ls:=List.take_of_length_le (by rw[HN.o];omega);have pb:=H_ (sA (El:=bc) (f:=iH) (Q:=λq=>w.heap.size<=q/\q<wr.heap.size) (xs:=ls.map nu) (λ_=>rfl) (by rw[List.length_map,HN.o];have h:=tz.o;rw[hall]at h;exact h) (λx hx=>by
    obtain⟨y,hy,rfl⟩:=List.mem_map.1 hx;obtain⟨j,hj,rfl⟩:=List.getElem_of_mem hy;have hb:=ah5 HL.o hj;have hm:=RV.o _ hy;exact⟨[_],[_],[_],rfl,⟨rfl,hb.1⟩,⟨rfl,by have h1:=hm.1;have h2:=hm.2;show am (-ls[j].amount);unfold am;omega⟩,⟨rfl,hb.2.2⟩⟩) (λg hg=>⟨by have:=(tz.o.lt _ hg).1;have:=aR.size;omega,(tz.o.lt _ hg).2⟩) (by rw[List.length_map,HN.o];exact hn))
   obtain⟨A9,c9,rfl⟩:∃A9 c9,v=.slice A9 k c9:=by
    obtain⟨A9,c9,e,_⟩:=pb.o;rw[List.length_map,HN.o]at e;exact⟨A9,c9,by simpa using e⟩
   have hkE:=H_ hall;clear eX hall lM hE VZ tQ;go_wp2_with (first|(refine W_ 41 51 7 W2.heap.size Z1.o aY Tryz.underlying51 ?_)|(show wpList _ _ _ (Oper.mk none (Op.store _ (Operand.tmp 6) _) _ _ _ _::_) _ _;refine wpList_store_row rfl 51 (.tmp 6) (.tmp 41) rfl (w.heap.size+1) #[nid,xe,nd,(3:Int),xi,xt,.slice A9 k c9] rfl rfl 51 #[(),(),(),(),(),.string ⟨#[]⟩,.slice none 0 0] QW.o (by rw[aY];rfl) rfl (by simp[Value.oneCell']) ?_));refine bodyPost_ret (v:=_) (eT rfl _ _ (w.heap.size+1) 51 _ (0,0) _ rfl (aB QW.o _) Tryz.underlying51 rfl aY) rfl ?_;have NX:=cC wr (w.heap.size+1) #[nid,xe,nd,(3:Int),xi,xt,.slice A9 k c9];have hss:(wr.setRow (w.heap.size+1) #[nid,xe,nd,(3:Int),xi,xt,.slice A9 k c9]).heap.size=wr.heap.size:=by simp
   have lO:=cU (w':=wr.setRow (w.heap.size+1) #[nid,xe,nd,(3:Int),xi,xt,.slice A9 k c9]) tz.o (λg hg=>NX.block g (by show g≠w.heap.size+1;have:=(tz.o.lt _ hg).1;have:=eA.size;omega));rw[hkE.o]at lO;refine⟨A9,c9,by rw[HN.o],(by
    show World.ownsRow _ _ _ 3 (.slice A9 ls.length c9) ls.length ((ls.map nu).flatMap iH);rw[HN.o];exact mo lO (by have:=aR.size;omega)),?_,aD go.o (by omega) _⟩
   show aj bc 3 _ _ [.slice A9 ls.length c9] (ls.map nu);rw[HN.o];refine sA (El:=bc) (f:=iH) (xs:=ls.map nu) (λ_=>rfl) (by rw[List.length_map,HN.o];exact lO) (λx hx=>by
    obtain⟨y,hy,rfl⟩:=List.mem_map.1 hx;obtain⟨j,hj,rfl⟩:=List.getElem_of_mem hy;have hb:=ah5 HL.o hj;have hm:=RV.o _ hy;exact⟨[_],[_],[_],rfl,⟨rfl,hb.1⟩,⟨rfl,by have h1:=hm.1;have h2:=hm.2;show am (-ls[j].amount);unfold am;omega⟩,⟨rfl,hb.2.2⟩⟩) (λg hg=>⟨by have:=(tz.o.lt _ hg).1;have:=aR.size;omega,by rw[hss];exact(tz.o.lt _ hg).2⟩) (by rw[List.length_map,HN.o];exact hn)
theorem ah0 (xi xe xd xk xo:Int) (xt:ByteArray) (ls:List bG) (Al:Option Addr) (cl:Nat) (nid nd:Int) (w:World) (hl:aj bc 3 w (·<w.heap.size) [.slice Al ls.length cl] ls) (hm:∀x∈ls,Hf x) (hn:ls.length<=1000):Calls Tryz.prog 22 #[.agg #[xi,xe,xd,xk,xo,xt,.slice Al ls.length cl],nid,nd] w (ahB nid nd ⟨xi,xe,xd,xk,xo,xt,ls⟩ w):=
 (ah1 xi xe xd xk xo xt ls Al cl nid nd w hl hm hn).mono λe w' ⟨A,c,h1,h2,h3,h4⟩=>⟨A,c,h1,h3,h4⟩
theorem aiy (s:Nat):∀(n:Nat) (es:List ak),(∀j:Nat,s+1<=j->j<=s+n->∃x∈es,x.id=(j:Int))->n<=es.length
 |0,es,_=>Nat.zero_le _
 |n+1,es,h=>by
  obtain⟨x,hx,mA⟩:=h (s+n+1) (by omega) (by omega);obtain⟨a,b,rfl⟩:=List.append_of_mem hx;have:=aiy s n (a++b) (λj h1 h2=>by
   obtain⟨y,hy,M6⟩:=h j h1 (by omega);rcases List.mem_append.1 hy with hy|hy
   ·exact⟨y,List.mem_append_left _ hy,M6⟩
   ·rcases List.mem_cons.1 hy with rfl|hy
    ·rw[M6]at mA;omega
    ·exact⟨y,List.mem_append_right _ hy,M6⟩)
  simp at this |-;omega
theorem aiR {es:List ak} {id:Int}:(0<=zs es id/\∃x∈es,x.id=id)\/(zs es id<0/\eH es id=none):=by
 unfold zs;cases h:eH es id with
 |none=>exact .inr ⟨by show(-1:Int)<0;omega,rfl⟩
 |some k=>
  obtain⟨hk,mA⟩:=sg h;exact .inl ⟨by show(0:Int)<=(k:Int);omega,_,List.getElem_mem hk,mA⟩
theorem ah6 {g:au} {es:List ak} (h:okJ g es) {i:Nat} (hi:i<es.length):eH es es[i].id=some i:=by
 unfold eH;rw[List.findIdx?_eq_some_iff_getElem];refine⟨hi,by simp,λj hj=>?_⟩;have h1:=(rp (h i hi)).2.1;have h2:=Lw h1 es[j] (by
  rw[List.mem_take_iff_getElem];exact⟨j,by omega,rfl⟩)
 simpa using h2
end Go.Proofs.YtibiddakakgakaaGreat
