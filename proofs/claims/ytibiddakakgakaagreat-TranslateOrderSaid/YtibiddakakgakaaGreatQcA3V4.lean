/- journal.Check; Check and Valid of the reference. Written by gen_a3.py. -/
import Derived.Test.YtibiddakakgakaaGreatQcH2
import Derived.Test.YtibiddakakgakaaGreatQcI16A1
import Derived.RangeFuncNested
import Derived.RangeFuncBound
import Derived.RangeFuncCalls
import Derived.RangeFuncLeaves
import Derived.Shelf.Abstract
import Derived.Shelf.RegionOpen
import Derived.OwnWalkIn
import Derived.TacticsInMore
import Derived.LoopNIn
import Derived.LoopIn
import Derived.RangeFuncWrites
import Derived.Sort.CutIn
import Derived.OrdersIn
import Derived.Great.BuildSlice
import Derived.Laws.IdiomStrings
set_option linter.unusedVariables false
set_option linter.unusedSimpArgs false
set_option maxRecDepth 4000
attribute [local go_sem ↓] Go.wp_at_zero Go.wp_at_succ
set_option maxHeartbeats 16000000
namespace Go.Proofs.YtibiddakakgakaaGreat
section
open Go Go.RowKit
def kQ (g:au) (l:List ak):Prop:=bh g=true/\okJ g l
def xI (l:List ak):Prop:=(∀x∈l,x.text.size<=140737488355327/\x.lines.length<=100000)/\l.length<=100000
def DA (g:au) (l:List ak) (w:World) (e:Ending) (w':World):Prop:=∃i c:Int,e=.returned (.tuple #[i,c])/\(c=0↔kQ g l)/\Below w.heap.size w w'
theorem Jm {g:au} {l:List ak} {k:Nat} (hk:k<l.length) (h:eF g (l.take k) l[k]≠0):¬kQ g l:=λhv=>h (hv.2 k hk)
theorem EB {g:au} {l:List ak} {k:Nat} (hk:k<l.length) (h:okJ g (l.take k)) (hp:eF g (l.take k) l[k]=0):okJ g (l.take (k+1)):=by
 rw[List.take_add_one,List.getElem?_eq_getElem hk];exact EA h hp
theorem O7 (g:au) (l:List ak) (gl:List Value) (A:Option Addr) (c:Nat) (w:World) (hg:aL w (·<w.heap.size) gl g) (hl:aj ax 7 w (·<w.heap.size) [.slice A l.length c] l) (ci:dQ g) (VB:xI l):
 Calls Tryz.prog 78 #[.agg gl.toArray,.slice A l.length c] w (DA g l w):=by
 have Dg:=H_ (λ(w2:World) (hb:Below w.heap.size w w2)=>acd g gl w2 (hg.keep hb) ci);have fu:=H_ (show gl.toArray.size=21 by have:=hg.len;simpa using this);have HL:=H_ hl;have HMO:=H_ VB;have sW:=H_ ci;have jw:=hl.cap;unfold maxLen at jw;obtain⟨n,bj⟩:=x_ (l.length);have HN:=H_ bj;rw[bj]at jw |-;have Sb:n<=9223372036854775807:=by omega
 clear hg hl bj jw VB ci;go_enter Tryz.func78,Tryz.ntmps78;go_upto_region 1 with fail;obtain⟨W,cS,H1,bC,dr,ewx⟩:=B_ w (.cells gl.toArray 29);rw[cS];clear ewx;clear cS;have HK:=H_ H1;have gT:=H_ bC;clear H1;go_wp2_with (refine W_ 12 29 2 (w.heap.size) HK.o (by rw[ay];exact congrArg some fu.o.symm) Tryz.underlying29 ?_);refine(Dg.o W bC).mono ?_;rintro e w2 ⟨aH,oX⟩;have aF:=gT.o.trans (aH.mono gT.o.size);rcases oX with⟨hF,rfl⟩|⟨hT,J,D0,O0,rfl,hJC,YB⟩
 case inl=>
  have HF:=H_ hF;clear hF;go_wp2_with fail;go_ret2;exact⟨0,1,rfl,⟨o_,λh=>by have:=h.1;rw[HF.o]at this;cases this⟩,aF⟩
 case inr=>
 have HT:=H_ hT;have Vo:=H_ hJC;have HDO:=H_ YB;have adT:=H_ aF;clear hT hJC YB Dg;go_wp2_with fail
 go_loopw [21] (λi wr=>∃(k:Nat) (D O:Nat->Prop),k<=n/\i=.int .i64 (k:Int)/\Below W.heap.size W wr/\JC wr D O J g (l.take k)/\(∀q,D q\/O q->W.heap.size<=q)) (λi _=>n- (intOf i).toNat)
 case atStart=>exact⟨0,D0,O0,by omega,rfl,aH,Vo.o,HDO.o⟩
 case round=>
  obtain⟨k,D,O,hk,rfl,tQ,hJC,YB⟩:=hrel;generalize wr=w3 at*;have hb:=gT.o.trans (tQ.mono gT.o.size);have go:=H_ tQ;have zI:=H_ hb;have Vo:=H_ hJC;have HDO:=H_ YB;clear hJC YB;by_cases aU:k<n
  case pos=>
   have bq:(k:Int)< (n:Int):=by omega
   have bI:k<l.length:=by rw[HN.o];exact aU
   obtain⟨b,o,cs,dj,ed,bL,aS⟩:=aj.get HL.o k bI;subst dj;obtain⟨Al,cl,ft,oY,lP⟩:=ax.lit bL;have hfx:=HMO.o.1 _ (List.getElem_mem bI);have RQ:=H_ Vo.o.ok;have mG:=RQ.o;have py:=H_ (Jm (g:=g) bI);have Dr:=H_ (EB bI mG);have Nl:=H_ (show l.take (k+1)=l.take k++[l[k]] by rw[List.take_add_one,List.getElem?_eq_getElem bI];rfl);obtain⟨x,hx⟩:=x_ (l[k]);rw[hx]at ft oY lP hfx bL py Dr Nl;subst ft;obtain⟨ES,J1⟩:=x_ (l.take k);have hEL:ES.length<=100000:=by
    have h1:=HMO.o.2;rw[<-J1,List.length_take];omega
   have Db:=H_ J1;rw[J1]at Vo py Dr Nl;have tM:=H_ hEL;have HFX:=H_ hfx;have MB:=H_ bL;obtain⟨R,hR⟩:=x_ (eF g ES x);rw[hR]at py Dr;have rD:=H_ (λ(w2:World) (hS:Below w3.heap.size w3 w2)=>show Calls Tryz.prog 109 #[.pointer (some ⟨J,0,none⟩),.agg #[x.id,x.entity,x.date,x.kind,x.of_,x.text,.slice Al x.lines.length cl]] w2 (λe w'=>e=.returned (.int .i64 R)/\sX D O J g ES (if R=0 then ES++[x]else ES) w2 w') by
    have kT:=zI.o.trans (hS.mono zI.o.size);obtain⟨J0,acT,v2,bi2,br2,hJ2⟩:=Vo.o.below hS;have h:=ZL D O J g ES J0 acT v2 bi2 br2 x _ w2 hJ2 sW.o (ax.mono (ax.fr MB.o (Fr.ofBelow kT)) (λq hq=>⟨Nat.lt_of_lt_of_le hq kT.size,λho=>by have h1:=HDO.o q (.inr ho);have h2:=dr;omega⟩)) (by have:=HFX.o.1;omega) (by have:=HFX.o.2;omega) (by have:=tM.o;omega);rw[hR]at h;exact h)
   have dt:=aS.fr (Fr.ofBelow hb);obtain⟨xi,xe,xd,xk,xo,xt,ls⟩:=x;simp only at dt rD;obtain⟨nl,bj⟩:∃n,ls.length=n:=⟨_,rfl⟩;rw[bj]at dt rD;have eZ:=H_ dt.range;have TN:0<n:=by omega
   clear aS dt bL lP oY hfx hEL bj tQ hb J1 hx mG;go_upto_region 7 with(first|(refine w_ 25 51 24 b (o+k*7) [xi,xe,xd,xk,xo,xt,.slice Al nl cl] eZ.o aY Tryz.underlying51 ?_)|(show wpList _ _ _ (Oper.mk none (Op.store _ (Operand.tmp 9) _) _ _ _ _::_) _ _;refine aO rfl 51 (.tmp 9) (.tmp 25) rfl rfl w3 #[(),(),(),(),(),.string ⟨#[]⟩,.slice none 0 0] 51 #[xi,xe,xd,xk,xo,xt,.slice Al nl cl] rfl rfl rfl aY rfl (by simp[Value.oneCell']) ?_;intro w4 H4 gw Bo))
   have HX4:=H_ H4;have acU:=H_ (rD.o w4 gw);have YZ:=H_ gw;clear H4 gw Bo rD;go_wp2_with (refine W_ 27 51 9 w3.heap.size HX4.o aY Tryz.underlying51 ?_);refine acU.o.mono ?_;rintro e w5 ⟨rfl,m,nx,jA,hJ5,Du⟩;have HJ5:=H_ hJ5;have HF5:=H_ Du;have HM:=H_ (And.intro nx jA);have abz:Below W.heap.size W w5:=((Fr.ofBelow go.o).trans (((Fr.ofBelow YZ.o).mono (λq (hq:q<W.heap.size)=>Nat.lt_of_lt_of_le hq go.o.size)).trans (Du.mono (λq (hq:q<W.heap.size)=>⟨Nat.lt_of_lt_of_le (Nat.lt_of_lt_of_le hq go.o.size) YZ.o.size,λho=>by have:=HDO.o q (.inr ho);omega⟩)))).below;have l5:=H_ abz;have acM:=H_ (show ∀q,(D q\/(w4.heap.size<=q/\q<m))\/(O q\/(m<=q/\q<w5.heap.size))->W.heap.size<=q from λq hq=>by
    have h1:=go.o.size;have h2:=YZ.o.size;have h3:=HM.o.1;rcases hq with(hq|hq)|(hq|hq)
    ·exact HDO.o q (.inl hq)
    ·omega
    ·exact HDO.o q (.inr hq)
    ·omega)
   clear hJ5 Du nx jA abz;by_cases pD:R=0
   case neg=>
    have hRb:(R !=0)=true:=by simpa using pD
    have HNV:=H_ (py.o pD);have C9:=H_ pD;clear pD;go_wp2_with fail;go_ret2;exact⟨(k:Int),R,rfl,⟨λh=>absurd h C9.o,λh=>absurd h HNV.o⟩,gT.o.trans (l5.o.mono gT.o.size)⟩
   case pos=>
    have hRb:(R !=0)=false:=by simpa using pD
    have HJ6:=H_ (show JC w5 _ _ J g (ES++[⟨xi,xe,xd,xk,xo,xt,ls⟩])from by have h:=HJ5.o;rw[if_pos pD]at h;exact h);clear pD;go_wp2_with fail;go_roundw
    case rel=>exact⟨k+1,_,_,by omega,by go_num,l5.o,by rw[Nl.o];exact HJ6.o,acM.o⟩
    case measure=>first|exact aQ aU|(simp only[intOf];omega)
  case neg=>
   have bq:¬(k:Int)< (n:Int):=by omega
   have hta:l.take k=l:=List.take_of_length_le (by rw[HN.o];omega);have HV:=H_ (show kQ g l from⟨HT.o,by have:=Vo.o.ok;rwa[hta]at this⟩);clear hta tQ hb;go_wp2_with fail;go_ret2;exact⟨0,0,rfl,⟨λ_=>HV.o,λ_=>rfl⟩,zI.o⟩
theorem BO {w:World} {Q:Nat->Prop} {A:Option Addr} {n c:Nat} {l:List ak} (h:aj ax 7 w Q [.slice A n c] l) (k:Nat) (hk:k<=l.length):aj ax 7 w Q [.slice A k c] (l.take k):=by
 obtain⟨A',c',e,h1,h2,kZ⟩:=h;simp only[List.cons.injEq,and_true,Value.slice.injEq]at e;obtain⟨rfl,rfl,rfl⟩:=e;have hl:(l.take k).length=k:=by rw[List.length_take];omega
 refine⟨A,c,by rw[hl],by omega,h2,λhn=>?_⟩;obtain⟨b,o,rfl,hb,hx⟩:=kZ (by omega);refine⟨b,o,rfl,hb,λi x hi=>?_⟩;have TG:i<k:=by
  have:=(List.getElem?_eq_some_iff.1 hi).1;omega
 rw[List.getElem?_take_of_lt TG]at hi;exact hx i x hi
theorem L2 (g:au) (l:List ak) (gl:List Value) (A:Option Addr) (c:Nat) (w:World) (hg:aL w (·<w.heap.size) gl g) (hl:aj ax 7 w (·<w.heap.size) [.slice A l.length c] l) (ci:dQ g) (VB:xI l):
 Calls Tryz.prog 86 #[.agg gl.toArray,.slice A l.length c] w (DA g l w):=by
 have Nb:=H_ (xY hg ci);have CW:=H_ (show(Tryz.prog.info? 29).map (·.size)=some gl.length by rw[ay,hg.len]);have fu:=H_ (show gl.toArray.size=21 by have:=hg.len;simpa using this);have HG:=H_ hg;have HL:=H_ hl;have HMO:=H_ VB;have sW:=H_ ci;have jw:=hl.cap;unfold maxLen at jw;obtain⟨n,bj⟩:=x_ (l.length);have HN:=H_ bj;rw[bj]at jw |-;have Sb:n<=9223372036854775807:=by omega
 obtain⟨bg,Va⟩:∃b,bh g=b:=⟨_,rfl⟩;have HBG:=H_ Va;rw[Va]at Nb;have Y6:=H_ jw;clear hg hl bj jw VB ci Va;go_enter Tryz.func86,Tryz.ntmps86;go_upto_region 1 with fail;obtain⟨W,cS,H1,bC,dr,ewx⟩:=B_ w (.cells gl.toArray 29);rw[cS];clear ewx;clear cS;have HK:=H_ H1;have gT:=H_ bC;clear H1;go_wp2_with (refine W_ 8 29 2 (w.heap.size) HK.o (by rw[ay];exact congrArg some fu.o.symm) Tryz.underlying29 ?_);refine(Nb.o W bC).mono ?_;rintro e w2 ⟨rfl,aH⟩;have aF:=gT.o.trans (aH.mono gT.o.size);have adT:=H_ aF;have dW:=aH.size;have dz:=H_ aH;clear aH;cases bg with
 |false=>
  go_wp2_with fail;go_ret2;exact⟨0,1,rfl,⟨o_,λh=>by have:=h.1;rw[HBG.o]at this;cases this⟩,aF⟩
 |true=>
 clear aF;go_wp2_with fail
 go_loopw [6] (λi wr=>∃k:Nat,k<=n/\i=.int .i64 (k:Int)/\Below W.heap.size W wr/\okJ g (l.take k)) (λi _=>n- (intOf i).toNat)
 case atStart=>exact⟨0,by omega,rfl,dz.o,Jn g⟩
 case round=>
  obtain⟨k,hk,rfl,tQ,mG⟩:=hrel;generalize wr=w3 at*;have hb:=gT.o.trans (tQ.mono gT.o.size);have zI:=H_ hb;by_cases aU:k<n
  case pos=>
   have bq:(k:Int)< (n:Int):=by omega
   have bI:k<l.length:=by rw[HN.o];exact aU
   obtain⟨b,o,cs,dj,ed,bL,aS⟩:=aj.get HL.o k bI;subst dj;obtain⟨Al,cl,ft,oY,lP⟩:=ax.lit bL;have hfx:=HMO.o.1 _ (List.getElem_mem bI);have RQ:=H_ mG;have py:=H_ (Jm (g:=g) bI);have Dr:=H_ (EB bI mG);obtain⟨x,hx⟩:=x_ (l[k]);rw[hx]at ft oY lP hfx bL py Dr;subst ft;obtain⟨ES,J1⟩:=x_ (l.take k);have tM:=H_ (show ES.length=k by rw[<-J1,List.length_take,HN.o];omega);have RU:=H_ (show aj ax 7 w (·<w.heap.size) [.slice (some ⟨b,o,none⟩) k c] ES by rw[<-J1];exact BO HL.o k (by omega));rw[J1]at py Dr RQ;obtain⟨R,hR⟩:=x_ (eF g ES x);rw[hR]at py Dr;have HRP:=H_ (λ(w2:World) (hS:Below w3.heap.size w3 w2)=>show Calls Tryz.prog 23 #[.agg gl.toArray,.slice (some ⟨b,o,none⟩) k c,.agg #[x.id,x.entity,x.date,x.kind,x.of_,x.text,.slice Al x.lines.length cl]] w2 (ap w2 (.int .i64 R)) by
    have kT:=zI.o.trans (hS.mono zI.o.size);have h:=Tr g ES x gl _ (some ⟨b,o,none⟩) c w2 (HG.o.keep kT) sW.o (by rw[tM.o];exact j8 RU.o kT) (bL.keep kT) (by omega) RQ.o;rw[tM.o,hR]at h;exact h)
   have dt:=aS.fr (Fr.ofBelow hb);obtain⟨xi,xe,xd,xk,xo,xt,ls⟩:=x;simp only at dt HRP;obtain⟨nl,bj⟩:∃n,ls.length=n:=⟨_,rfl⟩;rw[bj]at dt HRP;have HKR:=k_ tQ HK;have rM:=H_ (dt.mono (Q':=(·<w3.heap.size)) (λq hq=>Nat.lt_of_lt_of_le hq hb.size));have tw:=H_ (dO (cs:=gl) HKR.o);have go:=H_ tQ;have HKC:=H_ (show k<=c/\c<=9223372036854775807 from by have:=Y6.o;omega);have TN:0<n:=by omega
   clear aS dt bL lP oY hfx bj hb J1 hx mG hR tQ;go_upto_region 6 with fail;refine bk (Ks w3 [.val (.agg gl.toArray),.val (.slice (some ⟨b,o,none⟩) n c),(k:Int),.val (.slice (some ⟨b,o,none⟩) k c),.val (.slice (some ⟨b,o,none⟩) n c),(k:Int),.val (.pointer (some ⟨b,o+k*7,none⟩)),.val (.agg #[xi,xe,xd,xk,xo,xt,.slice Al nl cl]),R,R])
    (λw'=>Below w3.heap.size w3 w') K_ K_ K_ (Below.refl _ _).drew ?_ ?_
   ·refine⟨?_,b_ (q_ 1),b_ (q_ 6),?_,b_ (q_ 1),b_ (q_ 6),c_ (p_ 4 21) (p_ 5 22),?_,?_,b_ (p_ 8 25),trivial⟩
    ·refine O1_ (q_ 2) λA0 w2 K e0 hS hK=>?_;have aJ:w2.rangeAt w.heap.size 0 gl:=(tw.o.fr (Fr.ofBelow hS)).range;have aI:=CW.o;refine wp_load_mid 29 (.tmp 2) rfl _ _ (v_ e0) _ _ aJ Tryz.underlying29 rfl aI ?_;exact kq hK hS rfl
    ·intro _ A0 w2 hI hd hnd K hK;have e0:=hI.p hd 1 18;have e1:=hI.p hd 2 19;have hS:=hI.world;have hkc:=HKC.o.1;have afa:=HKC.o.2;exact hI.z hK
    ·refine O1_ (p_ 6 23) λA0 w2 K e0 hS hK=>?_;have aJ:w2.rangeAt b (o+k*7) [xi,xe,xd,xk,xo,xt,.slice Al nl cl]:=(rM.o.fr (Fr.ofBelow hS)).range;have aI:=aY;refine wp_load_mid 51 (.tmp 23) rfl _ _ (v_ e0) _ _ aJ Tryz.underlying51 rfl aI ?_;exact kq hK hS rfl
    ·refine O3_ (p_ 0 17) (p_ 3 20) (p_ 7 24) λA0 w2 K e0 e1 e2 hS hK=>?_;go_simp
     go_at_call 23
     refine(HRP.o w2 hS).mono ?_;rintro e w3 ⟨rfl,h3⟩;exact hK.out _ _ (hS.trans (h3.mono hS.size)) (Ks.of rfl rfl) (Ks.keep h3)
   ·intro _ A0 w2 hI hall;have hS:=hI.world;have c9:=hI.ch hall [17,18,19,20,21,22,23,24,25,7];obtain⟨x0,x1,x2,x3,x4,x5,x6,x7,x8,x9,hA,hV⟩:=c9;obtain rfl:x9=.int .i64 R:=hV 9 _ _ rfl _ rfl;clear hV hI hall;simp only[ba,List.foldl,List.setIfInBounds_toArray,List.set_cons_zero,List.set_cons_succ]at hA;rw[hA];clear hA;have kY:=t_ go hS;by_cases pD:R=0
    case neg=>
     have hRb:(R !=0)=true:=by simpa using pD
     have HNV:=H_ (py.o pD);have C9:=H_ pD;clear pD;go_wp2_with fail;go_ret2;exact⟨(k:Int),R,rfl,⟨λh=>absurd h C9.o,λh=>absurd h HNV.o⟩,gT.o.trans (kY.o.mono gT.o.size)⟩
    case pos=>
     have hRb:(R !=0)=false:=by simpa using pD
     have oZ:=H_ (Dr.o pD);clear pD;go_wp2_with fail;go_roundw
     case rel=>exact⟨k+1,by omega,by go_num,kY.o,oZ.o⟩
     case measure=>first|exact aQ aU|(simp only[intOf];omega)
  case neg=>
   have bq:¬(k:Int)< (n:Int):=by omega
   have hta:l.take k=l:=List.take_of_length_le (by rw[HN.o];omega);have HV:=H_ (show kQ g l from⟨HBG.o,by rw[hta]at mG;exact mG⟩);clear hta tQ hb;go_wp2_with fail;go_ret2;exact⟨0,0,rfl,⟨λ_=>HV.o,λ_=>rfl⟩,zI.o⟩
def DB (g:au) (l:List ak) (w:World) (e:Ending) (w':World):Prop:=∃b:Bool,e=.returned (.bool b)/\(b=true↔kQ g l)/\Below w.heap.size w w'
theorem L3 (g:au) (l:List ak) (gl:List Value) (A:Option Addr) (c:Nat) (w:World) (hg:aL w (·<w.heap.size) gl g) (hl:aj ax 7 w (·<w.heap.size) [.slice A l.length c] l) (ci:dQ g) (VB:xI l):
 Calls Tryz.prog 50 #[.agg gl.toArray,.slice A l.length c] w (DB g l w):=by
 have lg:=H_ (λ(w2:World) (hb:Below w.heap.size w w2)=>L2 g l gl A c w2 (hg.keep hb) (j8 hl hb) ci VB);have fu:=H_ (show gl.toArray.size=21 by have:=hg.len;simpa using this);obtain⟨n,bj⟩:=x_ (l.length);rw[bj]at lg |-;clear hg hl ci VB bj;go_enter Tryz.func50,Tryz.ntmps50;go_upto_region 1 with fail;obtain⟨W,cS,H1,bC,dr,ewx⟩:=B_ w (.cells gl.toArray 29);rw[cS];clear ewx;clear cS;have HK:=H_ H1;have gT:=H_ bC;clear H1;go_wp2_with (refine W_ 8 29 2 (w.heap.size) HK.o (by rw[ay];exact congrArg some fu.o.symm) Tryz.underlying29 ?_);refine(lg.o W bC).mono ?_;rintro e w2 ⟨i,r,rfl,hr,aH⟩;have aF:=gT.o.trans (aH.mono gT.o.size);have HR:=H_ hr;clear hr;go_wp2_with fail;go_ret;refine⟨_,rfl,?_,aF⟩;rw[<-HR.o];simp
end
section
open Go Go.RowKit Go.Shelf
attribute [local go_sem] Oper.semAt_some
section
variable {F:Fence} {n:Nat} {P:Program} {ops:Array Oper} {rest:List Oper} {o:Oper} {a:Act} {Q:Exit->Act->World->Prop}
theorem ez {w:World} (qE:o.guard=none) (ty:TypeId) (x:Operand) (ho:o.op=.load ty x)
 (b k:Nat) (hx:a.eval x=.pointer (some ⟨b,k,none⟩)) (cs:List Value) (d:TypeDesc) (hc:w.rangeAt b k cs)
 (hu:P.underlying ty=some d) (hd:d.isRow=true) (hi:(P.info? ty).map (·.size)=some cs.length)
 (h:wpListIn F n P ops Q rest (a.put o.dst (.agg cs.toArray)) w):wpListIn F n P ops Q (o::rest) a w:=by
 refine wpListIn_plain qE λK hK=>?_
 unfold Oper.wpIn;refine⟨by simp[Oper.about,ho],?_⟩;rw[Oper.semAt_plain F _ _ (by rw[ho];intro c hc';cases hc')];have eC:=run_loadVar_mid (P:=P) w b k ty cs d hc hu hd hi;unfold execOp;simp only[ho,hx,Instr.loadAt,Instr.sureAddr,Sem.run_bind,Sem.run_pure,Result.andThen_ok];rw[eC];simp only[Result.andThen_ok];exact hK _ _ h
theorem cX {w0:World} (qE:o.guard=none) (ty:TypeId) (x y:Operand) (ho:o.op=.store ty x y) (hd:o.dst=none)
 (w1:World) (old:Array Value) (t:TypeId) (cells:Array Value) (hw:w0=w1.alloc (.cells old t)) (hx:a.eval x=.pointer (some ⟨w1.heap.size,0,none⟩)) (hy:a.eval y=.agg cells)
 (hi:(P.info? ty).map (·.size)=some cells.size) (mB:old.size=cells.size) (h1:cells.all (·.oneCell')=true)
 (h:∀w2:World,w2.heap[w1.heap.size]? =some (.cells cells t (0,0))->w1.grownBy w2 none->w2.heap.size=w1.heap.size+1->wpListIn F n P ops Q rest a w2):
 wpListIn F n P ops Q (o::rest) a w0:=by
 subst hw;have hg:(w1.alloc (.cells old t)).heap[w1.heap.size]? =some (.cells old t (0,0)):=heap_alloc_new w1 _;have f:=((Fr.refl (·<w1.heap.size) w1).alloc (λ_ h=>h) (.cells old t)).trans ((cC (w1.alloc (.cells old t)) w1.heap.size cells).mono (λk (hk:k<w1.heap.size)=>by show k≠w1.heap.size;omega));have bP:((w1.alloc (.cells old t)).setRow w1.heap.size cells).heap.size=w1.heap.size+1:=by simp[World.setRow]
 have Xk:=h _ (aB hg cells) ⟨f.os,f.tape,f.output,f.size,λk hk _=>f.block k hk⟩ bP;refine wpListIn_plain qE λK hK=>?_
 unfold Oper.wpIn;refine⟨by simp[Oper.about,ho],?_⟩;rw[Oper.semAt_plain F _ _ (by rw[ho];intro c hc';cases hc')];have eC:=run_storeVar_row (P:=P) (w1.alloc (.cells old t)) w1.heap.size t ty old cells hg hi mB h1;unfold execOp;simp only[ho,hx,hy,Instr.storeAt,Instr.sureAddr,Sem.run_bind,Sem.run_pure,Result.andThen_ok];rw[eC];simp only[Sem.run_pure,Result.andThen_ok];refine hK _ _ ?_;rw[hd];exact Xk
end
def lh (n₀:Nat) (T:Nat->Prop) (w w':World):Prop:=Below n₀ w w'/\∀k o,¬T k->w.heap[k]? =some o->o.isCells=true->w'.heap[k]? =some o
theorem lh.refl {n₀:Nat} {T:Nat->Prop} (w:World):lh n₀ T w w:=⟨Below.refl _ _,λ_ _ _ h _=>h⟩
theorem lh.trans {n₀:Nat} {T:Nat->Prop} {a b c:World} (h:lh n₀ T a b) (k:lh n₀ T b c):lh n₀ T a c:=⟨h.1.trans k.1,λq o h1 h2 h3=>k.2 q o h1 (h.2 q o h1 h2 h3) h3⟩
theorem lh.putObj {n₀:Nat} {T:Nat->Prop} {w:World} (hn:n₀<=w.heap.size) (W:World) (l:Nat) (o o':Obj) (hl:w.heap.size<=l) (h:W.heap[l]? =some o) (hc:o.isCells=false) (hw:o.isWalk=false):lh n₀ T W (W.putObj l o'):=
 ⟨belowK_b hn W l o o' hl h hc hw,λk q _ h2 h3=>by
  have bT:k≠l:=λe=>by subst e;rw[h]at h2;cases h2;rw[hc]at h3;cases h3
  exact(World.putObj_heap_other bT).trans h2⟩
theorem lh.grown {n₀:Nat} {T:Nat->Prop} {w w':World} (h:w.grownBy w' none) (hn:n₀<=w.heap.size):lh n₀ T w w':=
 ⟨(Below.refl n₀ w).grown h hn (λk e=>by cases e),λk o _ h2 _=>(h.block k (Array.getElem?_eq_some_iff.1 h2).1 (by simp)).trans h2⟩
theorem lh.cells {n₀:Nat} {T:Nat->Prop} {w w':World} (h:lh n₀ T w w') {k:Nat} {cs:Array Value} {t:TypeId} {fr:Nat × Nat} (hk:¬T k) (hc:w.heap[k]? =some (.cells cs t fr)):w'.heap[k]? =some (.cells cs t fr):=h.2 k _ hk hc rfl
abbrev DL (p:Int->bG->Prop):={z:Int × bG // p z.1 z.2}
theorem zy {F:Fence} {n:Nat} {P:Program} {α:Type} {g:Operand} {ps:Array Tmp} {assign body:Code} {Q:Exit->Act->World->Prop} {a:Act} {w:World}
 (mD:F.round=none) (h1:1<=n) {gf:Nat} {lb:Array Value} (hg:a.eval g=.func (.func gf) #[] lb) (hFg:F.fn gf) (eg:∀args w,(callFunc gf args).run P w=.ok (.enter gf args) w)
 {Sl:α->Array Value} {Kp:World->World->Prop} {S:List α->Prop} {Sp:List α->Prop} {N:Nat} {w0:World} (CS:SeqStopsK F (n- 1) P gf lb Sl Kp S Sp N w0)
 (hKt:∀{A B C:World},Kp A B->Kp B C->Kp A C) (hKb:∀(W:World) (l:Nat) (o o':Obj),w.heap.size<=l->W.heap[l]? =some o->o.isCells=false->o.isWalk=false->Kp W (W.putObj l o')) (hKg:∀W W':World,w.heap.size<=W.heap.size->W.grownBy W' none->Kp W W') (el:Below w0.heap.size w0 w) (hps:∀x,(Sl x).size=ps.size)
 (I:List α->World->Prop) (hI:OwnFrom w.heap.size I) (h0:I [] w) (bx:α->Array Value) (T:TypeId) (a₁:α->Nat->Act)
 (Rs:∀(l:Nat) (x:α) (W:World) (K:Act->World->Prop),(∀W':World,W.grownBy W' none->W'.heap[W.heap.size]? =some (.cells (bx x) T (0,0))->K (a₁ x W.heap.size) W')->
  assign.wpIn (F.inRound l) (n- 1- 1) P (Exit.then K (λ_ _ _=>False)) {tmps:=(ps.zip (Sl x)).foldl (λt (p,v)=>t.setIfInBounds p v) a.tmps,defers:=[]} W)
 (abl:∀(l:Nat) (pre:List α) (x:α) (b:Nat) (W:World),I pre W->pre.length<N->w.heap.size<=b->W.heap[b]? =some (.cells (bx x) T (0,0))->body.wpIn (F.inRound l) (n- 1- 1) P (ownPostG w.heap.size Kp I (λ_ _ _=>False) (pre++[x]) W) (a₁ x b) W)
 (abT:∀(D:Nat) (xs:List α) (W:World),w.heap.size<=D->S xs->I xs W->W.heap[D]? =some (.deferred (some []))->Q .normal {a with defers:={target:=.collected D,args:=#[]}::a.defers} W):
 (Code.rangeFunc g ps assign body).wpIn F n P Q a w:=by
 refine wpIn_rangeFunc ?_;intro fn Rt;rw[mD];obtain⟨IF,C5⟩:∃IF:LoopState->Option Code->Loop,IF=λst pe=>{state:=st,pending:=pe,fn,tmps:=a.tmps,params:=ps,assign,body,defers:=w.heap.size}:=⟨_,rfl⟩
 obtain⟨W1,cS⟩:=x_ ((w.alloc (.deferred (some []))).alloc (.loop (IF .ready none)));have aeK:W1.heap.size=w.heap.size+2:=by rw[<-cS];simp
 have hL1:W1.heap[w.heap.size+1]? =some (.loop (IF .ready none)):=by
  rw[<-cS];have:=World.alloc_heap_new (w.alloc (.deferred (some []))) (.loop (IF .ready none));rwa[World.size_alloc]at this
 have TL:W1.heap[w.heap.size]? =some (.deferred (some [])):=by
  rw[<-cS];exact(Below.heap_alloc _ _ _ (by simp)).trans (World.alloc_heap_new w _)
 have hI1:I [] W1:=by rw[<-cS];exact hI.alloc _ (hI.alloc _ h0)
 have eL:Below w0.heap.size w0 W1:=by
  rw[<-cS];exact el.trans ((((Below.refl _ w).alloc (Nat.le_refl _) _).alloc (by simp) _).mono el.size)
 refine⟨w.heap.size+1,[{target:=.collected w.heap.size,args:=#[]}],W1,{target:=.fn (.func gf) lb,args:=#[.func (.yield (w.heap.size+1)) #[] #[]]},W1,gf,
  #[.func (.yield (w.heap.size+1)) #[] #[]]++lb,W1,?_,?_,?_,?_,λ_=>h1,?_⟩
 ·rw[<-cS,C5];exact run_enterLoop_outer _ _ _ _ _
 ·simp only[resolve,hg];simp[go_sem]
 ·intro f' hf';simp[Target.leads]at hf';subst hf';exact hFg
 ·simp[invoke,go_sem,eg]
 have hnw:∀{A:World} {row:Option Nat},(∀r,row=some r->W1.heap.size<=r/\∃o:Obj,A.heap[r]? =some o/\o.isWalk=true)->(∀r,row=some r->w.heap.size<=r/\∃o:Obj,A.heap[r]? =some o/\o.isCells=false):=
  λhr r e=>by obtain⟨hB,o,ho,hw⟩:=hr r e;exact⟨by omega,o,ho,Obj.not_cells_of_walk hw⟩
 refine(CS (w.heap.size+1) (λpre W=>I pre W/\W.heap[w.heap.size+1]? =some (.loop (IF .ready none))/\W.heap[w.heap.size]? =some (.deferred (some []))) (λ_ _=>False) W1 eL
  (λs A B row hs rG hr=>⟨hI s A B row hs.1 rG (hnw hr),(grownBy_keeps rG (λr e=>(hr r e).2) hs.2.1 rfl).trans hs.2.1,(grownBy_keeps rG (λr e=>(hr r e).2) hs.2.2 rfl).trans hs.2.2⟩)
  (λ_ _ _ _ hs _ _=>hs) ?_ ⟨hI1,hL1,TL⟩).mono ?_
 ·rintro pre x W ⟨hi,hl,hk⟩ eX;have aU:w.heap.size+1<W.heap.size:=(Array.getElem?_eq_some_iff.1 hl).1;have hy:=run_yield (P:=P) (args:=Sl x) hl (by rw[C5];exact hps x);rw[C5]at hy;refine⟨fn,_,assign,body,hy,roundIn_of_wpIn Rt (Rs _ x W _ (λW' hgr NB=>?_))⟩;have Vh:W'.heap[w.heap.size+1]? =some (.loop (IF .ready none)):=(hgr.block _ aU (by simp)).trans hl;have Fi:W'.heap[w.heap.size]? =some (.deferred (some [])):=(hgr.block _ (by omega) (by simp)).trans hk;have hi':I pre W':=hI pre W W' none hi hgr (λr e=>by cases e);have aej:w.heap.size+1<W'.heap.size:=(Array.getElem?_eq_some_iff.1 Vh).1;have ir:Kp W W':=hKg W W' (by omega) hgr;refine⟨_,run_beginRound Vh (by rw[C5]),?_⟩;have vl:(W'.putObj (w.heap.size+1) (.loop {IF .ready none with state:=.busy})).heap[w.heap.size+1]? =some (.loop {IF .ready none with state:=.busy}):=World.putObj_heap_same aej;have Iv:(W'.putObj (w.heap.size+1) (.loop {IF .ready none with state:=.busy})).heap[w.heap.size]? =some (.deferred (some [])):=(World.putObj_heap_other (by omega)).trans Fi;have CQ:(W'.putObj (w.heap.size+1) (.loop {IF .ready none with state:=.busy})).heap[W.heap.size]? =some (.cells (bx x) T (0,0)):=(World.putObj_heap_other (by omega)).trans NB;have Vn:Kp W (W'.putObj (w.heap.size+1) (.loop {IF .ready none with state:=.busy})):=hKt ir (hKb _ _ _ _ (by omega) Vh rfl rfl);refine wpIn_mono (abl _ pre x W.heap.size _ (hI.putObj _ hi' (by omega) Vh rfl) eX (by omega) CQ) ?_;rintro e a3 W3 hp;cases e with
  |normal=>
   obtain⟨lO,acE,Ky⟩:=hp;have za:=lO.same _ _ (by omega) vl rfl;have hr:=run_endRound (P:=P) none za;rw[C5]at hr za;have Fg:(W3.putObj (w.heap.size+1) (.loop (IF .ready none))).heap[w.heap.size+1]? =some (.loop (IF .ready none)):=World.putObj_heap_same (Array.getElem?_eq_some_iff.1 za).1;rw[C5]at Fg |-;exact⟨_,_,hr,.inl ⟨rfl,⟨hI.putObj _ Ky (by omega) za rfl,Fg,(World.putObj_heap_other (by omega)).trans (lO.same _ _ (Nat.le_refl _) Iv rfl)⟩,hKt (hKt Vn acE) (hKb _ _ _ _ (by omega) za rfl rfl)⟩⟩
  |ret=>exact hp.2.elim
  |exit id=>exact hp.2.elim
  |goto t=>exact hp.2.elim
  |panic ch=>exact hp.elim
  |outgrown=>exact hp.elim
 ·rintro e W2 ⟨⟨v,rfl⟩,(⟨xs,hS,hi,hl,hk⟩|⟨pre,hSp,hf⟩)⟩
  ·exact⟨none,_,by have:=run_endLoop (P:=P) hl (by rw[C5];simp);rw[C5]at this;exact this,abT _ xs _ (Nat.le_refl _) hS (hI.putObj _ hi (by omega) hl rfl) ((World.putObj_heap_other (by omega)).trans hk)⟩
  ·exact hf.elim
attribute [local go_sem] Oper.semAt_some
def B7 (_:Int) (y:bG):Prop:=y.amount.natAbs<=1125899906842624/\1<=y.account/\y.account<=99999
theorem lh.set {n₀:Nat} {W:World} {b:Nat} {cs:Array Value} {t:TypeId} {fr:Nat × Nat} {j:Nat} {v:Value} (h:W.heap[b]? =some (.cells cs t fr)) {b':Nat} (hb:b'=b) (hn:n₀<=b):lh n₀ (λq=>q=b) W (W.setCell ⟨b',j,none⟩ v):=by
 subst hb;exact⟨(Below.refl _ _).setCell (p:=⟨b',j,none⟩) hn _,λk o hk ho _=>(Below.heap_setCell W ⟨b',j,none⟩ _ k hk).trans ho⟩
end
section
open Go Go.RowKit
def GE (g:au) (ent:Int):List ah:=(g.entities.getD ent.toNat {}).chart
def aes (g:au) (ent period acc:Int) (ch:Bool):Int:=
 if ent<0\/(g.entities.length:Int)<=ent then 2 else if period≠ -4611686018427387904/\(aX g.calendar.year g.calendar.month g.calendar.periods period).2≠0 then 2 else if ch=true/\(aK (GE g ent) acc).isSome=false then 17 else 0
def Zc (g:au) (l:List ak) (ent period acc:Int) (ch:Bool) (r:Int):Prop:=(¬kQ g l/\r=1)\/(kQ g l/\r=aes g ent period acc ch)
theorem Zj {gl r:List Value} {i:Nat} {v:Value} (h:gl[i]? =some v):(gl++r)[i]? =some v:=by
 rw[List.getElem?_append_left (List.getElem?_eq_some_iff.1 h).1];exact h
theorem ma {w:World} {b:Nat} {gl r:List Value} {T:TypeId} (h:w.heap[b]? =some (.cells (gl++r).toArray T (0,0))):w.rangeAt b 0 gl:=λj v hj=>by
 have:=ab h (0+j);rw[this,Nat.zero_add,List.getElem?_toArray];exact Zj hj
theorem Ad {p:Nat->Bool} {n k:Nat} (h:(List.range n).all p=true) (hk:k<n):p k=true:=List.all_eq_true.1 h k (List.mem_range.2 hk)
theorem rx {g:au} {l:List ak} (h:kQ g l) {x:ak} (hx:x∈l):mI (bh g) g.entities.length x:=(en _ _ _).1 (li (mn h.2 hx))
theorem zx {g:au} {l:List ak} (h:kQ g l) {x:ak} (hx:x∈l):dY (GE g x.entity) x.lines=true/\jL g.calendar.year g.calendar.month g.calendar.periods x.date=true/\iS x.lines=0:=by
 have h1:=mn h.2 hx;unfold dh at h1;unfold GE;split at h1
 ·split at h1
  ·split at h1
   ·split at h1
    ·exact⟨‹_›,‹_›,‹_›⟩
    ·cases h1
   ·cases h1
  ·cases h1
 ·cases h1
theorem aL.ones {w:World} {Q:Nat->Prop} {cs:List Value} {g:au} (h:aL w Q cs g):cs.all (·.oneCell')=true:=by
 obtain⟨Ac,cc,Ae,ce,e,_⟩:=h.lit;subst e;simp[fT,Value.oneCell']
theorem Zc.uniq {g:au} {l:List ak} {ent period acc:Int} {ch:Bool} {r s:Int} (h:Zc g l ent period acc ch r) (k:Zc g l ent period acc ch s):r=s:=by
 rcases h with⟨h1,rfl⟩|⟨h1,rfl⟩<;>rcases k with⟨k1,rfl⟩|⟨k1,rfl⟩
 ·rfl
 ·exact absurd k1 h1
 ·exact absurd h1 k1
 ·rfl
def I5:List bG:=[⟨10,100,-1⟩,⟨100,-100,-1⟩]
theorem Sw:∀x∈I5,nZ x:=by
 show ∀x∈I5,am x.account/\am x.amount/\am x.partner
 decide
theorem Li {w W:World} {T:TypeId} {x:ak} {cs:List Value} (hW:W.heap[w.heap.size]? =some (.cells cs.toArray T (0,0))) (hx:ax W (·<W.heap.size) cs x) (hs:cs.length=7):aj ax 7 W (·<W.heap.size) [.slice (some ⟨w.heap.size,0,none⟩) 1 1] [x]:=
 ⟨_,_,rfl,Nat.le_refl _,by unfold maxLen;decide,λ_=>⟨w.heap.size,0,rfl,ag hW,λi y hi=>by
  have Y5:i=0:=by
   have:=(List.getElem?_eq_some_iff.1 hi).1;simp at this;exact this
  subst Y5;simp at hi;subst hi;exact⟨cs,hx,by simpa using dO hW⟩⟩⟩
theorem GL {g:au} {l:List ak} (h:GK g l):xI l:=⟨λx hx=>by have h1:=h.1 x hx;have h2:=h1.1;have h3:=h1.2.1;omega,by have:=h.2.1;omega⟩
theorem Inv.withS {md:Region.Mode} {ops:Array Oper} {V:Nat->Value->World->Prop} {S S':World->Prop} {a0:Act} {listed:Array Bool} {a:Act} {w:World} (hI:Inv md ops V S a0 listed a w) (h:S' w):Inv md ops V S' a0 listed a w:=
 ⟨hI.lsize,h,hI.defers,hI.size,hI.closed,hI.got,hI.old⟩
theorem Inv.waits {md:Region.Mode} {ops:Array Oper} {V:Nat->Value->World->Prop} {S:World->Prop} {a0:Act} {listed:Array Bool} {a:Act} {w:World} (hI:Inv md ops V S a0 listed a w) {i:Nat} (hnd:¬aW listed i) (j:Nat) {oj:Oper} (hj:ops[j]? =some oj) (h:(oj.after.toList.any λe=>Region.binds md e&&e.on==i)=true):listed.getD j false=false:=by
 cases hd:listed.getD j false with
 |false=>rfl
 |true=>
  simp only[List.any_eq_true,Bool.and_eq_true,beq_iff_eq]at h;obtain⟨e,he,hb,rfl⟩:=h;exact absurd (hI.closed j oj hj hd e (by simpa using he) hb) hnd
theorem yD {P:Program} {md:Region.Mode} {ops:Array Oper} {Q:Exit->Act->World->Prop} {V:Nat->Value->World->Prop} {S:Array Bool->World->Prop} {a0:Act}
 (fQ:∀(i:Nat) (o:Oper),ops[i]? =some o->∀e∈o.after,e.on<i)
 (jW:∀(i j:Nat) (oi oj:Oper) (d:Nat),ops[i]? =some oi->ops[j]? =some oj->oi.dst=some d->oj.dst=some d->i=j)
 (aU:∀(i:Nat) (o:Oper) (d:Nat),ops[i]? =some o->o.dst=some d->d<a0.tmps.size)
 (dy:∀i o,ops[i]? =some o->∀listed a w,Inv md ops V (S listed) a0 listed a w->(∀e∈o.after,Region.binds md e=true->aW listed e.on)->¬aW listed i->
  ∀K:Act->World->Prop,(∀v w',S (listed.setIfInBounds i true) w'->V i v w'->(∀j u,V j u w->V j u w')->K (a.put o.dst v) w')->if Region.wanted o (yielded ops a.tmps)=true then o.wp P a w K Q else K (a.put o.dst undef) w)
 (i8:∀listed a w,Inv md ops V (S listed) a0 listed a w->(∀i,i<ops.size->aW listed i)->Q .normal a w):
 ∀bZ listed a w,Inv md ops V (S listed) a0 listed a w->left ops.size listed<=bZ->wpAny P md ops Q bZ listed a w
 |0,listed,a,w,hI,hf=>by
  have hr:Region.ready md ops listed=[]:=by
   rw[List.eq_nil_iff_forall_not_mem];intro i hi;obtain⟨h1,o,h2,_⟩:=mem_ready.1 hi;have:=dL hI.lsize (Array.getElem?_eq_some_iff.1 h2).1 h1;omega
  exact⟨hr,i8 listed a w hI (λi hi=>nP hI.lsize fQ hr (i+1) i (by omega) hi)⟩
 |bZ+1,listed,a,w,hI,hf=>by
  refine⟨λhr=>i8 listed a w hI (λi hi=>nP hI.lsize fQ hr (i+1) i (by omega) hi),λi hi=>?_⟩;obtain⟨h1,o,h2,h3⟩:=mem_ready.1 hi;have bP:i<ops.size:=(Array.getElem?_eq_some_iff.1 h2).1;have hnd:¬aW listed i:=by
   unfold aW;rw[<-iU (by rw[hI.lsize];exact bP),h1];simp
  refine wpOp_step h2 (λK hK=>dy i o h2 listed a w hI h3 hnd K (λv w' hS hv kW=>hK _ _ ?_));refine yD fQ jW aU dy i8 bZ _ _ _ ((Inv.step (hI.withS (S':=λ_=>True) trivial) jW aU h2 h3 trivial hv kW).withS hS) ?_;have:=dL hI.lsize bP h1;omega
def IX (P:Program) (md:Region.Mode) (ops:Array Oper) (Q:Exit->Act->World->Prop) (V:Nat->Value->World->Prop) (S:Array Bool->World->Prop) (a0:Act) (i:Nat) (o:Oper):Prop:=
 ∀listed a w,Inv md ops V (S listed) a0 listed a w->(∀e∈o.after,Region.binds md e=true->aW listed e.on)->¬aW listed i->
  ∀K:Act->World->Prop,Shut (∀v w',S (listed.setIfInBounds i true) w'->V i v w'->(∀j u,V j u w->V j u w')->K (a.put o.dst v) w')->if Region.wanted o (yielded ops a.tmps)=true then o.wp P a w K Q else K (a.put o.dst undef) w
theorem Qt {P:Program} {ops:Array Oper} {Q:Exit->Act->World->Prop} (V:Nat->Value->World->Prop) (S:Array Bool->World->Prop) {id:Nat} {a:Act} {w:World}
 (hm:P.follows .mixedOrders=true) (ho:Th ops=true) (hd:v8 ops a.tmps.size=true) (hS:S (Array.replicate ops.size false) w.drew)
 (dy:ei (IX P .any ops Q V S a) 0 ops.toList)
 (i8:∀listed a' w',Inv .any ops V (S listed) a listed a' w'->(∀i,i<ops.size->aW listed i)->Q .normal a' w'):(Code.region id ops true).wp P Q a w:=by
 refine wp_region_any hm (yD (V:=V) (S:=S) (a0:=a) (AE ho) (λi j oi oj d hi hj mA jx=>(dD hd i oi d hi mA).2 j oj hj jx) (λi o d hi mA=>(dD hd i o d hi mA).1)
  (λi o hi listed a' w' hI ns hnd K hK=>?_) i8 _ _ _ _ ?_ ?_)
 ·have:=ei.get dy (i:=i) (o:=o) (by simpa using hi);rw[Nat.zero_add]at this;exact this listed a' w' hI ns hnd K hK
 ·have fg:∀i,¬aW (Array.replicate ops.size false) i:=λi h=>by
   unfold aW at h;by_cases hi:i<ops.size<;>simp[Array.getD_eq_getD_getElem?,hi]at h
  exact⟨by simp,hS,rfl,rfl,λi _ _ h=>absurd h (fg i),λi _ _ _ _ h=>absurd h (fg i),λ_ _=>rfl⟩
 ·unfold left;exact Nat.le_trans (List.length_filter_le _ _) (by simp)
end
section
open Go Go.RowKit Go.Shelf
attribute [local go_sem] Oper.semAt_some
section
variable {F:Fence} {n:Nat} {ops:Array Oper} {rest:List Oper} {o:Oper} {a:Act} {Q:Exit->Act->World->Prop} {w:World}
end
def Ss (pre:List (DL B7)) (lo hi:Int):Prop:=(pre=[]/\lo=0/\hi= -1)\/(1<=lo/\lo<=hi/\hi<=99999/\∀z∈pre,lo<=z.1.2.account/\z.1.2.account<=hi)
theorem Ss.first (z:DL B7):Ss ([]++[z]) (min z.1.2.account z.1.2.account) (max z.1.2.account z.1.2.account):=by
 have h1:=z.2.2;refine .inr ⟨by omega,by omega,by omega,λy hy=>?_⟩;simp at hy;subst hy;omega
def aer (y:fb):List Value:=[.int .i64 y.account,.int .i64 y.amount]
def pi (bm:Nat) (lo hi la:Int) (w0:World) (listed:Array Bool) (w:World):Prop:=Fr (λq=>q≠bm+2/\q≠bm+3) w0 w/\w.heap[bm+2]? =some (.cells #[.int .i64 (if listed.getD 8 false=true then min lo la else lo)] 3 (0,0))/\w.heap[bm+3]? =some (.cells #[.int .i64 (if listed.getD 9 false=true then max hi la else hi)] 3 (0,0))
section
variable {bm:Nat} {lo hi la:Int} {w0 w:World} {listed:Array Bool}
theorem fK {i j:Nat} (h:i≠j):(listed.setIfInBounds i true).getD j false=listed.getD j false:=by simp[Array.getD_eq_getD_getElem?,Array.getElem?_setIfInBounds,h]
theorem Ap {i:Nat} (h:i<listed.size):(listed.setIfInBounds i true).getD i false=true:=by simp[Array.getD_eq_getD_getElem?,h]
theorem pi.other (h:pi bm lo hi la w0 listed w) (i:Nat) (h8:i≠8) (h9:i≠9):pi bm lo hi la w0 (listed.setIfInBounds i true) w:=by
 unfold pi;rw[fK h8,fK h9];exact h
theorem pi.c13 (h:pi bm lo hi la w0 listed w):w.cell? ⟨bm+1+1,0,none⟩=some (.int .i64 (if listed.getD 8 false=true then min lo la else lo)):=ab h.2.1 0
theorem pi.c14 (h:pi bm lo hi la w0 listed w):w.cell? ⟨bm+1+1+1,0,none⟩=some (.int .i64 (if listed.getD 9 false=true then max hi la else hi)):=ab h.2.2 0
theorem pi.f14 (h:pi bm lo hi la w0 listed w):w.frozen? ⟨bm+1+1+1,0,none⟩=false:=bB h.2.2 0
end
theorem Ks.vals {W w w':World} {ks:List j6} {j:Nat} {u:Value} (hv:∀k∈ks,∃x,k=.val x) (h:Ks W ks j u w):Ks W ks j u w':=λk hk=>by
 obtain⟨x,rfl⟩:=hv k (List.mem_of_getElem? hk);exact h _ hk
end
section
open Go Go.RowKit
theorem dB.lit {w:World} {Q:Nat->Prop} {cs:List Value} {x:fb} (h:dB w Q cs x):cs=aer x/\am x.account/\am x.amount:=by
 obtain⟨c0,c1,rfl,⟨rfl,h0⟩,⟨rfl,h1⟩⟩:=h;exact⟨rfl,h0,h1⟩
def IC (w:World) (p:Addr):Prop:=∃z:Int,w.cell? p=some (.int .i64 z)/\w.frozen? p=false
theorem IC.set {w:World} {p q:Addr} {z:Int} (hp:IC w p) (hq:IC w q):IC (w.setCell q (.int .i64 z)) p:=by
 obtain⟨a,h1,h2⟩:=hp;obtain⟨b,h3,h4⟩:=hq;by_cases e:q=p
 ·subst e;exact⟨z,World.cell?_setCell_same _ _ _ h1,(World.frozen?_setCell _ _ _ _).trans h2⟩
 ·exact⟨a,(World.cell?_setCell_other _ _ _ _ e).trans h1,(World.frozen?_setCell _ _ _ _).trans h2⟩
theorem At.ic {w:World} {Q:Nat->Prop} {b o j:Nat} {cs:List Value} {z:Int} (h:At w Q ⟨b,o,none⟩ cs) (hj:cs[j]? =some (.int .i64 z)):IC w ⟨b,o+j,none⟩:=by
 have h2:=h.2 j _ hj;have e:(⟨b,o,none⟩:Addr).add j=⟨b,o+j,none⟩:=by
  unfold Addr.add;split
  ·rename_i h0;subst h0;rfl
  ·rfl
 rw[e]at h2;exact⟨z,h2⟩
def KL (A:Option Addr) (g n:Nat) (w:World):Prop:=∀k,k<n->A=some ⟨g,0,none⟩/\IC w ⟨g,k*3+1,none⟩
theorem KL.set {A:Option Addr} {g n k:Nat} {w:World} {z:Int} (h:KL A g n w) (hk:k<n):KL A g n (w.setCell ⟨g,k*3+1,none⟩ (.int .i64 z)):=λj hj=>⟨(h j hj).1,(h j hj).2.set (h k hk).2⟩
def BD (B:Nat) (A:Option Addr) (es:List ak) (w:World):Prop:=∀(i:Nat) x,es[i]? =some x->∃b o Al cl,A=some ⟨b,o,none⟩/\w.cell? ⟨b,o+i*7+6,none⟩=some (.slice Al x.lines.length cl)/\
 ∀k,k<x.lines.length->∃bl ol,Al=some ⟨bl,ol,none⟩/\B<=bl/\bl≠b/\IC w ⟨bl,ol+k*3+1,none⟩
theorem BD.set {B:Nat} {A:Option Addr} {es:List ak} {w:World} {q:Addr} {z:Int} (h:BD B A es w) (hq:IC w q) (hb:∀b o,A=some ⟨b,o,none⟩->q.block≠b):BD B A es (w.setCell q (.int .i64 z)):=λi x hx=>by
 obtain⟨b,o,Al,cl,h1,h2,h3⟩:=h i x hx;refine⟨b,o,Al,cl,h1,(World.cell?_setCell_far _ _ _ _ (hb b o h1)).trans h2,λk hk=>?_⟩;obtain⟨bl,ol,k1,k2,k3,k4⟩:=h3 k hk;exact⟨bl,ol,k1,k2,k3,k4.set hq⟩
theorem KJ.shown {B:Nat} {A:Option Addr} {c:Nat} {es:List ak} {w:World} (h:KJ B es (.slice A es.length c) w):BD B A es w:=λi x hx=>by
 obtain⟨css,h1,h2,h3,h4⟩:=h;obtain⟨cs,hc,hE⟩:=h4 i x hx;rcases h2.2 with⟨he,h0⟩|⟨g,cap,cur,he,hb,hg,_⟩
 ·have:es=[]:=List.eq_nil_of_length_eq_zero h0;subst this;simp at hx
 ·simp only[Value.slice.injEq]at he;obtain⟨rfl,_,rfl⟩:=he;obtain⟨Al,cl,rfl,_,hl⟩:=hE.lit;have aS:=At.flat h3 0 (xN (Q:=λ_=>True) h2 trivial) i _ hc;refine⟨g,0,Al,cl,rfl,(aS.2 6 _ rfl).1,λk hk=>?_⟩;obtain⟨bl,ol,Kb,hA,hQ,hL,hA2⟩:=aj.get hl k hk;obtain⟨rfl,_⟩:=bc.lit hL;exact⟨bl,ol,hA,hQ.1.1,λe=>hQ.2 (by rw[e];rfl),hA2.ic (j:=1) rfl⟩
theorem aj.take {α:Type} {El:World->(Nat->Prop)->List Value->α->Prop} {size:Nat} {w:World} {Q:Nat->Prop} {A:Option Addr} {c m:Nat} {l:List α} (h:aj El size w Q [.slice A l.length c] l) (hm:m<=l.length):aj El size w Q [.slice A (l.take m).length c] (l.take m):=by
 obtain⟨A',c',he,h1,h2,h3⟩:=h;simp only[List.cons.injEq,and_true,Value.slice.injEq]at he;obtain⟨rfl,_,rfl⟩:=he;have hl:(l.take m).length=m:=by rw[List.length_take];omega
 refine⟨_,_,rfl,by omega,h2,λhp=>?_⟩;obtain⟨b,o,hA,hQ,hx⟩:=h3 (by omega);refine⟨b,o,hA,hQ,λi x hi=>hx i x ?_⟩;have sO:i<m:=by
  have:=(List.getElem?_eq_some_iff.1 hi).1;omega
 rw[List.getElem?_take_of_lt sO]at hi;exact hi
theorem GK.take {g:au} {l:List ak} (h:GK g l) (m:Nat):GK g (l.take m):=⟨λx hx=>h.1 x (List.mem_of_mem_take hx),by have:=h.2.1;rw[List.length_take];omega,h.2.2⟩
def OD (B:Nat) (g:au) (l:List ak) (v:Value) (w:World):Prop:=v=.tuple #[.pointer none,.slice none 0 0,true]\/
 ∃(J:Nat) (D O:Nat->Prop) (A:Option Addr) (c:Nat),v=.tuple #[.pointer (some ⟨J,0,none⟩),.slice A (DD g l).length c,true]/\JC w D O J g (DD g l)/\(∀q,D q\/O q->B<=q)/\aj ax 7 w (λq=>q<w.heap.size/\¬(D q\/O q)) [.slice A (DD g l).length c] (DD g l)
theorem OD.keep {B:Nat} {g:au} {l:List ak}:∀v w w',Below w.heap.size w w'->OD B g l v w->OD B g l v w':=λv w w' hb h=>by
 rcases h with h|⟨J,D,O,A,c,h1,h2,h3,h4⟩
 ·exact .inl h
 ·have hf:Fr (λq=>q<w.heap.size/\¬(D q\/O q)) w w':=(Fr.ofBelow hb).mono (λq hq=>hq.1);exact .inr ⟨J,D,O,A,c,h1,h2.below hb,h3,(h4.fr (λh=>ax.fr h hf) hf).mono (λh=>ax.mono h (λq hq=>⟨Nat.lt_of_lt_of_le hq.1 hb.size,hq.2⟩)) (λq hq=>⟨Nat.lt_of_lt_of_le hq.1 hb.size,hq.2⟩)⟩
theorem OD.of {g:au} {l:List ak} {w0 w w':World} {e:Ending} (h:Gy g l w e w') (hB:w0.heap.size<=w.heap.size):∃v,e=.returned v/\OD w0.heap.size g l v w'/\Below w.heap.size w w':=by
 obtain⟨hb,⟨_,rfl⟩|⟨_,J,D,O,A,c,rfl,h1,h2,h3⟩⟩:=h
 ·exact⟨_,rfl,.inl rfl,hb⟩
 ·exact⟨_,rfl,.inr ⟨J,D,O,A,c,rfl,h1,λq hq=>Nat.le_trans hB (h2 q hq),h3⟩,hb⟩
section
variable {P:Program} {w:World}
theorem ahc {o:Oper} {a:Act} {K:Act->World->Prop} {Q':Exit->Act->World->Prop} (s x:Operand) (t:TypeId)
 (ho:o.op=.call {callee:=.builtin .append,args:=#[s,x],argTypes:=#[t,t]})
 (base:Nat) (e:TypeId) (i:TypeInfo) (z:Value) (size fF:Nat) (ht:P.underlying t=some (.slice e)) (hi:P.info? e=some i) (hz:i.zero=some z)
 (lf:i.size=size) (MM:i.bytes=fF) (Ns:z.cells.size=size) (bP:0<size)
 (g:Nat) (hs:a.eval s=.slice (some ⟨g,0,none⟩) 0 0) (hg:w.heap[g]? =some (.cells #[] e (0,0))) (hgb:base<=g)
 (Q:Nat->Prop) (A:Option Addr) (m c:Nat) (gd:List Value) (hx:a.eval x=.slice A m c) (hr:Rd w Q A m size gd) (h1:∀u∈gd,u.oneCell'=true)
 (Mu:m<=maxLen) (jF:m*fF<=140737488355328) (jR:base<=w.heap.size)
 (h:∀v' w',w'.ownsRow base e size v' m gd->Below w.heap.size w w'->K (a.put o.dst v') w'):o.wp P a w K Q':=by
 rcases Nat.eq_zero_or_pos m with h0|hm
 ·subst h0;have hn:gd=[]:=List.eq_nil_of_length_eq_zero (by simpa using hr.1);subst hn;have bv:w.ownsRow base e size (.slice (some ⟨g,0,none⟩) 0 0) 0 []:=⟨by simp,.inr ⟨g,0,#[],rfl,hgb,hg,Nat.le_refl _,by simp[maxLen],by simp,by simp⟩⟩;have eC:(Builtin.append_ #[t,t] o.type #[.slice (some ⟨g,0,none⟩) 0 0,.slice A 0 c]).run P w=.ok (.slice (some ⟨g,0,none⟩) 0 0) w:=by
   cases A with
   |none=>exact Cl w base t o.type e i size ht hi _ 0 [] bv c
   |some ad=>
    have:=run_append_room_cells (P:=P) w t o.type e i ht hi g 0 0 0 ad 0 c [] (by simp) (by simp) (by simp) (Nat.le_refl _) (by simp) (by simp);simpa[World.setCells]using this
  unfold Oper.wp execOp;simp only[ho,resolve,invoke,builtin,Sem.run_bind,Sem.run_pure,Result.andThen_ok,List.map_toArray,List.map_cons,List.map_nil,hs,hx,eC];exact h _ w bv (Below.refl _ _)
 ·exact ahT w s x t ho base e i z size fF ht hi hz lf MM Ns bP g hs hg hgb Q A m c gd hx hr h1 hm Mu jF jR h
end
def Dy (B:Nat) (v:Value) (w:World):Prop:=∃g,v=.slice (some ⟨g,0,none⟩) 0 0/\B<=g/\w.heap[g]? =some (.cells #[] 51 (0,0))
theorem Dy.keep {B:Nat}:∀v w w',Below w.heap.size w w'->Dy B v w->Dy B v w':=λv w w' hb ⟨g,e,h1,h2⟩=>⟨g,e,h1,(hb.block g (ag h2)).trans h2⟩
theorem Dy.made {B:Nat} {w:World} (h:B<=w.heap.size):Dy B (.slice (some ⟨w.heap.size,0,none⟩) 0 0) (w.alloc (.cells #[] 51)):=⟨_,rfl,h,heap_alloc_new _ _⟩
def Gx (B:Nat) (cs:List Value) (v:Value) (w:World):Prop:=∃g,v=.slice (some ⟨g,0,none⟩) 1 1/\B<=g/\w.heap[g]? =some (.cells cs.toArray 51 (0,0))
theorem Gx.keep {B:Nat} {cs:List Value}:∀v w w',Below w.heap.size w w'->Gx B cs v w->Gx B cs v w':=λv w w' hb ⟨g,e,h1,h2⟩=>⟨g,e,h1,(hb.block g (ag h2)).trans h2⟩
theorem KL.fr {A:Option Addr} {g n:Nat} {w w':World} {Q:Nat->Prop} (h:KL A g n w) (hf:Fr Q w w') (hg:Q g):KL A g n w':=λk hk=>by
 obtain⟨h1,z,h2,h3⟩:=h k hk;exact⟨h1,z,(hf.cell (p:=⟨g,k*3+1,none⟩) hg).trans h2,(hf.frozen (p:=⟨g,k*3+1,none⟩) hg).trans h3⟩
theorem ts {P:Program} {md:Region.Mode} {ops:Array Oper} {Q:Exit->Act->World->Prop} {V:Nat->Value->World->Prop} {S:Array Bool->World->Prop} {a0:Act}
 (fQ:∀(i:Nat) (o:Oper),ops[i]? =some o->∀e∈o.after,Region.binds md e=true->e.on<i)
 (jW:∀(i j:Nat) (oi oj:Oper) (d:Nat),ops[i]? =some oi->ops[j]? =some oj->oi.dst=some d->oj.dst=some d->i=j)
 (aU:∀(i:Nat) (o:Oper) (d:Nat),ops[i]? =some o->o.dst=some d->d<a0.tmps.size)
 (dy:∀i o,ops[i]? =some o->∀listed a w,Inv md ops V (S listed) a0 listed a w->(∀e∈o.after,Region.binds md e=true->aW listed e.on)->¬aW listed i->
  ∀K:Act->World->Prop,(∀v w',S (listed.setIfInBounds i true) w'->V i v w'->(∀j u,V j u w->V j u w')->K (a.put o.dst v) w')->if Region.wanted o (yielded ops a.tmps)=true then o.wp P a w K Q else K (a.put o.dst undef) w)
 (i8:∀listed a w,Inv md ops V (S listed) a0 listed a w->(∀i,i<ops.size->aW listed i)->Q .normal a w):
 ∀bZ listed a w,Inv md ops V (S listed) a0 listed a w->left ops.size listed<=bZ->wpAny P md ops Q bZ listed a w
 |0,listed,a,w,hI,hf=>by
  have hr:Region.ready md ops listed=[]:=by
   rw[List.eq_nil_iff_forall_not_mem];intro i hi;obtain⟨h1,o,h2,_⟩:=mem_ready.1 hi;have:=dL hI.lsize (Array.getElem?_eq_some_iff.1 h2).1 h1;omega
  exact⟨hr,i8 listed a w hI (λi hi=>dT hI.lsize fQ hr (i+1) i (by omega) hi)⟩
 |bZ+1,listed,a,w,hI,hf=>by
  refine⟨λhr=>i8 listed a w hI (λi hi=>dT hI.lsize fQ hr (i+1) i (by omega) hi),λi hi=>?_⟩;obtain⟨h1,o,h2,h3⟩:=mem_ready.1 hi;have bP:i<ops.size:=(Array.getElem?_eq_some_iff.1 h2).1;have hnd:¬aW listed i:=by
   unfold aW;rw[<-iU (by rw[hI.lsize];exact bP),h1];simp
  refine wpOp_step h2 (λK hK=>dy i o h2 listed a w hI h3 hnd K (λv w' hS hv kW=>hK _ _ ?_));refine ts fQ jW aU dy i8 bZ _ _ _ ((Inv.step (hI.withS (S':=λ_=>True) trivial) jW aU h2 h3 trivial hv kW).withS hS) ?_;have:=dL hI.lsize bP h1;omega
theorem tK {P:Program} {ops:Array Oper} {Q:Exit->Act->World->Prop} (V:Nat->Value->World->Prop) (S:Array Bool->World->Prop) {id:Nat} {a:Act} {w:World}
 (hm:P.follows .mixedOrders=true) (ho:rj .any ops=true) (hd:v8 ops a.tmps.size=true) (hS:S (Array.replicate ops.size false) w.drew)
 (dy:ei (IX P .any ops Q V S a) 0 ops.toList)
 (i8:∀listed a' w',Inv .any ops V (S listed) a listed a' w'->(∀i,i<ops.size->aW listed i)->Q .normal a' w'):(Code.region id ops true).wp P Q a w:=by
 refine wp_region_any hm (ts (V:=V) (S:=S) (a0:=a) (kN ho) (λi j oi oj d hi hj mA jx=>(dD hd i oi d hi mA).2 j oj hj jx) (λi o d hi mA=>(dD hd i o d hi mA).1)
  (λi o hi listed a' w' hI ns hnd K hK=>?_) i8 _ _ _ _ ?_ ?_)
 ·have:=ei.get dy (i:=i) (o:=o) (by simpa using hi);rw[Nat.zero_add]at this;exact this listed a' w' hI ns hnd K hK
 ·have fg:∀i,¬aW (Array.replicate ops.size false) i:=λi h=>by
   unfold aW at h;by_cases hi:i<ops.size<;>simp[Array.getD_eq_getD_getElem?,hi]at h
  exact⟨by simp,hS,rfl,rfl,λi _ _ h=>absurd h (fg i),λi _ _ _ _ h=>absurd h (fg i),λ_ _=>rfl⟩
 ·unfold left;exact Nat.le_trans (List.length_filter_le _ _) (by simp)
def ZZ (css:List (List Value)) (k:Nat) (p q:Bool):List (List Value):=
 (λr:List (List Value)=>if q=true then r.set (k+1) (css.getD k [])else r) (if p=true then css.set k (css.getD (k+1) [])else css)
def KF (B gm n c:Nat) (css:List (List Value)) (k:Nat) (V:World) (listed:Array Bool) (w:World):Prop:=
 Fr (λq=>q≠gm) V w/\w.ownsRow B 51 7 (.slice (some ⟨gm,0,none⟩) n c) n (ZZ css k (listed.getD 15 false) (listed.getD 17 false)).flatten
section
variable {B gm n c k:Nat} {css:List (List Value)} {V w:World} {listed:Array Bool}
theorem KF.other (h:KF B gm n c css k V listed w) (i:Nat) (h1:i≠15) (h2:i≠17):KF B gm n c css k V (listed.setIfInBounds i true) w:=by
 unfold KF;rw[fK h1,fK h2];exact h
theorem KF.there (h:KF B gm n c css k V listed w) (j:Nat) (hj:j<n):w.there gm (j*7) 7:=λi hi=>by
 have hl:(ZZ css k (listed.getD 15 false) (listed.getD 17 false)).flatten.length=n*7:=h.2.1;have aS:=xN h.2 (Q:=λ_=>True) trivial;have h2:j*7+i< (ZZ css k (listed.getD 15 false) (listed.getD 17 false)).flatten.length:=by omega
 have h1:=aS.2 (j*7+i) _ (List.getElem?_eq_getElem h2);rw[Addr.add_lit,Nat.zero_add]at h1;exact⟨by rw[h1.1];simp,h1.2⟩
end
def iG (a r:Int):Int:=a*(r/ 1000000)+(2*(a*(r%1000000))+1000000) / 2000000
def cN (n r:Int):Int × Int:=
 if n< -1000000000000\/1000000000000<n\/r<1\/1000000000000<r then(0,1)
 else if 1000000000000< (n.natAbs:Int)*(r/ 1000000)then(0,2)
 else if 1000000000000<iG n.natAbs r then(0,2)
 else(if n<0 then -iG n.natAbs r else iG n.natAbs r,0)
theorem Pg {a b c d:Int} (h0:0<=a) (h1:a<=b) (h2:0<=c) (h3:c<=d):a*c<=b*d:=Int.mul_le_mul h1 h3 h2 (by omega)
theorem sx {a b:Int} (h:0<=a) (k:0<=b):0<=a*b:=Int.mul_nonneg h k
theorem BL {m a b:Int} (hb:0<b):m/ b<a↔m<a*b:=by
 rw[Int.ediv_lt_iff_lt_mul hb]
theorem OP {a r:Int} (ha:0<=a) (hr:0<=r):0<=iG a r:=by
 unfold iG;have h1:=sx ha (Int.ediv_nonneg hr (show(0:Int)<=1000000 by omega));have h2:=sx ha (Int.emod_nonneg r (show(1000000:Int)≠0 by omega));generalize a*(r/ 1000000)=x at*;generalize a*(r%1000000)=y at*;omega
theorem Lc (n r:Int):cN (-n) r=(-(cN n r).1,(cN n r).2):=by
 unfold cN;rw[Int.natAbs_neg];by_cases h1:n< -1000000000000\/1000000000000<n\/r<1\/1000000000000<r
 ·have h1': -n< -1000000000000\/1000000000000< -n\/r<1\/1000000000000<r:=by omega
  simp only[if_pos h1,if_pos h1'];rfl
 have h1':¬(-n< -1000000000000\/1000000000000< -n\/r<1\/1000000000000<r):=by omega
 simp only[if_neg h1,if_neg h1'];by_cases h2:1000000000000< (n.natAbs:Int)*(r/ 1000000)
 ·simp only[if_pos h2];rfl
 simp only[if_neg h2];by_cases h3:1000000000000<iG n.natAbs r
 ·simp only[if_pos h3];rfl
 simp only[if_neg h3];by_cases h4:n<0
 ·have h5:¬-n<0:=by omega
  simp only[if_pos h4,if_neg h5,Int.neg_neg]
 ·by_cases h5:n=0
  ·subst h5;have:iG ((0:Int).natAbs:Int) r=0:=by unfold iG;simp
   rw[this];rfl
  ·have h6: -n<0:=by omega
   simp only[if_neg h4,if_pos h6]
theorem OQ (n r:Int): -1000000000000<=(cN n r).1/\(cN n r).1<=1000000000000:=by
 unfold cN;by_cases h1:n< -1000000000000\/1000000000000<n\/r<1\/1000000000000<r
 ·rw[if_pos h1];simp
 rw[if_neg h1];by_cases h2:1000000000000< (n.natAbs:Int)*(r/ 1000000)
 ·rw[if_pos h2];simp
 rw[if_neg h2];by_cases h3:1000000000000<iG n.natAbs r
 ·rw[if_pos h3];simp
 rw[if_neg h3];have h4:=OP (a:=n.natAbs) (r:=r) (by omega) (by omega);simp only;split<;>omega
def cW (r:aC):ByteArray × Int × Int:=(r.currency,r.kind,r.when_)
def eO (grp:ByteArray) (r:aC):Bool:=cQ r.currency&&decide (r.currency≠grp)&&decide (1<=r.value/\r.value<=1000000000000)&&(decide (r.kind=1/\ -25567<=r.when_/\r.when_<=84005)||decide (r.kind=2/\0<=r.when_/\r.when_<120))
def dJ (grp:ByteArray) (rs:List aC):Prop:=(∀r∈rs,eO grp r=true)/\(rs.map cW).Nodup/\cQ grp=true/\rs.length<=1000
instance (grp:ByteArray) (rs:List aC):Decidable (dJ grp rs):=inferInstanceAs (Decidable (_/\_/\_/\_))
theorem EE {grp:ByteArray} {r:aC} (h:eO grp r=true):cQ r.currency=true/\r.currency≠grp/\(1<=r.value/\r.value<=1000000000000)/\((r.kind=1/\ -25567<=r.when_/\r.when_<=84005)\/(r.kind=2/\0<=r.when_/\r.when_<120)):=by
 unfold eO at h;simp only[Bool.and_eq_true,Bool.or_eq_true,decide_eq_true_eq]at h;exact⟨h.1.1.1,h.1.1.2,h.1.2,h.2⟩
theorem SZ {rs:List aC} (hn:(rs.map cW).Nodup) {r s:aC} (hr:r∈rs) (hs:s∈rs) (h:cW r=cW s):r=s:=by
 obtain⟨i,hi,rfl⟩:=List.getElem_of_mem hr;obtain⟨j,hj,rfl⟩:=List.getElem_of_mem hs;have e:i=j:=(List.getElem_inj (i:=i) (j:=j) (h₀:=by simpa using hi) (h₁:=by simpa using hj) hn).1 (by simpa using h);subst e;rfl
def dq (rs:List aC) (c:ByteArray) (k w:Int):Option Int:=(rs.find? (λr=>decide (cW r=(c,k,w)))).map (·.value)
def inW (c:ByteArray) (a b:Int) (r:aC):Prop:=r.currency=c/\r.kind=1/\a<=r.when_/\r.when_<=b
instance (c:ByteArray) (a b:Int) (r:aC):Decidable (inW c a b r):=inferInstanceAs (Decidable (_/\_/\_/\_))
def jT (rs:List aC) (c:ByteArray) (a b:Int):Option aC->Prop
 |none=>∀r∈rs,¬inW c a b r
 |some r=>r∈rs/\inW c a b r/\∀s∈rs,inW c a b s->s.when_<=r.when_
theorem jT.uniq {rs:List aC} (hn:(rs.map cW).Nodup) {c:ByteArray} {a b:Int} {o p:Option aC} (h:jT rs c a b o) (k:jT rs c a b p):o=p:=by
 cases o with
 |none=>
  cases p with
  |none=>rfl
  |some r=>exact absurd k.2.1 (h r k.1)
 |some r=>
  cases p with
  |none=>exact absurd h.2.1 (k r h.1)
  |some s=>
   have h1:=h.2.2 s k.1 k.2.1;have h2:=k.2.2 r h.1 h.2.1;have e:cW r=cW s:=by
    unfold cW;rw[h.2.1.1,k.2.1.1,h.2.1.2.1,k.2.1.2.1,show r.when_=s.when_ by omega]
   rw[SZ hn h.1 k.1 e]
def qh (rs:List aC) (c:ByteArray) (a b:Int):Int:=((rs.filter (λr=>decide (inW c a b r))).map (·.value)).sum
def ml (rs:List aC) (c:ByteArray) (a b:Int):Nat:=(rs.filter (λr=>decide (inW c a b r))).length
theorem Qk {l m:List Int} (h:l.Perm m):l.sum=m.sum:=by
 induction h with
 |nil=>rfl
 |cons x _ ih=>simp[ih]
 |swap x y l=>simp;omega
 |trans _ _ ih1 ih2=>exact ih1.trans ih2
theorem Mk {rs ss:List aC} {c:ByteArray} {a b:Int} (h:ss.Perm (rs.filter (λr=>decide (inW c a b r)))):(ss.map (·.value)).sum=qh rs c a b/\ss.length=ml rs c a b:=by
 unfold qh ml;exact⟨Qk (h.map _),h.length_eq⟩
structure XBk where
 g:au:={}
 es:List ak:=[]
 rs:List aC:=[]
def kJ:Option aC->aC->Bool
 |none,_=>true
 |some s,r=>decide (s.when_<r.when_)
def Ie (c:ByteArray) (a b:Int) (o:Option aC) (r:aC):Option aC:=if inW c a b r/\kJ o r=true then some r else o
def og (rs:List aC) (c:ByteArray) (a b:Int):Option aC:=rs.foldl (Ie c a b) none
theorem Im (rs:List aC) (r:aC) (c:ByteArray) (a b:Int):og (rs++[r]) c a b=Ie c a b (og rs c a b) r:=by
 unfold og;rw[List.foldl_append];rfl
def E8 (rs:List aC) (c:ByteArray) (d:Int):Int × Int:=match og rs c (d- 40) d with
 |some r=>(r.value,0)
 |none=>(0,13)
def DG (rs:List aC) (c:ByteArray) (a b q:Int):Int × Int:=match dq rs c 2 q with
 |some v=>(v,0)
 |none=>if ml rs c a b=0 then(0,13)else((2*qh rs c a b+ml rs c a b) / (2*ml rs c a b),0)
def bA (g:au) (p:Int):Int:=(bH g.calendar.year g.calendar.month g.calendar.periods p).1
def lJ (g:au) (p:Int):Int:=(aX g.calendar.year g.calendar.month g.calendar.periods p).1
def iC (g:au) (d:Int):Int:=(cT g.calendar.year g.calendar.month g.calendar.periods d).1
def kP (b:XBk) (cur:ByteArray) (basis date p:Int):Int × Int:=
 if cur=b.g.currency then(1000000,0)
 else if basis=2 then DG b.rs cur (lJ b.g (iC b.g date)) (bA b.g (iC b.g date)) (iC b.g date)
 else E8 b.rs cur (if basis=1 then bA b.g p else date)
def sn:Option bu->bu->Bool
 |none,_=>true
 |some s,r=>decide (s.since<r.since)
def zw (code gA:Int) (o:Option bu) (l:bu):Option bu:=if l.from_=code/\l.since<=gA/\sn o l=true then some l else o
def js (ls:List bu) (code gA:Int):Option bu:=ls.foldl (zw code gA) none
def gz (e:aV) (code gA:Int):Int × Int:=
 if ¬(-25567<=gA/\gA<=84005)then(0,2)
 else if(aK e.chart code).isSome=false then(0,8)
 else match js e.links code gA with
  |some l=>(l.to_,0)
  |none=>(0,15)
def xV (g:au) (code:Int):Bool:=match aK g.chart code with
 |some a=>decide (a.kind=4\/a.kind=5)
 |none=>false
def tG (g:au) (p:Int):Int:=lJ g (p- p%12)
def lK (g:au) (code date p:Int):Int:=if date<tG g p/\xV g code=true then g.roles.retained else code
def dM (b:XBk) (ent code date p:Int):Int × Int × Int:=
 let e:=b.g.entities.getD ent.toNat {}
 let m:=gz e code (bA b.g p)
 if m.2≠0 then(0,0,15)
 else match aK b.g.chart m.1 with
  |none=>(0,0,15)
  |some a=>(m.1,kP b e.currency a.basis date p)
def jr (b:XBk) (x:ak) (k:Nat) (p:Int):bW × Int:=
 let l:=x.lines.getD k {}
 let m:=dM b x.entity l.account x.date p
 if m.2.2≠0 then({},m.2.2)
 else
  let n:=cN l.amount m.2.1
  if n.2≠0 then({},2)
  else(⟨⟨x.id,(k:Int)⟩,x.entity,lK b.g m.1 x.date p,l.partner,x.date,n.1⟩,0)
def cB (b:XBk) (p:Int) (x:ak):List (bW × Int):=(List.range x.lines.length).map (λj=>jr b x j p)
def kH (l:List (bW × Int)):List bW × Int:=match l.find? (λi=>i.2 !=0)with
 |some i=>([],i.2)
 |none=>(l.map (·.1),0)
theorem DP {l:List (bW × Int)} (h:∀i∈l,i.2=0):kH l=(l.map (·.1),0):=by
 unfold kH;rw[List.find?_eq_none.2 (λi hi=>by simpa using h i hi)]
theorem Ai {l m:List (bW × Int)} {i:bW × Int} (h:∀x∈l,x.2=0) (hi:i.2≠0):kH (l++i::m)=([],i.2):=by
 unfold kH;rw[List.find?_append,List.find?_eq_none.2 (λi hi=>by simpa using h i hi),Option.none_or,List.find?_cons_of_pos (by simpa using hi)]
def ZA (b:XBk) (p:Int) (es:List ak):List bW × Int:=kH (es.flatMap (cB b p))
def ltX (x y:ak):Prop:=x.date<y.date\/x.date=y.date/\x.id<y.id
instance (x y:ak):Decidable (ltX x y):=inferInstanceAs (Decidable (_\/_/\_))
theorem S0 (x:ak):¬ltX x x:=λh=>by unfold ltX at h;omega
theorem AB {x y z:ak} (h:ltX x y) (k:ltX y z):ltX x z:=by unfold ltX at*;omega
def j5 (es fs:List ak):Prop:=fs.Perm es/\fs.Pairwise ltX
theorem yx:∀{a b:List ak},a.Pairwise ltX->b.Pairwise ltX->a.Perm b->a=b
 |[],b,_,_,h=>(List.nil_perm.1 h).symm
 |x::a,[],_,_,h=>absurd h.symm (by simp)
 |x::a,y::b,ha,hb,h=>by
  rw[List.pairwise_cons]at ha hb;have e:x=y:=by
   rcases List.mem_cons.1 (h.mem_iff.1 (List.mem_cons_self (a:=x) (l:=a)))with e|hx
   ·exact e
   ·rcases List.mem_cons.1 (h.mem_iff.2 (List.mem_cons_self (a:=y) (l:=b)))with e|hy
    ·exact e.symm
    ·exact absurd (AB (ha.1 y hy) (hb.1 x hx)) (S0 x)
  subst e;rw[yx ha.2 hb.2 (List.Perm.cons_inv h)]
theorem j5.uniq {es fs gs:List ak} (h:j5 es fs) (k:j5 es gs):fs=gs:=yx h.2 k.2 (h.1.trans k.1.symm)
theorem Ey (n:Int) (w:World):Calls Tryz.prog 104 #[n] w (ap w (.bool (decide (-1000000000000<=n/\n<=1000000000000)))):=by
 obtain⟨R,hR⟩:∃b:Bool,decide (-1000000000000<=n/\n<=1000000000000)=b:=⟨_,rfl⟩;have HR:=H_ hR;rw[hR];clear hR;go_enter Tryz.func104,Tryz.ntmps104;by_cases h1: -1000000000000<=n
 case neg=>
  have hf:=H_ (show R=false by rw[<-HR.o];exact decide_eq_false (λh=>h1 h.1));have tR:decide (n≥ -1000000000000)=false:=decide_eq_false h1;have h1e:decide (-1000000000000<=n)=false:=decide_eq_false h1;clear h1;go_wp2_with fail;go_ret;exact⟨by rw[hf.o];rfl,Below.refl _ _⟩
 case pos=>
 have tR:decide (n≥ -1000000000000)=true:=decide_eq_true h1;have h1e:decide (-1000000000000<=n)=true:=decide_eq_true h1;by_cases h2:n<=1000000000000
 case pos=>
  have hf:=H_ (show R=true by rw[<-HR.o];exact decide_eq_true ⟨h1,h2⟩);have tt:decide (n<=1000000000000)=true:=decide_eq_true h2;clear h1 h2;go_wp2_with fail;go_ret;exact⟨by rw[hf.o];rfl,Below.refl _ _⟩
 case neg=>
  have hf:=H_ (show R=false by rw[<-HR.o];exact decide_eq_false (λh=>h2 h.2));have tt:decide (n<=1000000000000)=false:=decide_eq_false h2;clear h1 h2;go_wp2_with fail;go_ret;exact⟨by rw[hf.o];rfl,Below.refl _ _⟩
theorem kM (n:Int) (w:World):Calls Tryz.prog 156 #[n] w (ap w (.tuple #[.int .i64 (if -1000000000000<=n/\n<=1000000000000 then n else 0),.int .i64 (if -1000000000000<=n/\n<=1000000000000 then 0 else 2)])):=by
 have HV:=H_ (Ey n w);go_enter Tryz.func156,Tryz.ntmps156;by_cases h: -1000000000000<=n/\n<=1000000000000
 case pos=>
  rw[if_pos h,if_pos h];have hd:decide (-1000000000000<=n/\n<=1000000000000)=true:=decide_eq_true h;rw[hd]at HV;clear hd h;go_wp2_with fail;refine HV.o.mono ?_;rintro e w2 ⟨rfl,hb⟩;go_wp2_with fail;go_ret2;exact⟨rfl,hb⟩
 case neg=>
  rw[if_neg h,if_neg h];have hd:decide (-1000000000000<=n/\n<=1000000000000)=false:=decide_eq_false h;rw[hd]at HV;clear hd h;go_wp2_with fail;refine HV.o.mono ?_;rintro e w2 ⟨rfl,hb⟩;go_wp2_with fail;go_ret2;exact⟨rfl,hb⟩
theorem vW {n r o v:Int} (hn: -1000000000000<=n/\n<=1000000000000) (hr:1<=r/\r<=1000000000000) (Cy:¬1000000000000< (n.natAbs:Int)*(r/ 1000000)) (ho:iG n.natAbs r=o) (h0:0<=o) (hv:v=if n<0 then -o else o):cN n r=(if -1000000000000<=v/\v<=1000000000000 then v else 0,if -1000000000000<=v/\v<=1000000000000 then 0 else 2):=by
 unfold cN;rw[if_neg (by omega),if_neg Cy,ho,<-hv];by_cases h:1000000000000<o
 ·rw[if_pos h,if_neg (by rw[hv];split<;>omega),if_neg (by rw[hv];split<;>omega)]
 ·rw[if_neg h,if_pos (by rw[hv];split<;>omega),if_pos (by rw[hv];split<;>omega)]
theorem Hj (n:Int):max n (-n)=(n.natAbs:Int):=by omega
theorem LQ (n r:Int) (w:World) (hn: -1000000000000<=n/\n<=1000000000000) (hr:1<=r/\r<=1000000000000):Calls Tryz.prog 114 #[n,r,(1000000:Int)] w (ap w (.tuple #[.int .i64 (cN n r).1,.int .i64 (cN n r).2])):=by
 obtain⟨a,ha⟩:=x_ ((n.natAbs:Int));obtain⟨q,hq⟩:∃a:Int,r/ 1000000=a:=⟨_,rfl⟩;obtain⟨s,hs⟩:∃a:Int,r%1000000=a:=⟨_,rfl⟩;have hab:0<=a/\a<=1000000000000:=by omega
 have zO:0<=q/\q<=1000000:=by omega
 have Bi:0<=s/\s<1000000:=by omega
 have HMX:=H_ (show max n (-n)=a by rw[Hj];exact ha);have HQ:=H_ (show r.tdiv 1000000=q by rw[Int.tdiv_eq_ediv_of_nonneg (by omega)];exact hq);have HS:=H_ (show r.tmod 1000000=s by rw[Int.tmod_eq_emod_of_nonneg (by omega)];exact hs);have Yr:=H_ (show iG n.natAbs r=a*q+(2*(a*s)+1000000) / 2000000 by unfold iG;rw[ha,hq,hs]);have HAA:=H_ ha;have Z0:=H_ hq;have HWQ:=H_ (show IntKind.i64.wrap q=q by rw[IntKind.wrap_i64];omega);have TH:=H_ (show IntKind.i64.wrap s=s by rw[IntKind.wrap_i64];omega);clear ha hq hs;go_enter Tryz.func114,Tryz.ntmps114;have hmx:=HMX.o;go_upto_region 2 with fail;refine bp (Ks w [r,(1000000:Int),q,r,(1000000:Int),s,q,s])
  (λw'=>w'=w.drew) K_ K_ K_ rfl ?_ ?_
 ·refine⟨b_ (q_ 1),b_ (q_ 2),?_,b_ (q_ 1),b_ (q_ 2),?_,b_ (p_ 2 18),b_ (p_ 5 21),trivial⟩
  ·intro _ A0 w2 hI hd hnd K hK;have e0:=hI.p hd 0 16;have e1:=hI.p hd 1 17;have hS:=H_ (show w2=w.drew from hI.world);have hq:=HQ.o;have hwq:=HWQ.o;exact hI.z hK
  ·intro _ A0 w2 hI hd hnd K hK;have e0:=hI.p hd 3 19;have e1:=hI.p hd 4 20;have hS:=H_ (show w2=w.drew from hI.world);have hs:=HS.o;have hws:=TH.o;exact hI.z hK
 ·intro _ A0 w2 hI hall;obtain⟨x0,g0,h0⟩:=hI.got 0 _ 16 rfl rfl (hall 0 (by decide));obtain⟨x1,g1,h1⟩:=hI.got 1 _ 17 rfl rfl (hall 1 (by decide));obtain⟨x2,g2,h2⟩:=hI.got 2 _ 18 rfl rfl (hall 2 (by decide));obtain⟨x3,g3,h3⟩:=hI.got 3 _ 19 rfl rfl (hall 3 (by decide));obtain⟨x4,g4,h4⟩:=hI.got 4 _ 20 rfl rfl (hall 4 (by decide));obtain⟨x5,g5,h5⟩:=hI.got 5 _ 21 rfl rfl (hall 5 (by decide));obtain⟨x6,g6,h6⟩:=hI.got 6 _ 9 rfl rfl (hall 6 (by decide));obtain⟨x7,g7,h7⟩:=hI.got 7 _ 10 rfl rfl (hall 7 (by decide));obtain rfl:w2=w.drew:=hI.world;have hA:A0=_:=hI.tmps [(16,x0),(17,x1),(18,x2),(19,x3),(20,x4),(21,x5),(9,x6),(10,x7)] (by simp only[List.mem_cons,List.not_mem_nil,or_false,forall_eq_or_imp,forall_eq];exact⟨g0,g1,g2,g3,g4,g5,g6,g7⟩) K_;obtain rfl:x0=.int .i64 r:=h0 _ rfl;obtain rfl:x1=.int .i64 1000000:=h1 _ rfl;obtain rfl:x2=.int .i64 q:=h2 _ rfl;obtain rfl:x3=.int .i64 r:=h3 _ rfl;obtain rfl:x4=.int .i64 1000000:=h4 _ rfl;obtain rfl:x5=.int .i64 s:=h5 _ rfl;obtain rfl:x6=.int .i64 q:=h6 _ rfl;obtain rfl:x7=.int .i64 s:=h7 _ rfl;clear h0 g0 h1 g1 h2 g2 h3 g3 h4 g4 h5 g5 h6 g6 h7 g7 hI hall;simp only[ba,List.foldl,List.setIfInBounds_toArray,List.set_cons_zero,List.set_cons_succ]at hA;rw[hA];clear hA;clear hmx;by_cases Cy:1000000000000<a*q
  case pos=>
   have Gn:=H_ Cy;have hC:=H_ (show cN n r=(0,2) by unfold cN;rw[if_neg (by omega),HAA.o,Z0.o,if_pos Gn.o]);have zG:0<q:=by
    rcases Int.lt_or_le 0 q with h|h
    ·exact h
    ·have:q=0:=by omega
     rw[this]at Cy;simp at Cy
   have Xn:=H_ (show(1000000000000:Int).tdiv q<a by rw[Int.tdiv_eq_ediv_of_nonneg (by omega)];exact(BL zG).2 Cy);have aaR:decide (q>0)=true:=decide_eq_true zG;obtain⟨mq,Sj⟩:∃z:Int,(1000000000000:Int).tdiv q=z:=⟨_,rfl⟩;have hmb:0<=mq/\mq<=1000000000000:=by
    rw[<-Sj,Int.tdiv_eq_ediv_of_nonneg (by omega)];exact⟨Int.ediv_nonneg (by omega) (by omega),Int.ediv_le_self _ (by omega)⟩
   have hwm:IntKind.i64.wrap mq=mq:=by rw[IntKind.wrap_i64];omega
   have JZ:=Xn.o;rw[Sj]at JZ;have Y7:decide (a>mq)=true:=decide_eq_true JZ;have aeh:¬q=0:=by omega
   clear Cy JZ zG hmb;go_wp2_with fail;go_ret2;exact⟨by rw[hC.o];rfl,(Below.refl _ _).drew⟩
  case neg=>
   have YO:=H_ (show 0<=a*q from sx hab.1 zO.1);have Xj:0<=a*s/\a*s<=1000000000000*999999:=⟨sx hab.1 Bi.1,Pg hab.1 hab.2 Bi.1 (by omega)⟩;obtain⟨X,hX⟩:∃z:Int,a*q=z:=⟨_,rfl⟩;obtain⟨Y,hY⟩:∃z:Int,2*a*s=z:=⟨_,rfl⟩;have hY2:Y=2*(a*s):=by rw[<-hY,Int.mul_assoc]
   have hcx:0<=X/\X<=1000000000000:=by rw[<-hX];exact⟨YO.o,by omega⟩
   have Sk:0<=Y/\Y<=2000000000000000000:=by omega
   obtain⟨Z,hZ⟩:∃z:Int,(Y+1000000).tdiv 2000000=z:=⟨_,rfl⟩;have hZ2:Z=(Y+1000000) / 2000000:=by rw[<-hZ,Int.tdiv_eq_ediv_of_nonneg (by omega)]
   have TV:0<=Z/\Z<=1000000000001:=by omega
   have HCO:=H_ (show iG n.natAbs r=X+Z by rw[Yr.o,hX,hZ2,hY2]);have Gn:=H_ Cy;have HQ0:=H_ (show 0<q->¬(1000000000000:Int).tdiv q<a from λh0=>by
    rw[Int.tdiv_eq_ediv_of_nonneg (by omega)];exact λh=>Gn.o ((BL h0).1 h))
   have HXX:=H_ hX;have HYY:=H_ hY;have RA:=H_ hZ;have vt:=H_ (And.intro hcx (And.intro Sk TV));clear Cy hX hY hY2 hZ hZ2 Xj hcx Sk TV;have dA:=vt.o;have hX:=HXX.o;have hY:=HYY.o;have hZ:=RA.o;obtain⟨hx,hy,hz⟩:=dA;have hcut:∀(t9:Prop),True:=λ_=>trivial
   have lg:=H_ (λ(z:Int) (w2:World)=>kM z w2);have hMQ:∃mq:Int,(1000000000000:Int).tdiv q=mq/\(0<q->IntKind.i64.wrap mq=mq/\¬mq<a):=⟨_,rfl,λh0=>by
    refine⟨?_,HQ0.o h0⟩;have h1:0<=(1000000000000:Int) / q:=Int.ediv_nonneg (by omega) (by omega);have h2:(1000000000000:Int) / q<=1000000000000:=Int.ediv_le_self _ (by omega);rw[Int.tdiv_eq_ediv_of_nonneg (by omega),IntKind.wrap_i64];omega⟩
   obtain⟨mq,Sj,abC⟩:=hMQ;have Oh:=H_ abC;clear abC hcut;have Vl:True:=trivial;rcases Int.lt_or_le 0 q with zG|zG
   case inl=>
    have aaR:decide (q>0)=true:=decide_eq_true zG;have aeh:¬q=0:=by omega
    obtain⟨hwm,nz⟩:=Oh.o zG;have Y7:decide (a>mq)=false:=decide_eq_false nz;clear zG nz Vl;go_upto_region 6 with fail;obtain⟨o,ho⟩:∃z:Int,X+Z=z:=⟨_,rfl⟩;rw[ho];have HO:=H_ (show iG n.natAbs r=o/\0<=o/\o<=3000000000000 from⟨HCO.o.trans ho,by omega,by omega⟩);have Fl:=H_ (λ(v:Int) (hv:v=if n<0 then -o else o)=>vW (n:=n) (r:=r) hn hr (by rw[HAA.o,Z0.o];exact Gn.o) HO.o.1 HO.o.2.1 hv);clear ho hx hy hz hX hY hZ;by_cases rI:n<0
    case pos=>
     have hnd:decide (n<0)=true:=decide_eq_true rI;have fg:IntKind.i64.wrap (-o)= -o:=by have:=HO.o.2;rw[IntKind.wrap_i64];omega
     have jY:=Fl.o (-o) (by rw[if_pos rI]);have hc:=kM (-o) w.drew;obtain⟨r1,qI⟩:∃z:Int,(if -1000000000000<=(-o)/\(-o)<=1000000000000 then(-o)else 0)=z:=⟨_,rfl⟩;obtain⟨r2,nJ⟩:∃z:Int,(if -1000000000000<=(-o)/\(-o)<=1000000000000 then(0:Int)else 2)=z:=⟨_,rfl⟩;rw[qI,nJ]at hc jY;have FK:=H_ hc;have Fw:=H_ jY;clear rI jY hc qI nJ;go_wp2_with fail;refine FK.o.mono ?_;rintro e w3 ⟨rfl,aZ⟩;go_wp2_with fail;go_ret2;exact⟨by rw[Fw.o];rfl,(Below.refl _ _).drew.trans aZ⟩
    case neg=>
     have hnd:decide (n<0)=false:=decide_eq_false rI;have jY:=Fl.o o (by rw[if_neg rI]);have hc:=kM o w.drew;obtain⟨r1,qI⟩:∃z:Int,(if -1000000000000<=o/\o<=1000000000000 then o else 0)=z:=⟨_,rfl⟩;obtain⟨r2,nJ⟩:∃z:Int,(if -1000000000000<=o/\o<=1000000000000 then(0:Int)else 2)=z:=⟨_,rfl⟩;rw[qI,nJ]at hc jY;have FK:=H_ hc;have Fw:=H_ jY;clear rI jY hc qI nJ;go_wp2_with fail;refine FK.o.mono ?_;rintro e w3 ⟨rfl,aZ⟩;go_wp2_with fail;go_ret2;exact⟨by rw[Fw.o];rfl,(Below.refl _ _).drew.trans aZ⟩
   case inr=>
    have act:q=0:=by omega
    have aaR:decide (q>0)=false:=decide_eq_false (by omega);clear zG Vl;go_upto_region 6 with fail;obtain⟨o,ho⟩:∃z:Int,X+Z=z:=⟨_,rfl⟩;have hxz:X=0:=by rw[<-hX,act];simp
    obtain rfl:o=Z:=by rw[<-ho,hxz];simp
    have HO:=H_ (show iG n.natAbs r=o/\0<=o/\o<=3000000000000 from⟨HCO.o.trans ho,by omega,by omega⟩);have Fl:=H_ (λ(v:Int) (hv:v=if n<0 then -o else o)=>vW (n:=n) (r:=r) hn hr (by rw[HAA.o,Z0.o];exact Gn.o) HO.o.1 HO.o.2.1 hv);clear ho hx hy hz hX hY hZ;by_cases rI:n<0
    case pos=>
     have hnd:decide (n<0)=true:=decide_eq_true rI;have fg:IntKind.i64.wrap (-o)= -o:=by have:=HO.o.2;rw[IntKind.wrap_i64];omega
     have jY:=Fl.o (-o) (by rw[if_pos rI]);have hc:=kM (-o) w.drew;obtain⟨r1,qI⟩:∃z:Int,(if -1000000000000<=(-o)/\(-o)<=1000000000000 then(-o)else 0)=z:=⟨_,rfl⟩;obtain⟨r2,nJ⟩:∃z:Int,(if -1000000000000<=(-o)/\(-o)<=1000000000000 then(0:Int)else 2)=z:=⟨_,rfl⟩;rw[qI,nJ]at hc jY;have FK:=H_ hc;have Fw:=H_ jY;clear rI jY hc qI nJ;go_wp2_with fail;refine FK.o.mono ?_;rintro e w3 ⟨rfl,aZ⟩;go_wp2_with fail;go_ret2;exact⟨by rw[Fw.o];rfl,(Below.refl _ _).drew.trans aZ⟩
    case neg=>
     have hnd:decide (n<0)=false:=decide_eq_false rI;have jY:=Fl.o o (by rw[if_neg rI]);have hc:=kM o w.drew;obtain⟨r1,qI⟩:∃z:Int,(if -1000000000000<=o/\o<=1000000000000 then o else 0)=z:=⟨_,rfl⟩;obtain⟨r2,nJ⟩:∃z:Int,(if -1000000000000<=o/\o<=1000000000000 then(0:Int)else 2)=z:=⟨_,rfl⟩;rw[qI,nJ]at hc jY;have FK:=H_ hc;have Fw:=H_ jY;clear rI jY hc qI nJ;go_wp2_with fail;refine FK.o.mono ?_;rintro e w3 ⟨rfl,aZ⟩;go_wp2_with fail;go_ret2;exact⟨by rw[Fw.o];rfl,(Below.refl _ _).drew.trans aZ⟩
theorem He (n r:Int) (w:World):Calls Tryz.prog 81 #[n,r] w (ap w (.tuple #[.int .i64 (cN n r).1,.int .i64 (cN n r).2])):=by
 obtain⟨c1,fP⟩:∃z,(cN n r).1=z:=⟨_,rfl⟩;obtain⟨c2,gn⟩:∃z,(cN n r).2=z:=⟨_,rfl⟩;have HC:=H_ (And.intro fP gn);rw[fP,gn];have HB:=H_ (show ¬((-1000000000000<=n/\n<=1000000000000)/\1<=r/\r<=1000000000000)->c1=0/\c2=1 from λh=>by
  rw[<-fP,<-gn];unfold cN;rw[if_pos (by omega)];exact⟨rfl,rfl⟩)
 have zU:=H_ (λ(h1: -1000000000000<=n/\n<=1000000000000) (h2:1<=r/\r<=1000000000000) (w2:World)=>show Calls Tryz.prog 114 #[n,r,(1000000:Int)] w2 (ap w2 (.tuple #[c1,c2])) by
  have h:=LQ n r w2 h1 h2
  rwa[fP,gn]at h)
 clear fP gn;obtain⟨b,hb⟩:=x_ (decide (-1000000000000<=n/\n<=1000000000000));have hv:=Ey n w;rw[hb]at hv;have HV:=H_ hv;have vt:=H_ hb;clear hv hb;go_enter Tryz.func81,Tryz.ntmps81;go_wp2_with fail;refine HV.o.mono ?_;rintro e w2 ⟨rfl,aH⟩;cases b with
 |false=>
  obtain⟨rfl,rfl⟩:=HB.o (λh=>of_decide_eq_false vt.o h.1);go_wp2_with fail;go_ret2;exact⟨rfl,aH⟩
 |true=>
 have HN:=H_ (of_decide_eq_true vt.o);by_cases h1:r<1
 case pos=>
  have tR:decide (r<1)=true:=decide_eq_true h1;obtain⟨rfl,rfl⟩:=HB.o (λh=>by omega);clear h1;go_wp2_with fail;go_ret2;exact⟨rfl,aH⟩
 case neg=>
 have tR:decide (r<1)=false:=decide_eq_false h1;by_cases h2:1000000000000<r
 case pos=>
  have tt:decide (r>1000000000000)=true:=decide_eq_true h2;obtain⟨rfl,rfl⟩:=HB.o (λh=>by omega);clear h1 h2;go_wp2_with fail;go_ret2;exact⟨rfl,aH⟩
 case neg=>
 have tt:decide (r>1000000000000)=false:=decide_eq_false h2;have HR:=H_ (show 1<=r/\r<=1000000000000 by omega);clear h1 h2;go_wp2_with fail;refine(zU.o HN.o HR.o w2).mono ?_;rintro e w3 ⟨rfl,aZ⟩;go_wp2_with fail;go_ret2;exact⟨rfl,aH.trans (aZ.mono aH.size)⟩
theorem xU (s:ByteArray) (w:World) (hs:s.size<=140737488355328):Calls Tryz.prog 69 #[s] w (ap w (.bool (cQ s))):=by
 obtain⟨r,hr⟩:=x_ (cQ s);rw[hr];have HR:=H_ hr;clear hr;go_enter Tryz.func69,Tryz.ntmps69;go_wp2_with fail
 go_loopw [3] (λi wr=>∃k:Nat,k<=s.size/\i=.int .i64 (k:Int)/\Below w.heap.size w wr/\∀j,j<k->j7 (bat s j)=true) (λi _=>s.size- (intOf i).toNat)
 case atStart=>exact⟨0,by omega,rfl,Below.refl _ _,λj hj=>by omega⟩
 case round=>
  obtain⟨k,hk,rfl,hb,hall⟩:=hrel;have HA:=H_ hall;clear hall;by_cases aU:k<s.size
  ·have bq:(k:Int)< (s.size:Int):=by omega
   have HB:=H_ (pH aU);by_cases hc:j7 (bat s k)=true
   ·have fP:65<=(s[k].toNat:Int)/\(s[k].toNat:Int)<=90:=by
     have:=hc;rw[HB.o]at this;simp only[j7,decide_eq_true_eq]at this;omega
    have gn:=fP.1;have ot:=fP.2;have HC:=H_ hc;clear hc;go_wp2_with fail;go_roundw
    case rel=>exact⟨k+1,by omega,by go_num,hb,λj hj=>by
     rcases Nat.lt_or_ge j k with h|h
     ·exact HA.o j h
     ·have:j=k:=by omega
      subst this;exact HC.o⟩
    case measure=>
     have e:wrap64 ((k:Int)+1)=((k+1:Nat):Int):=by unfold wrap64;omega
     simp only[intOf,e];omega
   ·have nh:=H_ (show r=false by
     rw[<-HR.o];unfold cQ;rw[bt aU (by simpa using hc)];rfl)
    have fP:¬(65<=(s[k].toNat:Int)/\(s[k].toNat:Int)<=90):=by
     have:=hc;rw[HB.o]at this;simp only[j7,decide_eq_true_eq]at this;omega
    clear hc;by_cases gn:(s[k].toNat:Int)<65
    ·go_wp2_with fail;go_ret;exact⟨by rw[nh.o];first|done|rfl,hb⟩
    ·have ot:90< (s[k].toNat:Int):=by omega
     go_wp2_with fail;go_ret;exact⟨by rw[nh.o];first|done|rfl,hb⟩
  ·have bq:¬(k:Int)< (s.size:Int):=by omega
   have JP:k=s.size:=by omega
   have nh:=H_ (show r=(s.size==3) by
    rw[<-HR.o];unfold cQ;rw[bQ (λj hj=>HA.o j (by omega)),Bool.true_and])
   clear JP;by_cases h3:s.size=3
   ·have zl:((s.size:Int)==3)=true:=by simp;omega
    have HH:=H_ h3;clear h3;go_wp2_with fail;go_ret;exact⟨by rw[nh.o,HH.o];rfl,hb⟩
   ·have zl:((s.size:Int)==3)=false:=by simp;omega
    have HH:=H_ (show(s.size==3)=false by simpa using h3);clear h3;go_wp2_with fail;go_ret;exact⟨by rw[nh.o,HH.o];first|done|rfl,hb⟩
theorem Zp (c:Nat) (w:World):Calls Tryz.prog 154 #[.int .u8 (c:Int)] w (ap w (.bool (!j7 c))):=by
 obtain⟨R,hR⟩:∃b:Bool,(!j7 c)=b:=⟨_,rfl⟩;have HR:=H_ hR;rw[hR];clear hR;go_enter Tryz.func154,Tryz.ntmps154;by_cases h1:(c:Int)<65
 case pos=>
  have hf:=H_ (show R=true by rw[<-HR.o];unfold j7;simp;omega);have tR:decide ((c:Int)<65)=true:=decide_eq_true h1;clear h1;go_wp2_with fail;go_ret;exact⟨by rw[hf.o];rfl,Below.refl _ _⟩
 case neg=>
 have tR:decide ((c:Int)<65)=false:=decide_eq_false h1;by_cases h2:90< (c:Int)
 case pos=>
  have hf:=H_ (show R=true by rw[<-HR.o];unfold j7;simp;omega);have tt:decide ((c:Int)>90)=true:=decide_eq_true h2;clear h1 h2;go_wp2_with fail;go_ret;exact⟨by rw[hf.o];rfl,Below.refl _ _⟩
 case neg=>
  have hf:=H_ (show R=false by rw[<-HR.o];unfold j7;simp;omega);have tt:decide ((c:Int)>90)=false:=decide_eq_false h2;clear h1 h2;go_wp2_with fail;go_ret;exact⟨by rw[hf.o];rfl,Below.refl _ _⟩
def ncI (s:ByteArray):Int:=iB (λk=> !j7 (bat s k)) (List.range s.size)
theorem Zw (s:ByteArray) (g cap:Nat) (w:World) (hc:∀k,k<s.size->w.cell? ⟨g,k,none⟩=some (.int .u8 (bat s k:Int))) (hg:g<w.heap.size) (hs:s.size<=cap) (hcm:cap<=maxLen):Calls Tryz.prog 197 #[.slice (some ⟨g,0,none⟩) s.size cap,.func (.func 154) #[] #[]] w (ap w (.int .i64 (ncI s))):=by
 obtain⟨R,hR⟩:∃z,ncI s=z:=⟨_,rfl⟩;have HR:=H_ hR;have HC:=H_ hc;have HG:=H_ hg;unfold maxLen at hcm;obtain⟨n,hn⟩:=x_ (s.size);have HN:=H_ hn;rw[hR];rw[hn]at hs |-;clear hR hc hg hn;go_enter Tryz.func197,Tryz.ntmps197;go_wp2_with fail
 go_loopw [8] (λi wr=>∃k:Nat,k<=n/\i=.int .i64 (k:Int)/\Below w.heap.size w wr/\∀j,j<k->j7 (bat s j)=true) (λi _=>n- (intOf i).toNat)
 case atStart=>exact⟨0,by omega,rfl,Below.refl _ _,λj h=>by omega⟩
 case round=>
  obtain⟨k,hk,rfl,hb,hall⟩:=hrel;have HA:=H_ hall;clear hall;have bP:=hb.size;by_cases aU:k<n
  case pos=>
   have bq:(k:Int)< (n:Int):=by omega
   have CP:wr.cell? ⟨g,k,none⟩=some (.int .u8 (bat s k:Int)):=(hb.cell (p:=⟨g,k,none⟩) HG.o).trans (HC.o k (by rw[HN.o];exact aU));obtain⟨cb,lS⟩:∃q,bat s k=q:=⟨_,rfl⟩;rw[lS]at CP;have Sh:=H_ lS;clear lS;go_wp2_with fail;refine(Zp cb wr).mono ?_;rintro e w2 ⟨rfl,aH⟩;have dA:=hb.trans (aH.mono hb.size);cases hp:j7 cb with
   |false=>
    have hf:=H_ (show R=(k:Int) by
     rw[<-HR.o];unfold ncI;refine nW (by simp[HN.o,aU]) (by simp[Sh.o,hp]) (λj hj m7=>?_);simp[HA.o j m7])
    clear hp;simp only[Bool.not_false];go_wp2_with fail;go_ret;exact⟨hf.o.symm▸rfl,dA⟩
   |true=>
    have HP:=H_ hp;clear hp;simp only[Bool.not_true];go_wp2_with fail;go_roundw
    case rel=>exact⟨k+1,by omega,by go_num,dA,λj m7=>by
     rcases Nat.lt_or_ge j k with h|h
     ·exact HA.o j h
     ·have:j=k:=by omega
      subst this;rw[Sh.o];exact HP.o⟩
    case measure=>
     have e:wrap64 ((k:Int)+1)=((k+1:Nat):Int):=by unfold wrap64;omega
     simp only[intOf,e];omega
  case neg=>
   have bq:¬(k:Int)< (n:Int):=by omega
   have hf:=H_ (show R= -1 by
    rw[<-HR.o];unfold ncI;refine mf (λj hj=>?_);rw[List.length_range,HN.o]at hj;simp[HA.o j (by omega)])
   go_wp2_with fail;go_ret;exact⟨hf.o.symm▸rfl,hb⟩
end
end Go.Proofs.YtibiddakakgakaaGreat
