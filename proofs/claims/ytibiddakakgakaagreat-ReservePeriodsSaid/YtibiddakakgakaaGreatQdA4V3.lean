/- Check and Valid of the reference of the journal. Written by gen_a4.py. -/
import Derived.Test.YtibiddakakgakaaGreatQdA3A18
set_option linter.unusedVariables false
set_option linter.unusedSimpArgs false
set_option maxRecDepth 4000
attribute [local go_sem ↓] Go.wp_at_zero Go.wp_at_succ
set_option maxHeartbeats 16000000
namespace Go.Proofs.YtibiddakakgakaaGreat
open Go Go.RowKit
theorem BO {w:World} {Q:Nat->Prop} {A:Option Addr} {n c:Nat} {l:List ak} (h:aj ax 7 w Q [.slice A n c] l) (k:Nat) (hk:k<=l.length):aj ax 7 w Q [.slice A k c] (l.take k):=by
 obtain⟨A',c',e,h1,h2,kZ⟩:=h;simp only[List.cons.injEq,and_true,Value.slice.injEq]at e;obtain⟨rfl,rfl,rfl⟩:=e;have hl:(l.take k).length=k:=by rw[List.length_take];omega
 refine⟨A,c,by rw[hl],by omega,h2,λhn=>?_⟩;obtain⟨b,o,rfl,hb,hx⟩:=kZ (by omega);refine⟨b,o,rfl,hb,λi x hi=>?_⟩;have TG:i<k:=by
  have:=(List.getElem?_eq_some_iff.1 hi).1;omega
 rw[List.getElem?_take_of_lt TG]at hi;exact hx i x hi
theorem L2 (g:au) (l:List ak) (gl:List Value) (A:Option Addr) (c:Nat) (w:World) (hg:aL w (·<w.heap.size) gl g) (hl:aj ax 7 w (·<w.heap.size) [.slice A l.length c] l) (ci:dQ g) (VB:xI l):
 Calls Tryz.prog 86 #[.agg gl.toArray,.slice A l.length c] w (DA g l w):=by
 have Nb:=H_ (xY hg ci);have CW:=H_ (show(Tryz.prog.info? 29).map (·.size)=some gl.length by rw[ay,hg.len]);have fu:=H_ (show gl.toArray.size=21 by have:=hg.len;simpa using this);have HG:=H_ hg;have HL:=H_ hl;have HMO:=H_ VB;have sW:=H_ ci;have jw:=hl.cap;unfold maxLen at jw;obtain⟨n,bj⟩:=x_ (l.length);have HN:=H_ bj;rw[bj]at jw |-;have Sb:n<=9223372036854775807:=by omega
 obtain⟨bg,Va⟩:∃b,bh g=b:=⟨_,rfl⟩;have HBG:=H_ Va;rw[Va]at Nb;have Y6:=H_ jw;clear hg hl bj jw VB ci Va;go_enter Tryz.func86,Tryz.ntmps86;go_upto_region 1 with fail;obtain⟨W,cS,H1,bC,dr,ewx⟩:=B_ w (.cells gl.toArray 29);rw[cS];clear ewx;clear cS;have HK:=H_ H1;have gT:=H_ bC;clear H1;go_wp2_with (refine W_ 8 29 2 (w.heap.size) HK.o (by rw[ay];exact congrArg some fu.o.symm) Tryz.underlying29 ?_);refine(Nb.o W bC).mono ?_;rintro e w2 ⟨rfl,aH⟩;have aF:=gT.o.trans (aH.mono gT.o.size);have adT:=H_ aF;have dW:=aH.size;have dz:=H_ aH;clear aH;cases bg with
 |false=>
  go_wp2_with fail;go_ret2;exact⟨0,1,rfl,⟨o_,λh=>by have:=h.1;rw[HBG.o]at this;cases this⟩,aF⟩
 |true=>
 clear aF;go_wp2_with fail
 go_loopw [6] (λi wr=>∃k:Nat,k<=n/\i=.int .i64 (k:Int)/\Below W.heap.size W wr/\okJ g (l.take k)) (λi _=>n- (intOf i).toNat)
 case atStart=>exact⟨0,by omega,rfl,dz.o,Jn g⟩
 case round=>
  obtain⟨k,hk,rfl,tQ,mG⟩:=hrel;generalize wr=w3 at*;have hb:=gT.o.trans (tQ.mono gT.o.size);have zI:=H_ hb;by_cases aU:k<n
  case pos=>
   have bq:(k:Int)< (n:Int):=by omega
   have bI:k<l.length:=by rw[HN.o];exact aU
   obtain⟨b,o,cs,dj,ed,bL,aS⟩:=aj.get HL.o k bI;subst dj;obtain⟨Al,cl,ft,oY,lP⟩:=ax.lit bL;have hfx:=HMO.o.1 _ (List.getElem_mem bI);have RQ:=H_ mG;have py:=H_ (Jm (g:=g) bI);have Dr:=H_ (EB bI mG);obtain⟨x,hx⟩:=x_ (l[k]);rw[hx]at ft oY lP hfx bL py Dr;subst ft;obtain⟨ES,hES⟩:=x_ (l.take k);have tM:=H_ (show ES.length=k by rw[<-hES,List.length_take,HN.o];omega);have RU:=H_ (show aj ax 7 w (·<w.heap.size) [.slice (some ⟨b,o,none⟩) k c] ES by rw[<-hES];exact BO HL.o k (by omega));rw[hES]at py Dr RQ;obtain⟨R,hR⟩:=x_ (eF g ES x);rw[hR]at py Dr;have HRP:=H_ (λ(w2:World) (hS:Below w3.heap.size w3 w2)=>show Calls Tryz.prog 23 #[.agg gl.toArray,.slice (some ⟨b,o,none⟩) k c,.agg #[x.id,x.entity,x.date,x.kind,x.of_,x.text,.slice Al x.lines.length cl]] w2 (ap w2 (.int .i64 R)) by
    have kT:=zI.o.trans (hS.mono zI.o.size);have h:=Tr g ES x gl _ (some ⟨b,o,none⟩) c w2 (HG.o.keep kT) sW.o (by rw[tM.o];exact j8 RU.o kT) (bL.keep kT) (by omega) RQ.o;rw[tM.o,hR]at h;exact h)
   have dt:=aS.fr (Fr.ofBelow hb);obtain⟨xi,xe,xd,xk,xo,xt,ls⟩:=x;simp only at dt HRP;obtain⟨nl,bj⟩:∃n,ls.length=n:=⟨_,rfl⟩;rw[bj]at dt HRP;have HKR:=k_ tQ HK;have rM:=H_ (dt.mono (Q':=(·<w3.heap.size)) (λq hq=>Nat.lt_of_lt_of_le hq hb.size));have tw:=H_ (dO (cs:=gl) HKR.o);have go:=H_ tQ;have HKC:=H_ (show k<=c/\c<=9223372036854775807 from by have:=Y6.o;omega);have TN:0<n:=by omega
   clear aS dt bL lP oY hfx bj hb hES hx mG hR tQ;go_upto_region 6 with fail;refine bk (Ks w3 [.val (.agg gl.toArray),.val (.slice (some ⟨b,o,none⟩) n c),(k:Int),.val (.slice (some ⟨b,o,none⟩) k c),.val (.slice (some ⟨b,o,none⟩) n c),(k:Int),.val (.pointer (some ⟨b,o+k*7,none⟩)),.val (.agg #[xi,xe,xd,xk,xo,xt,.slice Al nl cl]),R,R])
    (λw'=>Below w3.heap.size w3 w') K_ K_ K_ (Below.refl _ _).drew ?_ ?_
   ·refine⟨?_,b_ (q_ 1),b_ (q_ 6),?_,b_ (q_ 1),b_ (q_ 6),c_ (p_ 4 21) (p_ 5 22),?_,?_,b_ (p_ 8 25),trivial⟩
    ·refine O1_ (q_ 2) λA0 w2 K e0 hS hK=>?_;have aJ:w2.rangeAt w.heap.size 0 gl:=(tw.o.fr (Fr.ofBelow hS)).range;have aI:=CW.o;refine wp_load_mid 29 (.tmp 2) rfl _ _ (v_ e0) _ _ aJ Tryz.underlying29 rfl aI ?_;exact kq hK hS rfl
    ·intro _ A0 w2 hI hd hnd K hK;have e0:=hI.p hd 1 18;have e1:=hI.p hd 2 19;have hS:=hI.world;have hkc:=HKC.o.1;have afa:=HKC.o.2;exact hI.z hK
    ·refine O1_ (p_ 6 23) λA0 w2 K e0 hS hK=>?_;have aJ:w2.rangeAt b (o+k*7) [xi,xe,xd,xk,xo,xt,.slice Al nl cl]:=(rM.o.fr (Fr.ofBelow hS)).range;have aI:=aY;refine wp_load_mid 51 (.tmp 23) rfl _ _ (v_ e0) _ _ aJ Tryz.underlying51 rfl aI ?_;exact kq hK hS rfl
    ·refine O3_ (p_ 0 17) (p_ 3 20) (p_ 7 24) λA0 w2 K e0 e1 e2 hS hK=>?_;go_simp
     go_at_call 23
     refine(HRP.o w2 hS).mono ?_;rintro e w3 ⟨rfl,h3⟩;exact hK.out _ _ (hS.trans (h3.mono hS.size)) (Ks.of rfl rfl) (Ks.keep h3)
   ·intro _ A0 w2 hI hall;have hS:=hI.world;have c9:=hI.ch hall [17,18,19,20,21,22,23,24,25,7];obtain⟨x0,x1,x2,x3,x4,x5,x6,x7,x8,x9,hA,hV⟩:=c9;obtain rfl:x9=.int .i64 R:=hV 9 _ _ rfl _ rfl;clear hV hI hall;simp only[ba,List.foldl,List.setIfInBounds_toArray,List.set_cons_zero,List.set_cons_succ]at hA;rw[hA];clear hA;have kY:=t_ go hS;by_cases pD:R=0
    case neg=>
     have hRb:(R !=0)=true:=by simpa using pD
     have HNV:=H_ (py.o pD);have C9:=H_ pD;clear pD;go_wp2_with fail;go_ret2;exact⟨(k:Int),R,rfl,⟨λh=>absurd h C9.o,λh=>absurd h HNV.o⟩,gT.o.trans (kY.o.mono gT.o.size)⟩
    case pos=>
     have hRb:(R !=0)=false:=by simpa using pD
     have oZ:=H_ (Dr.o pD);clear pD;go_wp2_with fail;go_roundw
     case rel=>exact⟨k+1,by omega,by go_num,kY.o,oZ.o⟩
     case measure=>first|exact aQ aU|(simp only[intOf];omega)
  case neg=>
   have bq:¬(k:Int)< (n:Int):=by omega
   have hta:l.take k=l:=List.take_of_length_le (by rw[HN.o];omega);have HV:=H_ (show kQ g l from⟨HBG.o,by rw[hta]at mG;exact mG⟩);clear hta tQ hb;go_wp2_with fail;go_ret2;exact⟨0,0,rfl,⟨λ_=>HV.o,λ_=>rfl⟩,zI.o⟩
def DB (g:au) (l:List ak) (w:World) (e:Ending) (w':World):Prop:=∃b:Bool,e=.returned (.bool b)/\(b=true↔kQ g l)/\Below w.heap.size w w'
theorem L3 (g:au) (l:List ak) (gl:List Value) (A:Option Addr) (c:Nat) (w:World) (hg:aL w (·<w.heap.size) gl g) (hl:aj ax 7 w (·<w.heap.size) [.slice A l.length c] l) (ci:dQ g) (VB:xI l):
 Calls Tryz.prog 50 #[.agg gl.toArray,.slice A l.length c] w (DB g l w):=by
 have lg:=H_ (λ(w2:World) (hb:Below w.heap.size w w2)=>L2 g l gl A c w2 (hg.keep hb) (j8 hl hb) ci VB);have fu:=H_ (show gl.toArray.size=21 by have:=hg.len;simpa using this);obtain⟨n,bj⟩:=x_ (l.length);rw[bj]at lg |-;clear hg hl ci VB bj;go_enter Tryz.func50,Tryz.ntmps50;go_upto_region 1 with fail;obtain⟨W,cS,H1,bC,dr,ewx⟩:=B_ w (.cells gl.toArray 29);rw[cS];clear ewx;clear cS;have HK:=H_ H1;have gT:=H_ bC;clear H1;go_wp2_with (refine W_ 8 29 2 (w.heap.size) HK.o (by rw[ay];exact congrArg some fu.o.symm) Tryz.underlying29 ?_);refine(lg.o W bC).mono ?_;rintro e w2 ⟨i,r,rfl,hr,aH⟩;have aF:=gT.o.trans (aH.mono gT.o.size);have HR:=H_ hr;clear hr;go_wp2_with fail;go_ret;refine⟨_,rfl,?_,aF⟩;rw[<-HR.o];simp
theorem xU (s:ByteArray) (w:World) (hs:s.size<=140737488355328):Calls Tryz.prog 69 #[s] w (ap w (.bool (cQ s))):=by
 obtain⟨r,hr⟩:=x_ (cQ s);rw[hr];have HR:=H_ hr;clear hr;go_enter Tryz.func69,Tryz.ntmps69;go_wp2_with fail
 go_loopw [3] (λi wr=>∃k:Nat,k<=s.size/\i=.int .i64 (k:Int)/\Below w.heap.size w wr/\∀j,j<k->akd (bat s j)=true) (λi _=>s.size- (intOf i).toNat)
 case atStart=>exact⟨0,by omega,rfl,Below.refl _ _,λj hj=>by omega⟩
 case round=>
  obtain⟨k,hk,rfl,hb,hall⟩:=hrel;have HA:=H_ hall;clear hall;by_cases aU:k<s.size
  ·have bq:(k:Int)< (s.size:Int):=by omega
   have HB:=H_ (pH aU);by_cases hc:akd (bat s k)=true
   ·have fP:65<=(s[k].toNat:Int)/\(s[k].toNat:Int)<=90:=by
     have:=hc;rw[HB.o]at this;simp only[akd,decide_eq_true_eq]at this;omega
    have gn:=fP.1;have ot:=fP.2;have HC:=H_ hc;clear hc;go_wp2_with fail;go_roundw
    case rel=>exact⟨k+1,by omega,by go_num,hb,λj hj=>by
     rcases Nat.lt_or_ge j k with h|h
     ·exact HA.o j h
     ·have:j=k:=by omega
      subst this;exact HC.o⟩
    case measure=>
     have e:wrap64 ((k:Int)+1)=((k+1:Nat):Int):=by unfold wrap64;omega
     simp only[intOf,e];omega
   ·have nh:=H_ (show r=false by
     rw[<-HR.o];unfold cQ;rw[bt aU (by simpa using hc)];rfl)
    have fP:¬(65<=(s[k].toNat:Int)/\(s[k].toNat:Int)<=90):=by
     have:=hc;rw[HB.o]at this;simp only[akd,decide_eq_true_eq]at this;omega
    clear hc;by_cases gn:(s[k].toNat:Int)<65
    ·go_wp2_with fail;go_ret;exact⟨by rw[nh.o];first|done|rfl,hb⟩
    ·have ot:90< (s[k].toNat:Int):=by omega
     go_wp2_with fail;go_ret;exact⟨by rw[nh.o];first|done|rfl,hb⟩
  ·have bq:¬(k:Int)< (s.size:Int):=by omega
   have JP:k=s.size:=by omega
   have nh:=H_ (show r=(s.size==3) by
    rw[<-HR.o];unfold cQ;rw[bQ (λj hj=>HA.o j (by omega)),Bool.true_and])
   clear JP;by_cases h3:s.size=3
   ·have zl:((s.size:Int)==3)=true:=by simp;omega
    have HH:=H_ h3;clear h3;go_wp2_with fail;go_ret;exact⟨by rw[nh.o,HH.o];rfl,hb⟩
   ·have zl:((s.size:Int)==3)=false:=by simp;omega
    have HH:=H_ (show(s.size==3)=false by simpa using h3);clear h3;go_wp2_with fail;go_ret;exact⟨by rw[nh.o,HH.o];first|done|rfl,hb⟩
end Go.Proofs.YtibiddakakgakaaGreat
