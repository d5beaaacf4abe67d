/- Amounts of money: the reference. Written by gen_v2.py. -/
import Derived.Test.YtibiddakakgakaaGreatJJ12W2
set_option linter.unusedVariables false
set_option linter.unusedSimpArgs false
set_option maxRecDepth 4000
attribute [local go_sem ↓] Go.wp_at_zero Go.wp_at_succ
set_option maxHeartbeats 16000000
namespace Go.Proofs.YtibiddakakgakaaGreat
open Go Go.RowKit
theorem oH (n:Int) (w:World):Calls Tryz.prog 161 #[n] w (ap w (.bool (decide (-1000000000000<=n/\n<=1000000000000)))):=by
 obtain⟨R,hR⟩:∃b:Bool,decide (-1000000000000<=n/\n<=1000000000000)=b:=⟨_,rfl⟩;have HR:=H_ hR;rw[hR];clear hR;go_enter Tryz.func161,Tryz.ntmps161;by_cases h1: -1000000000000<=n
 case neg=>
  have hf:=H_ (show R=false by rw[<-HR.o];exact decide_eq_false (λh=>h1 h.1));have tR:decide (n≥ -1000000000000)=false:=decide_eq_false h1;have h1e:decide (-1000000000000<=n)=false:=decide_eq_false h1;clear h1;go_wp2_with fail;go_ret;exact⟨by rw[hf.o];rfl,Below.refl _ _⟩
 case pos=>
 have tR:decide (n≥ -1000000000000)=true:=decide_eq_true h1;have h1e:decide (-1000000000000<=n)=true:=decide_eq_true h1;by_cases h2:n<=1000000000000
 case pos=>
  have hf:=H_ (show R=true by rw[<-HR.o];exact decide_eq_true ⟨h1,h2⟩);have tt:decide (n<=1000000000000)=true:=decide_eq_true h2;clear h1 h2;go_wp2_with fail;go_ret;exact⟨by rw[hf.o];rfl,Below.refl _ _⟩
 case neg=>
  have hf:=H_ (show R=false by rw[<-HR.o];exact decide_eq_false (λh=>h2 h.2));have tt:decide (n<=1000000000000)=false:=decide_eq_false h2;clear h1 h2;go_wp2_with fail;go_ret;exact⟨by rw[hf.o];rfl,Below.refl _ _⟩
theorem EM (n:Int) (w:World):Calls Tryz.prog 162 #[n] w (ap w (.tuple #[.int .i64 (if -1000000000000<=n/\n<=1000000000000 then n else 0),.int .i64 (if -1000000000000<=n/\n<=1000000000000 then 0 else 2)])):=by
 have HV:=H_ (oH n w);go_enter Tryz.func162,Tryz.ntmps162;by_cases h: -1000000000000<=n/\n<=1000000000000
 case pos=>
  rw[if_pos h,if_pos h];have hd:decide (-1000000000000<=n/\n<=1000000000000)=true:=decide_eq_true h;rw[hd]at HV;clear hd h;go_wp2_with fail;refine HV.o.mono ?_;rintro e w2 ⟨rfl,hb⟩;go_wp2_with fail;go_ret2;exact⟨rfl,hb⟩
 case neg=>
  rw[if_neg h,if_neg h];have hd:decide (-1000000000000<=n/\n<=1000000000000)=false:=decide_eq_false h;rw[hd]at HV;clear hd h;go_wp2_with fail;refine HV.o.mono ?_;rintro e w2 ⟨rfl,hb⟩;go_wp2_with fail;go_ret2;exact⟨rfl,hb⟩
theorem P1 (x:Int) (w:World) (hx:0<=x/\x<=1000000000000000000):Calls Tryz.prog 163 #[x,(1000000:Int)] w (ap w (.int .i64 ((2*x+1000000) / 2000000))):=by
 obtain⟨q,hq⟩:∃a:Int,x/ 1000000=a:=⟨_,rfl⟩;obtain⟨s,hs⟩:∃a:Int,x%1000000=a:=⟨_,rfl⟩;obtain⟨d,hd⟩:∃a:Int,1000000- s=a:=⟨_,rfl⟩;obtain⟨R,hR⟩:∃a:Int,(2*x+1000000) / 2000000=a:=⟨_,rfl⟩;have Bi:0<=s/\s<1000000:=by omega
 have zO:0<=q/\q<=1000000000000:=by omega
 have HQ:=H_ (show x.tdiv 1000000=q by rw[Int.tdiv_eq_ediv_of_nonneg (by omega)];exact hq);have HS:=H_ (show x.tmod 1000000=s by rw[Int.tmod_eq_emod_of_nonneg (by omega)];exact hs);have HWQ:=H_ (show IntKind.i64.wrap q=q by rw[IntKind.wrap_i64];omega);have TH:=H_ (show IntKind.i64.wrap s=s by rw[IntKind.wrap_i64];omega);have HD:=H_ hd;have HWD:=H_ (show IntKind.i64.wrap d=d by rw[IntKind.wrap_i64];omega);have aaW:=H_ (show IntKind.i64.wrap (1000000- s)=d by rw[IntKind.wrap_i64];omega);have HRH:=H_ (show R=if d<=s then q+1 else q by
  have h:=Hz (x:=x) (d:=1000000) (by omega);rw[<-hR,<-hd,<-hs,<-hq];exact h)
 have N2:=H_ (And.intro Bi zO);rw[hR];clear hq hs hd hR;go_enter Tryz.func163,Tryz.ntmps163;have hxn:decide (x<0)=false:=decide_eq_false (by omega);have Ct:=HQ.o;have hwq:=HWQ.o;have hsq:=Bi;clear zO Bi;by_cases hc:d<=s
 case pos=>
  have Gm:=H_ (show decide (s≥d)=true from decide_eq_true hc);have Kq:=H_ (show R=q+1 by rw[HRH.o,if_pos hc]);have mF:0<=q/\q<=1000000000000:=N2.o.2;clear hc;go_upto_region 4 with fail;refine bp (Ks w [x,(1000000:Int),s,(1000000:Int),x,(1000000:Int),s,d,true])
   (λw'=>w'=w.drew) K_ K_ K_ rfl ?_ ?_
  ·refine⟨b_ (q_ 0),b_ (q_ 1),?_,b_ (q_ 1),b_ (q_ 0),b_ (q_ 1),?_,?_,?_,trivial⟩
   ·intro _ A0 w2 hI hd hnd K hK;have e0:=hI.p hd 0 16;have e1:=hI.p hd 1 17;have hS:=H_ (show w2=w.drew from hI.world);have hs:=HS.o;have hws:=TH.o;exact hI.z hK
   ·intro _ A0 w2 hI hd hnd K hK;have e0:=hI.p hd 4 20;have e1:=hI.p hd 5 21;have hS:=H_ (show w2=w.drew from hI.world);have hs:=HS.o;have hws:=TH.o;exact hI.z hK
   ·intro _ A0 w2 hI hd hnd K hK;have e0:=hI.p hd 3 19;have e1:=hI.p hd 6 22;have hS:=H_ (show w2=w.drew from hI.world);have hd:=HD.o;have hwd:=HWD.o;have ac0:=aaW.o;exact hI.z hK
   ·intro _ A0 w2 hI hd hnd K hK;have e0:=hI.p hd 2 18;have e1:=hI.p hd 7 23;have hS:=H_ (show w2=w.drew from hI.world);have hcd:=Gm.o;exact hI.z hK
  ·intro _ A0 w2 hI hall;obtain⟨x0,g0,h0⟩:=hI.got 0 _ 16 rfl rfl (hall 0 (by decide));obtain⟨x1,g1,h1⟩:=hI.got 1 _ 17 rfl rfl (hall 1 (by decide));obtain⟨x2,g2,h2⟩:=hI.got 2 _ 18 rfl rfl (hall 2 (by decide));obtain⟨x3,g3,h3⟩:=hI.got 3 _ 19 rfl rfl (hall 3 (by decide));obtain⟨x4,g4,h4⟩:=hI.got 4 _ 20 rfl rfl (hall 4 (by decide));obtain⟨x5,g5,h5⟩:=hI.got 5 _ 21 rfl rfl (hall 5 (by decide));obtain⟨x6,g6,h6⟩:=hI.got 6 _ 22 rfl rfl (hall 6 (by decide));obtain⟨x7,g7,h7⟩:=hI.got 7 _ 23 rfl rfl (hall 7 (by decide));obtain⟨x8,g8,h8⟩:=hI.got 8 _ 24 rfl rfl (hall 8 (by decide));obtain rfl:w2=w.drew:=hI.world;have hA:A0=_:=hI.tmps [(16,x0),(17,x1),(18,x2),(19,x3),(20,x4),(21,x5),(22,x6),(23,x7),(24,x8)] (by simp only[List.mem_cons,List.not_mem_nil,or_false,forall_eq_or_imp,forall_eq];exact⟨g0,g1,g2,g3,g4,g5,g6,g7,g8⟩) K_;obtain rfl:x0=.int .i64 x:=h0 _ rfl;obtain rfl:x1=.int .i64 1000000:=h1 _ rfl;obtain rfl:x2=.int .i64 s:=h2 _ rfl;obtain rfl:x3=.int .i64 1000000:=h3 _ rfl;obtain rfl:x4=.int .i64 x:=h4 _ rfl;obtain rfl:x5=.int .i64 1000000:=h5 _ rfl;obtain rfl:x6=.int .i64 s:=h6 _ rfl;obtain rfl:x7=.int .i64 d:=h7 _ rfl;obtain rfl:x8=.bool true:=h8 _ rfl;clear h0 g0 h1 g1 h2 g2 h3 g3 h4 g4 h5 g5 h6 g6 h7 g7 h8 g8 hI hall;simp only[ba,List.foldl,List.setIfInBounds_toArray,List.set_cons_zero,List.set_cons_succ]at hA;rw[hA];clear hA;clear hsq;go_wp2_with fail;go_ret;exact⟨by rw[Kq.o];rfl,(Below.refl _ _).drew⟩
 case neg=>
  have Gm:=H_ (show decide (s≥d)=false from decide_eq_false hc);have Kq:=H_ (show R=q by rw[HRH.o,if_neg hc]);clear hc;go_upto_region 4 with fail;refine bp (Ks w [x,(1000000:Int),s,(1000000:Int),x,(1000000:Int),s,d,false])
   (λw'=>w'=w.drew) K_ K_ K_ rfl ?_ ?_
  ·refine⟨b_ (q_ 0),b_ (q_ 1),?_,b_ (q_ 1),b_ (q_ 0),b_ (q_ 1),?_,?_,?_,trivial⟩
   ·intro _ A0 w2 hI hd hnd K hK;have e0:=hI.p hd 0 16;have e1:=hI.p hd 1 17;have hS:=H_ (show w2=w.drew from hI.world);have hs:=HS.o;have hws:=TH.o;exact hI.z hK
   ·intro _ A0 w2 hI hd hnd K hK;have e0:=hI.p hd 4 20;have e1:=hI.p hd 5 21;have hS:=H_ (show w2=w.drew from hI.world);have hs:=HS.o;have hws:=TH.o;exact hI.z hK
   ·intro _ A0 w2 hI hd hnd K hK;have e0:=hI.p hd 3 19;have e1:=hI.p hd 6 22;have hS:=H_ (show w2=w.drew from hI.world);have hd:=HD.o;have hwd:=HWD.o;have ac0:=aaW.o;exact hI.z hK
   ·intro _ A0 w2 hI hd hnd K hK;have e0:=hI.p hd 2 18;have e1:=hI.p hd 7 23;have hS:=H_ (show w2=w.drew from hI.world);have hcd:=Gm.o;exact hI.z hK
  ·intro _ A0 w2 hI hall;obtain⟨x0,g0,h0⟩:=hI.got 0 _ 16 rfl rfl (hall 0 (by decide));obtain⟨x1,g1,h1⟩:=hI.got 1 _ 17 rfl rfl (hall 1 (by decide));obtain⟨x2,g2,h2⟩:=hI.got 2 _ 18 rfl rfl (hall 2 (by decide));obtain⟨x3,g3,h3⟩:=hI.got 3 _ 19 rfl rfl (hall 3 (by decide));obtain⟨x4,g4,h4⟩:=hI.got 4 _ 20 rfl rfl (hall 4 (by decide));obtain⟨x5,g5,h5⟩:=hI.got 5 _ 21 rfl rfl (hall 5 (by decide));obtain⟨x6,g6,h6⟩:=hI.got 6 _ 22 rfl rfl (hall 6 (by decide));obtain⟨x7,g7,h7⟩:=hI.got 7 _ 23 rfl rfl (hall 7 (by decide));obtain⟨x8,g8,h8⟩:=hI.got 8 _ 24 rfl rfl (hall 8 (by decide));obtain rfl:w2=w.drew:=hI.world;have hA:A0=_:=hI.tmps [(16,x0),(17,x1),(18,x2),(19,x3),(20,x4),(21,x5),(22,x6),(23,x7),(24,x8)] (by simp only[List.mem_cons,List.not_mem_nil,or_false,forall_eq_or_imp,forall_eq];exact⟨g0,g1,g2,g3,g4,g5,g6,g7,g8⟩) K_;obtain rfl:x0=.int .i64 x:=h0 _ rfl;obtain rfl:x1=.int .i64 1000000:=h1 _ rfl;obtain rfl:x2=.int .i64 s:=h2 _ rfl;obtain rfl:x3=.int .i64 1000000:=h3 _ rfl;obtain rfl:x4=.int .i64 x:=h4 _ rfl;obtain rfl:x5=.int .i64 1000000:=h5 _ rfl;obtain rfl:x6=.int .i64 s:=h6 _ rfl;obtain rfl:x7=.int .i64 d:=h7 _ rfl;obtain rfl:x8=.bool false:=h8 _ rfl;clear h0 g0 h1 g1 h2 g2 h3 g3 h4 g4 h5 g5 h6 g6 h7 g7 h8 g8 hI hall;simp only[ba,List.foldl,List.setIfInBounds_toArray,List.set_cons_zero,List.set_cons_succ]at hA;rw[hA];clear hA;clear hsq;go_wp2_with fail;go_ret;exact⟨by rw[Kq.o];rfl,(Below.refl _ _).drew⟩
theorem yn (n r:Int) (w:World) (hn:0<=n/\n<=1000000000000) (hr:1<=r/\r<=1000000000000):Calls Tryz.prog 118 #[n,r,(1000000:Int)] w (ap w (.tuple #[.int .i64 (cN n r).1,.int .i64 (cN n r).2])):=by
 obtain⟨c1,fP⟩:∃z,(cN n r).1=z:=⟨_,rfl⟩;obtain⟨c2,gn⟩:∃z,(cN n r).2=z:=⟨_,rfl⟩;have HC:=H_ (show cN n r=(c1,c2)from Prod.ext fP gn);rw[fP,gn];clear fP gn;have hv:=oH n w;rw[decide_eq_true (show -1000000000000<=n/\n<=1000000000000 by omega)]at hv;have HV:=H_ hv;clear hv;have hae:(n.natAbs:Int)=n:=by omega
 obtain⟨q,hq⟩:∃a:Int,r/ 1000000=a:=⟨_,rfl⟩;obtain⟨s,hs⟩:∃a:Int,r%1000000=a:=⟨_,rfl⟩;have zO:0<=q/\q<=1000000:=by omega
 have Bi:0<=s/\s<1000000:=by omega
 have HQ:=H_ (show r.tdiv 1000000=q by rw[Int.tdiv_eq_ediv_of_nonneg (by omega)];exact hq);have HS:=H_ (show r.tmod 1000000=s by rw[Int.tmod_eq_emod_of_nonneg (by omega)];exact hs);have HWQ:=H_ (show IntKind.i64.wrap q=q by rw[IntKind.wrap_i64];omega);have TH:=H_ (show IntKind.i64.wrap s=s by rw[IntKind.wrap_i64];omega);have Yr:=H_ (show iG n.natAbs r=n*q+(2*(n*s)+1000000) / 2000000 by unfold iG;rw[hae,hq,hs]);have HAA:=H_ hae;have Z0:=H_ hq;clear hq hs hae;go_enter Tryz.func118,Tryz.ntmps118;have hr0:decide (r<0)=false:=decide_eq_false (by omega);have qI:decide (r>1000000000000)=false:=decide_eq_false (by omega);go_wp2_with fail;refine HV.o.mono ?_;rintro e w5 ⟨rfl,aH⟩;have hnd:decide (n<0)=false:=decide_eq_false (by omega);go_upto_region 6 with fail;refine bp (Ks w5 [r,(1000000:Int),q,r,(1000000:Int),s,q,s])
  (λw'=>w'=w5.drew) K_ K_ K_ rfl ?_ ?_
 ·refine⟨b_ (q_ 1),b_ (q_ 2),?_,b_ (q_ 1),b_ (q_ 2),?_,b_ (p_ 2 46),b_ (p_ 5 49),trivial⟩
  ·intro _ A0 w2 hI hd hnd K hK;have e0:=hI.p hd 0 44;have e1:=hI.p hd 1 45;have hS:=H_ (show w2=w5.drew from hI.world);have hq:=HQ.o;have hwq:=HWQ.o;exact hI.z hK
  ·intro _ A0 w2 hI hd hnd K hK;have e0:=hI.p hd 3 47;have e1:=hI.p hd 4 48;have hS:=H_ (show w2=w5.drew from hI.world);have hs:=HS.o;have hws:=TH.o;exact hI.z hK
 ·intro _ A0 w2 hI hall;obtain⟨x0,g0,h0⟩:=hI.got 0 _ 44 rfl rfl (hall 0 (by decide));obtain⟨x1,g1,h1⟩:=hI.got 1 _ 45 rfl rfl (hall 1 (by decide));obtain⟨x2,g2,h2⟩:=hI.got 2 _ 46 rfl rfl (hall 2 (by decide));obtain⟨x3,g3,h3⟩:=hI.got 3 _ 47 rfl rfl (hall 3 (by decide));obtain⟨x4,g4,h4⟩:=hI.got 4 _ 48 rfl rfl (hall 4 (by decide));obtain⟨x5,g5,h5⟩:=hI.got 5 _ 49 rfl rfl (hall 5 (by decide));obtain⟨x6,g6,h6⟩:=hI.got 6 _ 10 rfl rfl (hall 6 (by decide));obtain⟨x7,g7,h7⟩:=hI.got 7 _ 11 rfl rfl (hall 7 (by decide));obtain rfl:w2=w5.drew:=hI.world;have hA:A0=_:=hI.tmps [(44,x0),(45,x1),(46,x2),(47,x3),(48,x4),(49,x5),(10,x6),(11,x7)] (by simp only[List.mem_cons,List.not_mem_nil,or_false,forall_eq_or_imp,forall_eq];exact⟨g0,g1,g2,g3,g4,g5,g6,g7⟩) K_;obtain rfl:x0=.int .i64 r:=h0 _ rfl;obtain rfl:x1=.int .i64 1000000:=h1 _ rfl;obtain rfl:x2=.int .i64 q:=h2 _ rfl;obtain rfl:x3=.int .i64 r:=h3 _ rfl;obtain rfl:x4=.int .i64 1000000:=h4 _ rfl;obtain rfl:x5=.int .i64 s:=h5 _ rfl;obtain rfl:x6=.int .i64 q:=h6 _ rfl;obtain rfl:x7=.int .i64 s:=h7 _ rfl;clear h0 g0 h1 g1 h2 g2 h3 g3 h4 g4 h5 g5 h6 g6 h7 g7 hI hall;simp only[ba,List.foldl,List.setIfInBounds_toArray,List.set_cons_zero,List.set_cons_succ]at hA;rw[hA];clear hA;have F5:=(aH:Below w.heap.size w w5).drew;by_cases Cy:1000000000000<n*q
  case pos=>
   have VI:0<n:=by
    rcases Int.lt_or_le 0 n with h|h
    ·exact h
    ·have:n=0:=by omega
     rw[this]at Cy;simp at Cy
   have hE:cN n r=(0,2):=by unfold cN;rw[if_neg (by omega),HAA.o,Z0.o,if_pos Cy]
   obtain⟨rfl,rfl⟩:c1=0/\c2=2:=by have h:=HC.o;rw[hE]at h;simp at h;exact⟨h.1.symm,h.2.symm⟩
   have aaX:decide (n>0)=true:=decide_eq_true VI;have adI:¬n=0:=by omega
   obtain⟨mq,Sj⟩:∃z:Int,(1000000000000:Int).tdiv n=z:=⟨_,rfl⟩;have hwm:IntKind.i64.wrap mq=mq:=by
    have h1:0<=(1000000000000:Int) / n:=Int.ediv_nonneg (by omega) (by omega);have h2:(1000000000000:Int) / n<=1000000000000:=Int.ediv_le_self _ (by omega);rw[<-Sj,Int.tdiv_eq_ediv_of_nonneg (by omega),IntKind.wrap_i64];omega
   have Y7:decide (q>mq)=true:=decide_eq_true (by
    rw[<-Sj,Int.tdiv_eq_ediv_of_nonneg (by omega)];exact(BL VI).2 (by rw[Int.mul_comm];exact Cy))
   clear Cy VI hE;go_wp2_with fail;go_ret2;exact⟨rfl,F5⟩
  case neg=>
   have Gn:=H_ Cy;have zR:0<=n:=hn.1;have hx:0<=n*q:=sx zR zO.1;have hy:0<=n*s/\n*s<=1000000000000*1000000:=⟨sx zR Bi.1,Pg zR hn.2 Bi.1 (by omega)⟩;obtain⟨X,hX⟩:∃z:Int,n*q=z:=⟨_,rfl⟩;obtain⟨Y,hY⟩:∃z:Int,n*s=z:=⟨_,rfl⟩;obtain⟨Z,hZ⟩:∃z:Int,(2*Y+1000000) / 2000000=z:=⟨_,rfl⟩;rw[hX]at hx Cy;rw[hY]at hy;have hz:0<=Z/\Z<=1000000000001:=by omega
   have HCO:=H_ (show iG n.natAbs r=X+Z by rw[Yr.o,hX,hY,hZ]);obtain⟨o,ho⟩:∃z:Int,X+Z=z:=⟨_,rfl⟩;have jY:=vW (n:=n) (r:=r) (by omega) hr (by rw[HAA.o,Z0.o];exact Gn.o) HCO.o (by omega) (show X+Z=if n<0 then -(X+Z)else X+Z by rw[if_neg (by omega)]);rw[ho,HC.o]at jY;simp only[Prod.mk.injEq]at jY;have MA:=λw3=>EM o w3
   rw[<-jY.1,<-jY.2]at MA;have lg:=H_ MA;have hrr:=P1 Y w5.drew (by omega);rw[hZ]at hrr;have sU:=H_ hrr;have HXX:=H_ hX;have HYY:=H_ hY;have vt:=H_ (show(0<=X/\X<=1000000000000)/\(0<=Y/\Y<=1000000000000000000)/\0<=Z/\Z<=1000000000001 from⟨by omega,by omega,hz⟩);have HNM:=H_ (show 0<n->¬(1000000000000:Int).tdiv n<q from λh0=>by
    rw[Int.tdiv_eq_ediv_of_nonneg (by omega)];exact λh=>Gn.o (by have:=(BL h0).1 h;rw[Int.mul_comm]at this;exact this))
   have HOO:=H_ ho;clear Cy hx hy hX hY hZ hz jY MA hrr ho;have dA:=vt.o;obtain⟨hx,hy,hz⟩:=dA;have hX:=HXX.o;have hY:=HYY.o;have hO:=HOO.o;rcases Int.lt_or_le 0 n with VI|VI
   case inl=>
    have aaX:decide (n>0)=true:=decide_eq_true VI;have adI:¬n=0:=by omega
    obtain⟨mq,Sj⟩:∃z:Int,(1000000000000:Int).tdiv n=z:=⟨_,rfl⟩;have hwm:IntKind.i64.wrap mq=mq:=by
     have h1:0<=(1000000000000:Int) / n:=Int.ediv_nonneg (by omega) (by omega);have h2:(1000000000000:Int) / n<=1000000000000:=Int.ediv_le_self _ (by omega);rw[<-Sj,Int.tdiv_eq_ediv_of_nonneg (by omega),IntKind.wrap_i64];omega
    have Y7:decide (q>mq)=false:=decide_eq_false (by rw[<-Sj];exact HNM.o VI);clear VI;go_wp2_with fail;refine sU.o.mono ?_;rintro e w3 ⟨rfl,aZ⟩;go_wp2_with fail;refine(lg.o w3).mono ?_;rintro e w4 ⟨rfl,bU⟩;go_wp2_with fail;go_ret2;exact⟨rfl,(F5.trans (aZ.mono F5.size)).trans (bU.mono (Nat.le_trans F5.size aZ.size))⟩
   case inr=>
    have ade:n=0:=by omega
    subst ade;have hX0:X=0:=by rw[<-hX];simp
    have hY0:Y=0:=by rw[<-hY];simp
    subst hX0 hY0;have aaX:decide ((0:Int)>0)=false:=rfl;obtain rfl:Z=o:=by rw[<-hO];simp
    clear hX hY hO;go_wp2_with fail;refine sU.o.mono ?_;rintro e w3 ⟨rfl,aZ⟩;go_wp2_with fail;refine(lg.o w3).mono ?_;rintro e w4 ⟨rfl,bU⟩;go_wp2_with fail;go_ret2;exact⟨rfl,(F5.trans (aZ.mono F5.size)).trans (bU.mono (Nat.le_trans F5.size aZ.size))⟩
theorem Ia (n r:Int) (w:World) (hn: -1000000000000<=n/\n<0) (hr:1<=r/\r<=1000000000000):Calls Tryz.prog 118 #[n,r,(1000000:Int)] w (ap w (.tuple #[.int .i64 (cN n r).1,.int .i64 (cN n r).2])):=by
 obtain⟨c1,fP⟩:∃z,(cN n r).1=z:=⟨_,rfl⟩;obtain⟨c2,gn⟩:∃z,(cN n r).2=z:=⟨_,rfl⟩;have HC:=H_ (show cN n r=(c1,c2)from Prod.ext fP gn);rw[fP,gn];clear fP gn;have hv:=oH n w;rw[decide_eq_true (show -1000000000000<=n/\n<=1000000000000 by omega)]at hv;have HV:=H_ hv;clear hv;have jY:=Lc n r;rw[HC.o]at jY;have hp:=λw2=>yn (-n) r w2 (by omega) hr
 rw[jY]at hp;have HP:=H_ hp;have Sh:=H_ (show -1000000000000<=c1/\c1<=1000000000000 from by have h:=OQ n r;rw[HC.o]at h;exact h);clear jY hp;go_enter Tryz.func118,Tryz.ntmps118;have hr0:decide (r<0)=false:=decide_eq_false (by omega);have qI:decide (r>1000000000000)=false:=decide_eq_false (by omega);go_wp2_with fail;refine HV.o.mono ?_;rintro e w5 ⟨rfl,aH⟩;have hnd:decide (n<0)=true:=decide_eq_true hn.2;have hwn:IntKind.i64.wrap (-n)= -n:=by rw[IntKind.wrap_i64];omega
 have hwc:IntKind.i64.wrap c1=c1:=by have:=Sh.o;rw[IntKind.wrap_i64];omega
 have lS:=Sh.o;go_wp2_with fail;refine(HP.o w5).mono ?_;rintro e w3 ⟨rfl,aZ⟩;simp only;go_wp2_with fail;go_ret2;exact⟨by simp,aH.trans (aZ.mono aH.size)⟩
theorem Ib (n r:Int) (w:World) (hn:¬(-1000000000000<=n/\n<=1000000000000)):Calls Tryz.prog 118 #[n,r,(1000000:Int)] w (ap w (.tuple #[(),(1:Int)])):=by
 have hv:=oH n w;rw[decide_eq_false hn]at hv;have HV:=H_ hv;clear hv hn;go_enter Tryz.func118,Tryz.ntmps118;go_wp2_with fail;refine HV.o.mono ?_;rintro e w5 ⟨rfl,aH⟩;go_wp2_with fail;go_ret2;exact⟨rfl,aH⟩
theorem Ht (n r:Int) (w:World):Calls Tryz.prog 83 #[n,r] w (ap w (.tuple #[.int .i64 (cN n r).1,.int .i64 (cN n r).2])):=by
 have HP:=H_ (λ(hr:1<=r/\r<=1000000000000)=>show Calls Tryz.prog 118 #[n,r,(1000000:Int)] w (ap w (.tuple #[.int .i64 (cN n r).1,.int .i64 (cN n r).2]))from by
  by_cases h: -1000000000000<=n/\n<=1000000000000
  ·rcases Int.lt_or_le n 0 with h0|h0
   ·exact Ia n r w ⟨h.1,h0⟩ hr
   ·exact yn n r w ⟨h0,h.2⟩ hr
  ·have hE:cN n r=(0,1):=by unfold cN;rw[if_pos (by omega)]
   rw[hE];exact Ib n r w h)
 have HB:=H_ (show ¬(1<=r/\r<=1000000000000)->(cN n r).1=0/\(cN n r).2=1 from λh=>by
  unfold cN;rw[if_pos (by omega)];exact⟨rfl,rfl⟩)
 obtain⟨c1,fP⟩:∃z,(cN n r).1=z:=⟨_,rfl⟩;obtain⟨c2,gn⟩:∃z,(cN n r).2=z:=⟨_,rfl⟩;rw[fP,gn]at HP HB |-;clear fP gn;go_enter Tryz.func83,Tryz.ntmps83;by_cases h1:r<1
 case pos=>
  have tR:decide (r<1)=true:=decide_eq_true h1;obtain⟨rfl,rfl⟩:=HB.o (λh=>by omega);clear h1;go_wp2_with fail;go_ret2;exact⟨rfl,Below.refl _ _⟩
 case neg=>
 have tR:decide (r<1)=false:=decide_eq_false h1;by_cases h2:1000000000000<r
 case pos=>
  have tt:decide (r>1000000000000)=true:=decide_eq_true h2;obtain⟨rfl,rfl⟩:=HB.o (λh=>by omega);clear h1 h2;go_wp2_with fail;go_ret2;exact⟨rfl,Below.refl _ _⟩
 case neg=>
 have tt:decide (r>1000000000000)=false:=decide_eq_false h2;have HR:=H_ (show 1<=r/\r<=1000000000000 by omega);clear h1 h2;go_wp2_with fail;refine(HP.o HR.o).mono ?_;rintro e w3 ⟨rfl,aZ⟩;go_wp2_with fail;go_ret2;exact⟨rfl,aZ⟩
end Go.Proofs.YtibiddakakgakaaGreat
