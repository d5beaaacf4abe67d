/- Amounts of money: the reference. Written by gen_v2.py. -/
import Derived.Test.YtibiddakakgakaaGreatQeA3V1
import Derived.Laws.IdiomStrings
set_option linter.unusedVariables false
set_option linter.unusedSimpArgs false
set_option maxRecDepth 4000
attribute [local go_sem ↓] Go.wp_at_zero Go.wp_at_succ
set_option maxHeartbeats 16000000
namespace Go.Proofs.YtibiddakakgakaaGreat
section
open Go Go.RowKit
theorem oH (n:Int) (w:World):Calls Tryz.prog 161 #[n] w (ap w (.bool (decide (-1000000000000<=n/\n<=1000000000000)))):=by
 obtain⟨R,hR⟩:∃b:Bool,decide (-1000000000000<=n/\n<=1000000000000)=b:=⟨_,rfl⟩;have HR:=H_ hR;rw[hR];clear hR;go_enter Tryz.func161,Tryz.ntmps161;by_cases h1: -1000000000000<=n
 case neg=>
  have hf:=H_ (show R=false by rw[<-HR.o];exact decide_eq_false (λh=>h1 h.1));have tR:decide (n≥ -1000000000000)=false:=decide_eq_false h1;have h1e:decide (-1000000000000<=n)=false:=decide_eq_false h1;clear h1;go_wp2_with fail;go_ret;exact⟨by rw[hf.o];rfl,Below.refl _ _⟩
 case pos=>
 have tR:decide (n≥ -1000000000000)=true:=decide_eq_true h1;have h1e:decide (-1000000000000<=n)=true:=decide_eq_true h1;by_cases h2:n<=1000000000000
 case pos=>
  have hf:=H_ (show R=true by rw[<-HR.o];exact decide_eq_true ⟨h1,h2⟩);have tt:decide (n<=1000000000000)=true:=decide_eq_true h2;clear h1 h2;go_wp2_with fail;go_ret;exact⟨by rw[hf.o];rfl,Below.refl _ _⟩
 case neg=>
  have hf:=H_ (show R=false by rw[<-HR.o];exact decide_eq_false (λh=>h2 h.2));have tt:decide (n<=1000000000000)=false:=decide_eq_false h2;clear h1 h2;go_wp2_with fail;go_ret;exact⟨by rw[hf.o];rfl,Below.refl _ _⟩
theorem EM (n:Int) (w:World):Calls Tryz.prog 162 #[n] w (ap w (.tuple #[.int .i64 (if -1000000000000<=n/\n<=1000000000000 then n else 0),.int .i64 (if -1000000000000<=n/\n<=1000000000000 then 0 else 2)])):=by
 have HV:=H_ (oH n w);go_enter Tryz.func162,Tryz.ntmps162;by_cases h: -1000000000000<=n/\n<=1000000000000
 case pos=>
  rw[if_pos h,if_pos h];have hd:decide (-1000000000000<=n/\n<=1000000000000)=true:=decide_eq_true h;rw[hd]at HV;clear hd h;go_wp2_with fail;refine HV.o.mono ?_;rintro e w2 ⟨rfl,hb⟩;go_wp2_with fail;go_ret2;exact⟨rfl,hb⟩
 case neg=>
  rw[if_neg h,if_neg h];have hd:decide (-1000000000000<=n/\n<=1000000000000)=false:=decide_eq_false h;rw[hd]at HV;clear hd h;go_wp2_with fail;refine HV.o.mono ?_;rintro e w2 ⟨rfl,hb⟩;go_wp2_with fail;go_ret2;exact⟨rfl,hb⟩
theorem P1 (x:Int) (w:World) (hx:0<=x/\x<=1000000000000000000):Calls Tryz.prog 163 #[x,(1000000:Int)] w (ap w (.int .i64 ((2*x+1000000) / 2000000))):=by
 obtain⟨q,hq⟩:∃a:Int,x/ 1000000=a:=⟨_,rfl⟩;obtain⟨s,hs⟩:∃a:Int,x%1000000=a:=⟨_,rfl⟩;obtain⟨d,hd⟩:∃a:Int,1000000- s=a:=⟨_,rfl⟩;obtain⟨R,hR⟩:∃a:Int,(2*x+1000000) / 2000000=a:=⟨_,rfl⟩;have Bi:0<=s/\s<1000000:=by omega
 have zO:0<=q/\q<=1000000000000:=by omega
 have HQ:=H_ (show x.tdiv 1000000=q by rw[Int.tdiv_eq_ediv_of_nonneg (by omega)];exact hq);have HS:=H_ (show x.tmod 1000000=s by rw[Int.tmod_eq_emod_of_nonneg (by omega)];exact hs);have HWQ:=H_ (show IntKind.i64.wrap q=q by rw[IntKind.wrap_i64];omega);have TH:=H_ (show IntKind.i64.wrap s=s by rw[IntKind.wrap_i64];omega);have HD:=H_ hd;have HWD:=H_ (show IntKind.i64.wrap d=d by rw[IntKind.wrap_i64];omega);have aaW:=H_ (show IntKind.i64.wrap (1000000- s)=d by rw[IntKind.wrap_i64];omega);have HRH:=H_ (show R=if d<=s then q+1 else q by
  have h:=Hz (x:=x) (d:=1000000) (by omega);rw[<-hR,<-hd,<-hs,<-hq];exact h)
 have N2:=H_ (And.intro Bi zO);rw[hR];clear hq hs hd hR;go_enter Tryz.func163,Tryz.ntmps163;have hxn:decide (x<0)=false:=decide_eq_false (by omega);have Ct:=HQ.o;have hwq:=HWQ.o;have hsq:=Bi;clear zO Bi;by_cases hc:d<=s
 case pos=>
  have Gm:=H_ (show decide (s≥d)=true from decide_eq_true hc);have Kq:=H_ (show R=q+1 by rw[HRH.o,if_pos hc]);have mF:0<=q/\q<=1000000000000:=N2.o.2;clear hc;go_upto_region 4 with fail;refine bp (Ks w [x,(1000000:Int),s,(1000000:Int),x,(1000000:Int),s,d,true])
   (λw'=>w'=w.drew) K_ K_ K_ rfl ?_ ?_
  ·refine⟨b_ (q_ 0),b_ (q_ 1),?_,b_ (q_ 1),b_ (q_ 0),b_ (q_ 1),?_,?_,?_,trivial⟩
   ·intro _ A0 w2 hI hd hnd K hK;have e0:=hI.p hd 0 16;have e1:=hI.p hd 1 17;have hS:=H_ (show w2=w.drew from hI.world);have hs:=HS.o;have hws:=TH.o;exact hI.z hK
   ·intro _ A0 w2 hI hd hnd K hK;have e0:=hI.p hd 4 20;have e1:=hI.p hd 5 21;have hS:=H_ (show w2=w.drew from hI.world);have hs:=HS.o;have hws:=TH.o;exact hI.z hK
   ·intro _ A0 w2 hI hd hnd K hK;have e0:=hI.p hd 3 19;have e1:=hI.p hd 6 22;have hS:=H_ (show w2=w.drew from hI.world);have hd:=HD.o;have hwd:=HWD.o;have ac0:=aaW.o;exact hI.z hK
   ·intro _ A0 w2 hI hd hnd K hK;have e0:=hI.p hd 2 18;have e1:=hI.p hd 7 23;have hS:=H_ (show w2=w.drew from hI.world);have hcd:=Gm.o;exact hI.z hK
  ·intro _ A0 w2 hI hall;obtain⟨x0,g0,h0⟩:=hI.got 0 _ 16 rfl rfl (hall 0 (by decide));obtain⟨x1,g1,h1⟩:=hI.got 1 _ 17 rfl rfl (hall 1 (by decide));obtain⟨x2,g2,h2⟩:=hI.got 2 _ 18 rfl rfl (hall 2 (by decide));obtain⟨x3,g3,h3⟩:=hI.got 3 _ 19 rfl rfl (hall 3 (by decide));obtain⟨x4,g4,h4⟩:=hI.got 4 _ 20 rfl rfl (hall 4 (by decide));obtain⟨x5,g5,h5⟩:=hI.got 5 _ 21 rfl rfl (hall 5 (by decide));obtain⟨x6,g6,h6⟩:=hI.got 6 _ 22 rfl rfl (hall 6 (by decide));obtain⟨x7,g7,h7⟩:=hI.got 7 _ 23 rfl rfl (hall 7 (by decide));obtain⟨x8,g8,h8⟩:=hI.got 8 _ 24 rfl rfl (hall 8 (by decide));obtain rfl:w2=w.drew:=hI.world;have hA:A0=_:=hI.tmps [(16,x0),(17,x1),(18,x2),(19,x3),(20,x4),(21,x5),(22,x6),(23,x7),(24,x8)] (by simp only[List.mem_cons,List.not_mem_nil,or_false,forall_eq_or_imp,forall_eq];exact⟨g0,g1,g2,g3,g4,g5,g6,g7,g8⟩) K_;obtain rfl:x0=.int .i64 x:=h0 _ rfl;obtain rfl:x1=.int .i64 1000000:=h1 _ rfl;obtain rfl:x2=.int .i64 s:=h2 _ rfl;obtain rfl:x3=.int .i64 1000000:=h3 _ rfl;obtain rfl:x4=.int .i64 x:=h4 _ rfl;obtain rfl:x5=.int .i64 1000000:=h5 _ rfl;obtain rfl:x6=.int .i64 s:=h6 _ rfl;obtain rfl:x7=.int .i64 d:=h7 _ rfl;obtain rfl:x8=.bool true:=h8 _ rfl;clear h0 g0 h1 g1 h2 g2 h3 g3 h4 g4 h5 g5 h6 g6 h7 g7 h8 g8 hI hall;simp only[ba,List.foldl,List.setIfInBounds_toArray,List.set_cons_zero,List.set_cons_succ]at hA;rw[hA];clear hA;clear hsq;go_wp2_with fail;go_ret;exact⟨by rw[Kq.o];rfl,(Below.refl _ _).drew⟩
 case neg=>
  have Gm:=H_ (show decide (s≥d)=false from decide_eq_false hc);have Kq:=H_ (show R=q by rw[HRH.o,if_neg hc]);clear hc;go_upto_region 4 with fail;refine bp (Ks w [x,(1000000:Int),s,(1000000:Int),x,(1000000:Int),s,d,false])
   (λw'=>w'=w.drew) K_ K_ K_ rfl ?_ ?_
  ·refine⟨b_ (q_ 0),b_ (q_ 1),?_,b_ (q_ 1),b_ (q_ 0),b_ (q_ 1),?_,?_,?_,trivial⟩
   ·intro _ A0 w2 hI hd hnd K hK;have e0:=hI.p hd 0 16;have e1:=hI.p hd 1 17;have hS:=H_ (show w2=w.drew from hI.world);have hs:=HS.o;have hws:=TH.o;exact hI.z hK
   ·intro _ A0 w2 hI hd hnd K hK;have e0:=hI.p hd 4 20;have e1:=hI.p hd 5 21;have hS:=H_ (show w2=w.drew from hI.world);have hs:=HS.o;have hws:=TH.o;exact hI.z hK
   ·intro _ A0 w2 hI hd hnd K hK;have e0:=hI.p hd 3 19;have e1:=hI.p hd 6 22;have hS:=H_ (show w2=w.drew from hI.world);have hd:=HD.o;have hwd:=HWD.o;have ac0:=aaW.o;exact hI.z hK
   ·intro _ A0 w2 hI hd hnd K hK;have e0:=hI.p hd 2 18;have e1:=hI.p hd 7 23;have hS:=H_ (show w2=w.drew from hI.world);have hcd:=Gm.o;exact hI.z hK
  ·intro _ A0 w2 hI hall;obtain⟨x0,g0,h0⟩:=hI.got 0 _ 16 rfl rfl (hall 0 (by decide));obtain⟨x1,g1,h1⟩:=hI.got 1 _ 17 rfl rfl (hall 1 (by decide));obtain⟨x2,g2,h2⟩:=hI.got 2 _ 18 rfl rfl (hall 2 (by decide));obtain⟨x3,g3,h3⟩:=hI.got 3 _ 19 rfl rfl (hall 3 (by decide));obtain⟨x4,g4,h4⟩:=hI.got 4 _ 20 rfl rfl (hall 4 (by decide));obtain⟨x5,g5,h5⟩:=hI.got 5 _ 21 rfl rfl (hall 5 (by decide));obtain⟨x6,g6,h6⟩:=hI.got 6 _ 22 rfl rfl (hall 6 (by decide));obtain⟨x7,g7,h7⟩:=hI.got 7 _ 23 rfl rfl (hall 7 (by decide));obtain⟨x8,g8,h8⟩:=hI.got 8 _ 24 rfl rfl (hall 8 (by decide));obtain rfl:w2=w.drew:=hI.world;have hA:A0=_:=hI.tmps [(16,x0),(17,x1),(18,x2),(19,x3),(20,x4),(21,x5),(22,x6),(23,x7),(24,x8)] (by simp only[List.mem_cons,List.not_mem_nil,or_false,forall_eq_or_imp,forall_eq];exact⟨g0,g1,g2,g3,g4,g5,g6,g7,g8⟩) K_;obtain rfl:x0=.int .i64 x:=h0 _ rfl;obtain rfl:x1=.int .i64 1000000:=h1 _ rfl;obtain rfl:x2=.int .i64 s:=h2 _ rfl;obtain rfl:x3=.int .i64 1000000:=h3 _ rfl;obtain rfl:x4=.int .i64 x:=h4 _ rfl;obtain rfl:x5=.int .i64 1000000:=h5 _ rfl;obtain rfl:x6=.int .i64 s:=h6 _ rfl;obtain rfl:x7=.int .i64 d:=h7 _ rfl;obtain rfl:x8=.bool false:=h8 _ rfl;clear h0 g0 h1 g1 h2 g2 h3 g3 h4 g4 h5 g5 h6 g6 h7 g7 h8 g8 hI hall;simp only[ba,List.foldl,List.setIfInBounds_toArray,List.set_cons_zero,List.set_cons_succ]at hA;rw[hA];clear hA;clear hsq;go_wp2_with fail;go_ret;exact⟨by rw[Kq.o];rfl,(Below.refl _ _).drew⟩
theorem yn (n r:Int) (w:World) (hn:0<=n/\n<=1000000000000) (hr:1<=r/\r<=1000000000000):Calls Tryz.prog 118 #[n,r,(1000000:Int)] w (ap w (.tuple #[.int .i64 (cN n r).1,.int .i64 (cN n r).2])):=by
 obtain⟨c1,fP⟩:∃z,(cN n r).1=z:=⟨_,rfl⟩;obtain⟨c2,gn⟩:∃z,(cN n r).2=z:=⟨_,rfl⟩;have HC:=H_ (show cN n r=(c1,c2)from Prod.ext fP gn);rw[fP,gn];clear fP gn;have hv:=oH n w;rw[decide_eq_true (show -1000000000000<=n/\n<=1000000000000 by omega)]at hv;have HV:=H_ hv;clear hv;have hae:(n.natAbs:Int)=n:=by omega
 obtain⟨q,hq⟩:∃a:Int,r/ 1000000=a:=⟨_,rfl⟩;obtain⟨s,hs⟩:∃a:Int,r%1000000=a:=⟨_,rfl⟩;have zO:0<=q/\q<=1000000:=by omega
 have Bi:0<=s/\s<1000000:=by omega
 have HQ:=H_ (show r.tdiv 1000000=q by rw[Int.tdiv_eq_ediv_of_nonneg (by omega)];exact hq);have HS:=H_ (show r.tmod 1000000=s by rw[Int.tmod_eq_emod_of_nonneg (by omega)];exact hs);have HWQ:=H_ (show IntKind.i64.wrap q=q by rw[IntKind.wrap_i64];omega);have TH:=H_ (show IntKind.i64.wrap s=s by rw[IntKind.wrap_i64];omega);have Yr:=H_ (show iG n.natAbs r=n*q+(2*(n*s)+1000000) / 2000000 by unfold iG;rw[hae,hq,hs]);have HAA:=H_ hae;have Z0:=H_ hq;clear hq hs hae;go_enter Tryz.func118,Tryz.ntmps118;have hr0:decide (r<0)=false:=decide_eq_false (by omega);have qI:decide (r>1000000000000)=false:=decide_eq_false (by omega);go_wp2_with fail;refine HV.o.mono ?_;rintro e w5 ⟨rfl,aH⟩;have hnd:decide (n<0)=false:=decide_eq_false (by omega);go_upto_region 6 with fail;refine bp (Ks w5 [r,(1000000:Int),q,r,(1000000:Int),s,q,s])
  (λw'=>w'=w5.drew) K_ K_ K_ rfl ?_ ?_
 ·refine⟨b_ (q_ 1),b_ (q_ 2),?_,b_ (q_ 1),b_ (q_ 2),?_,b_ (p_ 2 46),b_ (p_ 5 49),trivial⟩
  ·intro _ A0 w2 hI hd hnd K hK;have e0:=hI.p hd 0 44;have e1:=hI.p hd 1 45;have hS:=H_ (show w2=w5.drew from hI.world);have hq:=HQ.o;have hwq:=HWQ.o;exact hI.z hK
  ·intro _ A0 w2 hI hd hnd K hK;have e0:=hI.p hd 3 47;have e1:=hI.p hd 4 48;have hS:=H_ (show w2=w5.drew from hI.world);have hs:=HS.o;have hws:=TH.o;exact hI.z hK
 ·intro _ A0 w2 hI hall;obtain⟨x0,g0,h0⟩:=hI.got 0 _ 44 rfl rfl (hall 0 (by decide));obtain⟨x1,g1,h1⟩:=hI.got 1 _ 45 rfl rfl (hall 1 (by decide));obtain⟨x2,g2,h2⟩:=hI.got 2 _ 46 rfl rfl (hall 2 (by decide));obtain⟨x3,g3,h3⟩:=hI.got 3 _ 47 rfl rfl (hall 3 (by decide));obtain⟨x4,g4,h4⟩:=hI.got 4 _ 48 rfl rfl (hall 4 (by decide));obtain⟨x5,g5,h5⟩:=hI.got 5 _ 49 rfl rfl (hall 5 (by decide));obtain⟨x6,g6,h6⟩:=hI.got 6 _ 10 rfl rfl (hall 6 (by decide));obtain⟨x7,g7,h7⟩:=hI.got 7 _ 11 rfl rfl (hall 7 (by decide));obtain rfl:w2=w5.drew:=hI.world;have hA:A0=_:=hI.tmps [(44,x0),(45,x1),(46,x2),(47,x3),(48,x4),(49,x5),(10,x6),(11,x7)] (by simp only[List.mem_cons,List.not_mem_nil,or_false,forall_eq_or_imp,forall_eq];exact⟨g0,g1,g2,g3,g4,g5,g6,g7⟩) K_;obtain rfl:x0=.int .i64 r:=h0 _ rfl;obtain rfl:x1=.int .i64 1000000:=h1 _ rfl;obtain rfl:x2=.int .i64 q:=h2 _ rfl;obtain rfl:x3=.int .i64 r:=h3 _ rfl;obtain rfl:x4=.int .i64 1000000:=h4 _ rfl;obtain rfl:x5=.int .i64 s:=h5 _ rfl;obtain rfl:x6=.int .i64 q:=h6 _ rfl;obtain rfl:x7=.int .i64 s:=h7 _ rfl;clear h0 g0 h1 g1 h2 g2 h3 g3 h4 g4 h5 g5 h6 g6 h7 g7 hI hall;simp only[ba,List.foldl,List.setIfInBounds_toArray,List.set_cons_zero,List.set_cons_succ]at hA;rw[hA];clear hA;have F5:=(aH:Below w.heap.size w w5).drew;by_cases Cy:1000000000000<n*q
  case pos=>
   have VI:0<n:=by
    rcases Int.lt_or_le 0 n with h|h
    ·exact h
    ·have:n=0:=by omega
     rw[this]at Cy;simp at Cy
   have hE:cN n r=(0,2):=by unfold cN;rw[if_neg (by omega),HAA.o,Z0.o,if_pos Cy]
   obtain⟨rfl,rfl⟩:c1=0/\c2=2:=by have h:=HC.o;rw[hE]at h;simp at h;exact⟨h.1.symm,h.2.symm⟩
   have aaX:decide (n>0)=true:=decide_eq_true VI;have adI:¬n=0:=by omega
   obtain⟨mq,Sj⟩:∃z:Int,(1000000000000:Int).tdiv n=z:=⟨_,rfl⟩;have hwm:IntKind.i64.wrap mq=mq:=by
    have h1:0<=(1000000000000:Int) / n:=Int.ediv_nonneg (by omega) (by omega);have h2:(1000000000000:Int) / n<=1000000000000:=Int.ediv_le_self _ (by omega);rw[<-Sj,Int.tdiv_eq_ediv_of_nonneg (by omega),IntKind.wrap_i64];omega
   have Y7:decide (q>mq)=true:=decide_eq_true (by
    rw[<-Sj,Int.tdiv_eq_ediv_of_nonneg (by omega)];exact(BL VI).2 (by rw[Int.mul_comm];exact Cy))
   clear Cy VI hE;go_wp2_with fail;go_ret2;exact⟨rfl,F5⟩
  case neg=>
   have Gn:=H_ Cy;have zR:0<=n:=hn.1;have hx:0<=n*q:=sx zR zO.1;have hy:0<=n*s/\n*s<=1000000000000*1000000:=⟨sx zR Bi.1,Pg zR hn.2 Bi.1 (by omega)⟩;obtain⟨X,hX⟩:∃z:Int,n*q=z:=⟨_,rfl⟩;obtain⟨Y,hY⟩:∃z:Int,n*s=z:=⟨_,rfl⟩;obtain⟨Z,hZ⟩:∃z:Int,(2*Y+1000000) / 2000000=z:=⟨_,rfl⟩;rw[hX]at hx Cy;rw[hY]at hy;have hz:0<=Z/\Z<=1000000000001:=by omega
   have HCO:=H_ (show iG n.natAbs r=X+Z by rw[Yr.o,hX,hY,hZ]);obtain⟨o,ho⟩:∃z:Int,X+Z=z:=⟨_,rfl⟩;have jY:=vW (n:=n) (r:=r) (by omega) hr (by rw[HAA.o,Z0.o];exact Gn.o) HCO.o (by omega) (show X+Z=if n<0 then -(X+Z)else X+Z by rw[if_neg (by omega)]);rw[ho,HC.o]at jY;simp only[Prod.mk.injEq]at jY;have MA:=λw3=>EM o w3
   rw[<-jY.1,<-jY.2]at MA;have lg:=H_ MA;have hrr:=P1 Y w5.drew (by omega);rw[hZ]at hrr;have sU:=H_ hrr;have HXX:=H_ hX;have HYY:=H_ hY;have vt:=H_ (show(0<=X/\X<=1000000000000)/\(0<=Y/\Y<=1000000000000000000)/\0<=Z/\Z<=1000000000001 from⟨by omega,by omega,hz⟩);have HNM:=H_ (show 0<n->¬(1000000000000:Int).tdiv n<q from λh0=>by
    rw[Int.tdiv_eq_ediv_of_nonneg (by omega)];exact λh=>Gn.o (by have:=(BL h0).1 h;rw[Int.mul_comm]at this;exact this))
   have HOO:=H_ ho;clear Cy hx hy hX hY hZ hz jY MA hrr ho;have dA:=vt.o;obtain⟨hx,hy,hz⟩:=dA;have hX:=HXX.o;have hY:=HYY.o;have hO:=HOO.o;rcases Int.lt_or_le 0 n with VI|VI
   case inl=>
    have aaX:decide (n>0)=true:=decide_eq_true VI;have adI:¬n=0:=by omega
    obtain⟨mq,Sj⟩:∃z:Int,(1000000000000:Int).tdiv n=z:=⟨_,rfl⟩;have hwm:IntKind.i64.wrap mq=mq:=by
     have h1:0<=(1000000000000:Int) / n:=Int.ediv_nonneg (by omega) (by omega);have h2:(1000000000000:Int) / n<=1000000000000:=Int.ediv_le_self _ (by omega);rw[<-Sj,Int.tdiv_eq_ediv_of_nonneg (by omega),IntKind.wrap_i64];omega
    have Y7:decide (q>mq)=false:=decide_eq_false (by rw[<-Sj];exact HNM.o VI);clear VI;go_wp2_with fail;refine sU.o.mono ?_;rintro e w3 ⟨rfl,aZ⟩;go_wp2_with fail;refine(lg.o w3).mono ?_;rintro e w4 ⟨rfl,bU⟩;go_wp2_with fail;go_ret2;exact⟨rfl,(F5.trans (aZ.mono F5.size)).trans (bU.mono (Nat.le_trans F5.size aZ.size))⟩
   case inr=>
    have ade:n=0:=by omega
    subst ade;have hX0:X=0:=by rw[<-hX];simp
    have hY0:Y=0:=by rw[<-hY];simp
    subst hX0 hY0;have aaX:decide ((0:Int)>0)=false:=rfl;obtain rfl:Z=o:=by rw[<-hO];simp
    clear hX hY hO;go_wp2_with fail;refine sU.o.mono ?_;rintro e w3 ⟨rfl,aZ⟩;go_wp2_with fail;refine(lg.o w3).mono ?_;rintro e w4 ⟨rfl,bU⟩;go_wp2_with fail;go_ret2;exact⟨rfl,(F5.trans (aZ.mono F5.size)).trans (bU.mono (Nat.le_trans F5.size aZ.size))⟩
theorem Ia (n r:Int) (w:World) (hn: -1000000000000<=n/\n<0) (hr:1<=r/\r<=1000000000000):Calls Tryz.prog 118 #[n,r,(1000000:Int)] w (ap w (.tuple #[.int .i64 (cN n r).1,.int .i64 (cN n r).2])):=by
 obtain⟨c1,fP⟩:∃z,(cN n r).1=z:=⟨_,rfl⟩;obtain⟨c2,gn⟩:∃z,(cN n r).2=z:=⟨_,rfl⟩;have HC:=H_ (show cN n r=(c1,c2)from Prod.ext fP gn);rw[fP,gn];clear fP gn;have hv:=oH n w;rw[decide_eq_true (show -1000000000000<=n/\n<=1000000000000 by omega)]at hv;have HV:=H_ hv;clear hv;have jY:=Lc n r;rw[HC.o]at jY;have hp:=λw2=>yn (-n) r w2 (by omega) hr
 rw[jY]at hp;have HP:=H_ hp;have Sh:=H_ (show -1000000000000<=c1/\c1<=1000000000000 from by have h:=OQ n r;rw[HC.o]at h;exact h);clear jY hp;go_enter Tryz.func118,Tryz.ntmps118;have hr0:decide (r<0)=false:=decide_eq_false (by omega);have qI:decide (r>1000000000000)=false:=decide_eq_false (by omega);go_wp2_with fail;refine HV.o.mono ?_;rintro e w5 ⟨rfl,aH⟩;have hnd:decide (n<0)=true:=decide_eq_true hn.2;have hwn:IntKind.i64.wrap (-n)= -n:=by rw[IntKind.wrap_i64];omega
 have hwc:IntKind.i64.wrap c1=c1:=by have:=Sh.o;rw[IntKind.wrap_i64];omega
 have lS:=Sh.o;go_wp2_with fail;refine(HP.o w5).mono ?_;rintro e w3 ⟨rfl,aZ⟩;simp only;go_wp2_with fail;go_ret2;exact⟨by simp,aH.trans (aZ.mono aH.size)⟩
theorem Ib (n r:Int) (w:World) (hn:¬(-1000000000000<=n/\n<=1000000000000)):Calls Tryz.prog 118 #[n,r,(1000000:Int)] w (ap w (.tuple #[(),(1:Int)])):=by
 have hv:=oH n w;rw[decide_eq_false hn]at hv;have HV:=H_ hv;clear hv hn;go_enter Tryz.func118,Tryz.ntmps118;go_wp2_with fail;refine HV.o.mono ?_;rintro e w5 ⟨rfl,aH⟩;go_wp2_with fail;go_ret2;exact⟨rfl,aH⟩
theorem Ht (n r:Int) (w:World):Calls Tryz.prog 83 #[n,r] w (ap w (.tuple #[.int .i64 (cN n r).1,.int .i64 (cN n r).2])):=by
 have HP:=H_ (λ(hr:1<=r/\r<=1000000000000)=>show Calls Tryz.prog 118 #[n,r,(1000000:Int)] w (ap w (.tuple #[.int .i64 (cN n r).1,.int .i64 (cN n r).2]))from by
  by_cases h: -1000000000000<=n/\n<=1000000000000
  ·rcases Int.lt_or_le n 0 with h0|h0
   ·exact Ia n r w ⟨h.1,h0⟩ hr
   ·exact yn n r w ⟨h0,h.2⟩ hr
  ·have hE:cN n r=(0,1):=by unfold cN;rw[if_pos (by omega)]
   rw[hE];exact Ib n r w h)
 have HB:=H_ (show ¬(1<=r/\r<=1000000000000)->(cN n r).1=0/\(cN n r).2=1 from λh=>by
  unfold cN;rw[if_pos (by omega)];exact⟨rfl,rfl⟩)
 obtain⟨c1,fP⟩:∃z,(cN n r).1=z:=⟨_,rfl⟩;obtain⟨c2,gn⟩:∃z,(cN n r).2=z:=⟨_,rfl⟩;rw[fP,gn]at HP HB |-;clear fP gn;go_enter Tryz.func83,Tryz.ntmps83;by_cases h1:r<1
 case pos=>
  have tR:decide (r<1)=true:=decide_eq_true h1;obtain⟨rfl,rfl⟩:=HB.o (λh=>by omega);clear h1;go_wp2_with fail;go_ret2;exact⟨rfl,Below.refl _ _⟩
 case neg=>
 have tR:decide (r<1)=false:=decide_eq_false h1;by_cases h2:1000000000000<r
 case pos=>
  have tt:decide (r>1000000000000)=true:=decide_eq_true h2;obtain⟨rfl,rfl⟩:=HB.o (λh=>by omega);clear h1 h2;go_wp2_with fail;go_ret2;exact⟨rfl,Below.refl _ _⟩
 case neg=>
 have tt:decide (r>1000000000000)=false:=decide_eq_false h2;have HR:=H_ (show 1<=r/\r<=1000000000000 by omega);clear h1 h2;go_wp2_with fail;refine(HP.o HR.o).mono ?_;rintro e w3 ⟨rfl,aZ⟩;go_wp2_with fail;go_ret2;exact⟨rfl,aZ⟩
theorem xU (s:ByteArray) (w:World) (hs:s.size<=140737488355328):Calls Tryz.prog 69 #[s] w (ap w (.bool (cQ s))):=by
 obtain⟨r,hr⟩:=x_ (cQ s);rw[hr];have HR:=H_ hr;clear hr;go_enter Tryz.func69,Tryz.ntmps69;go_wp2_with fail
 go_loopw [3] (λi wr=>∃k:Nat,k<=s.size/\i=.int .i64 (k:Int)/\Below w.heap.size w wr/\∀j,j<k->akd (bat s j)=true) (λi _=>s.size- (intOf i).toNat)
 case atStart=>exact⟨0,by omega,rfl,Below.refl _ _,λj hj=>by omega⟩
 case round=>
  obtain⟨k,hk,rfl,hb,hall⟩:=hrel;have HA:=H_ hall;clear hall;by_cases aU:k<s.size
  ·have bq:(k:Int)< (s.size:Int):=by omega
   have HB:=H_ (pH aU);by_cases hc:akd (bat s k)=true
   ·have fP:65<=(s[k].toNat:Int)/\(s[k].toNat:Int)<=90:=by
     have:=hc;rw[HB.o]at this;simp only[akd,decide_eq_true_eq]at this;omega
    have gn:=fP.1;have ot:=fP.2;have HC:=H_ hc;clear hc;go_wp2_with fail;go_roundw
    case rel=>exact⟨k+1,by omega,by go_num,hb,λj hj=>by
     rcases Nat.lt_or_ge j k with h|h
     ·exact HA.o j h
     ·have:j=k:=by omega
      subst this;exact HC.o⟩
    case measure=>
     have e:wrap64 ((k:Int)+1)=((k+1:Nat):Int):=by unfold wrap64;omega
     simp only[intOf,e];omega
   ·have nh:=H_ (show r=false by
     rw[<-HR.o];unfold cQ;rw[bt aU (by simpa using hc)];rfl)
    have fP:¬(65<=(s[k].toNat:Int)/\(s[k].toNat:Int)<=90):=by
     have:=hc;rw[HB.o]at this;simp only[akd,decide_eq_true_eq]at this;omega
    clear hc;by_cases gn:(s[k].toNat:Int)<65
    ·go_wp2_with fail;go_ret;exact⟨by rw[nh.o];first|done|rfl,hb⟩
    ·have ot:90< (s[k].toNat:Int):=by omega
     go_wp2_with fail;go_ret;exact⟨by rw[nh.o];first|done|rfl,hb⟩
  ·have bq:¬(k:Int)< (s.size:Int):=by omega
   have JP:k=s.size:=by omega
   have nh:=H_ (show r=(s.size==3) by
    rw[<-HR.o];unfold cQ;rw[bQ (λj hj=>HA.o j (by omega)),Bool.true_and])
   clear JP;by_cases h3:s.size=3
   ·have zl:((s.size:Int)==3)=true:=by simp;omega
    have HH:=H_ h3;clear h3;go_wp2_with fail;go_ret;exact⟨by rw[nh.o,HH.o];rfl,hb⟩
   ·have zl:((s.size:Int)==3)=false:=by simp;omega
    have HH:=H_ (show(s.size==3)=false by simpa using h3);clear h3;go_wp2_with fail;go_ret;exact⟨by rw[nh.o,HH.o];first|done|rfl,hb⟩
theorem Zp (c:Nat) (w:World):Calls Tryz.prog 154 #[.int .u8 (c:Int)] w (ap w (.bool (!akd c))):=by
 obtain⟨R,hR⟩:∃b:Bool,(!akd c)=b:=⟨_,rfl⟩;have HR:=H_ hR;rw[hR];clear hR;go_enter Tryz.func154,Tryz.ntmps154;by_cases h1:(c:Int)<65
 case pos=>
  have hf:=H_ (show R=true by rw[<-HR.o];unfold akd;simp;omega);have tR:decide ((c:Int)<65)=true:=decide_eq_true h1;clear h1;go_wp2_with fail;go_ret;exact⟨by rw[hf.o];rfl,Below.refl _ _⟩
 case neg=>
 have tR:decide ((c:Int)<65)=false:=decide_eq_false h1;by_cases h2:90< (c:Int)
 case pos=>
  have hf:=H_ (show R=true by rw[<-HR.o];unfold akd;simp;omega);have tt:decide ((c:Int)>90)=true:=decide_eq_true h2;clear h1 h2;go_wp2_with fail;go_ret;exact⟨by rw[hf.o];rfl,Below.refl _ _⟩
 case neg=>
  have hf:=H_ (show R=false by rw[<-HR.o];unfold akd;simp;omega);have tt:decide ((c:Int)>90)=false:=decide_eq_false h2;clear h1 h2;go_wp2_with fail;go_ret;exact⟨by rw[hf.o];rfl,Below.refl _ _⟩
def ncI (s:ByteArray):Int:=iB (λk=> !akd (bat s k)) (List.range s.size)
theorem Zw (s:ByteArray) (g cap:Nat) (w:World) (hc:∀k,k<s.size->w.cell? ⟨g,k,none⟩=some (.int .u8 (bat s k:Int))) (hg:g<w.heap.size) (hs:s.size<=cap) (KD:cap<=maxLen):Calls Tryz.prog 197 #[.slice (some ⟨g,0,none⟩) s.size cap,.func (.func 154) #[] #[]] w (ap w (.int .i64 (ncI s))):=by
 obtain⟨R,hR⟩:∃z,ncI s=z:=⟨_,rfl⟩;have HR:=H_ hR;have HC:=H_ hc;have HG:=H_ hg;unfold maxLen at KD;obtain⟨n,hn⟩:=x_ (s.size);have HN:=H_ hn;rw[hR];rw[hn]at hs |-;clear hR hc hg hn;go_enter Tryz.func197,Tryz.ntmps197;go_wp2_with fail
 go_loopw [8] (λi wr=>∃k:Nat,k<=n/\i=.int .i64 (k:Int)/\Below w.heap.size w wr/\∀j,j<k->akd (bat s j)=true) (λi _=>n- (intOf i).toNat)
 case atStart=>exact⟨0,by omega,rfl,Below.refl _ _,λj h=>by omega⟩
 case round=>
  obtain⟨k,hk,rfl,hb,hall⟩:=hrel;have HA:=H_ hall;clear hall;have bP:=hb.size;by_cases aU:k<n
  case pos=>
   have bq:(k:Int)< (n:Int):=by omega
   have CP:wr.cell? ⟨g,k,none⟩=some (.int .u8 (bat s k:Int)):=(hb.cell (p:=⟨g,k,none⟩) HG.o).trans (HC.o k (by rw[HN.o];exact aU));obtain⟨cb,lS⟩:∃q,bat s k=q:=⟨_,rfl⟩;rw[lS]at CP;have Sh:=H_ lS;clear lS;go_wp2_with fail;refine(Zp cb wr).mono ?_;rintro e w2 ⟨rfl,aH⟩;have dA:=hb.trans (aH.mono hb.size);cases hp:akd cb with
   |false=>
    have hf:=H_ (show R=(k:Int) by
     rw[<-HR.o];unfold ncI;refine nW (by simp[HN.o,aU]) (by simp[Sh.o,hp]) (λj hj m7=>?_);simp[HA.o j m7])
    clear hp;simp only[Bool.not_false];go_wp2_with fail;go_ret;exact⟨hf.o.symm▸rfl,dA⟩
   |true=>
    have HP:=H_ hp;clear hp;simp only[Bool.not_true];go_wp2_with fail;go_roundw
    case rel=>exact⟨k+1,by omega,by go_num,dA,λj m7=>by
     rcases Nat.lt_or_ge j k with h|h
     ·exact HA.o j h
     ·have:j=k:=by omega
      subst this;rw[Sh.o];exact HP.o⟩
    case measure=>
     have e:wrap64 ((k:Int)+1)=((k+1:Nat):Int):=by unfold wrap64;omega
     simp only[intOf,e];omega
  case neg=>
   have bq:¬(k:Int)< (n:Int):=by omega
   have hf:=H_ (show R= -1 by
    rw[<-HR.o];unfold ncI;refine mf (λj hj=>?_);rw[List.length_range,HN.o]at hj;simp[HA.o j (by omega)])
   go_wp2_with fail;go_ret;exact⟨hf.o.symm▸rfl,hb⟩
theorem S9 {s:ByteArray}:decide (0<=ncI s)= !((List.range s.size).all (λk=>akd (bat s k))):=by
 cases h:(List.range s.size).all (λk=>akd (bat s k))with
 |true=>
  rw[List.all_eq_true]at h;have:ncI s= -1:=mf (λj hj=>by
   rw[List.length_range]at hj;simp[h j (List.mem_range.2 hj)])
  rw[this];rfl
 |false=>
  have h2:¬ncI s<0:=λaU=>by
   unfold ncI iB at aU;cases e:(List.range s.size).findIdx? (λk=> !akd (bat s k))with
   |some q=>rw[e]at aU;simp at aU;omega
   |none=>
    rw[List.findIdx?_eq_none_iff]at e;rw[List.all_eq_false]at h;obtain⟨k,hk,hc⟩:=h;have:=e k hk;simp at this;rw[this]at hc;exact hc rfl
  simp;omega
theorem Zg (s:ByteArray) (g cap:Nat) (w:World) (hc:∀k,k<s.size->w.cell? ⟨g,k,none⟩=some (.int .u8 (bat s k:Int))) (hg:g<w.heap.size) (hs:s.size<=cap) (KD:cap<=maxLen):Calls Tryz.prog 153 #[.slice (some ⟨g,0,none⟩) s.size cap,.func (.func 154) #[] #[]] w (ap w (.bool (decide (0<=ncI s)))):=by
 have aM:=Zw s g cap w hc hg hs KD;obtain⟨n,hn⟩:=x_ (s.size);obtain⟨R,hR⟩:∃z,ncI s=z:=⟨_,rfl⟩;rw[hn,hR]at aM;rw[hn,hR];have XA:=H_ aM;clear aM hc hg hs KD hn hR;go_enter Tryz.func153,Tryz.ntmps153;go_wp2_with fail;refine XA.o.mono ?_;rintro e w2 ⟨rfl,aH⟩;go_wp2_with fail;go_ret;exact⟨by first|rfl|simp,aH⟩
theorem Cq {ops:Array Oper} {rest:List Oper} {o:Oper} {a:Act} {w:World} {Q:Exit->Act->World->Prop} (hw:Region.wanted o (yielded ops a.tmps)=true) (x:Operand) (pC:o.op=Op.convert 9 198 x) (s:ByteArray) (hx:a.eval x=.string s) (hs:s.size<=maxLen)
 (hK:∀(cap:Nat) (w2:World),(∀k,k<s.size->w2.cell? ⟨w.heap.size,k,none⟩=some (.int .u8 (bat s k:Int)))->w.heap.size<w2.heap.size->s.size<=cap->cap<=maxLen->Below w.heap.size w w2->wpList Tryz.prog ops Q rest (a.put o.dst (.slice (some ⟨w.heap.size,0,none⟩) s.size cap)) w2):wpList Tryz.prog ops Q (o::rest) a w:=
 wpList_step λK' qj=>by
  rw[if_pos hw];have eC:=run_bytes_of_string (P:=Tryz.prog) w 9 198 5 s K_ K_ K_;unfold Oper.wp;simp[execOp,pC,hx,eC,Result.andThen];refine qj _ _ (hK _ _ (λk hk=>?_) ?_ (grownCap_ge _ _ _ _) (grownCap_le_maxLen _ _ _ _ hs) ?_)
  ·have h1:=heap_alloc_new w.drew (.cells (bytesRow s (grownCap w s.size 0 5)) 5 ((bytesRow s (grownCap w s.size 0 5)).size,(bytesRow s (grownCap w s.size 0 5)).size+1));have h2:=bytesRow_at s (grownCap w s.size 0 5) k hk;rw[show(w.drew.heap.size)=w.heap.size from rfl]at h1;have h3:(w.drew.alloc (.cells (bytesRow s (grownCap w s.size 0 5)) 5 ((bytesRow s (grownCap w s.size 0 5)).size,(bytesRow s (grownCap w s.size 0 5)).size+1))).cell? ⟨w.heap.size,k,none⟩=(bytesRow s (grownCap w s.size 0 5))[k]? :=by
    simp only[World.cell?,h1];rfl
   have h4:=h3.trans h2;refine Eq.trans ?_ (h4.trans ?_)
   ·rfl
   ·unfold bat
    rw[Array.getD_eq_getD_getElem?,Array.getElem?_eq_getElem (show k<s.data.size from hk)];rfl
  ·have:=ag (heap_alloc_new w.drew (.cells (bytesRow s (grownCap w s.size 0 5)) 5 ((bytesRow s (grownCap w s.size 0 5)).size,(bytesRow s (grownCap w s.size 0 5)).size+1)));exact this
  ·exact((Below.refl _ _).drew).alloc (Nat.le_refl _) _
theorem BK (s:ByteArray) (w:World) (hs:s.size<=140737488355328):Calls Tryz.prog 112 #[s] w (ap w (.bool (cQ s))):=by
 obtain⟨R,hR⟩:∃b,cQ s=b:=⟨_,rfl⟩;have HR:=H_ hR;rw[hR];clear hR;go_enter Tryz.func112,Tryz.ntmps112;by_cases h3:s.size=3
 case neg=>
  have hf:=H_ (show R=false by rw[<-HR.o];unfold cQ;simp[h3]);have QD:((s.size:Int)==3)=false:=by simp;omega
  clear h3;go_wp2_with fail;go_ret;exact⟨by rw[hf.o];rfl,Below.refl _ _⟩
 case pos=>
  have HS:=H_ h3;have QD:((s.size:Int)==3)=true:=by simp;omega
  have yP:=H_ (show R= !(decide (0<=ncI s)) by rw[<-HR.o,S9];unfold cQ;simp[h3]);clear h3;go_wp2_with (show wpList _ _ _ (Oper.mk (some 8) _ _ _ _ _::_) _ _;refine Cq (by rfl) (.tmp 7) rfl s rfl (by unfold maxLen;omega) ?_;intro cap w2 hc aU gr KD aH;replace hc:=H_ hc);refine(Zg s w.heap.size cap w2 hc.o aU gr KD).mono ?_;rintro e w3 ⟨rfl,aZ⟩;go_wp2_with fail;go_ret;exact⟨by rw[yP.o];first|rfl|simp,aH.trans (aZ.mono aH.size)⟩
theorem Hp (grp:ByteArray) (aw:ByteArray) (k t v:Int) (w:World) (hs:aw.size<=140737488355328):Calls Tryz.prog 110 #[grp,.agg #[aw,k,t,v]] w (ap w (.bool (eO grp ⟨aw,k,t,v⟩))):=by
 obtain⟨R,hR⟩:∃b,eO grp ⟨aw,k,t,v⟩=b:=⟨_,rfl⟩;have HR:=H_ hR;rw[hR];obtain⟨b1,eL⟩:∃b,cQ aw=b:=⟨_,rfl⟩;have bC:=H_ eL;have HCU:=H_ (λw2:World=>BK aw w2 hs);rw[eL]at HCU;clear hR eL;go_enter Tryz.func110,Tryz.ntmps110;go_upto_region 1 with fail;obtain⟨W,hW,H,HB,HS,ewx⟩:=B_ w (.cells #[aw,k,t,v] 70);rw[hW];clear ewx;clear hW;have HX:=H_ H;have e0:=ab H 0;clear H;go_wp2_with fail;refine(HCU.o W).mono ?_;rintro e w2 ⟨rfl,aH⟩;have aF:=HB.trans (aH.mono HB.size);have qi:=(aH.block _ HS).trans HX.o;have Fv:=H_ qi;have IP:=H_ (ag qi);have c0:=ab qi 0;have c1:=ab qi 1;have c2:=ab qi 2;have c3:=ab qi 3;clear qi e0;cases b1 with
 |false=>
  have hf:=H_ (show R=false by rw[<-HR.o];unfold eO;simp[bC.o]);go_wp2_with fail;go_ret;exact⟨hf.o.symm▸rfl,aF⟩
 |true=>
 by_cases h1:aw=grp
 case pos=>
  have tR:(aw.toList==grp.toList)=true:=by rw[gI,decide_eq_true h1]
  have H1:=H_ h1;clear h1;have hf:=H_ (show R=false by rw[<-HR.o];unfold eO;simp[H1.o]);go_wp2_with fail;go_ret;exact⟨hf.o.symm▸rfl,aF⟩
 case neg=>
 have tR:(aw.toList==grp.toList)=false:=by rw[gI,decide_eq_false h1]
 have H1:=H_ h1;clear h1;by_cases h2:v<1
 case pos=>
  have tt:decide (v<1)=true:=decide_eq_true h2;have H2:=H_ h2;clear h2;have hf:=H_ (show R=false by rw[<-HR.o];unfold eO;rw[decide_eq_false (show ¬(1<=v/\v<=1000000000000) by have:=H2.o;omega)];simp);go_wp2_with fail;go_ret;exact⟨hf.o.symm▸rfl,aF⟩
 case neg=>
 have tt:decide (v<1)=false:=decide_eq_false h2;by_cases h3:1000000000000<v
 case pos=>
  have QD:decide (v>1000000000000)=true:=decide_eq_true h3;have H3:=H_ h3;clear h2 h3;have hf:=H_ (show R=false by rw[<-HR.o];unfold eO;rw[decide_eq_false (show ¬(1<=v/\v<=1000000000000) by have:=H3.o;omega)];simp);go_wp2_with fail;go_ret;exact⟨hf.o.symm▸rfl,aF⟩
 case neg=>
 have QD:decide (v>1000000000000)=false:=decide_eq_false h3;have sU:=H_ (show R=(decide (k=1/\ -25567<=t/\t<=84005)||decide (k=2/\0<=t/\t<120)) by
  rw[<-HR.o];unfold eO;rw[bC.o,decide_eq_true H1.o,decide_eq_true (show 1<=v/\v<=1000000000000 by omega)];simp)
 clear h2 h3;by_cases h4:k=1
 case pos=>
  subst h4;obtain⟨db,Mv⟩:∃b:Bool,decide (inD t)=b:=⟨_,rfl⟩;have hd:=nS t w2;rw[Mv]at hd;have HD:=H_ hd;have hf:=H_ (show R=db by
   rw[sU.o,<-Mv,decide_eq_false (show ¬((1:Int)=2/\0<=t/\t<120) by omega),Bool.or_false];exact decide_eq_decide.2 ⟨λh=>h.2,λh=>⟨rfl,h⟩⟩)
  clear hd Mv;go_wp2_with fail;refine HD.o.mono ?_;rintro e w3 ⟨rfl,aZ⟩;have aR:=aF.trans (aZ.mono aF.size);go_wp2_with fail;go_ret;exact⟨hf.o.symm▸rfl,aR⟩
 case neg=>
 have h4d:(k==1)=false:=by simpa using h4
 by_cases h7:k=2
 case neg=>
  have h7d:(k==2)=false:=by simpa using h7
  have H4:=H_ (And.intro h4 h7);clear h4 h7;have hf:=H_ (show R=false by rw[sU.o];have:=H4.o;simp;omega);go_wp2_with fail;go_ret;exact⟨hf.o.symm▸rfl,aF⟩
 case pos=>
 subst h7;clear h4 h4d;by_cases h5:0<=t
 case neg=>
  have h5d:decide (t≥0)=false:=decide_eq_false h5;have h5e:decide (0<=t)=false:=decide_eq_false h5;have H5:=H_ h5;clear h5;have hf:=H_ (show R=false by rw[sU.o];have:=H5.o;simp;omega);go_wp2_with fail;go_ret;exact⟨hf.o.symm▸rfl,aF⟩
 case pos=>
 have h5d:decide (t≥0)=true:=decide_eq_true h5;have h5e:decide (0<=t)=true:=decide_eq_true h5;have H5:=H_ h5;clear h5;by_cases h6:t<120
 case pos=>
  have h6d:decide (t<120)=true:=decide_eq_true h6;have H6:=H_ h6;clear h6;have hf:=H_ (show R=true by rw[sU.o];have:=H5.o;have:=H6.o;simp;omega);go_wp2_with fail;go_ret;exact⟨hf.o.symm▸rfl,aF⟩
 case neg=>
  have h6d:decide (t<120)=false:=decide_eq_false h6;have H6:=H_ h6;clear h6;have hf:=H_ (show R=false by rw[sU.o];have:=H6.o;simp;omega);go_wp2_with fail;go_ret;exact⟨hf.o.symm▸rfl,aF⟩
theorem EQ (grp:ByteArray) (aw:ByteArray) (k t v:Int) (w:World) (hs:aw.size<=140737488355328):Calls Tryz.prog 67 #[grp,.agg #[aw,k,t,v]] w (ap w (.bool (eO grp ⟨aw,k,t,v⟩))):=by
 obtain⟨R,hR⟩:∃b,eO grp ⟨aw,k,t,v⟩=b:=⟨_,rfl⟩;have HR:=H_ hR;rw[hR];obtain⟨b1,eL⟩:∃b,cQ aw=b:=⟨_,rfl⟩;have bC:=H_ eL;have HCU:=H_ (λw2:World=>xU aw w2 hs);rw[eL]at HCU;clear hR eL;go_enter Tryz.func67,Tryz.ntmps67;go_upto_region 1 with fail;obtain⟨W,hW,H,HB,HS,ewx⟩:=B_ w (.cells #[aw,k,t,v] 70);rw[hW];clear ewx;clear hW;have HX:=H_ H;have e0:=ab H 0;clear H;go_wp2_with fail;refine(HCU.o W).mono ?_;rintro e w2 ⟨rfl,aH⟩;have aF:=HB.trans (aH.mono HB.size);have qi:=(aH.block _ HS).trans HX.o;have Fv:=H_ qi;have IP:=H_ (ag qi);have c0:=ab qi 0;have c1:=ab qi 1;have c2:=ab qi 2;have c3:=ab qi 3;clear qi e0;cases b1 with
 |false=>
  have hf:=H_ (show R=false by rw[<-HR.o];unfold eO;simp[bC.o]);go_wp2_with fail;go_ret;exact⟨hf.o.symm▸rfl,aF⟩
 |true=>
 by_cases h1:aw=grp
 case pos=>
  have tR:(aw.toList==grp.toList)=true:=by rw[gI,decide_eq_true h1]
  have H1:=H_ h1;clear h1;have hf:=H_ (show R=false by rw[<-HR.o];unfold eO;simp[H1.o]);go_wp2_with fail;go_ret;exact⟨hf.o.symm▸rfl,aF⟩
 case neg=>
 have tR:(aw.toList==grp.toList)=false:=by rw[gI,decide_eq_false h1]
 have H1:=H_ h1;clear h1;by_cases h2:v<1
 case pos=>
  have tt:decide (v<1)=true:=decide_eq_true h2;have H2:=H_ h2;clear h2;have hf:=H_ (show R=false by rw[<-HR.o];unfold eO;rw[decide_eq_false (show ¬(1<=v/\v<=1000000000000) by have:=H2.o;omega)];simp);go_wp2_with fail;go_ret;exact⟨hf.o.symm▸rfl,aF⟩
 case neg=>
 have tt:decide (v<1)=false:=decide_eq_false h2;by_cases h3:1000000000000<v
 case pos=>
  have QD:decide (v>1000000000000)=true:=decide_eq_true h3;have H3:=H_ h3;clear h2 h3;have hf:=H_ (show R=false by rw[<-HR.o];unfold eO;rw[decide_eq_false (show ¬(1<=v/\v<=1000000000000) by have:=H3.o;omega)];simp);go_wp2_with fail;go_ret;exact⟨hf.o.symm▸rfl,aF⟩
 case neg=>
 have QD:decide (v>1000000000000)=false:=decide_eq_false h3;have sU:=H_ (show R=(decide (k=1/\ -25567<=t/\t<=84005)||decide (k=2/\0<=t/\t<120)) by
  rw[<-HR.o];unfold eO;rw[bC.o,decide_eq_true H1.o,decide_eq_true (show 1<=v/\v<=1000000000000 by omega)];simp)
 clear h2 h3;by_cases h4:k=1
 case pos=>
  subst h4;obtain⟨db,Mv⟩:∃b:Bool,decide (inD t)=b:=⟨_,rfl⟩;have hd:=mt t w2;rw[Mv]at hd;have HD:=H_ hd;have hf:=H_ (show R=db by
   rw[sU.o,<-Mv,decide_eq_false (show ¬((1:Int)=2/\0<=t/\t<120) by omega),Bool.or_false];exact decide_eq_decide.2 ⟨λh=>h.2,λh=>⟨rfl,h⟩⟩)
  clear hd Mv;go_wp2_with fail;refine HD.o.mono ?_;rintro e w3 ⟨rfl,aZ⟩;have aR:=aF.trans (aZ.mono aF.size);have Bq:=(aZ.block _ IP.o).trans Fv.o;have d1:=ab Bq 1;have d2:=ab Bq 2;clear Bq;cases db with
  |true=>
   go_wp2_with fail;go_ret;exact⟨hf.o.symm▸rfl,aR⟩
  |false=>
   go_wp2_with fail;go_ret;exact⟨hf.o.symm▸rfl,aR⟩
 case neg=>
 have h4d:(k==1)=false:=by simpa using h4
 by_cases h7:k=2
 case neg=>
  have h7d:(k==2)=false:=by simpa using h7
  have H4:=H_ (And.intro h4 h7);clear h4 h7;have hf:=H_ (show R=false by rw[sU.o];have:=H4.o;simp;omega);go_wp2_with fail;go_ret;exact⟨hf.o.symm▸rfl,aF⟩
 case pos=>
 subst h7;clear h4 h4d;by_cases h5:0<=t
 case neg=>
  have h5d:decide (t≥0)=false:=decide_eq_false h5;have h5e:decide (0<=t)=false:=decide_eq_false h5;have H5:=H_ h5;clear h5;have hf:=H_ (show R=false by rw[sU.o];have:=H5.o;simp;omega);go_wp2_with fail;go_ret;exact⟨hf.o.symm▸rfl,aF⟩
 case pos=>
 have h5d:decide (t≥0)=true:=decide_eq_true h5;have h5e:decide (0<=t)=true:=decide_eq_true h5;have H5:=H_ h5;clear h5;by_cases h6:t<120
 case pos=>
  have h6d:decide (t<120)=true:=decide_eq_true h6;have H6:=H_ h6;clear h6;have hf:=H_ (show R=true by rw[sU.o];have:=H5.o;have:=H6.o;simp;omega);go_wp2_with fail;go_ret;exact⟨hf.o.symm▸rfl,aF⟩
 case neg=>
  have h6d:decide (t<120)=false:=decide_eq_false h6;have H6:=H_ h6;clear h6;have hf:=H_ (show R=false by rw[sU.o];have:=H6.o;simp;omega);go_wp2_with fail;go_ret;exact⟨hf.o.symm▸rfl,aF⟩
theorem Ef:(Tryz.prog.info? 161).map (·.size)=some 3:=by kernel_rfl
theorem xS (aw:ByteArray) (k t v:Int) (w:World):Calls Tryz.prog 111 #[.agg #[aw,k,t,v]] w (ap w (.agg #[aw,k,t])):=by
 go_enter Tryz.func111,Tryz.ntmps111;go_upto_region 1 with fail;obtain⟨W,hW,H,HB,HS,ewx⟩:=B_ w (.cells #[aw,k,t,v] 70);rw[hW];clear ewx;obtain⟨W2,fR,H2,dz,jK,ewx⟩:=B_ W (.cells #[.string ⟨#[]⟩,(),()] 161);rw[fR];replace H:=(dz.block _ (ag H)).trans H;clear ewx;clear fR;have eW:W.heap.size=w.heap.size+1:=by rw[<-hW];simp
 rw[eW]at H2;clear hW;have aH:=HB.trans (dz.mono HB.size);have dW:=dz.size;have lV:=ag H2;have nf:w.heap.size<W2.heap.size:=by omega
 have HH:=H_ H;have HZ:=H_ H2;have EW:=H_ eW;clear H H2 eW;have aF:=aH;have ku:=nf;have kt:=lV;have dn:=HH;have qN:=HZ;have c0:=ab dn.o 0;have c1:=ab dn.o 1;have c2:=ab dn.o 2;go_wp2_with (show wpList _ _ _ (Oper.mk none (Op.store _ (Operand.tmp 2) _) _ _ _ _::_) _ _;refine wpList_store_row rfl 161 (.tmp 2) (.tmp 9) rfl (w.heap.size+1) #[aw,k,t] rfl rfl 161 #[.string ⟨#[]⟩,(),()] qN.o (by rw[Ef];rfl) rfl (by simp[Value.oneCell']) ?_);refine bodyPost_ret (v:=_) (eT rfl _ _ (w.heap.size+1) 161 _ (0,0) _ rfl (aB qN.o _) Tryz.underlying161 rfl Ef) rfl ?_;exact⟨rfl,aD aF (by omega) _⟩
theorem AT (aw M4:ByteArray) (k t v k2 t2 v2:Int) (w:World):Calls Tryz.prog 68 #[.agg #[aw,k,t,v],.agg #[M4,k2,t2,v2]] w (ap w (.bool (decide (aw=M4/\k=k2/\t=t2)))):=by
 obtain⟨R,hR⟩:∃b:Bool,decide (aw=M4/\k=k2/\t=t2)=b:=⟨_,rfl⟩;have HR:=H_ hR;rw[hR];clear hR;go_enter Tryz.func68,Tryz.ntmps68;go_upto_region 1 with fail;obtain⟨W,hW,H,HB,HS,ewx⟩:=B_ w (.cells #[aw,k,t,v] 70);rw[hW];clear ewx;obtain⟨W2,fR,H2,dz,jK,ewx⟩:=B_ W (.cells #[M4,k2,t2,v2] 70);rw[fR];replace H:=(dz.block _ (ag H)).trans H;clear ewx;clear fR;have eW:W.heap.size=w.heap.size+1:=by rw[<-hW];simp
 rw[eW]at H2;clear hW;have aH:=HB.trans (dz.mono HB.size);have dW:=dz.size;have lV:=ag H2;have nf:w.heap.size<W2.heap.size:=by omega
 have HH:=H_ H;have HZ:=H_ H2;have EW:=H_ eW;clear H H2 eW;have aF:=aH;have ku:=nf;have kt:=lV;have dn:=HH;have qN:=HZ;have c0:=ab dn.o 0;have c1:=ab dn.o 1;have c2:=ab dn.o 2;have d0:=ab qN.o 0;have d1:=ab qN.o 1;have d2:=ab qN.o 2;by_cases h1:aw=M4
 case neg=>
  have tR:(aw.toList==M4.toList)=false:=by rw[gI,decide_eq_false h1]
  have H1:=H_ h1;clear h1;have hf:=H_ (show R=false by rw[<-HR.o];exact decide_eq_false (λh=>H1.o h.1));go_wp2_with fail;go_ret;exact⟨hf.o.symm▸rfl,aF⟩
 case pos=>
 have tR:(aw.toList==M4.toList)=true:=by rw[gI,decide_eq_true h1]
 have H1:=H_ h1;clear h1;by_cases h2:k=k2
 case neg=>
  have tt:(k==k2)=false:=by simpa using h2
  have H2:=H_ h2;clear h2;have hf:=H_ (show R=false by rw[<-HR.o];exact decide_eq_false (λh=>H2.o h.2.1));go_wp2_with fail;go_ret;exact⟨hf.o.symm▸rfl,aF⟩
 case pos=>
 have tt:(k==k2)=true:=by simpa using h2
 have H2:=H_ h2;clear h2;by_cases h3:t=t2
 case neg=>
  have QD:(t==t2)=false:=by simpa using h3
  have H3:=H_ h3;clear h3;have hf:=H_ (show R=false by rw[<-HR.o];exact decide_eq_false (λh=>H3.o h.2.2));go_wp2_with fail;go_ret;exact⟨hf.o.symm▸rfl,aF⟩
 case pos=>
  have QD:(t==t2)=true:=by simpa using h3
  have H3:=H_ h3;clear h3;have hf:=H_ (show R=true by rw[<-HR.o];exact decide_eq_true ⟨H1.o,H2.o,H3.o⟩);go_wp2_with fail;go_ret;exact⟨hf.o.symm▸rfl,aF⟩
theorem aT:(Tryz.prog.info? 70).map (·.size)=some 4:=by kernel_rfl
def fN (x:aC):List Value:=[.string x.currency,.int .i64 x.kind,.int .i64 x.when_,.int .i64 x.value]
theorem io {w:World} {Q:Nat->Prop} {cs:List Value} {x:aC} (h:bN w Q cs x):cs=fN x/\cx x.kind/\cx x.when_/\cx x.value:=by
 obtain⟨c0,c1,c2,c3,e,h0,h1,h2,h3⟩:=h;have h0:c0=[.string x.currency]:=h0;obtain⟨h1,b1⟩:=h1;obtain⟨h2,b2⟩:=h2;obtain⟨h3,b3⟩:=h3;subst h0 h1 h2 h3;exact⟨e,b1,b2,b3⟩
theorem D4 {rs:List aC} {c:ByteArray} {k w:Int} {i:Nat} (hi:i<rs.length) (he:cW rs[i]=(c,k,w)) (h:∀j (hj:j<rs.length),j<i->cW rs[j]≠(c,k,w)):dq rs c k w=some rs[i].value:=by
 have e:rs.find? (λr=>decide (cW r=(c,k,w)))=some rs[i]:=by
  rw[List.find?_eq_some_iff_getElem];exact⟨by simpa using he,i,hi,rfl,λj hj=>by simpa using h j (by omega) hj⟩
 unfold dq;rw[e];rfl
theorem D5 {rs:List aC} {c:ByteArray} {k w:Int} (h:∀j (hj:j<rs.length),cW rs[j]≠(c,k,w)):dq rs c k w=none:=by
 unfold dq;rw[List.find?_eq_none.2]
 ·rfl
 ·intro r hr;obtain⟨j,hj,rfl⟩:=List.getElem_of_mem hr;simpa using h j hj
theorem sD (rs:List aC) (A:Option Addr) (cc:Nat) (c:ByteArray) (kd tm:Int) (w:World) (hl:aj bN 4 w (·<w.heap.size) [.slice A rs.length cc] rs):Calls Tryz.prog 173 #[.slice A rs.length cc,c,kd,tm] w (ap w (.tuple #[((dq rs c kd tm).getD 0:Int),.bool (dq rs c kd tm).isSome])):=by
 obtain⟨r1,qI⟩:∃z,(dq rs c kd tm).getD 0=z:=⟨_,rfl⟩;obtain⟨r2,nJ⟩:∃z,(dq rs c kd tm).isSome=z:=⟨_,rfl⟩;have HS:=H_ (λ(v:Int) (h:dq rs c kd tm=some v)=>show r1=v/\r2=true by rw[<-qI,<-nJ,h];exact⟨rfl,rfl⟩);have Se:=H_ (λ(h:dq rs c kd tm=none)=>show r1=0/\r2=false by rw[<-qI,<-nJ,h];exact⟨rfl,rfl⟩);rw[qI,nJ];have HL:=H_ hl;have gr:=hl.cap;unfold maxLen at gr;obtain⟨n,hn⟩:=x_ (rs.length);have HN:=H_ hn;rw[hn]at gr |-;clear hl hn qI nJ;go_enter Tryz.func173,Tryz.ntmps173;go_wp2_with fail
 go_loopw [10] (λi wr=>∃k:Nat,k<=n/\i=.int .i64 (k:Int)/\Below w.heap.size w wr/\∀j (hj:j<rs.length),j<k->cW rs[j]≠(c,kd,tm)) (λi _=>n- (intOf i).toNat)
 case atStart=>exact⟨0,by omega,rfl,Below.refl _ _,λj hj h=>by omega⟩
 case round=>
  obtain⟨k,hk,rfl,hb,hall⟩:=hrel;have HA:=H_ hall;clear hall;have bP:=hb.size;by_cases aU:k<n
  case pos=>
   have bq:(k:Int)< (n:Int):=by omega
   have gW:0<n:=by omega
   have bI:k<rs.length:=by rw[HN.o];exact aU
   obtain⟨b,o,es,dj,ed,bL,aS⟩:=aj.get HL.o k bI;subst dj;obtain⟨bE,_⟩:=io bL;rw[bE]at aS;obtain⟨x,hx⟩:=x_ (rs[k]);rw[hx]at aS;have HX:=H_ hx;obtain⟨rc,rk,rt,rv⟩:=x;have eZ:=H_ (show wr.rangeAt b (o+k*4) [rc,rk,rt,rv]from(aS.fr (Fr.ofBelow hb)).range);have HV:=H_ (show wr.cell? ⟨b,o+k*4+3,none⟩=some (.int .i64 rv)from(aS.fr (Fr.ofBelow hb)).c (j:=3) rfl);have tN:=H_ (Nat.lt_of_lt_of_le ed hb.size);obtain⟨eq,Zb⟩:∃b:Bool,decide (rc=c/\rk=kd/\rt=tm)=b:=⟨_,rfl⟩;have hsk:=AT rc c rk rt rv kd tm 0 wr;rw[Zb]at hsk;have J5:=H_ hsk;have Cx:=H_ Zb;clear bL bE aS hx ed hsk Zb;go_wp2_with (refine w_ 20 70 19 b (o+k*4) [rc,rk,rt,rv] eZ.o aT Tryz.underlying70 ?_);refine J5.o.mono ?_;rintro e w2 ⟨rfl,aH⟩;have dA:=hb.trans (aH.mono hb.size);cases eq with
   |true=>
    have lO:=of_decide_eq_true Cx.o;have HF:=H_ (HS.o rv (by
     have h:=D4 (c:=c) (k:=kd) (w:=tm) bI (by rw[HX.o];unfold cW;simp only;rw[lO.1,lO.2.1,lO.2.2]) HA.o;rw[HX.o]at h;exact h))
    have jY:w2.cell? ⟨b,o+k*4+3,none⟩=some (.int .i64 rv):=(aH.cell (p:=⟨b,o+k*4+3,none⟩) tN.o).trans HV.o;clear lO;go_wp2_with fail;go_ret2;exact⟨by rw[HF.o.1,HF.o.2];rfl,dA⟩
   |false=>
    have eP:=H_ (show cW rs[k]≠(c,kd,tm)from λh=>by
     rw[HX.o]at h;unfold cW at h;simp only[Prod.mk.injEq]at h;exact of_decide_eq_false Cx.o h)
    go_wp2_with fail;go_roundw
    case rel=>exact⟨k+1,by omega,by go_num,dA,λj hj m7=>by
     rcases Nat.lt_or_ge j k with h|h
     ·exact HA.o j hj h
     ·obtain rfl:j=k:=by omega
      exact eP.o⟩
    case measure=>first|exact aQ aU|(simp only[intOf];omega)
  case neg=>
   have bq:¬(k:Int)< (n:Int):=by omega
   have HF:=H_ (Se.o (D5 (λj hj=>HA.o j hj (by have:=HN.o;omega))));go_wp2_with fail;go_ret2;exact⟨by rw[HF.o.1,HF.o.2];rfl,hb⟩
def oT (x:ak) (l:List ak):List ak:=l.takeWhile (λy=>decide (ltX y x))++x::l.dropWhile (λy=>decide (ltX y x))
def jV (l:List ak):List ak:=l.foldl (λo x=>oT x o) []
theorem Ij (l:List ak) (x:ak):jV (l++[x])=oT x (jV l):=by unfold jV;rw[List.foldl_append];rfl
theorem sl (x:ak) (l:List ak):(oT x l).Perm (x::l):=by
 unfold oT;refine List.perm_middle.trans ?_;rw[List.takeWhile_append_dropWhile]
theorem sj (x y:ak) (l:List ak):oT x (y::l)=if ltX y x then y::oT x l else x::y::l:=by
 unfold oT;by_cases h:ltX y x
 ·rw[if_pos h,List.takeWhile_cons_of_pos (by simpa using h),List.dropWhile_cons_of_pos (by simpa using h)];rfl
 ·rw[if_neg h,List.takeWhile_cons_of_neg (by simpa using h),List.dropWhile_cons_of_neg (by simpa using h)];rfl
theorem tf (x:ak):∀(l:List ak),l.Pairwise ltX->(∀y∈l,y.id≠x.id)->(oT x l).Pairwise ltX
 |[],_,_=>by simp[oT]
 |y::l,h,hd=>by
  rw[sj];rw[List.pairwise_cons]at h;split
  ·rename_i hl;rw[List.pairwise_cons];refine⟨λz hz=>?_,tf x l h.2 (λz hz=>hd z (List.mem_cons_of_mem _ hz))⟩;rcases List.mem_cons.1 ((sl x l).mem_iff.1 hz)with e|hz
   ·rw[e];exact hl
   ·exact h.1 z hz
  ·rename_i hl;have hx:ltX x y:=by
    have:=hd y (List.mem_cons_self ..);unfold ltX at hl |-;omega
   rw[List.pairwise_cons,List.pairwise_cons];refine⟨λz hz=>?_,h⟩;rcases List.mem_cons.1 hz with e|hz
   ·rw[e];exact hx
   ·exact akE hx (h.1 z hz)
theorem AU:∀(l o:List ak),o.Pairwise ltX->((o++l).map (·.id)).Nodup->(l.foldl (λo x=>oT x o) o).Perm (o++l)/\(l.foldl (λo x=>oT x o) o).Pairwise ltX
 |[],o,h,_=>⟨by simp,h⟩
 |x::l,o,h,hn=>by
  have hp:(oT x o++l).Perm (o++x::l):=((sl x o).append_right l).trans List.perm_middle.symm;have hd:∀y∈o,y.id≠x.id:=λy hy e=>by
   rw[List.map_append,List.map_cons]at hn;have h1:=(List.nodup_append.1 hn).2.2;exact h1 y.id (List.mem_map.2 ⟨y,hy,rfl⟩) x.id (List.mem_cons_self ..) e
  obtain⟨i1,i2⟩:=AU l (oT x o) (tf x o h hd) ((hp.map _).nodup_iff.2 hn);exact⟨i1.trans hp,i2⟩
theorem mu {l:List ak} (hn:(l.map (·.id)).Nodup):xw l (jV l):=by
 have:=AU l [] List.Pairwise.nil (by simpa using hn);rw[List.nil_append]at this;exact this
theorem xw.filter {es fs:List ak} (h:xw es fs) (q:ak->Bool):xw (es.filter q) (fs.filter q):=⟨h.1.filter q,h.2.filter q⟩
theorem ri {g:au} {es:List ak} (h:okJ g es):(es.map (·.id)).Nodup:=by
 rw[List.nodup_iff_pairwise_ne,List.pairwise_iff_getElem];intro i j hi hj Gb e;simp only[List.length_map]at hi hj;simp only[List.getElem_map]at e;have h1:=(rp (h j hj)).2.1;have h2:=Lw h1 es[i] (List.mem_take_iff_getElem.2 ⟨i,by omega,rfl⟩);exact h2 e
theorem fU {l:List ak} (q:ak->Bool) (h:(l.map (·.id)).Nodup):((l.filter q).map (·.id)).Nodup:=h.sublist (List.filter_sublist.map _)
instance (g:au) (es:List ak):Decidable (okJ g es):=inferInstanceAs (Decidable (∀k (h:k<es.length),eF g (es.take k) es[k]=0))
def cE (b:XBk):Prop:=bh b.g=true/\okJ b.g b.es/\dJ b.g.currency b.rs
instance (b:XBk):Decidable (cE b):=inferInstanceAs (Decidable (_/\_/\_))
theorem cE.j {b:XBk} (h:cE b):kQ b.g b.es:=⟨h.1,h.2.1⟩
def eN (b:XBk) (p:Int):Prop:=0<=p/\p<b.g.calendar.periods
def dZ (b:XBk) (ent:Int):Prop:=0<=ent/\ent<b.g.entities.length
instance (b:XBk) (p:Int):Decidable (eN b p):=inferInstanceAs (Decidable (_/\_))
instance (b:XBk) (p:Int):Decidable (dZ b p):=inferInstanceAs (Decidable (_/\_))
def fH (b:XBk) (ent p:Int):Int:=if cE b then(if dZ b ent/\eN b p then 0 else 2)else 1
def gJ (es:List ak) (ent t:Int):List ak:=es.filter (λx=>decide (x.entity=ent/\x.date<=t))
def Je (b:XBk) (ent p:Int):List ak:=jV (gJ b.es ent (bA b.g p))
def pQ (b:XBk) (ent p:Int):List bW × Int:=if fH b ent p=0 then ZA b p (Je b ent p)else([],fH b ent p)
theorem OY {b:XBk} (h:cE b) (ent p:Int):xw (gJ b.es ent (bA b.g p)) (Je b ent p):=mu (fU _ (ri h.2.1))
theorem Lj {b:XBk} (h:cE b) {ent p:Int} {x:ak}:x∈Je b ent p↔x∈b.es/\x.entity=ent/\x.date<=bA b.g p:=by
 rw[(OY h ent p).1.mem_iff];unfold gJ;rw[List.mem_filter,decide_eq_true_iff]
theorem vN {b:XBk} {ent p:Int} (h:fH b ent p=0):cE b/\dZ b ent/\eN b p:=by
 unfold fH at h;by_cases h1:cE b
 ·rw[if_pos h1]at h;by_cases h2:dZ b ent/\eN b p
  ·exact⟨h1,h2⟩
  ·rw[if_neg h2]at h;cases h
 ·rw[if_neg h1]at h;cases h
theorem SA {b:XBk} {ent p:Int} (h1:cE b) (h2:dZ b ent) (h3:eN b p):fH b ent p=0:=by
 unfold fH;rw[if_pos h1,if_pos ⟨h2,h3⟩]
theorem SB {b:XBk} {ent p:Int} (h1:¬cE b):fH b ent p=1:=by
 unfold fH;rw[if_neg h1]
theorem SC {b:XBk} {ent p:Int} (h1:cE b) (h2:¬(dZ b ent/\eN b p)):fH b ent p=2:=by
 unfold fH;rw[if_pos h1,if_neg h2]
theorem fy {g:au} (h:bh g=true):du g.calendar.year g.calendar.month g.calendar.periods=true:=by
 unfold bh at h;simp only[Bool.and_eq_true]at h;exact h.1.1.1.1.2
theorem Aq {g:au} (h:bh g=true) {q:Nat} (hq:q<g.entities.length):cQ g.entities[q].currency=true/\pV g.entities[q].chart g.chart g.entities[q].links=true:=by
 unfold bh at h;simp only[Bool.and_eq_true]at h;have h1:=h.2;unfold DX at h1;have h2:=Ad h1 hq;unfold mK at h2;rw[List.getElem?_eq_getElem hq]at h2;simp only[Bool.and_eq_true]at h2;have h3:=h2.2;unfold dP at h3;simp only[Bool.and_eq_true]at h3;have h4:=h3.1.2;unfold n8 at h4;simp only[Bool.and_eq_true]at h4;exact⟨h3.1.1.2,h4.2⟩
theorem GY:∀(ls:List bu) (code day:Int) (l:bu),js ls code day=some l->l∈ls/\l.from_=code/\l.since<=day:=by
 have ir:∀(ls:List bu) (code day:Int) (o:Option bu) (l:bu),ls.foldl (zw code day) o=some l->o=some l\/(l∈ls/\l.from_=code/\l.since<=day):=by
  intro ls
  induction ls with
  |nil=>intro code day o l h;exact .inl h
  |cons x ls ih=>
   intro code day o l h;rcases ih code day _ l h with h|h
   ·unfold zw at h;split at h
    ·rename_i hc;cases h;exact .inr ⟨List.mem_cons_self ..,hc.1,hc.2.1⟩
    ·exact .inl h
   ·exact .inr ⟨List.mem_cons_of_mem _ h.1,h.2⟩
 intro ls code day l h;rcases ir ls code day none l h with h|h
 ·cases h
 ·exact h
theorem S4 {g:au} (hg:bh g=true) {q:Nat} (hq:q<g.entities.length) {code day:Int} (h:(gz g.entities[q] code day).2=0):∃a b,aK g.entities[q].chart code=some a/\aK g.chart (gz g.entities[q] code day).1=some b/\a.kind=b.kind:=by
 obtain⟨_,hl⟩:=Aq hg hq;unfold gz at h |-;split at h
 ·cases h
 rename_i h1;rw[if_neg h1];split at h
 ·cases h
 rename_i h2;rw[if_neg h2];cases ho:js g.entities[q].links code day with
 |none=>rw[ho]at h;cases h
 |some l=>
  obtain⟨h3,h4,_⟩:=GY _ _ _ _ ho;obtain⟨k,hk,rfl⟩:=List.getElem_of_mem h3;unfold pV at hl;have h5:=Ad hl hk;unfold gF at h5;rw[List.getElem?_eq_getElem hk]at h5;simp only[Bool.and_eq_true]at h5;have h6:=h5.1;unfold n0 at h6;rw[h4]at h6;cases ha:aK g.entities[q].chart code with
  |none=>rw[ha]at h6;cases h6
  |some a=>
   rw[ha]at h6;simp only at h6;cases hb:aK g.chart g.entities[q].links[k].to_ with
   |none=>rw[hb]at h6;cases h6
   |some b=>
    rw[hb]at h6;simp only[Bool.and_eq_true,beq_iff_eq]at h6;exact⟨a,b,rfl,rfl,h6.1⟩
theorem Ei {g:au} (hg:bh g=true) {p:Int} (hp:0<=p/\p<g.calendar.periods):bA g p=ff (bw g.calendar.year g.calendar.month p):=by
 unfold bA bH bo;rw[if_pos (by rw[if_pos (fy hg),if_pos hp])]
theorem An {g:au} (hg:bh g=true) {p:Int} (hp:0<=p/\p<g.calendar.periods):lJ g p=da (bw g.calendar.year g.calendar.month p):=by
 unfold lJ aX bo;rw[if_pos (by rw[if_pos (fy hg),if_pos hp])]
theorem Tm {g:au} (hg:bh g=true) {p:Int} (hp:0<=p/\p<g.calendar.periods):inY (bw g.calendar.year g.calendar.month p/ 12):=(ig (fy hg) hp.1 hp.2).2.2.2.2.2
theorem B6 {N:Int} (h:inY (N/ 12)):inD (ff N)/\da N<=ff N:=by
 have h1:=(im h).2.2.2.2.1;have h2:=Jl h;have hd:=nR (y:=N/ 12) (m:=N%12+1) h (by omega) (by omega);have hci:qP (ff N) (N/ 12) (N%12+1) (ck (N/ 12) (N%12+1)):=by
  refine⟨h,by omega,by omega,by omega,Int.le_refl _,?_⟩;unfold ff da;rw[show N%12+1- 1=N%12 from by omega]
 have a:=hci.year.2;have b:=(oE h).1;have hb:=gN (show N/ 12+1<=2200 by have:=h.2;omega);rw[tZ]at hb;unfold inD at*;have:=h.2;exact⟨⟨by omega,by omega⟩,h2⟩
theorem nX {g:au} (hg:bh g=true) {p:Int} (hp:0<=p/\p<g.calendar.periods):inD (bA g p):=by
 rw[Ei hg hp];exact(B6 (Tm hg hp)).1
theorem Js {g:au} (hg:bh g=true) {d:Int} (h:(cT g.calendar.year g.calendar.month g.calendar.periods d).2=0):(0<=iC g d/\iC g d<g.calendar.periods)/\lJ g (iC g d)<=d/\d<=bA g (iC g d)/\inD d:=by
 have hc:=fy hg;have e:iC g d=(cT g.calendar.year g.calendar.month g.calendar.periods d).1:=rfl;unfold cT at h e;cases hp:rm g.calendar.year g.calendar.month g.calendar.periods d with
 |none=>rw[hp]at h;cases h
 |some p=>
  rw[hp]at e;simp only at e;obtain⟨h1,h2,h3⟩:=rn hc hp;have hn:=of_decide_eq_true hc;have hb:0<=iC g d/\iC g d<g.calendar.periods:=by omega
  rw[An hg hb,Ei hg hb,e];exact⟨by omega,h2,h3,Jt hc h1 h2 h3⟩
theorem oz {b:XBk} (h:cE b) {x:ak} (hx:x∈b.es):(cT b.g.calendar.year b.g.calendar.month b.g.calendar.periods x.date).2=0:=by
 have h1:=(zx h.j hx).2.1;rw[Pu (fy h.1),if_pos h1]
structure ab0 (b:XBk) (ent code date p:Int):Prop where
 map:(gz (b.g.entities.getD ent.toNat {}) code (bA b.g p)).2=0
 acc:∃a,aK b.g.chart (gz (b.g.entities.getD ent.toNat {}) code (bA b.g p)).1=some a/\dM b ent code date p=((gz (b.g.entities.getD ent.toNat {}) code (bA b.g p)).1,kP b (b.g.entities.getD ent.toNat {}).currency a.basis date p)
theorem me {b:XBk} {ent:Int} (he:dZ b ent):∃q:Nat,∃hq:q<b.g.entities.length,ent=(q:Int)/\b.g.entities.getD ent.toNat {}=b.g.entities[q]:=by
 refine⟨ent.toNat,by have:=he.2;have:=he.1;omega,by have:=he.1;omega,?_⟩;rw[List.getD_eq_getElem?_getD,List.getElem?_eq_getElem (by have:=he.2;have:=he.1;omega)];rfl
theorem AA {b:XBk} (h:cE b) {ent:Int} (he:dZ b ent) {code date p:Int} (hm:(gz (b.g.entities.getD ent.toNat {}) code (bA b.g p)).2=0):ab0 b ent code date p:=by
 refine⟨hm,?_⟩;obtain⟨q,hq,_,e⟩:=me he;have jA:=hm;rw[e]at jA;obtain⟨a,b1,h1,h2,h3⟩:=S4 h.1 hq jA;rw[<-e]at h2;refine⟨b1,h2,?_⟩;unfold dM;simp only;rw[if_neg (by simpa using hm),h2]
theorem Ej {b:XBk} {ent:Int} {code date p:Int} (hm:(gz (b.g.entities.getD ent.toNat {}) code (bA b.g p)).2≠0):dM b ent code date p=(0,0,15):=by
 unfold dM;simp only;rw[if_pos hm]
theorem aki {b:XBk} {x:ak} {k:Nat} {p:Int} (h:(jr b x k p).2=0):
 (dM b x.entity (x.lines.getD k {}).account x.date p).2.2=0/\(cN (x.lines.getD k {}).amount (dM b x.entity (x.lines.getD k {}).account x.date p).2.1).2=0/\
 (jr b x k p).1=⟨⟨x.id,(k:Int)⟩,x.entity,lK b.g (dM b x.entity (x.lines.getD k {}).account x.date p).1 x.date p,(x.lines.getD k {}).partner,x.date,(cN (x.lines.getD k {}).amount (dM b x.entity (x.lines.getD k {}).account x.date p).2.1).1⟩:=by
 unfold jr at h |-;simp only at h |-;by_cases h1:(dM b x.entity (x.lines.getD k {}).account x.date p).2.2≠0
 ·rw[if_pos h1]at h;exact absurd h h1
 rw[if_neg h1]at h |-;by_cases h2:(cN (x.lines.getD k {}).amount (dM b x.entity (x.lines.getD k {}).account x.date p).2.1).2≠0
 ·rw[if_pos h2]at h;cases h
 rw[if_neg h2]at h |-;exact⟨by simpa using h1,by simpa using h2,rfl⟩
theorem ak0 {b:XBk} {ent p:Int} (h:(pQ b ent p).2≠0):(pQ b ent p).1=[]:=by
 unfold pQ at h |-;by_cases h1:fH b ent p=0
 ·rw[if_pos h1]at h |-;exact agw h
 ·rw[if_neg h1]
theorem rl {b:XBk} {ent p:Int} (h:(pQ b ent p).2=0):fH b ent p=0/\(∀x∈Je b ent p,∀j<x.lines.length,(jr b x j p).2=0)/\(pQ b ent p).1=(Je b ent p).flatMap (λx=>(List.range x.lines.length).map (λj=>(jr b x j p).1)):=by
 unfold pQ at h |-;by_cases h1:fH b ent p=0
 ·rw[if_pos h1]at h |-;obtain⟨h2,h3⟩:=ale h;refine⟨h1,λx hx j hj=>h2 _ (List.mem_flatMap.2 ⟨x,hx,List.mem_map.2 ⟨j,List.mem_range.2 hj,rfl⟩⟩),?_⟩;unfold ZA;rw[h3,List.map_flatMap]
  congr 1
  funext x
  unfold kx;rw[List.map_map];rfl
 ·rw[if_neg h1]at h;exact absurd h h1
theorem akq {t:Int}:∀{l:List ak},l.Pairwise ltX->l=l.filter (λx=>decide (x.date<=t))++l.filter (λx=> !decide (x.date<=t))
 |[],_=>rfl
 |x::l,h=>by
  rw[List.pairwise_cons]at h;have ih:=akq (t:=t) h.2;by_cases hx:x.date<=t
  ·rw[List.filter_cons_of_pos (by simpa using hx),List.filter_cons_of_neg (by simpa using hx),List.cons_append,<-ih]
  ·have hn:l.filter (λx=>decide (x.date<=t))=[]:=by
    rw[List.filter_eq_nil_iff];intro y hy;have:=h.1 y hy;unfold ltX at this;simp only[decide_eq_true_eq];omega
   rw[hn,List.nil_append]at ih;rw[List.filter_cons_of_neg (by simpa using hx),List.filter_cons_of_pos (by simpa using hx),hn,List.nil_append,<-ih]
theorem aku {g:au} (hg:bh g=true) {p:Int} (hp:0<=p/\p<g.calendar.periods) (h1:1<=p):bA g (p- 1)+1=lJ g p:=by
 have QQ:0<=p- 1/\p- 1<g.calendar.periods:=by omega
 rw[Ei hg QQ,An hg hp,Ex (Tm hg QQ)];unfold bw;rw[show 12*g.calendar.year+g.calendar.month- 1+(p- 1)+1=12*g.calendar.year+g.calendar.month- 1+p by omega]
theorem alB {g:au} (hg:bh g=true) {p:Int} (hp:0<=p/\p<g.calendar.periods):lJ g p<=bA g p:=by
 rw[Ei hg hp,An hg hp];exact Jl (Tm hg hp)
theorem akQ {b:XBk} (hb:cE b) {ent p:Int} (hp:eN b p) (h1:1<=p):Je b ent p=Je b ent (p- 1)++(Je b ent p).filter (λx=>decide (lJ b.g p<=x.date)):=by
 have hs:=(OY hb ent p).2;have h2:=akq (t:=bA b.g (p- 1)) hs;have gm:=aku hb.1 hp h1;have ID:=alB hb.1 hp;have h3:xw (gJ b.es ent (bA b.g (p- 1))) ((Je b ent p).filter (λx=>decide (x.date<=bA b.g (p- 1)))):=by
  have h4:=(OY hb ent p).filter (λx=>decide (x.date<=bA b.g (p- 1)));have e:(gJ b.es ent (bA b.g p)).filter (λx=>decide (x.date<=bA b.g (p- 1)))=gJ b.es ent (bA b.g (p- 1)):=by
   unfold gJ;rw[List.filter_filter];refine List.filter_congr (λx _=>?_);rw[<-Bool.decide_and];refine decide_eq_decide.2 ⟨λh=>⟨h.2.1,h.1⟩,λh=>⟨h.2,h.1,by omega⟩⟩
  rw[e]at h4;exact h4
 rw[h3.uniq (OY hb ent (p- 1))]at h2;have e:(Je b ent p).filter (λx=> !decide (x.date<=bA b.g (p- 1)))=(Je b ent p).filter (λx=>decide (lJ b.g p<=x.date)):=by
  refine List.filter_congr (λx _=>?_);rw[<-decide_not];exact decide_eq_decide.2 ⟨λh=>by omega,λh=>by omega⟩
 rw[e]at h2;exact h2
def ako (b:XBk) (p:Int) (l:List ak):List bW:=l.flatMap (λx=>(List.range x.lines.length).map (λj=>(jr b x j p).1))
theorem akZ {b:XBk} {ent p:Int} {B:List bW} (h:(pQ b ent p).2=0) (hB:(p=0/\B=[])\/(1<=p/\pQ b ent (p- 1)=(B,0))):
 B.length<=(pQ b ent p).1.length/\(∀i (h1:i<B.length) (h2:i< (pQ b ent p).1.length),(pQ b ent p).1[i].date<lJ b.g p/\(pQ b ent p).1[i].ref=B[i].ref)/\
  ∀i (h2:i< (pQ b ent p).1.length),B.length<=i->lJ b.g p<=(pQ b ent p).1[i].date:=by
 obtain⟨h1,h2,h3⟩:=rl h;obtain⟨hb,he,hp⟩:=vN h1;have alr:∀x∈Je b ent p,∀i∈(List.range x.lines.length).map (λj=>(jr b x j p).1),i.date=x.date:=by
  intro x hx i hi;obtain⟨j,hj,rfl⟩:=List.mem_map.1 hi;rw[(aki (h2 x hx j (List.mem_range.1 hj))).2.2]
 rcases hB with⟨rfl,rfl⟩|⟨QQ,hB⟩
 ·refine⟨Nat.zero_le _,λi h1=>absurd h1 (by simp),λi hi _=>?_⟩;obtain⟨it,RN⟩:=x_ ((pQ b ent 0).1[i]);have hm:it∈(pQ b ent 0).1:=RN▸List.getElem_mem hi;rw[RN];rw[h3]at hm;obtain⟨x,hx,ja⟩:=List.mem_flatMap.1 hm;rw[alr x hx _ ja];have QJ:=((Lj (p:=0) (ent:=ent) hb).1 hx).1;have lN:=(zx hb.j QJ).2.1;rw[An hb.1 hp];exact(of_decide_eq_true lN).1
 ·have yH:(pQ b ent (p- 1)).2=0:=by rw[hB]
  obtain⟨k1,k2,k3⟩:=rl yH;rw[hB]at k3;simp only at k3;have hsp:=akQ hb hp QQ (ent:=ent);have gm:=aku hb.1 hp QQ;obtain⟨N,hN⟩:=x_ ((Je b ent p).filter (λx=>decide (lJ b.g p<=x.date)));rw[hN]at hsp;have hNd:∀x∈N,lJ b.g p<=x.date/\x∈Je b ent p:=λx hx=>by
   rw[<-hN]at hx;have:=List.mem_filter.1 hx;exact⟨by simpa using this.2,this.1⟩
  have hPd:∀x∈Je b ent (p- 1),x.date<lJ b.g p/\x∈Je b ent p:=λx hx=>by
   have:=((Lj (p:=p- 1) (ent:=ent) hb).1 hx).2.2;exact⟨by omega,by rw[hsp];exact List.mem_append_left _ hx⟩
  have e:(pQ b ent p).1=ako b p (Je b ent (p- 1))++ako b p N:=by
   rw[h3,hsp];unfold ako;rw[List.flatMap_append]
  obtain⟨O,hO⟩:=x_ (ako b p (Je b ent (p- 1)));have hrel:∀l:List ak,(∀x∈l,x∈Je b ent (p- 1))->(ako b p l).map (·.ref)=(ako b (p- 1) l).map (·.ref):=by
   intro l hl;unfold ako;rw[List.map_flatMap,List.map_flatMap,List.flatMap_def,List.flatMap_def]
   congr 1
   refine List.map_congr_left (λx hx=>?_);rw[List.map_map,List.map_map];refine List.map_congr_left (λj hj=>?_);have hj:=List.mem_range.1 hj;show(jr b x j p).1.ref=(jr b x j (p- 1)).1.ref;rw[(aki (h2 x (hPd x (hl x hx)).2 j hj)).2.2,(aki (k2 x (hl x hx) j hj)).2.2]
  have ak6:=hrel _ (λx hx=>hx);rw[hO]at ak6 e;have hBe:ako b (p- 1) (Je b ent (p- 1))=B:=k3.symm;rw[hBe]at ak6;have eX:O.length=B.length:=by simpa using congrArg List.length ak6
  obtain⟨Z,hZ⟩:=x_ ((pQ b ent p).1);rw[hZ]at e |-;refine⟨by rw[e,List.length_append];omega,λi h1 h4=>?_,λi h4 h5=>?_⟩
  ·have hiO:i<O.length:=by omega
   have ez:Z[i]=O[i]:=by
    subst e;exact List.getElem_append_left hiO
   rw[ez];refine⟨?_,?_⟩
   ·obtain⟨it,RN⟩:=x_ (O[i]);have hm:it∈O:=RN▸List.getElem_mem hiO;rw[RN];rw[<-hO]at hm;unfold ako at hm;obtain⟨x,hx,ja⟩:=List.mem_flatMap.1 hm;rw[alr x (hPd x hx).2 _ ja];exact(hPd x hx).1
   ·have h6:(O.map (·.ref))[i]'(by simpa using hiO)=(B.map (·.ref))[i]'(by simpa using h1):=by simp only[ak6]
    simpa using h6
  ·have hiN:i- O.length< (ako b p N).length:=by
    rw[e,List.length_append]at h4;omega
   have ez:Z[i]=(ako b p N)[i- O.length]:=by
    subst e;exact List.getElem_append_right (by omega)
   rw[ez];obtain⟨it,RN⟩:=x_ ((ako b p N)[i- O.length]);have hm:it∈ako b p N:=RN▸List.getElem_mem hiN;rw[RN];unfold ako at hm;obtain⟨x,hx,ja⟩:=List.mem_flatMap.1 hm;rw[alr x (hNd x hx).2 _ ja];exact(hNd x hx).1
end
section
open Go Go.RowKit
open Go.Maps (Keyed)
open Go.WideMaps (KeyLaw)
theorem PX:(161:TypeId)<Tryz.prog.types.size:=of_decide_eq_true K_
theorem L6:(match Tryz.prog.underlying 161 with|some (.array _ _)|some (.struct _)=>true|_=>false)=true:=by kernel_rfl
theorem PW:KeyLaw Tryz.prog 161:=deep_law_laid lA (m:=2) (by omega) PX K_ L6
theorem mV:Keyed Tryz.prog 161:=Keyed.of_law PW
theorem Qi:Tryz.prog.underlying 9=some .string:=by kernel_rfl
theorem In:Tryz.prog.cellsOf 9=1:=by kernel_rfl
theorem yf:Tryz.prog.cellsOf 161=3:=by kernel_rfl
theorem Eh {d:Nat} {s:ByteArray} (h:s.size<=maxLen):Tryz.prog.keyLits (d+1) 9 [s]=some [.string s.data.toList]:=by
 unfold Program.keyLits;rw[Qi];simp[h]
theorem Ci {d:Nat} {s:ByteArray} {a z:Int} (hs:s.size<=maxLen) (ha:cx a) (hz:cx z):Tryz.prog.keyLits (d+2) 161 [s,a,z]=some [.string s.data.toList,.int .i64 a,.int .i64 z]:=by
 unfold Program.keyLits;rw[Tryz.underlying161];have h0:=Eh (d:=d) hs;have h1:=f7 (d:=d) ha;have h2:=f7 (d:=d) hz;simp[yf,mh,In,h0,h1,h2]
theorem Cj:Tryz.prog.keyType 161=true:=by kernel_rfl
theorem pw:∃fs,Tryz.prog.underlying 161=some (.struct fs):=⟨_,Tryz.underlying161⟩
theorem EJ {a b c:Value}:(Value.agg #[a,b,c]).formed Tryz.prog 161=true:=by
 obtain⟨fs,hu⟩:=pw;simp[Value.formed,hu,yf]
abbrev RK:={p:ByteArray × Int × Int // p.1.size<=maxLen/\cx p.2.1/\cx p.2.2}
def xZ (c:RK):Lit:=.string (keyBytes [.string c.1.1.data.toList,.int .i64 c.1.2.1,.int .i64 c.1.2.2])
def VP (c:RK):Value:=.agg #[c.1.1,c.1.2.1,c.1.2.2]
theorem yb (c:RK):keyOf Tryz.prog 161 (VP c)=some (xZ c):=by
 obtain⟨fs,hu⟩:=pw;obtain⟨d,hd⟩:=mW;unfold keyOf VP;rw[hu];simp only[Cj,EJ,Bool.and_self,if_true,hd,Value.cells];rw[Ci c.2.1 c.2.2.1 c.2.2.2];rfl
theorem L4 (x y:RK) (h:xZ x=xZ y):x=y:=by
 have h1:=yb x;have h2:=yb y;rw[<-h]at h2;have h3:=mV.inj h1 h2;have h4:=congrArg Array.toList (Value.agg.inj h3);simp only[List.cons.injEq,Value.string.injEq,Value.int.injEq,true_and,and_true]at h4;exact Subtype.ext (Prod.ext h4.1 (Prod.ext h4.2.1 h4.2.2))
theorem L5 (x:RK):WideAt.IsKeyLit (xZ x):=trivial
theorem yg:Tryz.prog.underlying 159=some (.map 161 4):=by kernel_rfl
abbrev aep (w:World) (b n:Nat) (f:RK->Bool):Prop:=pd Tryz.prog 161 4 xZ w b n f
def yr (rs:List aC) (k:Nat) (c:RK):Bool:=(rs.take k).any λx=>decide (cW x=c.1)
theorem Ih {rs:List aC} {k:Nat} (hk:k<rs.length) {c:RK} (hc:c.1=cW rs[k]) {F:RK->Bool} (hF:yr rs k=F) (d:RK):(if d=c then true else F d)=yr rs (k+1) d:=by
 unfold yr;rw[iV hk,<-hF];by_cases h:d=c
 ·rw[if_pos h,h,decide_eq_true hc.symm];simp
 ·rw[if_neg h,decide_eq_false (λe=>h (Subtype.ext (e.symm.trans hc.symm))),Bool.or_false];rfl
theorem AY {grp:ByteArray} {rs:List aC} {k:Nat} (hk:k<rs.length) (h:eO grp rs[k]=false):¬dJ grp rs:=λhv=>by
 have:=hv.1 _ (List.getElem_mem hk);rw[h]at this;cases this
theorem ace {rs:List aC} {k:Nat} (hk:k<rs.length) (h:((rs.take k).map cW).Nodup) (hn:((rs.take k).any λx=>decide (cW x=cW rs[k]))=false):((rs.take (k+1)).map cW).Nodup:=by
 rw[List.take_add_one,List.getElem?_eq_getElem hk,List.map_append];refine List.nodup_append.2 ⟨h,by simp,λx hx y hy=>?_⟩;obtain⟨r,hr,rfl⟩:=List.mem_map.1 hx;rw[List.any_eq_false]at hn;have:=hn r hr;simp only[Option.toList,List.map_cons,List.map_nil,List.mem_singleton]at hy;rw[hy];simpa using this
theorem AZ {grp:ByteArray} {rs:List aC} {k:Nat} (hk:k<rs.length) (h:((rs.take k).any λx=>decide (cW x=cW rs[k]))=true):¬dJ grp rs:=λhv=>by
 obtain⟨r,hr,he⟩:=List.any_eq_true.1 h;have he:=of_decide_eq_true he;have hn:=hv.2.1;have e:=(List.take_append_drop k rs).symm;rw[List.drop_eq_getElem_cons hk]at e;rw[e,List.map_append,List.map_cons]at hn;exact(List.nodup_append.1 hn).2.2 _ (List.mem_map.2 ⟨r,hr,rfl⟩) _ (List.mem_cons_self ..) he
theorem sK (grp:ByteArray) (rs:List aC) (A:Option Addr) (cc:Nat) (w:World) (hl:aj bN 4 w (·<w.heap.size) [.slice A rs.length cc] rs) (bP:∀r∈rs,r.currency.size<=140737488355328) (kC:grp.size<=140737488355328) (hm:rs.length<=100000):
 Calls Tryz.prog 79 #[grp,.slice A rs.length cc] w (ap w (.bool (decide (dJ grp rs)))):=by
 have Iz:=@run_makeMap Tryz.prog;obtain⟨R,hR⟩:∃b:Bool,decide (dJ grp rs)=b:=⟨_,rfl⟩;have HR:=H_ hR;rw[hR];clear hR;have HL:=H_ hl;have N2:=H_ bP;have fu:=H_ kC;obtain⟨n,hn⟩:=x_ (rs.length);have HN:=H_ hn;rw[hn]at hm |-;clear hl hn bP kC;go_enter Tryz.func79,Tryz.ntmps79;go_upto_region 2 with fail;have CO:=pd.made Tryz.prog 161 4 xZ w;have Fx:=ai w (.map #[] 0);have HS0:w.heap.size< (w.alloc (.map #[] 0)).heap.size:=by simp
 generalize Q5:w.alloc (Obj.map #[] 0)=W0 at*;clear Q5;go_wp2_with fail
 go_loopw [11] (λi wr=>∃k:Nat,k<=n/\i=.int .i64 (k:Int)/\Below w.heap.size w wr/\aep wr w.heap.size k (yr rs k)/\(∀j (hj:j<rs.length),j<k->eO grp rs[j]=true)/\((rs.take k).map cW).Nodup) (λi _=>n- (intOf i).toNat)
 case atStart=>exact⟨0,by omega,rfl,Fx,CO.eqv (λ_=>rfl),λj hj h=>by omega,by simp⟩
 case round=>
  obtain⟨k,hk,rfl,hb,fD,hall,N4⟩:=hrel;have HA:=H_ hall;have Vi:=H_ N4;have bP:=hb.size;clear hall N4;by_cases aU:k<n
  case pos=>
   have bq:(k:Int)< (n:Int):=by omega
   have gW:0<n:=by omega
   have bI:k<rs.length:=by rw[HN.o];exact aU
   obtain⟨b,o,es,dj,ed,bL,aS⟩:=aj.get HL.o k bI;subst dj;obtain⟨bE,eL,aH,aZ⟩:=io bL;rw[bE]at aS;have T2:=N2.o _ (List.getElem_mem bI);obtain⟨x,hx⟩:=x_ (rs[k]);rw[hx]at aS eL aH aZ T2;have HX:=H_ hx;obtain⟨rc,rk,rt,rv⟩:=x;have eZ:=H_ (show wr.rangeAt b (o+k*4) [rc,rk,rt,rv]from(aS.fr (Fr.ofBelow hb)).range);obtain⟨F,hF⟩:=x_ (yr rs k);rw[hF]at fD;have HF:=H_ hF;obtain⟨c0,sM⟩:∃c:RK,c=⟨(rc,rk,rt),by have h:rc.size<=140737488355328:=T2;simp only[maxLen];exact Nat.le_trans h (by decide),eL,aH⟩:=⟨_,rfl⟩;have vp:=H_ (show keyOf Tryz.prog 161 (.agg #[rc,rk,rt])=some (xZ c0) by have h:=yb c0;rw[sM]at h |-;exact h);have m8:=H_ (show c0.1=cW rs[k] by rw[sM,hx];rfl);have HRZ:=H_ T2;clear bL bE aS hx ed eL aH aZ T2 hF sM;go_upto_region 5 with(refine w_ 14 70 13 b (o+k*4) [rc,rk,rt,rv] eZ.o aT Tryz.underlying70 ?_);obtain⟨W6,mC,H6,dK,my,ewx⟩:=B_ wr (.cells #[rc,rk,rt,rv] 70);rw[mC];clear ewx;clear mC;have jP:=fD.below dK;have dd:=hb.trans (dK.mono hb.size);have sS:=H_ H6;clear H6 fD;obtain⟨v,hv⟩:=x_ (eO grp ⟨rc,rk,rt,rv⟩);have Y8:=Hp grp rc rk rt rv W6 HRZ.o;rw[hv]at Y8;have rD:=H_ Y8;have HV:=H_ (show eO grp rs[k]=v by rw[HX.o];exact hv);clear Y8 hv;go_wp2_with (refine W_ 16 70 7 (wr.heap.size) sS.o aT Tryz.underlying70 ?_);refine rD.o.mono ?_;rintro e w7 ⟨rfl,fC⟩;have qM:=jP.below fC;have QN:=fC.size;have gb:=dd.trans (fC.mono dd.size);have HH7:=k_ fC sS;clear jP;cases v with
   |false=>
    have hf:=H_ (show R=false by rw[<-HR.o];exact decide_eq_false (AY bI HV.o));go_wp2_with fail;go_ret;exact⟨hf.o.symm▸rfl,gb⟩
   |true=>
    go_wp2_with (refine W_ 21 70 7 (wr.heap.size) HH7.o aT Tryz.underlying70 ?_);refine(xS rc rk rt rv w7).mono ?_;rintro e w8 ⟨rfl,jX⟩;have iD:=qM.below jX;have QC:=jX.size;have kw:=gb.trans (jX.mono gb.size);have HH8:=H_ ((jX.block _ (Nat.lt_of_lt_of_le my QN)).trans HH7.o);clear qM;cases kr:F c0 with
    |true=>
     have hf:=H_ (show R=false by
      rw[<-HR.o];refine decide_eq_false (AZ bI ?_);rw[<-kr,<-HF.o];unfold yr;rw[m8.o])
     go_wp2_with (at_lookup;refine bO rfl _ _ 159 rfl 161 4 mV yg de (dU _) w.heap.size k F rfl iD (.agg #[rc,rk,rt]) c0 rfl vp.o ?_);go_ret;exact⟨hf.o.symm▸rfl,kw⟩
    |false=>
     have HNS:=H_ (show((rs.take k).any λx=>decide (cW x=cW rs[k]))=false by
      rw[<-kr,<-HF.o];unfold yr;rw[m8.o])
     go_wp2_with (first|(at_lookup;refine bO rfl _ _ 159 rfl 161 4 mV yg de (dU _) w.heap.size k F rfl iD (.agg #[rc,rk,rt]) c0 rfl vp.o ?_)|(refine W_ 26 70 7 (wr.heap.size) HH8.o aT Tryz.underlying70 ?_));refine(xS rc rk rt rv w8).mono ?_;rintro e w9 ⟨rfl,kT⟩;have qG:=iD.below kT;have Kk:=kw.trans (kT.mono kw.size);have Rr:=H_ Kk;clear iD;go_wp2_with (at_mapUpdate;refine dV rfl _ _ _ 159 rfl 161 4 mV yg de w.heap.size k F rfl qG (by simp only[maxLen];omega) L4 L5 (.agg #[rc,rk,rt]) c0 rfl true rfl vp.o ?_;intro wB nI hgB;replace nI:=H_ nI);go_roundw
     case rel=>
      refine⟨k+1,by omega,by go_num,bK Rr.o hgB (λq hq=>by injection hq with hq;omega) (Nat.le_refl _),nI.o.eqv (λd=>Ih bI m8.o HF.o d),λj hj m7=>?_,ace bI Vi.o HNS.o⟩;rcases Nat.lt_or_ge j k with h|h
      ·exact HA.o j hj h
      ·obtain rfl:j=k:=by omega
       exact HV.o
     case measure=>first|exact aQ aU|(simp only[intOf];omega)
  case neg=>
   have bq:¬(k:Int)< (n:Int):=by omega
   obtain⟨v,hv⟩:=x_ (cQ grp);have cI:=BK grp wr fu.o;rw[hv]at cI;have FK:=H_ cI;have HV:=H_ hv;have eY:=H_ (show(∀r∈rs,eO grp r=true)/\(rs.map cW).Nodup by
    refine⟨λr hr=>?_,?_⟩
    ·obtain⟨j,hj,rfl⟩:=List.getElem_of_mem hr;exact HA.o j hj (by have:=HN.o;omega)
    ·have:=Vi.o
     rwa[List.take_of_length_le (by have:=HN.o;omega)]at this)
   clear cI hv fD;go_wp2_with fail;refine FK.o.mono ?_;rintro e w7 ⟨rfl,fC⟩;have gb:=hb.trans (fC.mono hb.size);cases v with
   |false=>
    have hf:=H_ (show R=false by rw[<-HR.o];exact decide_eq_false (λh=>by have:=h.2.2.1;rw[HV.o]at this;cases this));go_wp2_with fail;go_ret;exact⟨hf.o.symm▸rfl,gb⟩
   |true=>
    by_cases rJ:n<=1000
    case pos=>
     have hf:=H_ (show R=true by rw[<-HR.o];exact decide_eq_true ⟨eY.o.1,eY.o.2,HV.o,by rw[HN.o];exact rJ⟩);have FS_:decide ((n:Int)<=1000)=true:=decide_eq_true (by omega);clear rJ;go_wp2_with fail;go_ret;exact⟨hf.o.symm▸rfl,gb⟩
    case neg=>
     have hf:=H_ (show R=false by rw[<-HR.o];exact decide_eq_false (λh=>rJ (by have:=h.2.2.2;rw[HN.o]at this;exact this)));have FS_:decide ((n:Int)<=1000)=false:=decide_eq_false (by omega);clear rJ;go_wp2_with fail;go_ret;exact⟨hf.o.symm▸rfl,gb⟩
end
end Go.Proofs.YtibiddakakgakaaGreat
