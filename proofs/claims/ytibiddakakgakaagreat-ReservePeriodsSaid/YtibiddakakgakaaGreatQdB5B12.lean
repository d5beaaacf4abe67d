/- Year, month and day of a date in the program; months later; periods of a calendar. Written by gen_b5.py. -/
import Derived.Test.YtibiddakakgakaaGreatQdB0B4
import Derived.Maps.Views
set_option linter.unusedVariables false
set_option linter.unusedSimpArgs false
set_option maxRecDepth 4000
attribute [local go_sem ↓] Go.wp_at_zero Go.wp_at_succ
set_option maxHeartbeats 16000000
namespace Go.Proofs.YtibiddakakgakaaGreat
section
open Go Go.RowKit
theorem Sz (y:Int) (w:World) (h1:1800<=y) (h2:y<=2300):Calls Tryz.prog 126 #[y] w (ap w (.int .i64 (bM y))):=by
 obtain⟨r,hr⟩:=x_ (bM y);rw[hr];have HR:=H_ hr;clear hr;go_enter Tryz.func126,Tryz.ntmps126;go_wp2_with fail;go_ret;exact⟨by rw[<-HR.o];rfl,Below.refl _ _⟩
theorem DH {date q:Int} (h:inD date) (mF: -366<date- 366*q) (lc:date- 366*q<366) (Dj:0<=date->366*q<=date) (hq4:date<0->date<=366*q):1899<=1968+q/\1968+q<=2199/\bM (1968+q)<=date:=by
 unfold inD at h;unfold bM;rcases Int.lt_or_le date 0 with hd|hd
 ·have:=hq4 hd;omega
 ·have:=Dj hd;omega
theorem Ip (date:Int): -366<date- 366*Int.tdiv date 366/\date- 366*Int.tdiv date 366<366/\(0<=date->366*Int.tdiv date 366<=date)/\(date<0->date<=366*Int.tdiv date 366):=by
 rcases Int.lt_or_le date 0 with hd|hd
 ·have e:Int.tdiv date 366= -((-date) / 366):=by
   have h1:Int.tdiv date 366= - Int.tdiv (-date) 366:=by rw[Int.neg_tdiv];omega
   rw[h1,Int.tdiv_eq_ediv_of_nonneg (by omega)]
  rw[e];omega
 ·rw[Int.tdiv_eq_ediv_of_nonneg hd];omega
theorem Zn {Y date:Int} (h:Y+1=1900) (hd: -25567<=date):bM (Y+1)<=date:=by rw[h,BI];exact hd
theorem tZ:bM 2200=84006:=by unfold bM;omega
theorem Qw {Y:Int} (h1:1899<=Y) (h2:Y<2199):wrap64 (Y+1)=Y+1:=by unfold wrap64;omega
set_option maxRecDepth 100000 in
theorem I9 (date:Int) (w:World) (jE:cx date):Calls Tryz.prog 92 #[date] w (IW date w):=by
 go_enter Tryz.func92,Tryz.ntmps92;go_wp2_with fail;refine(nS date w).mono ?_;rintro e w1 ⟨rfl,eL⟩;obtain⟨v,hv⟩:=x_ (decide (inD date));rw[hv];have HV:=H_ hv;clear hv;cases v with
 |false=>
  go_wp2_with fail
  (try simp only[Exit.inBlock,Exit.then])
  refine bodyPost_ret (ip rfl _ _ _) rfl ⟨0,0,0,2,rfl,eL,.inr ⟨of_decide_eq_false HV.o,rfl,rfl,rfl,rfl⟩⟩
 |true=>
 have lN:inD date:=of_decide_eq_true HV.o;have Y4:=lN;obtain⟨Fq,Re⟩:=Y4;have lL:=H_ lN;clear HV lN jE;obtain⟨t1,t2,t3,t4⟩:=Ip date;have kW:=H_ (DH lL.o t1 t2 t3 t4);have q1: -70<=Int.tdiv date 366:=by have:=kW.o.1;omega
 have q2:Int.tdiv date 366<=231:=by have:=kW.o.2.1;omega
 clear t1 t2 t3 t4;go_wp2_with fail
 go_loopw [2] (λi wr=>∃Y:Int,1899<=Y/\Y<=2199/\i=.int .i64 Y/\(1900<=Y->bM Y<=date)/\Below w.heap.size w wr) (λi _=>(2199- intOf i).toNat)
 case atStart=>exact⟨1968+Int.tdiv date 366,kW.o.1,kW.o.2.1,by first|rfl|go_num,λ_=>kW.o.2.2,eL⟩
 case round=>
  obtain⟨Y,Q3,hY2,rfl,rJ,hb⟩:=hrel;have RU:=H_ rJ;clear rJ kW q1 q2;by_cases kg:Y<1900
  ·go_wp2_with fail;go_roundw
   case rel=>exact⟨Y+1,by omega,by omega,by go_num,λ_=>Zn (by omega) lL.o.1,hb⟩
   case measure=>
    have e:wrap64 (Y+1)=Y+1:=Qw Q3 (by omega);simp only[intOf,e];exact ik (by omega)
  ·go_wp2_with fail;refine(Sz (Y+1) wr (by omega) (by omega)).mono ?_;rintro e w3 ⟨rfl,aZ⟩;have bU:=hb.trans (aZ.mono hb.size);obtain⟨B1,yI⟩:=x_ (bM (Y+1));rw[yI];have bC:=H_ yI;clear yI;by_cases Fs:B1<=date
   ·have T5:Y<2199:=by
     rcases Int.lt_or_le Y 2199 with h|h
     ·exact h
     ·have e:Y+1=2200:=by omega
      have e2:=bC.o;rw[e,tZ]at e2;omega
    go_wp2_with fail;go_roundw
    case rel=>exact⟨Y+1,by omega,by omega,by go_num,λ_=>by rw[bC.o];exact Fs,bU⟩
    case measure=>
     have e:wrap64 (Y+1)=Y+1:=Qw Q3 T5;simp only[intOf,e];exact ik T5
   ·have tN:=H_ (show date<bM (Y+1) by rw[bC.o];omega);have hY:inY Y:=⟨by omega,hY2⟩;go_wp2_with fail;refine(I8 Y w3 hY).mono ?_;rintro e w4 ⟨rfl,cP⟩;have dd:=bU.trans (cP.mono bU.size);have hbB:=ki hY;have tB:bM Y<=date:=RU.o hY.1;obtain⟨B,hB⟩:=x_ (bM Y);rw[hB]at hbB tB |-;have vt:=H_ hB;clear hB;go_wp2_with fail
    go_loopw [3,4] (λi s wr=>∃j:Nat,1<=j/\j<=12/\i=.int .i64 (j:Int)/\s=.int .i64 (date- B- cH Y (j- 1))/\0<=date- B- cH Y (j- 1)/\Below w.heap.size w wr) (λi _ _=>(12- intOf i).toNat)
    case atStart=>exact⟨1,by omega,by omega,rfl,by simp[cH],by simp[cH];omega,dd⟩
    case round=>
     obtain⟨j,Fp,tP,rfl,rfl,tB,hb⟩:=hrel;have hs:=oL Y (j- 1);obtain⟨S,hS⟩:=x_ (cH Y (j- 1));rw[hS]at hs tB |-;have HS:=H_ hS;clear hS;have aae:1<=(j:Int):=by omega
     have aaA:(j:Int)<=12:=by omega
     go_wp2_with fail;refine(vY Y (j:Int) wr).mono ?_;rintro e w3 ⟨rfl,aZ⟩;have Rw:=fI Y (j:Int);obtain⟨E,hE⟩:=x_ (ck Y (j:Int));rw[hE]at Rw |-;have HE:=H_ hE;clear hE;have bU:=hb.trans (aZ.mono hb.size);by_cases Fs:E<=date- B- S
     ·have aaM:j<=11:=vV hY tN.o Fp tP (by rw[HE.o,vt.o,HS.o];exact Fs);go_wp2_with fail;refine(vY Y (j:Int) w3).mono ?_;rintro e w4 ⟨rfl,cP⟩;rw[HE.o];have dd:=bU.trans (cP.mono bU.size);go_wp2_with fail;go_roundw
      case rel=>
       have e:cH Y (j+1- 1)=S+E:=by
        obtain⟨i,rfl⟩:∃i,j=i+1:=⟨j- 1,by omega⟩;rw[show i+1+1- 1=i+1 from rfl,cH,<-HS.o,<-HE.o];simp
       exact⟨j+1,by omega,by omega,by go_num,by rw[e];go_num,by rw[e];omega,dd⟩
      case measure=>
       have e:wrap64 ((j:Int)+1)=(j:Int)+1:=mw (show(j:Int)<12 by omega) (Int.le_refl _);simp only[intOf,e];exact ik (by omega)
     ·have iZ:date- B- S<E:=by omega
      go_wp2_with fail
      (try simp only[Exit.inBlock,Exit.then])
      refine bodyPost_ret (ip rfl _ _ _) rfl ⟨Y,(j:Int),date- B- S+1,0,by first|rfl|go_num,bU,.inl ⟨lL.o,rfl,hY,by omega,by omega,by omega,by rw[HE.o];omega,?_⟩⟩;rw[show((j:Int) - 1).toNat=j- 1 from by omega,HS.o,vt.o];omega
def da (n:Int):Int:=bM (n/ 12)+cH (n/ 12) (n%12).toNat
def lI (n:Int):Int × Int:=if inY (n/ 12)then(da n,0)else(0,2)
theorem Ca {n:Int}:ofI (n/ 12) (n%12+1) 1=lI n:=by
 unfold ofI lI;by_cases hy:inY (n/ 12)
 ·have:=nR (y:=n/ 12) (m:=n%12+1) hy (by omega) (by omega);rw[if_neg (by omega),if_pos hy];unfold da;rw[show n%12+1- 1=n%12 from by omega];simp only[Prod.mk.injEq,and_true];omega
 ·have e:ck (n/ 12) (n%12+1)=0:=by unfold ck;rw[if_neg (λh=>hy h.1)]
  rw[if_pos (by omega),if_neg hy]
theorem im {n:Int} (hy:inY (n/ 12)):qP (da n) (n/ 12) (n%12+1) 1:=by
 have:=nR (y:=n/ 12) (m:=n%12+1) hy (by omega) (by omega);refine⟨hy,by omega,by omega,by omega,by omega,?_⟩;unfold da;rw[show n%12+1- 1=n%12 from by omega];omega
theorem oE {n:Int} (hy:inY (n/ 12)):inD (da n):=by
 have h:=(im hy).year;have h1:=ki hy;have h2:=gN (show n/ 12+1<=2200 by have:=hy.2;omega);rw[tZ]at h2;unfold inD;have:=hy.2;omega
theorem ZM (n p:Int) (w:World) (hy:inY (n/ 12)) (hp0:0<=p) (QQ:p<=3600):Calls Tryz.prog 144 #[(da n),p] w (ap w (.tuple #[.int .i64 (lI (n+p)).1,.int .i64 (lI (n+p)).2])):=by
 obtain⟨r,hr⟩:=x_ (lI (n+p));rw[hr];have HR:=H_ hr;clear hr;have lN:=oE hy;have hc:=H_ (im hy);obtain⟨d0,C2⟩:=x_ (da n);rw[C2]at lN hc |-;clear C2;obtain⟨Y,hY⟩:=x_ (n/ 12);obtain⟨M,hM⟩:=x_ (n%12+1);have hn:n=12*Y+M- 1:=by omega
 have hM1:1<=M:=by omega
 have hM2:M<=12:=by omega
 rw[hY]at hy hc;rw[hM]at hc;obtain⟨gK,gS⟩:=hy;have lL:=H_ lN;clear hY hM lN;subst hn;go_enter Tryz.func144,Tryz.ntmps144;go_wp2_with fail;refine(EF d0 w (by have:=lL.o.1;have:=lL.o.2;unfold cx;omega)).mono ?_;rintro e w1 ⟨y,m,d,k,rfl,eL,oX⟩;obtain⟨hk,zk⟩:k=0/\qP d0 y m d:=by
  rcases oX with⟨_,h1,h2⟩|⟨h1,_⟩
  ·exact⟨h1,h2⟩
  ·exact absurd lL.o h1
 obtain⟨e1,e2,e3⟩:=zk.uniq hc.o;subst hk e1 e2 e3;clear oX zk hc;have hNl:0<=12*y+m- 1+p:=by omega
 by_cases hNy:(12*y+m- 1+p) / 12<=2199
 ·have adS:1900<=(12*y+m- 1+p) / 12:=by omega
  have hdd:=nR (y:=(12*y+m- 1+p) / 12) (m:=(12*y+m- 1+p) %12+1) ⟨adS,hNy⟩ (by omega) (by omega);have hf:=H_ (show ofI ((12*y+m- 1+p) / 12) ((12*y+m- 1+p) %12+1) 1=r by rw[<-HR.o,Ca]);go_wp2_with fail;refine(lx _ _ w1).mono ?_;rintro e w2 ⟨rfl,aH⟩;obtain⟨D,hD⟩:=x_ (ck ((12*y+m- 1+p) / 12) ((12*y+m- 1+p) %12+1));rw[hD]at hdd |-;clear hD;go_wp2_with fail
  (try rw[show min (1:Int) D=1 from by omega])
  refine(PG _ _ _ w2).mono ?_;rintro e w3 ⟨rfl,aZ⟩;rw[hf.o];go_wp2_with fail
  (try go_ret2)
  exact⟨rfl,eL.trans ((aH.trans (aZ.mono aH.size)).mono eL.size)⟩
 ·have hf:=H_ (show r=(0,2) by rw[<-HR.o];unfold lI;rw[if_neg (λh=>hNy h.2)]);have afj:2199< (12*y+m- 1+p) / 12:=by omega
  go_wp2_with fail
  (try go_ret2)
  exact⟨hf.o.symm▸rfl,eL⟩
def bw (y m p:Int):Int:=12*y+m- 1+p
def du (y m p:Int):Bool:=decide (1<=m/\m<=12/\1<=p/\p<=120/\inY y/\inY (bw y m (p- 1) / 12))
theorem ig {y m p q:Int} (h:du y m p=true) (h0:0<=q) (h1:q<p):inY y/\1<=m/\m<=12/\1<=p/\p<=120/\inY (bw y m q/ 12):=by
 have h:=of_decide_eq_true h;obtain⟨a1,a2,a3,a4,a5,a6⟩:=h;refine⟨a5,a1,a2,a3,a4,?_⟩;unfold inY bw at*;omega
def bo (y m n p:Int):Int:=if du y m n=true then(if 0<=p/\p<n then 0 else 2)else 1
def aX (y m n p:Int):Int × Int:=if bo y m n p=0 then(da (bw y m p),0)else(0,bo y m n p)
def ff (n:Int):Int:=da n+ck (n/ 12) (n%12+1) - 1
def bH (y m n p:Int):Int × Int:=if bo y m n p=0 then(ff (bw y m p),0)else(0,bo y m n p)
theorem kG {y m n p:Int} (h:bo y m n p=0):du y m n=true/\0<=p/\p<n:=by
 unfold bo at h;split at h
 ·split at h
  ·rename_i h1 h2;exact⟨h1,h2⟩
  ·omega
 ·omega
theorem BS (y m n p:Int) (w:World) (hy:inY y) (nx:1<=m) (jA:m<=12) (hp0:0<=p) (QQ:p<=200):Calls Tryz.prog 106 #[.agg #[y,m,n],p] w (ap w (.tuple #[.int .i64 (lI (bw y m p)).1,.int .i64 (lI (bw y m p)).2])):=by
 have hf:=H_ (Ca (n:=bw y m p));obtain⟨r,hr⟩:=x_ (lI (bw y m p));rw[hr]at hf |-;clear hr;obtain⟨gK,gS⟩:=hy;go_enter Tryz.func106,Tryz.ntmps106;go_upto_region 1 with fail;obtain⟨W,hW,H0,HB,yG,ewx⟩:=B_ w (.cells #[y,m,n] 23);rw[hW];clear ewx yG;have c0:=ab H0 0;have c1:=ab H0 1;clear hW H0;go_wp2_with fail;refine(aeu _ _ 1 W).mono ?_;rintro e w2 ⟨rfl,aH⟩;have e1:ofI ((12*y+m- 1+p) / 12) ((12*y+m- 1+p) %12+1) 1=r:=hf.o;rw[e1];clear e1;go_wp2_with fail;go_ret2;exact⟨rfl,HB.trans (aH.mono HB.size)⟩
theorem EH (y m n p:Int) (w:World) (hp0:0<=p) (QQ:p<=200):Calls Tryz.prog 101 #[.agg #[y,m,n],p] w (ap w (if inY y/\1<=m/\m<=12 then .tuple #[.int .i64 (lI (bw y m p)).1,.int .i64 (lI (bw y m p)).2]else .tuple #[(),(2:Int)])):=by
 by_cases mG:inY y/\1<=m/\m<=12
 case pos=>
  rw[if_pos mG];obtain⟨r,nJ⟩:=x_ (lI (bw y m p));rw[nJ];have HR:=H_ nJ;clear nJ;go_enter Tryz.func101,Tryz.ntmps101;go_upto_region 1 with fail;obtain⟨W,hW,H0,HB,HS,ewx⟩:=B_ w (.cells #[y,m,n] 23);rw[hW];clear ewx;have c0:=ab H0 0;have c1:=ab H0 1;have c2:=ab H0 2;have rL:=H_ H0;clear hW H0;go_wp2_with fail;refine(PG y m 1 W).mono ?_;rintro e w2 ⟨rfl,aH⟩;have dA:=HB.trans (aH.mono HB.size);obtain⟨hy,nx,jA⟩:=mG;have e1:ofI y m 1=(da (12*y+m- 1),0):=by
   have:=Ca (n:=12*y+m- 1);rw[show(12*y+m- 1) / 12=y from by omega,show(12*y+m- 1) %12+1=m from by omega]at this;rw[this];unfold lI;rw[show(12*y+m- 1) / 12=y from by omega,if_pos hy]
  rw[e1];have hr:=ZM (12*y+m- 1) p w2 (by rw[show(12*y+m- 1) / 12=y from by omega];exact hy) hp0 (by omega);rw[show lI (12*y+m- 1+p)=r from HR.o]at hr;obtain⟨d0,C2⟩:=x_ (da (12*y+m- 1));rw[C2]at hr |-;clear C2 e1;go_wp2_with fail;refine hr.mono ?_;rintro e w3 ⟨rfl,aZ⟩;go_wp2_with fail;go_ret2;exact⟨rfl,dA.trans (aZ.mono dA.size)⟩
 case neg=>
 rw[if_neg mG];have e1:ofI y m 1=(0,2):=by
  unfold ofI;rw[if_pos (.inr (by unfold ck;rw[if_neg mG];omega))]
 have HE:=H_ e1;clear e1 mG;go_enter Tryz.func101,Tryz.ntmps101;go_upto_region 1 with fail;obtain⟨W,hW,H0,HB,HS,ewx⟩:=B_ w (.cells #[y,m,n] 23);rw[hW];clear ewx;have c0:=ab H0 0;have c1:=ab H0 1;have c2:=ab H0 2;have rL:=H_ H0;clear hW H0;go_wp2_with fail;refine(PG y m 1 W).mono ?_;rintro e w2 ⟨rfl,aH⟩;have dA:=HB.trans (aH.mono HB.size);rw[HE.o];go_wp2_with fail;go_ret2;exact⟨rfl,dA⟩
theorem mJ (y m n:Int) (w:World):Calls Tryz.prog 91 #[.agg #[y,m,n]] w (ap w (.bool (du y m n))):=by
 obtain⟨r,hr⟩:=x_ (du y m n);rw[hr];have HR:=H_ hr;clear hr;go_enter Tryz.func91,Tryz.ntmps91;go_upto_region 1 with fail;obtain⟨W,hW,H0,HB,HS,ewx⟩:=B_ w (.cells #[y,m,n] 23);rw[hW];clear ewx;have c0:=ab H0 0;have c1:=ab H0 1;have c2:=ab H0 2;have rL:=H_ H0;clear hW H0;by_cases k0:m<1
 case pos=>
  have hf:=H_ (show r=false by rw[<-HR.o];unfold du;exact decide_eq_false (λh=>by have:=h.1;omega));go_wp2_with fail;go_ret;exact⟨hf.o.symm▸rfl,HB⟩
 case neg=>
 by_cases k1:12<m
 case pos=>
  have hf:=H_ (show r=false by rw[<-HR.o];unfold du;exact decide_eq_false (λh=>by have:=h.2.1;omega));go_wp2_with fail;go_ret;exact⟨hf.o.symm▸rfl,HB⟩
 case neg=>
 by_cases k2:n<1
 case pos=>
  have hf:=H_ (show r=false by rw[<-HR.o];unfold du;exact decide_eq_false (λh=>by have:=h.2.2.1;omega));go_wp2_with fail;go_ret;exact⟨hf.o.symm▸rfl,HB⟩
 case neg=>
 by_cases k3:120<n
 case pos=>
  have hf:=H_ (show r=false by rw[<-HR.o];unfold du;exact decide_eq_false (λh=>by have:=h.2.2.2.1;omega));go_wp2_with fail;go_ret;exact⟨hf.o.symm▸rfl,HB⟩
 case neg=>
 by_cases k4:y<1900
 case pos=>
  have hf:=H_ (show r=false by rw[<-HR.o];unfold du;exact decide_eq_false (λh=>by have:=h.2.2.2.2.1.1;omega));go_wp2_with fail;go_ret;exact⟨hf.o.symm▸rfl,HB⟩
 case neg=>
 by_cases k5:2199<y
 case pos=>
  have hf:=H_ (show r=false by rw[<-HR.o];unfold du;exact decide_eq_false (λh=>by have:=h.2.2.2.2.1.2;omega));go_wp2_with fail;go_ret;exact⟨hf.o.symm▸rfl,HB⟩
 case neg=>
 go_wp2_with fail;refine(BS y m n (n- 1) W ⟨by omega,by omega⟩ (by omega) (by omega) (by omega) (by omega)).mono ?_;rintro e w2 ⟨rfl,aH⟩;have dA:=HB.trans (aH.mono HB.size);by_cases lN:inY (bw y m (n- 1) / 12)
 ·have hf:=H_ (show r=true by rw[<-HR.o];unfold du;exact decide_eq_true ⟨by omega,by omega,by omega,by omega,⟨by omega,by omega⟩,lN⟩);rw[show lI (bw y m (n- 1))=(da (bw y m (n- 1)),0)from if_pos lN];go_wp2_with fail;go_ret;exact⟨hf.o.symm▸rfl,dA⟩
 ·have hf:=H_ (show r=false by rw[<-HR.o];unfold du;exact decide_eq_false (λh=>lN h.2.2.2.2.2));rw[show lI (bw y m (n- 1))=(0,2)from if_neg lN];go_wp2_with fail;go_ret;exact⟨hf.o.symm▸rfl,dA⟩
theorem lz (y m n:Int) (w:World):Calls Tryz.prog 96 #[.agg #[y,m,n]] w (ap w (.bool (du y m n))):=by
 obtain⟨r,hr⟩:=x_ (du y m n);rw[hr];have HR:=H_ hr;clear hr;go_enter Tryz.func96,Tryz.ntmps96;go_upto_region 1 with fail;obtain⟨W,hW,H0,HB,HS,ewx⟩:=B_ w (.cells #[y,m,n] 23);rw[hW];clear ewx;have c0:=ab H0 0;have c1:=ab H0 1;have c2:=ab H0 2;have rL:=H_ H0;clear hW H0;by_cases k0:n<1
 case pos=>
  have hf:=H_ (show r=false by rw[<-HR.o];unfold du;exact decide_eq_false (λh=>by have:=h.2.2.1;omega));go_wp2_with fail;go_ret;exact⟨hf.o.symm▸rfl,HB⟩
 case neg=>
 by_cases k1:120<n
 case pos=>
  have hf:=H_ (show r=false by rw[<-HR.o];unfold du;exact decide_eq_false (λh=>by have:=h.2.2.2.1;omega));go_wp2_with fail;go_ret;exact⟨hf.o.symm▸rfl,HB⟩
 case neg=>
 go_wp2_with fail;refine(EH y m n (n- 1) W (by omega) (by omega)).mono ?_;rintro e w2 ⟨rfl,aH⟩;have dA:=HB.trans (aH.mono HB.size);by_cases mG:inY y/\1<=m/\m<=12
 ·rw[if_pos mG];by_cases lN:inY (bw y m (n- 1) / 12)
  ·have hf:=H_ (show r=true by rw[<-HR.o];unfold du;exact decide_eq_true ⟨mG.2.1,mG.2.2,by omega,by omega,mG.1,lN⟩);rw[show lI (bw y m (n- 1))=(da (bw y m (n- 1)),0)from if_pos lN];go_wp2_with fail;go_ret;exact⟨hf.o.symm▸rfl,dA⟩
  ·have hf:=H_ (show r=false by rw[<-HR.o];unfold du;exact decide_eq_false (λh=>lN h.2.2.2.2.2));rw[show lI (bw y m (n- 1))=(0,2)from if_neg lN];go_wp2_with fail;go_ret;exact⟨hf.o.symm▸rfl,dA⟩
 ·rw[if_neg mG];have hf:=H_ (show r=false by rw[<-HR.o];unfold du;exact decide_eq_false (λh=>mG ⟨h.2.2.2.2.1,h.1,h.2.1⟩));go_wp2_with fail;go_ret;exact⟨hf.o.symm▸rfl,dA⟩
theorem vO (y m n p:Int) (w:World):Calls Tryz.prog 105 #[.agg #[y,m,n],p] w (ap w (.int .i64 (bo y m n p))):=by
 obtain⟨r,hr⟩:=x_ (bo y m n p);rw[hr];have HR:=H_ hr;clear hr;go_enter Tryz.func105,Tryz.ntmps105;go_upto_region 1 with fail;obtain⟨W,hW,H0,HB,HS,ewx⟩:=B_ w (.cells #[y,m,n] 23);rw[hW];clear ewx;have c0:=ab H0 0;have c1:=ab H0 1;have c2:=ab H0 2;have rL:=H_ H0;clear hW H0;go_wp2_with fail;refine(mJ y m n W).mono ?_;rintro e w2 ⟨rfl,aH⟩;have dA:=HB.trans (aH.mono HB.size);have dn:=k_ aH rL;have d0:=ab dn.o 0;have d1:=ab dn.o 1;have d2:=ab dn.o 2;obtain⟨v,hv⟩:=x_ (du y m n);rw[hv];have HV:=H_ hv;clear hv c0 c1 c2;cases v with
 |false=>
  have hf:=H_ (show r=1 by rw[<-HR.o];unfold bo;rw[HV.o];simp);go_wp2_with fail;go_ret;exact⟨hf.o.symm▸rfl,dA⟩
 |true=>
  by_cases h1:p<0
  ·have hf:=H_ (show r=2 by rw[<-HR.o];unfold bo;rw[HV.o,if_pos rfl,if_neg (by omega)]);go_wp2_with fail;go_ret;exact⟨hf.o.symm▸rfl,dA⟩
  ·by_cases h2:n<=p
   ·have hf:=H_ (show r=2 by rw[<-HR.o];unfold bo;rw[HV.o,if_pos rfl,if_neg (by omega)]);go_wp2_with fail;go_ret;exact⟨hf.o.symm▸rfl,dA⟩
   ·have hf:=H_ (show r=0 by rw[<-HR.o];unfold bo;rw[HV.o,if_pos rfl,if_pos (by omega)]);go_wp2_with fail;go_ret;exact⟨hf.o.symm▸rfl,dA⟩
theorem ti (y m n p:Int) (w:World):Calls Tryz.prog 70 #[.agg #[y,m,n],p] w (ap w (.int .i64 (bo y m n p))):=by
 obtain⟨r,hr⟩:=x_ (bo y m n p);rw[hr];have HR:=H_ hr;clear hr;go_enter Tryz.func70,Tryz.ntmps70;go_upto_region 1 with fail;obtain⟨W,hW,H0,HB,HS,ewx⟩:=B_ w (.cells #[y,m,n] 23);rw[hW];clear ewx;have c0:=ab H0 0;have c1:=ab H0 1;have c2:=ab H0 2;have rL:=H_ H0;clear hW H0;go_wp2_with fail;refine(lz y m n W).mono ?_;rintro e w2 ⟨rfl,aH⟩;have dA:=HB.trans (aH.mono HB.size);have dn:=k_ aH rL;have d0:=ab dn.o 0;have d1:=ab dn.o 1;have d2:=ab dn.o 2;obtain⟨v,hv⟩:=x_ (du y m n);rw[hv];have HV:=H_ hv;clear hv c0 c1 c2;cases v with
 |false=>
  have hf:=H_ (show r=1 by rw[<-HR.o];unfold bo;rw[HV.o];simp);go_wp2_with fail;go_ret;exact⟨hf.o.symm▸rfl,dA⟩
 |true=>
  by_cases h1:p<0
  ·have hf:=H_ (show r=2 by rw[<-HR.o];unfold bo;rw[HV.o,if_pos rfl,if_neg (by omega)]);go_wp2_with fail;go_ret;exact⟨hf.o.symm▸rfl,dA⟩
  ·by_cases h2:n<=p
   ·have hf:=H_ (show r=2 by rw[<-HR.o];unfold bo;rw[HV.o,if_pos rfl,if_neg (by omega)]);go_wp2_with fail;go_ret;exact⟨hf.o.symm▸rfl,dA⟩
   ·have hf:=H_ (show r=0 by rw[<-HR.o];unfold bo;rw[HV.o,if_pos rfl,if_pos (by omega)]);go_wp2_with fail;go_ret;exact⟨hf.o.symm▸rfl,dA⟩
theorem vP (y m n p:Int) (w:World):Calls Tryz.prog 72 #[.agg #[y,m,n],p] w (ap w (.tuple #[.int .i64 (aX y m n p).1,.int .i64 (aX y m n p).2])):=by
 obtain⟨r,hr⟩:=x_ (aX y m n p);rw[hr];have HR:=H_ hr;clear hr;go_enter Tryz.func72,Tryz.ntmps72;go_upto_region 1 with fail;obtain⟨W,hW,H0,HB,HS,ewx⟩:=B_ w (.cells #[y,m,n] 23);rw[hW];clear ewx;have c0:=ab H0 0;have c1:=ab H0 1;have c2:=ab H0 2;have rL:=H_ H0;clear hW H0;go_wp2_with fail;refine(vO y m n p W).mono ?_;rintro e w2 ⟨rfl,aH⟩;have dA:=HB.trans (aH.mono HB.size);have dn:=k_ aH rL;have d0:=ab dn.o 0;have d1:=ab dn.o 1;have d2:=ab dn.o 2;obtain⟨v,hv⟩:=x_ (bo y m n p);rw[hv];have HV:=H_ hv;clear hv c0 c1 c2;by_cases h0:v=0
 ·subst h0;obtain⟨g1,g2,g3⟩:=kG HV.o;obtain⟨q1,q2,q3,q4,q5,q6⟩:=ig g1 g2 g3;have hf:=H_ (show r=(da (bw y m p),0) by rw[<-HR.o];unfold aX;rw[if_pos HV.o]);have FH:=H_ (show lI (bw y m p)=(da (bw y m p),0)from if_pos q6);have Q1:=H_ q1;clear g1 q1 q6;go_wp2_with fail;refine(BS y m n p w2 Q1.o q2 q3 g2 (by omega)).mono ?_;rintro e w3 ⟨rfl,aZ⟩;rw[FH.o];go_wp2_with fail;go_ret2;exact⟨hf.o.symm▸rfl,dA.trans (aZ.mono dA.size)⟩
 ·have h1:(v==0)=false:=by simpa using h0
  have h2:(v !=0)=true:=by simpa using h0
  have hf:=H_ (show r=(0,v) by rw[<-HR.o];unfold aX;rw[HV.o,if_neg h0]);clear h0;go_wp2_with fail;go_ret2;exact⟨hf.o.symm▸rfl,dA⟩
theorem ju (y m n p:Int) (w:World):Calls Tryz.prog 64 #[.agg #[y,m,n],p] w (ap w (.tuple #[.int .i64 (aX y m n p).1,.int .i64 (aX y m n p).2])):=by
 obtain⟨r,hr⟩:=x_ (aX y m n p);rw[hr];have HR:=H_ hr;clear hr;go_enter Tryz.func64,Tryz.ntmps64;go_upto_region 1 with fail;obtain⟨W,hW,H0,HB,HS,ewx⟩:=B_ w (.cells #[y,m,n] 23);rw[hW];clear ewx;have c0:=ab H0 0;have c1:=ab H0 1;have c2:=ab H0 2;have rL:=H_ H0;clear hW H0;go_wp2_with fail;refine(ti y m n p W).mono ?_;rintro e w2 ⟨rfl,aH⟩;have dA:=HB.trans (aH.mono HB.size);have dn:=k_ aH rL;have d0:=ab dn.o 0;have d1:=ab dn.o 1;have d2:=ab dn.o 2;obtain⟨v,hv⟩:=x_ (bo y m n p);rw[hv];have HV:=H_ hv;clear hv c0 c1 c2;by_cases h0:v=0
 ·subst h0;obtain⟨g1,g2,g3⟩:=kG HV.o;obtain⟨q1,q2,q3,q4,q5,q6⟩:=ig g1 g2 g3;have hf:=H_ (show r=(da (bw y m p),0) by rw[<-HR.o];unfold aX;rw[if_pos HV.o]);have FH:=H_ (show lI (bw y m p)=(da (bw y m p),0)from if_pos q6);have Q1:=H_ q1;clear g1 q1 q6;go_wp2_with fail;refine(EH y m n p w2 g2 (by omega)).mono ?_;rw[if_pos ⟨Q1.o,q2,q3⟩];rintro e w3 ⟨rfl,aZ⟩;rw[FH.o];go_wp2_with fail;go_ret2;exact⟨hf.o.symm▸rfl,dA.trans (aZ.mono dA.size)⟩
 ·have h1:(v==0)=false:=by simpa using h0
  have h2:(v !=0)=true:=by simpa using h0
  have hf:=H_ (show r=(0,v) by rw[<-HR.o];unfold aX;rw[HV.o,if_neg h0]);clear h0;go_wp2_with fail;go_ret2;exact⟨hf.o.symm▸rfl,dA⟩
theorem Af (y m n p:Int) (w:World):Calls Tryz.prog 80 #[.agg #[y,m,n],p] w (ap w (.tuple #[.int .i64 (bH y m n p).1,.int .i64 (bH y m n p).2])):=by
 obtain⟨r,hr⟩:=x_ (bH y m n p);rw[hr];have HR:=H_ hr;clear hr;go_enter Tryz.func80,Tryz.ntmps80;go_upto_region 1 with fail;obtain⟨W,hW,H0,HB,HS,ewx⟩:=B_ w (.cells #[y,m,n] 23);rw[hW];clear ewx;have c0:=ab H0 0;have c1:=ab H0 1;have c2:=ab H0 2;have rL:=H_ H0;clear hW H0;go_wp2_with fail;refine(vP y m n p W).mono ?_;rintro e w2 ⟨rfl,aH⟩;have dA:=HB.trans (aH.mono HB.size);obtain⟨v,hv⟩:=x_ (bo y m n p);have HV:=H_ hv;clear c0 c1 c2;by_cases h0:v=0
 ·subst h0;obtain⟨g1,g2,g3⟩:=kG HV.o;obtain⟨q1,q2,q3,q4,q5,q6⟩:=ig g1 g2 g3;have hf:=H_ (show r=(ff (bw y m p),0) by rw[<-HR.o];unfold bH;rw[if_pos HV.o]);rw[show aX y m n p=(da (bw y m p),0)from by unfold aX;rw[if_pos hv]];have lN:=oE q6;have zk:=H_ (im q6);have Bj:=H_ (show ff (bw y m p)=da (bw y m p)+ck (bw y m p/ 12) (bw y m p%12+1) - 1 from rfl);obtain⟨d0,C2⟩:=x_ (da (bw y m p));rw[C2]at lN zk Bj |-;have yZ:=lN.1;have tV:=lN.2;have lL:=H_ lN;clear g1 q1 q6 hv C2 lN;go_wp2_with fail;refine(I9 d0 w2 (by unfold cx;omega)).mono ?_;rintro e w3 ⟨y1,m1,d1,k,rfl,aZ,oX⟩;obtain⟨hk,jY⟩:k=0/\qP d0 y1 m1 d1:=by
   rcases oX with⟨_,h1,h2⟩|⟨h1,_⟩
   ·exact⟨h1,h2⟩
   ·exact absurd lL.o h1
  obtain⟨e1,e2,e3⟩:=jY.uniq zk.o;rw[<-e1,<-e2]at Bj;have HC:=H_ jY;subst hk;clear oX zk e1 e2 e3 jY;go_wp2_with fail;refine(vY y1 m1 w3).mono ?_;rintro e w4 ⟨rfl,bU⟩;have hD:=fI y1 m1;obtain⟨D,hDD⟩:=x_ (ck y1 m1);rw[hDD]at hD Bj |-;clear hDD;go_wp2_with fail;go_ret2;exact⟨by rw[hf.o,Bj.o];first|done|rfl,dA.trans ((aZ.trans (bU.mono aZ.size)).mono dA.size)⟩
 ·have h1:(v==0)=false:=by simpa using h0
  have h2:(v !=0)=true:=by simpa using h0
  have hf:=H_ (show r=(0,v) by rw[<-HR.o];unfold bH;rw[hv,if_neg h0]);rw[show aX y m n p=(0,v)from by unfold aX;rw[hv,if_neg h0]];clear h0 hv;go_wp2_with fail;go_ret2;exact⟨hf.o.symm▸rfl,dA⟩
theorem eS (y m n p:Int) (w:World):Calls Tryz.prog 30 #[.agg #[y,m,n],p] w (ap w (.tuple #[.int .i64 (bH y m n p).1,.int .i64 (bH y m n p).2])):=by
 obtain⟨r,hr⟩:=x_ (bH y m n p);rw[hr];have HR:=H_ hr;clear hr;go_enter Tryz.func30,Tryz.ntmps30;go_upto_region 1 with fail;obtain⟨W,hW,H0,HB,HS,ewx⟩:=B_ w (.cells #[y,m,n] 23);rw[hW];clear ewx;have c0:=ab H0 0;have c1:=ab H0 1;have c2:=ab H0 2;have rL:=H_ H0;clear hW H0;go_wp2_with fail;refine(ju y m n p W).mono ?_;rintro e w2 ⟨rfl,aH⟩;have dA:=HB.trans (aH.mono HB.size);obtain⟨v,hv⟩:=x_ (bo y m n p);have HV:=H_ hv;clear c0 c1 c2;by_cases h0:v=0
 ·subst h0;obtain⟨g1,g2,g3⟩:=kG HV.o;obtain⟨q1,q2,q3,q4,q5,q6⟩:=ig g1 g2 g3;have hf:=H_ (show r=(ff (bw y m p),0) by rw[<-HR.o];unfold bH;rw[if_pos HV.o]);rw[show aX y m n p=(da (bw y m p),0)from by unfold aX;rw[if_pos hv]];have lN:=oE q6;have zk:=H_ (im q6);have Bj:=H_ (show ff (bw y m p)=da (bw y m p)+ck (bw y m p/ 12) (bw y m p%12+1) - 1 from rfl);obtain⟨d0,C2⟩:=x_ (da (bw y m p));rw[C2]at lN zk Bj |-;have yZ:=lN.1;have tV:=lN.2;have lL:=H_ lN;clear g1 q1 q6 hv C2 lN;go_wp2_with fail;refine(EF d0 w2 (by unfold cx;omega)).mono ?_;rintro e w3 ⟨y1,m1,d1,k,rfl,aZ,oX⟩;obtain⟨hk,jY⟩:k=0/\qP d0 y1 m1 d1:=by
   rcases oX with⟨_,h1,h2⟩|⟨h1,_⟩
   ·exact⟨h1,h2⟩
   ·exact absurd lL.o h1
  obtain⟨e1,e2,e3⟩:=jY.uniq zk.o;rw[<-e1,<-e2]at Bj;have HC:=H_ jY;subst hk;clear oX zk e1 e2 e3 jY;go_wp2_with fail;refine(lx y1 m1 w3).mono ?_;rintro e w4 ⟨rfl,bU⟩;have hD:=fI y1 m1;obtain⟨D,hDD⟩:=x_ (ck y1 m1);rw[hDD]at hD Bj |-;clear hDD;go_wp2_with fail;go_ret2;exact⟨by rw[hf.o,Bj.o];first|done|rfl,dA.trans ((aZ.trans (bU.mono aZ.size)).mono dA.size)⟩
 ·have h1:(v==0)=false:=by simpa using h0
  have h2:(v !=0)=true:=by simpa using h0
  have hf:=H_ (show r=(0,v) by rw[<-HR.o];unfold bH;rw[hv,if_neg h0]);rw[show aX y m n p=(0,v)from by unfold aX;rw[hv,if_neg h0]];clear h0 hv;go_wp2_with fail;go_ret2;exact⟨hf.o.symm▸rfl,dA⟩
end
section
open Go Go.RowKit
open Go.Maps (Keyed)
abbrev UD:=DataW Unit
theorem pY {P:Program} {e:TypeId} (he:P.underlying e=some .bool) {v:Value} {z:UD × List MemPlace} (h:plainElem P e v=some z):∃a,v=.bool a/\z=(.lit (.bool a),[]):=by
 unfold plainElem at h;rw[he]at h;cases v<;>simp at h;exact⟨_,rfl,h.symm⟩
def pd {α:Type} (P:Program) (k e:TypeId) (κ:α->Lit) (w:World) (b n:Nat) (f:α->Bool):Prop:=
 ∃D:UD,w.ownsMap P k (plainElem P e) b n D/\∀c,D.atKey (κ c) (.lit (.bool false))=.lit (.bool (f c))
section
variable {α:Type} {P:Program} {k e t:TypeId} {κ:α->Lit} {w w':World} {b n:Nat} {f:α->Bool}
theorem pd.made (P:Program) (k e:TypeId) (κ:α->Lit) (w:World):pd P k e κ (w.alloc (.map #[] 0)) w.heap.size 0 (λ_=>false):=
 ⟨_,World.ownsMap_made w P k _,λ_=>rfl⟩
theorem pd.kept {row:Option Nat} (h:pd P k e κ w b n f) (hg:w.grownBy w' row) (bT:some b≠row):pd P k e κ w' b n f:=by
 obtain⟨D,h1,h2⟩:=h;exact⟨D,h1.kept hg bT,h2⟩
theorem pd.lt (h:pd P k e κ w b n f):b<w.heap.size:=by
 obtain⟨D,h1,h2⟩:=h;exact h1.lt
theorem pd.fr {Q:Nat->Prop} (h:pd P k e κ w b n f) (hf:Fr Q w w') (hb:Q b):pd P k e κ w' b n f:=by
 obtain⟨D,⟨es,dc,h1,h3,h4,h5⟩,h2⟩:=h;exact⟨D,⟨es,dc,(hf.block b hb).trans h1,h3,h4,h5⟩,h2⟩
theorem pd.below (h:pd P k e κ w b n f) (hb:Below w.heap.size w w'):pd P k e κ w' b n f:=h.fr (Fr.ofBelow hb) h.lt
theorem pd.mono (h:pd P k e κ w b n f) {n':Nat} (hn:n<=n'):pd P k e κ w b n' f:=by
 obtain⟨D,h1,h2⟩:=h;exact⟨D,h1.mono hn,h2⟩
theorem pd.eqv {g:α->Bool} (h:pd P k e κ w b n f) (hg:∀c,f c=g c):pd P k e κ w b n g:=by
 obtain⟨D,h1,h2⟩:=h;exact⟨D,h1,λc=>by rw[h2 c,hg c]⟩
theorem pd.look (h:pd P k e κ w b n f) (K:Keyed P k) (ht:P.underlying t=some (.map k e)) (he:P.underlying e=some .bool) (hz:(zeroValue e).run P w=.ok (.bool false) w)
 {ir:Value} {c:α} (iz:keyOf P k ir=some (κ c)):(Instr.lookup t (.map (some b)) ir false).run P w=.ok (.bool (f c)) w:=by
 obtain⟨D,h1,h2⟩:=h;obtain⟨v,ps,eC,hv⟩:=h1.lookup K ht hz (plainElem_bool he false) iz;obtain⟨a,rfl,ha⟩:=pY he hv;rw[h2 c]at ha;simp only[Prod.mk.injEq,DataW.lit.injEq,Lit.bool.injEq]at ha;rw[eC,ha.1]
theorem pd.store [DecidableEq α] (h:pd P k e κ w b n f) (K:Keyed P k) (ht:P.underlying t=some (.map k e)) (he:P.underlying e=some .bool) (hn:n<maxLen) (hκ:∀x y,κ x=κ y->x=y) (hl:∀x,WideAt.IsKeyLit (κ x))
 {ir:Value} {c:α} (x:Bool) (iz:keyOf P k ir=some (κ c)):
 ∃w',(Instr.mapUpdate t (.map (some b)) ir (.bool x)).run P w=.ok () w'/\pd P k e κ w' b (n+1) (λd=>if d=c then x else f d)/\w.grownBy w' (some b):=by
 obtain⟨D,h1,h2⟩:=h;obtain⟨w2,eC,h3,h4⟩:=h1.update K ht hn iz (plainElem_bool he x);refine⟨w2,eC,⟨_,h3,λd=>?_⟩,h4⟩;have hm:Maps.IsMap D:=by obtain⟨es,dc,_,_,_,e⟩:=h1;exact⟨_,e⟩
 by_cases hd:d=c
 ·subst hd;rw[Maps.atKey_put_same hm (hl d)];simp
 ·rw[Maps.atKey_put_other (λe=>hd (hκ _ _ e)),h2 d];simp[hd]
end
theorem bO {α:Type} {P:Program} {κ:α->Lit} {ops:Array Oper} {rest:List Oper} {o:Oper} {a:Act} {w:World} {Q:Exit->Act->World->Prop} (hw:Region.wanted o (yielded ops a.tmps)=true) (m x:Operand) (t:TypeId) (pC:o.op=Op.lookup t m x false)
 (k e:TypeId) (K:Keyed P k) (ht:P.underlying t=some (.map k e)) (he:P.underlying e=some .bool) (hz:(zeroValue e).run P w=.ok (.bool false) w) (b n:Nat) (f:α->Bool)
 (hm:a.eval m=.map (some b)) (h:pd P k e κ w b n f) (ir:Value) (c:α) (hx:a.eval x=ir) (iz:keyOf P k ir=some (κ c))
 (hK:wpList P ops Q rest (a.put o.dst (.bool (f c))) w):wpList P ops Q (o::rest) a w:=
 wpList_step λK' hK'=>by
  rw[if_pos hw];have eC:=h.look K ht he hz iz;unfold Oper.wp;simp[execOp,pC,hm,hx,eC,Result.andThen];exact hK' _ _ hK
theorem dV {α:Type} [DecidableEq α] {P:Program} {κ:α->Lit} {ops:Array Oper} {rest:List Oper} {o:Oper} {a:Act} {w:World} {Q:Exit->Act->World->Prop} (hg:o.guard=none) (m x v:Operand) (t:TypeId) (pC:o.op=Op.mapUpdate t m x v)
 (k e:TypeId) (K:Keyed P k) (ht:P.underlying t=some (.map k e)) (he:P.underlying e=some .bool) (b n:Nat) (f:α->Bool)
 (hm:a.eval m=.map (some b)) (h:pd P k e κ w b n f) (hn:n<maxLen) (hκ:∀x y,κ x=κ y->x=y) (hl:∀x,WideAt.IsKeyLit (κ x)) (ir:Value) (c:α) (hx:a.eval x=ir) (xv:Bool) (hv:a.eval v=.bool xv) (iz:keyOf P k ir=some (κ c))
 (hK:∀w',pd P k e κ w' b (n+1) (λd=>if d=c then xv else f d)->w.grownBy w' (some b)->wpList P ops Q rest (a.put o.dst undef) w'):wpList P ops Q (o::rest) a w:=by
 refine wpList_plain hg λK' hK'=>?_
 obtain⟨w',eC,r1,r2⟩:=h.store K ht he hn hκ hl xv iz;unfold Oper.wp;simp[execOp,pC,hm,hx,hv,eC,Result.andThen];exact hK' _ _ (hK w' r1 r2)
def qV (n:Int):Lit:=.int .i64 n
theorem qW (x y:Int) (h:qV x=qV y):x=y:=by unfold qV at h;injection h
theorem nV (x:Int):WideAt.IsKeyLit (qV x):=by unfold qV;first|trivial|exact Or.inl trivial|simp[WideAt.IsKeyLit]
theorem oA:Tryz.prog.underlying 3=some (.int .i64):=by kernel_rfl
theorem de:Tryz.prog.underlying 4=some .bool:=by kernel_rfl
theorem dU (w:World):(zeroValue 4).run Tryz.prog w=.ok (.bool false) w:=by kernel_rfl
theorem gx:Tryz.prog.underlying 218=some (.map 3 4):=by kernel_rfl
theorem dI:Keyed Tryz.prog 3:=Maps.int_keyed oA
theorem gD {n:Int} (h:cx n):keyOf Tryz.prog 3 (.int .i64 n)=some (qV n):=Maps.keyOf_int_mk oA (WalkArith.wf_i64 h)
abbrev KM (w:World) (b n:Nat) (f:Int->Bool):Prop:=pd Tryz.prog 3 4 qV w b n f
end
section
open Go Go.RowKit
theorem gy:(Tryz.prog.info? 78).map (·.size)=some 4:=by kernel_rfl
abbrev bn (a:ah):List Value:=[.int .i64 a.code,.int .i64 a.kind,.int .i64 a.basis,.int .i64 a.parent]
def pG (a:ah):Prop:=cx a.code/\cx a.kind/\cx a.basis/\cx a.parent
theorem ar.lit {w:World} {Q:Nat->Prop} {cs:List Value} {x:ah} (h:ar w Q cs x):cs=bn x/\pG x:=by
 obtain⟨c0,c1,c2,c3,rfl,⟨rfl,h0⟩,⟨rfl,h1⟩,⟨rfl,h2⟩,⟨rfl,h3⟩⟩:=h;exact⟨rfl,h0,h1,h2,h3⟩
theorem At.range {w:World} {Q:Nat->Prop} {b o:Nat} {vs:List Value} (h:At w Q ⟨b,o,none⟩ vs):w.rangeAt b o vs:=λj v hj=>h.c hj
theorem cG (a:ah):(Tryz.prog.info? 78).map (·.size)=some (bn a).length:=gy
theorem bX (a:ah):(Tryz.prog.info? 78).map (·.size)=some (bn a).toArray.size:=gy
theorem nO (a:ah):(bn a).toArray.all (·.oneCell')=true:=by simp only[bn,List.all_toArray,List.all_cons,List.all_nil,Value.oneCell',Bool.and_true]
theorem aO {P:Program} {ops:Array Oper} {rest:List Oper} {o:Oper} {a:Act} {Q:Exit->Act->World->Prop} {w0:World} (qE:o.guard=none) (ty:TypeId) (x y:Operand) (ho:o.op=.store ty x y) (hd:o.dst=none)
 (w1:World) (old:Array Value) (t:TypeId) (cells:Array Value) (hw:w0=w1.alloc (.cells old t)) (hx:a.eval x=.pointer (some ⟨w1.heap.size,0,none⟩)) (hy:a.eval y=.agg cells)
 (hi:(P.info? ty).map (·.size)=some cells.size) (mB:old.size=cells.size) (h1:cells.all (·.oneCell')=true)
 (h:∀w2:World,w2.heap[w1.heap.size]? =some (.cells cells t (0,0))->Below w1.heap.size w1 w2->w1.heap.size<w2.heap.size->wpList P ops Q rest a w2):
 wpList P ops Q (o::rest) a w0:=by
 subst hw;exact gj qE ty x y ho hd w1 old t cells hx hy hi mB h1 h
theorem al {w:World} {g:Nat} {x:Obj} (h:w.heap[g]? =some x) (o:Obj):(w.alloc o).heap[g]? =some x:=by
 rw[Below.heap_alloc _ _ _ (ag h)];exact h
theorem aD {B:Nat} {w w':World} (h:Below B w w') {g:Nat} (hg:B<=g) (cs:Array Value):Below B w (w'.setRow g cs):=
 ((Fr.ofBelow h).trans ((cC w' g cs).mono (λk (hk:k<B)=>by omega))).below
theorem OG (a:ah):(bn {}).toArray.size=(bn a).toArray.size:=rfl
def aK (l:List ah) (c:Int):Option ah:=l.find? (λa=>a.code==c)
def gH (o:Option ah):ah:=o.getD {}
def cF (l:List ah) (c:Int):Value:=.tuple #[.agg (bn (gH (aK l c))).toArray,.bool (aK l c).isSome]
theorem pJ {l:List ah} {c:Int} (h:∀j (hj:j<l.length),l[j].code≠c):aK l c=none:=by
 unfold aK;rw[List.find?_eq_none];intro x hx;obtain⟨j,hj,rfl⟩:=List.getElem_of_mem hx;simpa using h j hj
theorem pK {l:List ah} {c:Int} {k:Nat} (hk:k<l.length) (he:l[k].code=c) (h:∀j (hj:j<k),(l[j]'(by omega)).code≠c):aK l c=some l[k]:=by
 unfold aK;rw[List.find?_eq_some_iff_getElem];exact⟨by simpa using he,k,hk,rfl,λj hj=>by simpa using h j hj⟩
theorem mL (l:List ah) (A:Option Addr) (c:Nat) (code:Int) (w:World) (hl:aj ar 4 w (·<w.heap.size) [.slice A l.length c] l) (hc:cx code) (hn:l.length<=1000):Calls Tryz.prog 94 #[.slice A l.length c,code] w (ap w (cF l code)):=by
 obtain⟨r,hr⟩:=x_ (cF l code);rw[hr];have HR:=H_ hr;clear hr;obtain⟨n,bj⟩:=x_ (l.length);rw[bj]at hn;have HL:=H_ hl;have HN:=H_ bj;rw[bj];clear hl bj;obtain⟨fP,gn⟩:=hc;go_enter Tryz.func94,Tryz.ntmps94;go_upto_region 1 with fail;obtain⟨W,hW,H0,HB,HS,ewx⟩:=B_ w (.cells #[(),(),(),()] 78);rw[hW];clear ewx;have rL:=H_ H0;clear hW H0;go_wp2_with fail
 go_loopw [10] (λi wr=>∃k:Nat,k<=n/\i=.int .i64 (k:Int)/\Below W.heap.size W wr/\∀j (hj:j<l.length),j<k->l[j].code≠code) (λi _=>n- (intOf i).toNat)
 case atStart=>exact⟨0,by omega,rfl,Below.refl _ _,λj hj h=>by omega⟩
 case round=>
  obtain⟨k,hk,rfl,hb,hall⟩:=hrel;have HA:=H_ hall;have G0:=(hb.block _ HS).trans rL.o;have lF:=H_ G0;clear hall G0;have bP:=hb.size;by_cases aU:k<n
  case pos=>
   have bq:(k:Int)< (n:Int):=by omega
   have bI:k<l.length:=by rw[HN.o];exact aU
   obtain⟨b,o,es,dj,ed,bL,aS⟩:=aj.get HL.o k bI;subst dj;obtain⟨bE,eL,aH,aZ,bU⟩:=ar.lit bL;rw[bE]at aS;obtain⟨ac,ni⟩:=x_ (l[k]);rw[ni]at aS eL aH aZ bU;have nH:=H_ ni;have eZ:=H_ ((aS.fr (Fr.ofBelow (HB.trans (hb.mono HB.size)))).range);clear bL bE aS ni;obtain⟨c1,c2,c3,c4⟩:=ac;simp only at eL aH aZ bU;have Fh:=HB.trans (hb.mono HB.size);by_cases he:c1=code
   case pos=>
    subst he;have nJ:=H_ (show r=.tuple #[.agg (bn ⟨c1,c2,c3,c4⟩).toArray,true] by
     rw[<-HR.o];unfold cF;rw[pK bI (by rw[nH.o]) (λj hj=>HA.o j (by omega) hj),nH.o];rfl)
    go_wp2_with (first|(refine w_ 13 78 12 b (o+k*4) (bn ⟨c1,c2,c3,c4⟩) eZ.o (cG _) Tryz.underlying78 ?_)|(show wpList _ _ _ (Oper.mk none (Op.store _ (Operand.tmp 4) _) _ _ _ _::_) _ _;refine wpList_store_row rfl 78 (.tmp 4) (.tmp 18) rfl w.heap.size (bn ⟨c1,c2,c3,c4⟩).toArray rfl rfl 78 (bn {}).toArray (al lF.o _) (bX _) (OG _) (nO _) ?_));refine bodyPost_ret (v:=.tuple #[.agg (bn ⟨c1,c2,c3,c4⟩).toArray,true]) (aA rfl _ _ w.heap.size 78 _ (0,0) _ rfl (aB (al lF.o _) _) Tryz.underlying78 rfl (bX _) _ rfl) rfl ⟨by rw[nJ.o];first|done|rfl,aD (Fh.alloc Fh.size _) (Nat.le_refl _) _⟩
   case neg=>
    go_wp2_with (refine w_ 13 78 12 b (o+k*4) (bn ⟨c1,c2,c3,c4⟩) eZ.o (cG _) Tryz.underlying78 ?_);go_roundw
    case rel=>exact⟨k+1,by omega,by go_num,hb.alloc hb.size _,λj hj m7=>by
     rcases Nat.lt_or_ge j k with h|h
     ·exact HA.o j hj h
     ·have:j=k:=by omega
      subst this;rw[nH.o];exact he⟩
    case measure=>
     have e:wrap64 ((k:Int)+1)=((k+1:Nat):Int):=by unfold wrap64;omega
     simp only[intOf,e];omega
  case neg=>
   have bq:¬(k:Int)< (n:Int):=by omega
   have Fh:=HB.trans (hb.mono HB.size);have nJ:=H_ (show r=.tuple #[.agg (bn {}).toArray,false] by
    rw[<-HR.o];unfold cF;rw[pJ (λj hj=>HA.o j hj (by have:=HN.o;omega))];rfl)
   go_wp2_with (show wpList _ _ _ (Oper.mk none (Op.store _ (Operand.tmp 4) _) _ _ _ _::_) _ _;refine wpList_store_row rfl 78 (.tmp 4) (.tmp 20) rfl w.heap.size (bn {}).toArray rfl rfl 78 (bn {}).toArray lF.o (bX _) (OG _) (nO _) ?_);refine bodyPost_ret (v:=.tuple #[.agg (bn {}).toArray,false]) (aA rfl _ _ w.heap.size 78 _ (0,0) _ rfl (aB lF.o _) Tryz.underlying78 rfl (bX _) _ rfl) rfl ⟨by rw[nJ.o];first|done|rfl,aD Fh (Nat.le_refl _) _⟩
theorem mU (l:List ah) (A:Option Addr) (c:Nat) (code:Int) (w:World) (hl:aj ar 4 w (·<w.heap.size) [.slice A l.length c] l) (hc:cx code) (hn:l.length<=1000):Calls Tryz.prog 34 #[.slice A l.length c,code] w (ap w (cF l code)):=by
 obtain⟨r,hr⟩:=x_ (cF l code);rw[hr];have HR:=H_ hr;clear hr;obtain⟨n,bj⟩:=x_ (l.length);rw[bj]at hn;have HL:=H_ hl;have HN:=H_ bj;rw[bj];clear hl bj;obtain⟨fP,gn⟩:=hc;go_enter Tryz.func34,Tryz.ntmps34;go_upto_region 1 with fail;obtain⟨W,hW,H0,HB,HS,ewx⟩:=B_ w (.cells #[(),(),(),()] 78);rw[hW];clear ewx;have rL:=H_ H0;clear hW H0;go_wp2_with fail
 go_loopw [6] (λi wr=>∃k:Nat,k<=n/\i=.int .i64 (k:Int)/\Below W.heap.size W wr/\∀j (hj:j<l.length),j<k->l[j].code≠code) (λi _=>n- (intOf i).toNat)
 case atStart=>exact⟨0,by omega,rfl,Below.refl _ _,λj hj h=>by omega⟩
 case round=>
  obtain⟨k,hk,rfl,hb,hall⟩:=hrel;have HA:=H_ hall;have G0:=(hb.block _ HS).trans rL.o;have lF:=H_ G0;clear hall G0;have bP:=hb.size;by_cases aU:k<n
  case pos=>
   have bq:(k:Int)< (n:Int):=by omega
   have bI:k<l.length:=by rw[HN.o];exact aU
   obtain⟨b,o,es,dj,ed,bL,aS⟩:=aj.get HL.o k bI;subst dj;obtain⟨bE,eL,aH,aZ,bU⟩:=ar.lit bL;rw[bE]at aS;obtain⟨ac,ni⟩:=x_ (l[k]);rw[ni]at aS eL aH aZ bU;have nH:=H_ ni;have eZ:=H_ ((aS.fr (Fr.ofBelow (HB.trans (hb.mono HB.size)))).range);clear bL bE aS ni;obtain⟨c1,c2,c3,c4⟩:=ac;simp only at eL aH aZ bU;have Fh:=HB.trans (hb.mono HB.size);have k0:wr.cell? ⟨b,o+k*4,none⟩=some (.int .i64 c1):=eZ.o 0 _ rfl;by_cases he:c1=code
   case pos=>
    subst he;have nJ:=H_ (show r=.tuple #[.agg (bn ⟨c1,c2,c3,c4⟩).toArray,true] by
     rw[<-HR.o];unfold cF;rw[pK bI (by rw[nH.o]) (λj hj=>HA.o j (by omega) hj),nH.o];rfl)
    go_wp2_with (first|(refine w_ 23 78 22 b (o+k*4) (bn ⟨c1,c2,c3,c4⟩) eZ.o (cG _) Tryz.underlying78 ?_)|(show wpList _ _ _ (Oper.mk none (Op.store _ (Operand.tmp 4) _) _ _ _ _::_) _ _;refine wpList_store_row rfl 78 (.tmp 4) (.tmp 23) rfl w.heap.size (bn ⟨c1,c2,c3,c4⟩).toArray rfl rfl 78 (bn {}).toArray lF.o (bX _) (OG _) (nO _) ?_));refine bodyPost_ret (v:=.tuple #[.agg (bn ⟨c1,c2,c3,c4⟩).toArray,true]) (aA rfl _ _ w.heap.size 78 _ (0,0) _ rfl (aB lF.o _) Tryz.underlying78 rfl (bX _) _ rfl) rfl ⟨by rw[nJ.o];first|done|rfl,aD Fh (Nat.le_refl _) _⟩
   case neg=>
    go_wp2_with fail;go_roundw
    case rel=>exact⟨k+1,by omega,by go_num,hb,λj hj m7=>by
     rcases Nat.lt_or_ge j k with h|h
     ·exact HA.o j hj h
     ·have:j=k:=by omega
      subst this;rw[nH.o];exact he⟩
    case measure=>
     have e:wrap64 ((k:Int)+1)=((k+1:Nat):Int):=by unfold wrap64;omega
     simp only[intOf,e];omega
  case neg=>
   have bq:¬(k:Int)< (n:Int):=by omega
   have Fh:=HB.trans (hb.mono HB.size);have nJ:=H_ (show r=.tuple #[.agg (bn {}).toArray,false] by
    rw[<-HR.o];unfold cF;rw[pJ (λj hj=>HA.o j hj (by have:=HN.o;omega))];rfl)
   go_wp2_with (show wpList _ _ _ (Oper.mk none (Op.store _ (Operand.tmp 4) _) _ _ _ _::_) _ _;refine wpList_store_row rfl 78 (.tmp 4) (.tmp 24) rfl w.heap.size (bn {}).toArray rfl rfl 78 (bn {}).toArray lF.o (bX _) (OG _) (nO _) ?_);refine bodyPost_ret (v:=.tuple #[.agg (bn {}).toArray,false]) (aA rfl _ _ w.heap.size 78 _ (0,0) _ rfl (aB lF.o _) Tryz.underlying78 rfl (bX _) _ rfl) rfl ⟨by rw[nJ.o];first|done|rfl,aD Fh (Nat.le_refl _) _⟩
def upP (l:List ah):Nat->List Int->Int->List Int × Int
 |0,acc,c=>(acc,c)
 |f+1,acc,c=>match aK l c with
  |none=>(acc,c)
  |some a=>if acc.contains c then(acc,c)else upP l f (acc++[c]) a.parent
def upR (l:List ah):Nat->List Int->Int->List Int
 |0,acc,_=>acc
 |f+1,acc,c=>match aK l c with
  |none=>acc
  |some a=>upR l f (acc++[c]) a.parent
theorem cJ {l:List ah} {c:Int} {a:ah} (h:aK l c=some a):a∈l/\a.code=c:=by
 unfold aK at h;exact⟨List.mem_of_find?_eq_some h,by simpa using List.find?_some h⟩
theorem qT {l:List ah} {a:ah} (h:a∈l):(aK l a.code).isSome=true:=by
 unfold aK;rw[List.find?_isSome];exact⟨a,h,by simp⟩
def xB (l:List ah) (acc:List Int):Prop:=acc.Nodup/\∀x∈acc,(aK l x).isSome=true
theorem Ez:∀(xs ys:List Int),xs.Nodup->(∀x∈xs,x∈ys)->xs.length<=ys.length
 |[],_,_,_=>Nat.zero_le _
 |x::xs,ys,h,hs=>by
  rw[List.nodup_cons]at h;have hx:x∈ys:=hs x (by simp);have:=Ez xs (ys.erase x) h.2 (λy hy=>(List.mem_erase_of_ne (by rintro rfl;exact h.1 hy)).2 (hs y (by simp[hy])));rw[List.length_erase_of_mem hx]at this;have:=List.length_pos_of_mem hx;simp only[List.length_cons];omega
theorem mi {l:List ah} {acc:List Int} (h:xB l acc):acc.length<=l.length:=by
 have h1:acc ⊆ l.map (·.code):=by
  intro x hx;have:=h.2 x hx;obtain⟨a,ha⟩:=Option.isSome_iff_exists.1 this;obtain⟨m,e⟩:=cJ ha;exact List.mem_map.2 ⟨a,m,e⟩
 have:=Ez acc _ h.1 (λx hx=>h1 hx);simpa using this
theorem oB (l:List ah):xB l []:=⟨List.nodup_nil,by simp⟩
theorem pR {l:List ah} {acc:List Int} {c:Int} {a:ah} (h:xB l acc) (hc:acc.contains c=false) (ha:aK l c=some a):xB l (acc++[c]):=by
 have hn:c ∉ acc:=by simpa using hc
 refine⟨List.nodup_append.2 ⟨h.1,by simp,?_⟩,?_⟩
 ·intro x hx y hy;simp only[List.mem_singleton]at hy;subst hy;exact λe=>hn (e▸hx)
 ·intro x hx;rcases List.mem_append.1 hx with h1|h1
  ·exact h.2 x h1
  ·simp only[List.mem_singleton]at h1;subst h1;rw[ha];rfl
def aca (l:List ah) (acc:List Int) (c:Int):Prop:=∀x∈acc,∃a,aK l x=some a/\(a.parent∈acc\/a.parent=c)
theorem Fe {l:List ah} {S:List Int} (hS:∀x∈S,∃a,aK l x=some a/\a.parent∈S):∀(f:Nat) (acc:List Int) (c:Int),c∈S->(upR l f acc c).length=acc.length+f
 |0,acc,c,_=>rfl
 |f+1,acc,c,hc=>by
  obtain⟨a,ha,hp⟩:=hS c hc;unfold upR;rw[ha];simp only;rw[Fe hS f (acc++[c]) a.parent hp,List.length_append];simp only[List.length_cons,List.length_nil];omega
theorem JM {l:List ah}:∀(f:Nat) (acc:List Int) (c:Int),xB l acc->aca l acc c->acc.length+f=l.length+1->
 (aK l (upP l f acc c).2=none↔(upR l f acc c).length<=l.length)
 |0,acc,c,hk,_,hf=>by have:=mi hk;omega
 |f+1,acc,c,hk,hl,hf=>by
  unfold upP upR;cases ha:aK l c with
  |none=>
   simp only;rw[ha];have:=mi hk;simp[this]
  |some a=>
   simp only;by_cases hc:acc.contains c=true
   ·rw[if_pos hc];simp only[ha,reduceCtorEq,false_iff,Nat.not_le];have KD:c∈acc:=by simpa using hc
    have hS:∀x∈acc,∃a,aK l x=some a/\a.parent∈acc:=by
     intro x hx;obtain⟨b,h1,h2⟩:=hl x hx;refine⟨b,h1,?_⟩;rcases h2 with h2|h2
     ·exact h2
     ·rw[h2];exact KD
    obtain⟨b,h1,h2⟩:=hS c KD;rw[ha]at h1;cases h1;rw[Fe hS f (acc++[c]) a.parent h2,List.length_append];simp only[List.length_cons,List.length_nil];omega
   ·rw[if_neg hc];have hc':acc.contains c=false:=by simpa using hc
    refine JM f (acc++[c]) a.parent (pR hk hc' ha) ?_ (by simp only[List.length_append,List.length_cons,List.length_nil];omega);intro x hx;rcases List.mem_append.1 hx with h1|h1
    ·obtain⟨b,h2,h3⟩:=hl x h1;refine⟨b,h2,?_⟩;rcases h3 with h3|h3
     ·exact .inl (List.mem_append_left _ h3)
     ·exact .inl (h3▸List.mem_append_right _ (by simp))
    ·simp only[List.mem_singleton]at h1;subst h1;exact⟨a,ha,.inr rfl⟩
theorem yA {l:List ah}:∀(f:Nat) (acc:List Int) (c:Int),(∀x,acc.getLast?=some x->∃a,aK l x=some a/\a.parent=c)->
 ∀x,(upP l f acc c).1.getLast?=some x->∃a,aK l x=some a/\a.parent=(upP l f acc c).2
 |0,acc,c,h=>h
 |f+1,acc,c,h=>by
  unfold upP;cases ha:aK l c with
  |none=>exact h
  |some a=>
   simp only;by_cases hc:acc.contains c=true
   ·rw[if_pos hc];exact h
   ·rw[if_neg hc];refine yA f (acc++[c]) a.parent ?_;intro x hx;rw[List.getLast?_append]at hx;simp only[List.getLast?_singleton,Option.some_or,Option.some.injEq]at hx;subst hx;exact⟨a,ha,rfl⟩
theorem Cp {l:List ah}:∀(f:Nat) (acc:List Int) (c:Int),acc.length<=(upP l f acc c).1.length
 |0,acc,c=>Nat.le_refl _
 |f+1,acc,c=>by
  unfold upP;cases ha:aK l c with
  |none=>exact Nat.le_refl _
  |some a=>
   simp only;by_cases hc:acc.contains c=true
   ·rw[if_pos hc];exact Nat.le_refl _
   ·rw[if_neg hc];have:=Cp (l:=l) f (acc++[c]) a.parent;simp only[List.length_append,List.length_cons,List.length_nil]at this;omega
def ek (g:Bool) (a:ah):Bool:=decide (1<=a.code/\a.code<=99999/\1<=a.kind/\a.kind<=5)&&(if g then decide (1<=a.basis/\a.basis<=3)else a.basis==0)
def mP (l:List ah) (a:ah):Bool:=match aK l a.parent with
 |none=>false
 |some p=> !(p.code==a.code)&&p.kind==a.kind
def dF (l:List ah) (g:Bool) (a:ah):Bool:=ek g a&&(a.parent==0||(mP l a&&(upP l (l.length+1) [] a.code).2==0))
def ea (l:List ah) (g:Bool) (a:ah):Bool:=ek g a&&(a.parent==0||mP l a)
def tI (l:List ah) (g:Bool) (i:Nat):Bool:=match l[i]? with
 |none=>false
 |some a=> !(decide (0<i)&&decide ((l.getD (i- 1) {}).code≥a.code))&&dF l g a
def sE (l:List ah) (g:Bool) (i:Nat):Bool:=match l[i]? with
 |none=>false
 |some a=>ea l g a&&!(decide (0<i)&&decide (a.code<=(l.getD (i- 1) {}).code))&&decide ((upR l (l.length+1) [] a.code).length<=l.length)
def ej (l:List ah) (g:Bool):Bool:=(List.range l.length).all (tI l g)&&decide (l.length<=200)
def lG (l:List ah) (g:Bool):Bool:=decide (l.length<=200)&&(List.range l.length).all (sE l g)
theorem JN {l:List ah} (hc:∀a∈l,1<=a.code) (hp:∀a∈l,a.parent=0\/mP l a=true) {a:ah} (ha:a∈l):
 (upP l (l.length+1) [] a.code).2=0↔(upR l (l.length+1) [] a.code).length<=l.length:=by
 rw[<-JM (l.length+1) [] a.code (oB l) (λx hx=>by cases hx) (by simp)];have NL:=yA (l:=l) (l.length+1) [] a.code (λx hx=>by cases hx);obtain⟨a0,ha0⟩:=Option.isSome_iff_exists.1 (qT ha);have eX:1<=(upP l (l.length+1) [] a.code).1.length:=by
  unfold upP;rw[ha0];have:=Cp (l:=l) l.length ([]++[a.code]) a0.parent;simpa using this
 generalize upP l (l.length+1) [] a.code=P at*;obtain⟨p,e⟩:=P;simp only at*;have bT:p≠[]:=by rintro rfl;simp at eX
 obtain⟨b,hb,oQ⟩:=NL _ (List.getLast?_eq_some_getLast bT);constructor
 ·rintro rfl;cases h:aK l 0 with
  |none=>rfl
  |some z=>
   obtain⟨m,hz⟩:=cJ h;have:=hc z m;omega
 ·intro h;rcases hp b (cJ hb).1 with h0|h0
  ·rw[<-oQ];exact h0
  ·unfold mP at h0;rw[oQ,h]at h0;cases h0
theorem vR (l:List ah) (g:Bool):ej l g=lG l g:=by
 unfold ej lG;rw[Bool.and_comm]
 congr 1
 have T9:∀a,ek g a=true->1<=a.code:=by
  intro a h;unfold ek at h;simp only[Bool.and_eq_true,decide_eq_true_eq]at h;exact h.1.1
 rw[Bool.eq_iff_iff,List.all_eq_true,List.all_eq_true];constructor
 ·intro h;have h':∀i (hi:i<l.length),(!(decide (0<i)&&decide ((l.getD (i- 1) {}).code≥l[i].code)))=true/\dF l g l[i]=true:=by
   intro i hi;have:=h i (List.mem_range.2 hi);unfold tI at this;rw[List.getElem?_eq_getElem hi]at this;simp only[Bool.and_eq_true]at this;exact this
  have hf:∀a∈l,ek g a=true/\(a.parent=0\/mP l a=true/\(upP l (l.length+1) [] a.code).2=0):=by
   intro a ha;obtain⟨i,hi,rfl⟩:=List.getElem_of_mem ha;have:=(h' i hi).2;unfold dF at this;simpa using this
  have hc:∀a∈l,1<=a.code:=λa ha=>T9 a (hf a ha).1
  have hp:∀a∈l,a.parent=0\/mP l a=true:=λa ha=>(hf a ha).2.imp id (·.1)
  intro i hi;have hi':=List.mem_range.1 hi;have hm:l[i]∈l:=List.getElem_mem hi';unfold sE;rw[List.getElem?_eq_getElem hi'];simp only[Bool.and_eq_true,decide_eq_true_eq];refine⟨⟨?_,(h' i hi').1⟩,?_⟩
  ·unfold ea;rw[(hf _ hm).1,Bool.true_and];simpa using hp _ hm
  ·rw[<-JN hc hp hm];rcases(hf _ hm).2 with h0|h0
   ·have abh:∀(j:Nat) (i:Nat) (hi:i<l.length) (hj:j<i),(l[j]'(by omega)).code<l[i].code:=by
     intro j i
     induction i with
     |zero=>intro _ hj;omega
     |succ i ih=>
      intro hi hj;have h1:=(h' (i+1) hi).1;simp only[Nat.add_sub_cancel,Nat.zero_lt_succ,decide_true,Bool.true_and,Bool.not_eq_true',decide_eq_false_iff_not]at h1;rw[List.getD_eq_getElem?_getD,List.getElem?_eq_getElem (by omega),Option.getD_some]at h1;rcases Nat.lt_or_ge j i with h2|h2
      ·have:=ih (by omega) h2;omega
      ·have:j=i:=by omega
       subst this;omega
    have ha0:aK l l[i].code=some l[i]:=pK hi' rfl (λj hj e=>by have:=abh j i hi' hj;omega);have h00:aK l 0=none:=pJ (λj hj e=>by have:=hc _ (List.getElem_mem hj);omega);unfold upP;rw[ha0];simp only[List.contains_nil,Bool.false_eq_true,if_false];rw[h0];obtain⟨m,jA⟩:∃m,l.length=m+1:=⟨l.length- 1,by omega⟩;rw[jA];unfold upP;rw[h00]
   ·exact h0.2
 ·intro h;have h':∀i (hi:i<l.length),(ea l g l[i]=true/\(!(decide (0<i)&&decide (l[i].code<=(l.getD (i- 1) {}).code)))=true)/\(upR l (l.length+1) [] l[i].code).length<=l.length:=by
   intro i hi;have:=h i (List.mem_range.2 hi);unfold sE at this;rw[List.getElem?_eq_getElem hi]at this;simp only[Bool.and_eq_true,decide_eq_true_eq]at this;exact this
  have hf:∀a∈l,ek g a=true/\(a.parent=0\/mP l a=true):=by
   intro a ha;obtain⟨i,hi,rfl⟩:=List.getElem_of_mem ha;have:=(h' i hi).1.1;unfold ea at this;simpa using this
  have hc:∀a∈l,1<=a.code:=λa ha=>T9 a (hf a ha).1
  have hp:∀a∈l,a.parent=0\/mP l a=true:=λa ha=>(hf a ha).2
  intro i hi;have hi':=List.mem_range.1 hi;have hm:l[i]∈l:=List.getElem_mem hi';unfold tI;rw[List.getElem?_eq_getElem hi'];simp only[Bool.and_eq_true];refine⟨(h' i hi').1.2,?_⟩;unfold dF;rw[(hf _ hm).1,Bool.true_and,(JN hc hp hm).2 (h' i hi').2];rcases hp _ hm with h0|h0
  ·simp[h0]
  ·simp[h0]
def iv (l:List Int):List Value:=l.map (Value.int .i64)
theorem fL {w w':World} (h:Below w.heap.size w w'):w.grownBy w' none:=⟨h.os,h.tape,h.output,h.size,λk hk _=>h.block k hk⟩
theorem Ee:(Tryz.prog.info? 3).map (λi=>(i.zero,i.size,i.bytes))=some (some (.int .i64 0),1,8):=by kernel_rfl
theorem fJ {l:List ah} {c:Int} (h:aK l c=none):cF l c=.tuple #[.agg (bn {}).toArray,false]:=by unfold cF;rw[h];rfl
theorem eD {l:List ah} {c:Int} {a:ah} (h:aK l c=some a):cF l c=.tuple #[.agg (bn a).toArray,true]:=by unfold cF;rw[h];rfl
theorem Qo {l:List ah} {c:Int} {f:Nat} {acc:List Int} (h:aK l c=none):upP l (f+1) acc c=(acc,c):=by unfold upP;rw[h]
theorem Qp {l:List ah} {c:Int} {f:Nat} {acc:List Int} {a:ah} (h:aK l c=some a) (hs:acc.contains c=true):upP l (f+1) acc c=(acc,c):=by unfold upP;rw[h];simp only;rw[if_pos hs]
theorem ZW {l:List ah} {c:Int} {f:Nat} {acc:List Int} {a:ah} (h:aK l c=some a) (hs:acc.contains c=false):upP l (f+1) acc c=upP l f (acc++[c]) a.parent:=by
 conv=>lhs;unfold upP
 rw[h];simp only;rw[if_neg (by rw[hs];decide)]
def VO:Value->Nat
 | .slice _ n _=>n
 |_=>0
theorem Jp {w:World} {base:Nat} {e:TypeId} {size n:Nat} {v:Value} {xs:List Value} (h:w.ownsRow base e size v n xs):VO v=n:=by
 rcases h.2 with⟨rfl,rfl⟩|⟨g,cap,aw,rfl,_⟩
 ·rfl
 ·rfl
theorem aj.accB {w:World} {Q:Nat->Prop} {cs:List Value} {l:List ah} (h:aj ar 4 w Q cs l):∀a∈l,pG a:=by
 intro a ha;obtain⟨i,hi,rfl⟩:=List.getElem_of_mem ha;obtain⟨A,c,rfl,_,_⟩:=h.form;obtain⟨b,o,es,_,_,h1,_⟩:=h.get i hi;exact(ar.lit h1).2
theorem az {w w':World} {cs:List Value} {l:List ah} (h:aj ar 4 w (·<w.heap.size) cs l) (hb:Below w.heap.size w w'):aj ar 4 w' (·<w'.heap.size) cs l:=
 (h.fr (λh=>ar.fr h (Fr.ofBelow hb)) (Fr.ofBelow hb)).mono (λh=>ar.mono h (λk hk=>by have:=hb.size;omega)) (λk hk=>by have:=hb.size;omega)
theorem VN {w8 w9:World} {o x:Obj} {g:Nat} {row:Option Nat} (h:w8.heap[g]? =some x) (gk:(w8.alloc o).grownBy w9 row) (bT:some g≠row):w9.heap[g]? =some x:=
 (gk.block g (by simp;have:=ag h;omega) bT).trans (al h o)
theorem mo {w:World} {base base':Nat} {e:TypeId} {size n:Nat} {v:Value} {xs:List Value} (h:w.ownsRow base e size v n xs) (hb:base'<=base):w.ownsRow base' e size v n xs:=by
 refine⟨h.1,?_⟩;rcases h.2 with h|⟨g,cap,aw,h1,h2,h3⟩
 ·exact .inl h
 ·exact .inr ⟨g,cap,aw,h1,Nat.le_trans hb h2,h3⟩
theorem bb {w w':World} {base:Nat} {e:TypeId} {size n:Nat} {v:Value} {xs:List Value} (h:w.ownsRow base e size v n xs) (hb:Below w.heap.size w w'):w'.ownsRow base e size v n xs:=
 h.kept (fL hb) (by cases v.ownBlock<;>simp)
theorem ZK {w:World} {base k:Nat} {e:TypeId} {size n:Nat} {v:Value} {xs:List Value} (h:w.ownsRow base e size v n xs) (hk:k<base):v.ownBlock=none\/v.ownBlock≠some k:=by
 cases hv:v.ownBlock with
 |none=>exact .inl rfl
 |some g=>
  refine .inr (λe=>?_);have h1:=(h.lt g hv).1
  injection e with e
  omega
theorem bK {B:Nat} {w w1 w2:World} {row:Option Nat} (h:Below B w w1) (hg:w1.grownBy w2 row) (hr:∀k,row=some k->B<=k) (hB:B<=w.heap.size):Below B w w2:=
 ((Fr.ofBelow h).grown hg (λk hk=>by omega) (λk hk aU=>by have:=hr k hk;omega)).below
theorem Ja (l:List ah) (A:Option Addr) (c:Nat) (code:Int) (w:World) (hl:aj ar 4 w (·<w.heap.size) [.slice A l.length c] l) (hc:cx code) (hn:l.length<=1000):
 Calls Tryz.prog 228 #[.slice A l.length c,code] w (λe w'=>∃v,e=.returned v/\w'.ownsRow w.heap.size 3 1 v (upP l (l.length+1) [] code).1.length (iv (upP l (l.length+1) [] code).1)/\Below w.heap.size w w'):=by
 have Iz:=@run_makeMap Tryz.prog;obtain⟨i0,Y5,hz0,IU,QH⟩:=info_parts Ee;obtain⟨R,hR⟩:=x_ (upP l (l.length+1) [] code);rw[hR];have HR:=H_ hR;clear hR;obtain⟨n,bj⟩:=x_ (l.length);rw[bj]at hn;have HL:=H_ hl;have HN:=H_ bj;have HC:=H_ hc;rw[bj];clear hl bj hc;go_enter Tryz.func228,Tryz.ntmps228;go_wp2_with fail
 go_step3
 go_wp2_with fail
 go_step3
 have CO:=pd.made Tryz.prog 3 4 qV w;have HB:=ai w (.map #[] 0);have HS:w.heap.size< (w.alloc (.map #[] 0)).heap.size:=by simp
 generalize hW:w.alloc (Obj.map #[] 0)=W at*;clear hW;go_wp2_with fail
 go_loopw [5,1] (λo i wr=>∃(acc:List Int) (c':Int) (f:Nat),wr.ownsRow W.heap.size 3 1 o acc.length (iv acc)/\i=.int .i64 c'/\cx c'/\KM wr w.heap.size acc.length (λx=>acc.contains x)/\Below w.heap.size w wr/\W.heap.size<=wr.heap.size/\xB l acc/\acc.length+f=l.length+1/\upP l f acc c'=R) (λo _ _=>n+1- VO o)
 case atStart=>exact⟨[],code,l.length+1,World.ownsRow_nil _ _ _ _,rfl,HC.o,CO.eqv (λ_=>rfl),HB,Nat.le_refl _,oB l,by simp,HR.o⟩
 case round=>
  obtain⟨acc,c',f,bv,rfl,hc',fD,hb,bP,hk,hf,hup⟩:=hrel;have hal:=mi hk;obtain⟨f,rfl⟩:∃g,f=g+1:=⟨f- 1,by omega⟩;have HK:=H_ hk;have HF:=H_ hf;have V6:=H_ hup;have HC':=H_ hc';have HO:=H_ bv;have MO:=H_ (show acc.length<=1000 by have:=HN.o;omega);have Vw:=H_ (az HL.o hb);clear hk hf hup hal;obtain⟨fP,gn⟩:=hc';go_wp2_with fail;have aM:=mL l A c c' wr Vw.o HC'.o (by rw[HN.o];exact hn);rw[HN.o]at aM;refine aM.mono ?_;clear aM;rintro e w2 ⟨rfl,aH⟩;have tv:=hb.trans (aH.mono hb.size);cases ha:aK l c' with
  |none=>
   have e0:cF l c'=.tuple #[.agg (bn {}).toArray,false]:=fJ ha;rw[e0];clear e0;have HA:=H_ ha;clear ha;go_wp2_with fail
   try rw[Exit.noGoto_ret]
   go_ret;have e1:R=(acc,c'):=by rw[<-V6.o,Qo HA.o]
   rw[e1];exact⟨_,rfl,mo ((bb HO.o aH).alloc _) (Nat.le_of_lt HS),tv.alloc tv.size _⟩
  |some a=>
   have e0:cF l c'=.tuple #[.agg (bn a).toArray,true]:=eD ha;rw[e0];clear e0;have HA:=H_ ha;have m3:=HL.o.accB a (cJ ha).1;have IN:=fD.below aH;clear ha;obtain⟨c1,c2,c3,c4⟩:=a;have XJ:=H_ m3.2.2.2;clear m3;obtain⟨F,hF⟩:=x_ ((λx=>acc.contains x));rw[hF]at IN;have kV:=H_ hF;clear hF;go_upto_region 4 with fail;obtain⟨W7,F8,H7,em,yG,ewx⟩:=B_ w2 (.cells #[c1,c2,c3,c4] 78);rw[F8];clear ewx yG;clear F8;have qM:=IN.below em;have fC:=tv.trans (em.mono tv.size);cases kr:F c' with
   |true=>
    go_wp2_with (at_lookup;refine bO rfl _ _ 218 rfl 3 4 dI gx de (dU _) w.heap.size acc.length F rfl qM _ c' rfl (gD HC'.o) ?_)
    try rw[Exit.noGoto_ret]
    go_ret;have e1:R=(acc,c'):=by rw[<-V6.o,Qp HA.o ((congrFun kV.o c').trans kr)]
    rw[e1];exact⟨_,rfl,mo (bb (bb HO.o aH) em) (Nat.le_of_lt HS),fC⟩
   |false=>
    have IQ:=bb (bb HO.o aH) em;have G7:=H_ H7;have dW:=aH.size;have QN:=em.size;clear H7;go_wp2_with (first|(at_lookup;refine bO rfl _ _ 218 rfl 3 4 dI gx de (dU _) w.heap.size acc.length F rfl qM _ c' rfl (gD HC'.o) ?_)|(at_mapUpdate;refine dV rfl _ _ _ 218 rfl 3 4 dI gx de w.heap.size acc.length F rfl qM (by have:=MO.o;simp only[maxLen];omega) qW nV _ c' rfl true rfl (gD HC'.o) ?_;intro w8 iD Z7;replace iD:=H_ iD;have II:=H_ (IQ.kept Z7 ((ZK IQ HS)));have afl:=Z7.size)|(at_builtin;go_loud (refine wpList_append_own _ rfl (.tmp 25) (.tmp 27) _ rfl W.heap.size 3 i0 _ 1 8 Tryz.underlying148 Y5 hz0 IU QH rfl (by have:=MO.o;omega) _ acc.length (iv acc) rfl (II.o.alloc _) ⟨w8.heap.size,0,none⟩ 1 1 [c'] rfl rfl (cell_one_new _ _ _) (by simp[Value.oneCell']) (by have:=MO.o;simp only[maxLen];omega) (by have:=MO.o;omega) (by have:=MO.o;simp;omega) ?_);intro v9 w9 cj gk _;have d3:=ab (VN ((Z7.block _ (by have:=ag G7.o;omega) (λe=>by injection e with e;omega)).trans G7.o) gk (λe=>by have:=(HO.o.lt _ e.symm).2;omega)) 3));go_roundw
    case rel=>
     refine⟨acc++[c'],c4,f,?_,rfl,XJ.o,?_,?_,?_,pR HK.o ((congrFun kV.o c').trans kr) HA.o,?_,?_⟩
     ·have e1:iv (acc++[c'])=iv acc++[.int .i64 c']:=by simp[iv]
      rw[e1,List.length_append];exact cj
     ·rw[List.length_append];refine((iD.o.kept (World.grownBy_alloc _ _ none) (by simp)).kept gk (λe=>by have:=(HO.o.lt _ e.symm).1;omega)).eqv (λd=>?_);rw[<-kV.o];by_cases hd:d=c'
      ·subst hd;simp
      ·simp[hd]
     ·exact bK ((bK fC Z7 (λk hk=>by injection hk with hk;omega) (Nat.le_refl _)).alloc (by omega) _) gk (λk hk=>by have:=(HO.o.lt _ hk).1;omega) (Nat.le_refl _)
     ·have:=gk.size;simp at this;omega
     ·have:=HF.o;simp only[List.length_append,List.length_cons,List.length_nil];omega
     ·rw[<-V6.o];exact(ZW HA.o ((congrFun kV.o c').trans kr)).symm
    case measure=>
     rw[Jp cj,Jp HO.o];have:=MO.o;have:=HF.o;have:=HN.o;omega
section
variable {l:List ah} {g:Bool} {a:ah}
theorem jq (h:¬(1<=a.code/\a.code<=99999/\1<=a.kind/\a.kind<=5)):ek g a=false:=by unfold ek;rw[decide_eq_false h];rfl
theorem qS (h:¬(1<=a.basis/\a.basis<=3)):ek true a=false:=by unfold ek;rw[if_pos rfl,decide_eq_false h,Bool.and_false]
theorem D3 (h:¬a.basis=0):ek false a=false:=by
 unfold ek;rw[if_neg (by decide),show(a.basis==0)=false from by simpa using h,Bool.and_false]
theorem D2 (h:1<=a.code/\a.code<=99999/\1<=a.kind/\a.kind<=5) (h2:1<=a.basis/\a.basis<=3):ek true a=true:=by unfold ek;rw[decide_eq_true h,if_pos rfl,decide_eq_true h2];rfl
theorem DZ (h:1<=a.code/\a.code<=99999/\1<=a.kind/\a.kind<=5) (h2:a.basis=0):ek false a=true:=by
 unfold ek;rw[decide_eq_true h,if_neg (by decide),h2];rfl
theorem iQ (h:ek g a=false):dF l g a=false:=by unfold dF;rw[h];rfl
theorem iR (h:ek g a=false):ea l g a=false:=by unfold ea;rw[h];rfl
theorem AJ (h:ek g a=true) (h0:a.parent=0):dF l g a=true:=by unfold dF;rw[h,h0];rfl
theorem AK (h:ek g a=true) (h0:a.parent=0):ea l g a=true:=by unfold ea;rw[h,h0];rfl
theorem ko (h0:¬a.parent=0) (hp:mP l a=false):dF l g a=false:=by
 unfold dF;rw[hp,show(a.parent==0)=false from by simpa using h0];simp
theorem AM (h:ek g a=true) (h0:¬a.parent=0):ea l g a=mP l a:=by
 unfold ea;rw[h,show(a.parent==0)=false from by simpa using h0];simp
theorem xQ (h:ek g a=true) (h0:¬a.parent=0) (hp:mP l a=true):dF l g a=((upP l (l.length+1) [] a.code).2==0):=by
 unfold dF;rw[h,hp,show(a.parent==0)=false from by simpa using h0];simp
theorem oF (h:aK l a.parent=none):mP l a=false:=by unfold mP;rw[h]
theorem oG {p:ah} (h:aK l a.parent=some p):mP l a=(!(p.code==a.code)&&p.kind==a.kind):=by unfold mP;rw[h]
end
theorem JL {l:List ah} {c:Int} (h:(aK l c).isSome=true):∃(j:Nat) (x:Int) (QK:ah),(upP l (l.length+1) [] c).1.length=j+1/\(upP l (l.length+1) [] c).1[j]? =some x/\aK l x=some QK/\QK.parent=(upP l (l.length+1) [] c).2:=by
 have NL:=yA (l:=l) (l.length+1) [] c (λx hx=>by cases hx);obtain⟨a0,ha0⟩:=Option.isSome_iff_exists.1 h;have eX:1<=(upP l (l.length+1) [] c).1.length:=by
  unfold upP;rw[ha0];have:=Cp (l:=l) l.length ([]++[c]) a0.parent;simpa using this
 generalize upP l (l.length+1) [] c=P at*;obtain⟨p,e⟩:=P;simp only at*;obtain⟨j,hj⟩:∃j,p.length=j+1:=⟨p.length- 1,by omega⟩;obtain⟨x,hx⟩:∃x,p[j]? =some x:=⟨p[j],List.getElem?_eq_getElem (by omega)⟩;have hl:p.getLast?=some x:=by rw[List.getLast?_eq_getElem?,hj];exact hx
 obtain⟨QK,h1,h2⟩:=NL x hl;exact⟨j,x,QK,hj,hx,h1,h2⟩
theorem sJ {l:List ah}:∀(f:Nat) (acc:List Int) (c:Int),xB l acc->acc.length+f=l.length+1->(upP l f acc c).1.length<=l.length/\(∀x∈(upP l f acc c).1,(aK l x).isSome=true)
 |0,acc,c,hk,hf=>by have:=mi hk;omega
 |f+1,acc,c,hk,hf=>by
  unfold upP;cases ha:aK l c with
  |none=>exact⟨mi hk,hk.2⟩
  |some a=>
   simp only;by_cases hc:acc.contains c=true
   ·rw[if_pos hc];exact⟨mi hk,hk.2⟩
   ·rw[if_neg hc];have hc':acc.contains c=false:=by simpa using hc
    exact sJ f (acc++[c]) a.parent (pR hk hc' ha) (by simp only[List.length_append,List.length_cons,List.length_nil];omega)
theorem GU {l:List Int} {j:Nat} {x:Int} (h:l[j]? =some x):(iv l)[j]? =some (.int .i64 x):=by unfold iv;rw[List.getElem?_map,h];rfl
theorem L9 (l:List ah) (A:Option Addr) (c:Nat) (a:ah) (g:Bool) (w:World) (hl:aj ar 4 w (·<w.heap.size) [.slice A l.length c] l) (m3:pG a) (hn:l.length<=1000):Calls Tryz.prog 220 #[.slice A l.length c,.agg (bn a).toArray,g] w (ap w (.bool (ea l g a))):=by
 obtain⟨r,hr⟩:=x_ (ea l g a);rw[hr];have HR:=H_ hr;clear hr;obtain⟨n,bj⟩:=x_ (l.length);rw[bj]at hn;have HL:=H_ hl;have HN:=H_ bj;rw[bj];clear hl bj;obtain⟨c1,c2,c3,c4⟩:=a;simp only[pG]at m3;obtain⟨q1,q2,q3,q4⟩:=m3;have Q4:=H_ q4;have Q1:=H_ q1;obtain⟨q11,q12⟩:=q1;obtain⟨q21,q22⟩:=q2;obtain⟨q31,q32⟩:=q3;obtain⟨q41,q42⟩:=q4;go_enter Tryz.func220,Tryz.ntmps220;go_upto_region 1 with fail;obtain⟨W,hW,H0,HB,HS,ewx⟩:=B_ w (.cells #[c1,c2,c3,c4] 78);rw[hW];clear ewx;have d0:=ab H0 0;have d1:=ab H0 1;have d2:=ab H0 2;have d3:=ab H0 3;have rL:=H_ H0;clear hW H0;by_cases k0:c1<1
 case pos=>
  have hf:=H_ (show r=false by rw[<-HR.o];exact iR (jq (λh=>by have h1:=h.1;simp only at h1;omega)));go_wp2_with fail;go_ret;exact⟨hf.o.symm▸rfl,HB⟩
 case neg=>
 by_cases k1:99999<c1
 case pos=>
  have hf:=H_ (show r=false by rw[<-HR.o];exact iR (jq (λh=>by have h1:=h.2.1;simp only at h1;omega)));go_wp2_with fail;go_ret;exact⟨hf.o.symm▸rfl,HB⟩
 case neg=>
 by_cases k2:c2<1
 case pos=>
  have hf:=H_ (show r=false by rw[<-HR.o];exact iR (jq (λh=>by have h1:=h.2.2.1;simp only at h1;omega)));go_wp2_with fail;go_ret;exact⟨hf.o.symm▸rfl,HB⟩
 case neg=>
 by_cases k3:5<c2
 case pos=>
  have hf:=H_ (show r=false by rw[<-HR.o];exact iR (jq (λh=>by have h1:=h.2.2.2;simp only at h1;omega)));go_wp2_with fail;go_ret;exact⟨hf.o.symm▸rfl,HB⟩
 case neg=>
 have HF:=H_ (show 1<=c1/\c1<=99999/\1<=c2/\c2<=5 by omega);cases g with
 |true=>
  by_cases k4:c3<1
  case pos=>
   have hf:=H_ (show r=false by rw[<-HR.o];exact iR (qS (λh=>by have h1:=h.1;simp only at h1;omega)));go_wp2_with fail;go_ret;exact⟨hf.o.symm▸rfl,HB⟩
  case neg=>
  by_cases k5:3<c3
  case pos=>
   have hf:=H_ (show r=false by rw[<-HR.o];exact iR (qS (λh=>by have h1:=h.2;simp only at h1;omega)));go_wp2_with fail;go_ret;exact⟨hf.o.symm▸rfl,HB⟩
  case neg=>
  have JX:=H_ (D2 (a:=⟨c1,c2,c3,c4⟩) HF.o (show 1<=c3/\c3<=3 by omega));by_cases k7:c4=0
  case pos=>
   have hf:=H_ (show r=true by rw[<-HR.o];exact AK JX.o k7);go_wp2_with fail;go_ret;exact⟨hf.o.symm▸rfl,HB⟩
  case neg=>
  have hf:=H_ (show r=mP l ⟨c1,c2,c3,c4⟩ by rw[<-HR.o];exact AM JX.o k7);go_wp2_with fail;have aM:=mU l A c c4 W (az HL.o HB) Q4.o (by rw[HN.o];exact hn);rw[HN.o]at aM;refine aM.mono ?_;clear aM;rintro e w2 ⟨rfl,aH⟩;have dA:=HB.trans (aH.mono HB.size);have G0:=(aH.block _ HS).trans rL.o;have GG:=H_ G0;clear G0;cases ha:aK l c4 with
  |none=>
   have e0:cF l c4=.tuple #[.agg (bn {}).toArray,false]:=fJ ha;rw[e0];have jC:=H_ (show r=false by rw[hf.o];exact oF ha);clear e0 ha;go_wp2_with fail;go_ret;exact⟨by rw[jC.o];first|done|rfl,dA.alloc dA.size _⟩
  |some p=>
   have e0:cF l c4=.tuple #[.agg (bn p).toArray,true]:=eD ha;rw[e0];have lX:=HL.o.accB p (cJ ha).1;have jC:=H_ (show r=(!(p.code==c1)&&p.kind==c2) by rw[hf.o];exact oG (a:=⟨c1,c2,c3,c4⟩) ha);clear e0 ha;obtain⟨p1,p2,p3,p4⟩:=p;have G0:=al GG.o (Obj.cells #[p1,p2,p3,p4] 78);go_upto_region 8 with fail;have H7:=heap_alloc_new w2 (.cells #[p1,p2,p3,p4] 78);have em:=dA.alloc dA.size (.cells #[p1,p2,p3,p4] 78);generalize F8:w2.alloc (Obj.cells #[p1,p2,p3,p4] 78)=W7 at*;have f0:=ab H7 0;have f1:=ab H7 1;have g0:=ab G0 0;have g1:=ab G0 1;clear F8 H7 G0;by_cases hp:p1=c1
   case pos=>
    have l6:=H_ (show r=false by rw[jC.o,hp];simp);go_wp2_with fail;go_ret;exact⟨by rw[l6.o];first|done|rfl,em⟩
   case neg=>
   by_cases hq:p2=c2
   case pos=>
    have l6:=H_ (show r=true by rw[jC.o,hq];simp[hp]);have hp':(p1 !=c1)=true:=by simpa using hp
    go_wp2_with fail;go_ret;exact⟨by rw[l6.o];first|done|rfl,em⟩
   case neg=>
   have l6:=H_ (show r=false by rw[jC.o];simp[hq]);have hp':(p1 !=c1)=true:=by simpa using hp
   have hq':(p2==c2)=false:=by simpa using hq
   go_wp2_with fail;go_ret;exact⟨by rw[l6.o];first|done|rfl,em⟩
 |false=>
  by_cases k4:¬c3=0
  case pos=>
   have k5:(c3==0)=false:=by simpa using k4
   have hf:=H_ (show r=false by rw[<-HR.o];exact iR (D3 k4));go_wp2_with fail;go_ret;exact⟨hf.o.symm▸rfl,HB⟩
  case neg=>
  have k5:c3=0:=by omega
  have JX:=H_ (DZ (a:=⟨c1,c2,c3,c4⟩) HF.o k5);by_cases k7:c4=0
  case pos=>
   have hf:=H_ (show r=true by rw[<-HR.o];exact AK JX.o k7);go_wp2_with fail;go_ret;exact⟨hf.o.symm▸rfl,HB⟩
  case neg=>
  have hf:=H_ (show r=mP l ⟨c1,c2,c3,c4⟩ by rw[<-HR.o];exact AM JX.o k7);go_wp2_with fail;have aM:=mU l A c c4 W (az HL.o HB) Q4.o (by rw[HN.o];exact hn);rw[HN.o]at aM;refine aM.mono ?_;clear aM;rintro e w2 ⟨rfl,aH⟩;have dA:=HB.trans (aH.mono HB.size);have G0:=(aH.block _ HS).trans rL.o;have GG:=H_ G0;clear G0;cases ha:aK l c4 with
  |none=>
   have e0:cF l c4=.tuple #[.agg (bn {}).toArray,false]:=fJ ha;rw[e0];have jC:=H_ (show r=false by rw[hf.o];exact oF ha);clear e0 ha;go_wp2_with fail;go_ret;exact⟨by rw[jC.o];first|done|rfl,dA.alloc dA.size _⟩
  |some p=>
   have e0:cF l c4=.tuple #[.agg (bn p).toArray,true]:=eD ha;rw[e0];have lX:=HL.o.accB p (cJ ha).1;have jC:=H_ (show r=(!(p.code==c1)&&p.kind==c2) by rw[hf.o];exact oG (a:=⟨c1,c2,c3,c4⟩) ha);clear e0 ha;obtain⟨p1,p2,p3,p4⟩:=p;have G0:=al GG.o (Obj.cells #[p1,p2,p3,p4] 78);go_upto_region 8 with fail;have H7:=heap_alloc_new w2 (.cells #[p1,p2,p3,p4] 78);have em:=dA.alloc dA.size (.cells #[p1,p2,p3,p4] 78);generalize F8:w2.alloc (Obj.cells #[p1,p2,p3,p4] 78)=W7 at*;have f0:=ab H7 0;have f1:=ab H7 1;have g0:=ab G0 0;have g1:=ab G0 1;clear F8 H7 G0;by_cases hp:p1=c1
   case pos=>
    have l6:=H_ (show r=false by rw[jC.o,hp];simp);go_wp2_with fail;go_ret;exact⟨by rw[l6.o];first|done|rfl,em⟩
   case neg=>
   by_cases hq:p2=c2
   case pos=>
    have l6:=H_ (show r=true by rw[jC.o,hq];simp[hp]);have hp':(p1 !=c1)=true:=by simpa using hp
    go_wp2_with fail;go_ret;exact⟨by rw[l6.o];first|done|rfl,em⟩
   case neg=>
   have l6:=H_ (show r=false by rw[jC.o];simp[hq]);have hp':(p1 !=c1)=true:=by simpa using hp
   have hq':(p2==c2)=false:=by simpa using hq
   go_wp2_with fail;go_ret;exact⟨by rw[l6.o];first|done|rfl,em⟩
end
end Go.Proofs.YtibiddakakgakaaGreat
