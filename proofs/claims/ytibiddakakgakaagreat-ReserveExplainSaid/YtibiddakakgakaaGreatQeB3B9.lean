/- Dates of days, in the program and in the reference. Written by gen_b3.py. -/
import Derived.Test.YtibiddakakgakaaGreatQeB0B2
import Derived.Maps.Views
set_option linter.unusedVariables false
set_option linter.unusedSimpArgs false
set_option maxRecDepth 4000
attribute [local go_sem ↓] Go.wp_at_zero Go.wp_at_succ
set_option maxHeartbeats 16000000
namespace Go.Proofs.YtibiddakakgakaaGreat
section
open Go Go.RowKit
theorem ik {m j:Int} (h:j<m):(m- (j+1)).toNat< (m- j).toNat:=by omega
theorem mw {j:Nat} {m:Int} (h:(j:Int)<m) (hm:m<=12):wrap64 ((j:Int)+1)=(j:Int)+1:=by unfold wrap64;omega
theorem mZ {Y y:Int} (h1:1900<=Y) (h:Y<y) (hy:y<=2199):wrap64 (Y+1)=Y+1:=by unfold wrap64;omega
theorem jj (y:Int):bM (y+1)=bM y+365+(if ij y=true then 1 else 0):=by
 unfold bM;by_cases h4:y%4=0
 ·by_cases h1:y%100=0
  ·by_cases h2:y%400=0
   ·rw[if_pos (iN h4 (.inr h2))];omega
   ·rw[if_neg (by rw[agT (λh=>h.2.elim (λk=>k h1) h2)];simp)];omega
  ·rw[if_pos (iN h4 (.inl h1))];omega
 ·rw[if_neg (by rw[agT (λh=>h4 h.1)];simp)];omega
theorem Aj {y m d:Int} (h:d<=ck y m) (h1:1<=d):inY y/\1<=m/\m<=12:=by
 unfold ck at h;split at h
 ·assumption
 ·omega
theorem sH {y:Int} (hy:inY y):cH y 12=365+(if ij y=true then 1 else 0):=by
 unfold inY at hy;simp only[cH,ck,pu,inY];cases ij y<;>simp[hy]
theorem I8 (y:Int) (w:World) (h:inY y):Calls Tryz.prog 126 #[y] w (ap w (.int .i64 (bM y))):=by
 obtain⟨r,hr⟩:=x_ (bM y);rw[hr];have HR:=H_ hr;clear hr;obtain⟨h1,h2⟩:=h;go_enter Tryz.func126,Tryz.ntmps126;go_wp2_with fail;go_ret;exact⟨by rw[<-HR.o];rfl,Below.refl _ _⟩
set_option maxRecDepth 100000 in
theorem aeu (y m d:Int) (w:World):Calls Tryz.prog 148 #[y,m,d] w (ap w (.tuple #[.int .i64 (ofI y m d).1,.int .i64 (ofI y m d).2])):=by
 obtain⟨r,hr⟩:=x_ (ofI y m d);rw[hr];have HR:=H_ hr;clear hr;go_enter Tryz.func148,Tryz.ntmps148;by_cases Fq:d<1
 case pos=>
  have hf:=H_ (show r=(0,2) by rw[<-HR.o];unfold ofI;rw[if_pos (.inl Fq)]);go_wp2_with fail
  (try go_ret2)
  exact⟨hf.o.symm▸rfl,Below.refl _ _⟩
 case neg=>
 have Re:1<=d:=by omega
 go_wp2_with fail;refine(vY y m w).mono ?_;rintro e w1 ⟨rfl,eL⟩;obtain⟨D,hD⟩:=x_ (ck y m);rw[hD];have vh:=H_ hD;clear hD;by_cases hDd:D<d
 case pos=>
  have hf:=H_ (show r=(0,2) by rw[<-HR.o];unfold ofI;rw[vh.o,if_pos (.inr hDd)]);go_wp2_with fail
  (try go_ret2)
  exact⟨hf.o.symm▸rfl,eL⟩
 case neg=>
 have hDd':d<=D:=by omega
 have ac8:D<=31:=by rw[<-vh.o];exact(fI y m).2
 obtain⟨hy,nx,jA⟩:=Aj (by rw[vh.o];exact hDd':d<=ck y m) Re;have hyI:=hy;obtain⟨gK,gS⟩:=hyI;have hf:=H_ (show r=(bM y+d- 1+cH y (m- 1).toNat,0) by rw[<-HR.o];unfold ofI;rw[if_neg (by rw[vh.o];omega)]);have jE:=ki hy;obtain⟨B,hB⟩:=x_ (bM y);rw[hB]at hf jE;have vt:=H_ hB;clear hB HR;go_wp2_with fail;refine(I8 y w1 hy).mono ?_;rintro e w2 ⟨rfl,aH⟩;rw[vt.o];have adC:=eL.trans (aH.mono eL.size);go_wp2_with fail
 go_loopw [8,9] (λs i wr=>∃j:Nat,1<=j/\(j:Int)<=m/\i=.int .i64 (j:Int)/\s=.int .i64 (B+d- 1+cH y (j- 1))/\Below w.heap.size w wr) (λ_ i _=>(m- intOf i).toNat)
 case atStart=>exact⟨1,by omega,by omega,rfl,by simp[cH],adC⟩
 case round=>
  obtain⟨j,Fp,tP,rfl,rfl,hb⟩:=hrel;have hs:=oL y (j- 1);obtain⟨S,hS⟩:=x_ (cH y (j- 1));rw[hS]at hs |-;have HS:=H_ hS;clear hS;by_cases RD:(j:Int)<m
  ·go_wp2_with fail;refine(vY y (j:Int) wr).mono ?_;rintro e w3 ⟨rfl,aZ⟩;have Rw:=fI y (j:Int);obtain⟨E,hE⟩:=x_ (ck y (j:Int));rw[hE]at Rw |-;have HE:=H_ hE;clear hE;have bU:=hb.trans (aZ.mono hb.size);go_wp2_with fail;go_roundw
   case rel=>exact⟨j+1,by omega,by omega,by go_num,by
    have e:cH y (j+1- 1)=S+E:=by
     obtain⟨i,rfl⟩:∃i,j=i+1:=⟨j- 1,by omega⟩;rw[show i+1+1- 1=i+1 from rfl,cH,<-HS.o,<-HE.o];simp
    rw[e];go_num,bU⟩
   case measure=>
    have e:wrap64 ((j:Int)+1)=(j:Int)+1:=mw RD jA;simp only[intOf,e];exact ik RD
  ·go_wp2_with fail
   (try go_ret2)
   have e:j=(m- 1).toNat+1:=by omega
   refine⟨?_,hb⟩;rw[hf.o,<-HS.o,e];simp only[Nat.add_sub_cancel];rfl
set_option maxRecDepth 100000 in
theorem PG (y m d:Int) (w:World):Calls Tryz.prog 143 #[y,m,d] w (ap w (.tuple #[.int .i64 (ofI y m d).1,.int .i64 (ofI y m d).2])):=by
 obtain⟨r,hr⟩:=x_ (ofI y m d);rw[hr];have HR:=H_ hr;clear hr;go_enter Tryz.func143,Tryz.ntmps143;by_cases Fq:d<1
 case pos=>
  have hf:=H_ (show r=(0,2) by rw[<-HR.o];unfold ofI;rw[if_pos (.inl Fq)]);go_wp2_with fail
  (try go_ret2)
  exact⟨hf.o.symm▸rfl,Below.refl _ _⟩
 case neg=>
 have Re:1<=d:=by omega
 go_wp2_with fail;refine(lx y m w).mono ?_;rintro e w1 ⟨rfl,eL⟩;obtain⟨D,hD⟩:=x_ (ck y m);rw[hD];have vh:=H_ hD;clear hD;by_cases hDd:D<d
 case pos=>
  have hf:=H_ (show r=(0,2) by rw[<-HR.o];unfold ofI;rw[vh.o,if_pos (.inr hDd)]);go_wp2_with fail
  (try go_ret2)
  exact⟨hf.o.symm▸rfl,eL⟩
 case neg=>
 have hDd':d<=D:=by omega
 have ac8:D<=31:=by rw[<-vh.o];exact(fI y m).2
 obtain⟨hy,nx,jA⟩:=Aj (by rw[vh.o];exact hDd':d<=ck y m) Re;have hyI:=hy;obtain⟨gK,gS⟩:=hyI;have hf:=H_ (show r=(bM y+d- 1+cH y (m- 1).toNat,0) by rw[<-HR.o];unfold ofI;rw[if_neg (by rw[vh.o];omega)]);have jE:=ki hy;obtain⟨B,hB⟩:=x_ (bM y);rw[hB]at hf jE;have vt:=H_ hB;clear hB HR;go_wp2_with fail
 go_loopw [8,9] (λs i wr=>∃j:Nat,1900+(j:Int)<=y/\i=.int .i64 (1900+(j:Int))/\s=.int .i64 (bM (1900+(j:Int)))/\Below w.heap.size w wr) (λ_ i _=>(y- intOf i).toNat)
 case atStart=>exact⟨0,by omega,rfl,rfl,eL⟩
 case round=>
  obtain⟨j,hjy,rfl,rfl,hb⟩:=hrel;obtain⟨Y,hY⟩:=x_ (1900+(j:Int));rw[hY]at hjy |-;have Q3:1900<=Y:=by omega
  have HY:=H_ hY;clear hY;have hbY:=ki (y:=Y) ⟨Q3,by omega⟩;obtain⟨S,hS⟩:=x_ (bM Y);rw[hS]at hbY |-;have HS:=H_ hS;clear hS;by_cases aU:Y<y
  ·go_wp2_with fail;refine(mT Y wr ⟨Q3,by omega⟩).mono ?_;rintro e w3 ⟨rfl,aZ⟩;have bU:=hb.trans (aZ.mono hb.size);obtain⟨lb,gm⟩:=x_ (ij Y);rw[gm];have pf:=H_ (jj Y);rw[gm,HS.o]at pf;clear gm;cases lb with
   |true=>
    go_wp2_with fail;go_roundw
    case rel=>exact⟨j+1,by have:=HY.o;omega,by have:=HY.o;go_num,by
     have e:(1900:Int)+((j+1:Nat):Int)=Y+1:=by have:=HY.o;omega
     rw[e,pf.o];(try simp),bU⟩
    case measure=>
     have e:wrap64 (Y+1)=Y+1:=mZ Q3 aU gS;simp only[intOf,e];exact ik aU
   |false=>
    go_wp2_with fail;go_roundw
    case rel=>exact⟨j+1,by have:=HY.o;omega,by have:=HY.o;go_num,by
     have e:(1900:Int)+((j+1:Nat):Int)=Y+1:=by have:=HY.o;omega
     rw[e,pf.o];(try simp),bU⟩
    case measure=>
     have e:wrap64 (Y+1)=Y+1:=mZ Q3 aU gS;simp only[intOf,e];exact ik aU
  ·have hYy:Y=y:=by omega
   have Dd:=H_ (show S=B by rw[<-HS.o,hYy,vt.o]);clear hYy;go_wp2_with fail
   go_loopw [8,10] (λs i wr=>∃j:Nat,1<=j/\(j:Int)<=m/\i=.int .i64 (j:Int)/\s=.int .i64 (S+cH y (j- 1))/\Below w.heap.size w wr) (λ_ i _=>(m- intOf i).toNat)
   case atStart=>exact⟨1,by omega,by omega,rfl,by simp[cH],hb⟩
   case round=>
    obtain⟨j,Fp,tP,rfl,rfl,hb⟩:=hrel;have hs:=oL y (j- 1);obtain⟨S,hS⟩:=x_ (cH y (j- 1));rw[hS]at hs |-;have HS:=H_ hS;clear hS;by_cases RD:(j:Int)<m
    ·go_wp2_with fail;refine(lx y (j:Int) wr).mono ?_;rintro e w3 ⟨rfl,aZ⟩;have Rw:=fI y (j:Int);obtain⟨E,hE⟩:=x_ (ck y (j:Int));rw[hE]at Rw |-;have HE:=H_ hE;clear hE;have bU:=hb.trans (aZ.mono hb.size);go_wp2_with fail;go_roundw
     case rel=>exact⟨j+1,by omega,by omega,by go_num,by
      have e:cH y (j+1- 1)=S+E:=by
       obtain⟨i,rfl⟩:∃i,j=i+1:=⟨j- 1,by omega⟩;rw[show i+1+1- 1=i+1 from rfl,cH,<-HS.o,<-HE.o];simp
      rw[e];go_num,bU⟩
     case measure=>
      have e:wrap64 ((j:Int)+1)=(j:Int)+1:=mw RD jA;simp only[intOf,e];exact ik RD
    ·go_wp2_with fail
     (try go_ret2)
     have e:j=(m- 1).toNat+1:=by omega
     refine⟨?_,hb⟩;rw[hf.o,<-HS.o,e];simp only[Nat.add_sub_cancel];have e2:=Dd.o;rw[e2];go_num
theorem ip {fn:Func} {t u v x:Tmp} (h:fn.results=#[.tmp t,.tmp u,.tmp v,.tmp x]) (tmps:Array Value) (P:Program) (w:World):
 (results fn tmps).run P w=.ok (.tuple #[tmps.getD t undef,tmps.getD u undef,tmps.getD v undef,tmps.getD x undef]) w:=by
 simp[results,h]
theorem BI:bM 1900= -25567:=by unfold bM;omega
theorem I6:bM 2199=83641:=by unfold bM;omega
def inD (d:Int):Prop:= -25567<=d/\d<=84005
instance (d:Int):Decidable (inD d):=by unfold inD;exact inferInstance
def qP (date y m d:Int):Prop:=inY y/\1<=m/\m<=12/\1<=d/\d<=ck y m/\date=bM y+cH y (m- 1).toNat+d- 1
def IW (date:Int) (w:World) (e:Ending) (w':World):Prop:=
 ∃y m d n:Int,e=.returned (.tuple #[y,m,d,n])/\Below w.heap.size w w'/\((inD date/\n=0/\qP date y m d)\/(¬inD date/\n=2/\y=0/\m=0/\d=0))
theorem vV {y date:Int} {j:Nat} (hy:inY y) (aU:date<bM (y+1)) (Fp:1<=j) (hj:j<=12) (hr:ck y (j:Int)<=date- bM y- cH y (j- 1)):j<=11:=by
 rcases Nat.lt_or_ge j 12 with h|h
 ·omega
 ·have e:j=12:=by omega
  subst e;have h1:=sH hy;have h2:=jj y;have h3:cH y 12=cH y 11+ck y 12:=by rw[cH];rfl
  have h4:ck y ((12:Nat):Int)=ck y 12:=rfl;rw[h4]at hr;simp only[Nat.add_one_sub_one,show 12- 1=11 from rfl]at hr;omega
theorem gN {y z:Int} (h:y<=z):bM y+365*(z- y)<=bM z:=by
 unfold bM;omega
theorem oM {y:Int} {a b:Nat} (h:a<=b):cH y a<=cH y b:=by
 induction b with
 |zero=>have:a=0:=by omega
        subst this;exact Int.le_refl _
 |succ b ih=>
  rcases Nat.lt_or_ge b a with h1|h1
  ·have:a=b+1:=by omega
   subst this;exact Int.le_refl _
  ·have:=ih h1;have:=fI y ((b:Int)+1);simp only[cH];omega
theorem qP.year {date y m d:Int} (h:qP date y m d):bM y<=date/\date<bM (y+1):=by
 obtain⟨hy,h1,h2,h3,h4,h5⟩:=h;have k1:=oL y (m- 1).toNat
 have k2:=sH hy;have k3:=jj y;have k4:cH y ((m- 1).toNat+1)<=cH y 12:=oM (by omega);have k5:cH y ((m- 1).toNat+1)=cH y (m- 1).toNat+ck y m:=by rw[cH,show(((m- 1).toNat:Int)+1)=m from by omega]
 exact⟨by omega,by omega⟩
theorem qP.uniq {date y m d y' m' d':Int} (h:qP date y m d) (k:qP date y' m' d'):y=y'/\m=m'/\d=d':=by
 have h1:=h.year;have k1:=k.year;have e:y=y':=by
  rcases Int.lt_trichotomy y y' with hl|he|hl
  ·have:=gN (show y+1<=y' by omega);omega
  ·exact he
  ·have:=gN (show y'+1<=y by omega);omega
 subst e;obtain⟨hy,a1,a2,a3,a4,a5⟩:=h;obtain⟨_,b1,b2,b3,b4,b5⟩:=k;have e:m=m':=by
  rcases Int.lt_trichotomy m m' with hl|he|hl
  ·have q1:cH y ((m- 1).toNat+1)<=cH y (m'- 1).toNat:=oM (by omega);have q2:cH y ((m- 1).toNat+1)=cH y (m- 1).toNat+ck y m:=by rw[cH,show(((m- 1).toNat:Int)+1)=m from by omega]
   omega
  ·exact he
  ·have q1:cH y ((m'- 1).toNat+1)<=cH y (m- 1).toNat:=oM (by omega);have q2:cH y ((m'- 1).toNat+1)=cH y (m'- 1).toNat+ck y m':=by rw[cH,show(((m'- 1).toNat:Int)+1)=m' from by omega]
   omega
 subst e;exact⟨rfl,rfl,by omega⟩
theorem nS (d:Int) (w:World):Calls Tryz.prog 125 #[d] w (ap w (.bool (decide (inD d)))):=by
 obtain⟨r,hr⟩:=x_ (decide (inD d));rw[hr];have HR:=H_ hr;clear hr;go_enter Tryz.func125,Tryz.ntmps125;by_cases h1: -25567<=d
 ·by_cases h2:d<=84005
  ·have hf:=H_ (show r=true by rw[<-HR.o];exact decide_eq_true ⟨h1,h2⟩);go_wp2_with fail;go_ret;exact⟨hf.o.symm▸rfl,Below.refl _ _⟩
  ·have hf:=H_ (show r=false by rw[<-HR.o];exact decide_eq_false (λh=>h2 h.2));go_wp2_with fail;go_ret;exact⟨hf.o.symm▸rfl,Below.refl _ _⟩
 ·have hf:=H_ (show r=false by rw[<-HR.o];exact decide_eq_false (λh=>h1 h.1));go_wp2_with fail;go_ret;exact⟨hf.o.symm▸rfl,Below.refl _ _⟩
theorem mt (d:Int) (w:World):Calls Tryz.prog 32 #[d] w (ap w (.bool (decide (inD d)))):=by
 obtain⟨r,hr⟩:=x_ (decide (inD d));rw[hr];have HR:=H_ hr;clear hr;go_enter Tryz.func32,Tryz.ntmps32;by_cases h1: -25567<=d
 ·by_cases h2:d<=84005
  ·have hf:=H_ (show r=true by rw[<-HR.o];exact decide_eq_true ⟨h1,h2⟩);go_wp2_with fail;go_ret;exact⟨hf.o.symm▸rfl,Below.refl _ _⟩
  ·have hf:=H_ (show r=false by rw[<-HR.o];exact decide_eq_false (λh=>h2 h.2));go_wp2_with fail;go_ret;exact⟨hf.o.symm▸rfl,Below.refl _ _⟩
 ·have hf:=H_ (show r=false by rw[<-HR.o];exact decide_eq_false (λh=>h1 h.1));go_wp2_with fail;go_ret;exact⟨hf.o.symm▸rfl,Below.refl _ _⟩
set_option maxRecDepth 100000 in
theorem EF (date:Int) (w:World) (jE:cx date):Calls Tryz.prog 65 #[date] w (IW date w):=by
 go_enter Tryz.func65,Tryz.ntmps65;go_wp2_with fail;refine(mt date w).mono ?_;rintro e w1 ⟨rfl,eL⟩;obtain⟨v,hv⟩:=x_ (decide (inD date));rw[hv];have HV:=H_ hv;clear hv;cases v with
 |false=>
  go_wp2_with fail
  (try simp only[Exit.inBlock,Exit.then])
  refine bodyPost_ret (ip rfl _ _ _) rfl ⟨0,0,0,2,rfl,eL,.inr ⟨of_decide_eq_false HV.o,rfl,rfl,rfl,rfl⟩⟩
 |true=>
 have lN:inD date:=of_decide_eq_true HV.o;have Y4:=lN;obtain⟨Fq,Re⟩:=Y4;have lL:=H_ lN;clear HV lN jE;go_wp2_with fail
 go_loopw [6,8] (λi s wr=>∃Y:Int,inY Y/\i=.int .i64 Y/\s=.int .i64 (date- bM Y)/\0<=date- bM Y/\Below w.heap.size w wr) (λi _ _=>(2199- intOf i).toNat)
 case atStart=>exact⟨1900,by unfold inY;omega,rfl,by rw[BI];go_num,by rw[BI];omega,eL⟩
 case round=>
  obtain⟨Y,hY,rfl,rfl,tB,hb⟩:=hrel;have hyI:=hY;obtain⟨Q3,hY2⟩:=hyI;have hbB:=ki hY;have pf:=H_ (jj Y);obtain⟨B,hB⟩:=x_ (bM Y);rw[hB]at tB hbB pf |-;have vt:=H_ hB;clear hB;go_wp2_with fail;refine(mT Y wr hY).mono ?_;rintro e w3 ⟨rfl,aZ⟩;have bU:=hb.trans (aZ.mono hb.size);obtain⟨lb,gm⟩:=x_ (ij Y);rw[gm]at pf |-;have jD:=H_ gm;clear gm;cases lb with
  |true=>
   have dW:=H_ (show bM (Y+1)=B+366 by have:=pf.o;simp at this;omega);clear pf;by_cases Fs:366<=date- B
   ·have T5:Y<2199:=by
     rcases Int.lt_or_le Y 2199 with h|h
     ·exact h
     ·have e:Y=2199:=by omega
      have e2:=vt.o;rw[e]at e2;have e3:=I6;omega
    go_wp2_with fail;refine(mT Y w3 hY).mono ?_;rintro e w4 ⟨rfl,cP⟩;rw[jD.o];have dd:=bU.trans (cP.mono bU.size);go_wp2_with fail;go_roundw
    case rel=>exact⟨Y+1,⟨by omega,by omega⟩,by go_num,by rw[dW.o];go_num,by rw[dW.o];omega,dd⟩
    case measure=>
     have e:wrap64 (Y+1)=Y+1:=mZ Q3 T5 (Int.le_refl _);simp only[intOf,e];exact ik T5
   ·have aU:date- B<366:=by omega
    have tN:=H_ (show date<bM (Y+1) by rw[dW.o];omega);clear Fs;go_wp2_with fail
    (try (refine(mT Y w3 hY).mono ?_
          rintro e w4 ⟨rfl,cP⟩;rw[jD.o];replace bU:=bU.trans (cP.mono bU.size);go_wp2_with fail))
    go_loopw [7,8] (λi s wr=>∃j:Nat,1<=j/\j<=12/\i=.int .i64 (j:Int)/\s=.int .i64 (date- B- cH Y (j- 1))/\0<=date- B- cH Y (j- 1)/\Below w.heap.size w wr) (λi _ _=>(12- intOf i).toNat)
    case atStart=>exact⟨1,by omega,by omega,rfl,by simp[cH],by simp[cH];omega,bU⟩
    case round=>
     obtain⟨j,Fp,tP,rfl,rfl,tB,hb⟩:=hrel;have hs:=oL Y (j- 1);obtain⟨S,hS⟩:=x_ (cH Y (j- 1));rw[hS]at hs tB |-;have HS:=H_ hS;clear hS;have aae:1<=(j:Int):=by omega
     have aaA:(j:Int)<=12:=by omega
     go_wp2_with fail;refine(lx Y (j:Int) wr).mono ?_;rintro e w3 ⟨rfl,aZ⟩;have Rw:=fI Y (j:Int);obtain⟨E,hE⟩:=x_ (ck Y (j:Int));rw[hE]at Rw |-;have HE:=H_ hE;clear hE;have bU:=hb.trans (aZ.mono hb.size);by_cases Fs:E<=date- B- S
     ·have aaM:j<=11:=vV hY tN.o Fp tP (by rw[HE.o,vt.o,HS.o];exact Fs);go_wp2_with fail;refine(lx Y (j:Int) w3).mono ?_;rintro e w4 ⟨rfl,cP⟩;rw[HE.o];have dd:=bU.trans (cP.mono bU.size);go_wp2_with fail;go_roundw
      case rel=>
       have e:cH Y (j+1- 1)=S+E:=by
        obtain⟨i,rfl⟩:∃i,j=i+1:=⟨j- 1,by omega⟩;rw[show i+1+1- 1=i+1 from rfl,cH,<-HS.o,<-HE.o];simp
       exact⟨j+1,by omega,by omega,by go_num,by rw[e];go_num,by rw[e];omega,dd⟩
      case measure=>
       have e:wrap64 ((j:Int)+1)=(j:Int)+1:=mw (show(j:Int)<12 by omega) (Int.le_refl _);simp only[intOf,e];exact ik (by omega)
     ·have iZ:date- B- S<E:=by omega
      go_wp2_with fail
      (try simp only[Exit.inBlock,Exit.then])
      refine bodyPost_ret (ip rfl _ _ _) rfl ⟨Y,(j:Int),date- B- S+1,0,by first|rfl|go_num,bU,.inl ⟨lL.o,rfl,hY,by omega,by omega,by omega,by rw[HE.o];omega,?_⟩⟩;rw[show((j:Int) - 1).toNat=j- 1 from by omega,HS.o,vt.o];omega
  |false=>
   have dW:=H_ (show bM (Y+1)=B+365 by have:=pf.o;simp at this;omega);clear pf;go_wp2_with fail;refine(mT Y w3 hY).mono ?_;rintro e w4 ⟨rfl,cP⟩;rw[jD.o];have dd:=bU.trans (cP.mono bU.size);by_cases Fs:365<=date- B
   ·have T5:Y<2199:=by
     rcases Int.lt_or_le Y 2199 with h|h
     ·exact h
     ·have e:Y=2199:=by omega
      have e2:=vt.o;rw[e]at e2;have e3:=I6;omega
    go_wp2_with fail;refine(mT Y w4 hY).mono ?_;rintro e w5 ⟨rfl,fC⟩;rw[jD.o];have jX:=dd.trans (fC.mono dd.size);go_wp2_with fail;go_roundw
    case rel=>exact⟨Y+1,⟨by omega,by omega⟩,by go_num,by rw[dW.o];go_num,by rw[dW.o];omega,jX⟩
    case measure=>
     have e:wrap64 (Y+1)=Y+1:=mZ Q3 T5 (Int.le_refl _);simp only[intOf,e];exact ik T5
   ·have aU:date- B<365:=by omega
    have tN:=H_ (show date<bM (Y+1) by rw[dW.o];omega);clear Fs;go_wp2_with fail
    go_loopw [7,8] (λi s wr=>∃j:Nat,1<=j/\j<=12/\i=.int .i64 (j:Int)/\s=.int .i64 (date- B- cH Y (j- 1))/\0<=date- B- cH Y (j- 1)/\Below w.heap.size w wr) (λi _ _=>(12- intOf i).toNat)
    case atStart=>exact⟨1,by omega,by omega,rfl,by simp[cH],by simp[cH];omega,dd⟩
    case round=>
     obtain⟨j,Fp,tP,rfl,rfl,tB,hb⟩:=hrel;have hs:=oL Y (j- 1);obtain⟨S,hS⟩:=x_ (cH Y (j- 1));rw[hS]at hs tB |-;have HS:=H_ hS;clear hS;have aae:1<=(j:Int):=by omega
     have aaA:(j:Int)<=12:=by omega
     go_wp2_with fail;refine(lx Y (j:Int) wr).mono ?_;rintro e w3 ⟨rfl,aZ⟩;have Rw:=fI Y (j:Int);obtain⟨E,hE⟩:=x_ (ck Y (j:Int));rw[hE]at Rw |-;have HE:=H_ hE;clear hE;have bU:=hb.trans (aZ.mono hb.size);by_cases Fs:E<=date- B- S
     ·have aaM:j<=11:=vV hY tN.o Fp tP (by rw[HE.o,vt.o,HS.o];exact Fs);go_wp2_with fail;refine(lx Y (j:Int) w3).mono ?_;rintro e w4 ⟨rfl,cP⟩;rw[HE.o];have dd:=bU.trans (cP.mono bU.size);go_wp2_with fail;go_roundw
      case rel=>
       have e:cH Y (j+1- 1)=S+E:=by
        obtain⟨i,rfl⟩:∃i,j=i+1:=⟨j- 1,by omega⟩;rw[show i+1+1- 1=i+1 from rfl,cH,<-HS.o,<-HE.o];simp
       exact⟨j+1,by omega,by omega,by go_num,by rw[e];go_num,by rw[e];omega,dd⟩
      case measure=>
       have e:wrap64 ((j:Int)+1)=(j:Int)+1:=mw (show(j:Int)<12 by omega) (Int.le_refl _);simp only[intOf,e];exact ik (by omega)
     ·have iZ:date- B- S<E:=by omega
      go_wp2_with fail
      (try simp only[Exit.inBlock,Exit.then])
      refine bodyPost_ret (ip rfl _ _ _) rfl ⟨Y,(j:Int),date- B- S+1,0,by first|rfl|go_num,bU,.inl ⟨lL.o,rfl,hY,by omega,by omega,by omega,by rw[HE.o];omega,?_⟩⟩;rw[show((j:Int) - 1).toNat=j- 1 from by omega,HS.o,vt.o];omega
theorem Sz (y:Int) (w:World) (h1:1800<=y) (h2:y<=2300):Calls Tryz.prog 126 #[y] w (ap w (.int .i64 (bM y))):=by
 obtain⟨r,hr⟩:=x_ (bM y);rw[hr];have HR:=H_ hr;clear hr;go_enter Tryz.func126,Tryz.ntmps126;go_wp2_with fail;go_ret;exact⟨by rw[<-HR.o];rfl,Below.refl _ _⟩
theorem DH {date q:Int} (h:inD date) (mF: -366<date- 366*q) (lc:date- 366*q<366) (Dj:0<=date->366*q<=date) (hq4:date<0->date<=366*q):1899<=1968+q/\1968+q<=2199/\bM (1968+q)<=date:=by
 unfold inD at h;unfold bM;rcases Int.lt_or_le date 0 with hd|hd
 ·have:=hq4 hd;omega
 ·have:=Dj hd;omega
theorem Ip (date:Int): -366<date- 366*Int.tdiv date 366/\date- 366*Int.tdiv date 366<366/\(0<=date->366*Int.tdiv date 366<=date)/\(date<0->date<=366*Int.tdiv date 366):=by
 rcases Int.lt_or_le date 0 with hd|hd
 ·have e:Int.tdiv date 366= -((-date) / 366):=by
   have h1:Int.tdiv date 366= - Int.tdiv (-date) 366:=by rw[Int.neg_tdiv];omega
   rw[h1,Int.tdiv_eq_ediv_of_nonneg (by omega)]
  rw[e];omega
 ·rw[Int.tdiv_eq_ediv_of_nonneg hd];omega
theorem Zn {Y date:Int} (h:Y+1=1900) (hd: -25567<=date):bM (Y+1)<=date:=by rw[h,BI];exact hd
theorem tZ:bM 2200=84006:=by unfold bM;omega
theorem Qw {Y:Int} (h1:1899<=Y) (h2:Y<2199):wrap64 (Y+1)=Y+1:=by unfold wrap64;omega
set_option maxRecDepth 100000 in
theorem I9 (date:Int) (w:World) (jE:cx date):Calls Tryz.prog 92 #[date] w (IW date w):=by
 go_enter Tryz.func92,Tryz.ntmps92;go_wp2_with fail;refine(nS date w).mono ?_;rintro e w1 ⟨rfl,eL⟩;obtain⟨v,hv⟩:=x_ (decide (inD date));rw[hv];have HV:=H_ hv;clear hv;cases v with
 |false=>
  go_wp2_with fail
  (try simp only[Exit.inBlock,Exit.then])
  refine bodyPost_ret (ip rfl _ _ _) rfl ⟨0,0,0,2,rfl,eL,.inr ⟨of_decide_eq_false HV.o,rfl,rfl,rfl,rfl⟩⟩
 |true=>
 have lN:inD date:=of_decide_eq_true HV.o;have Y4:=lN;obtain⟨Fq,Re⟩:=Y4;have lL:=H_ lN;clear HV lN jE;obtain⟨t1,t2,t3,t4⟩:=Ip date;have kW:=H_ (DH lL.o t1 t2 t3 t4);have q1: -70<=Int.tdiv date 366:=by have:=kW.o.1;omega
 have q2:Int.tdiv date 366<=231:=by have:=kW.o.2.1;omega
 clear t1 t2 t3 t4;go_wp2_with fail
 go_loopw [2] (λi wr=>∃Y:Int,1899<=Y/\Y<=2199/\i=.int .i64 Y/\(1900<=Y->bM Y<=date)/\Below w.heap.size w wr) (λi _=>(2199- intOf i).toNat)
 case atStart=>exact⟨1968+Int.tdiv date 366,kW.o.1,kW.o.2.1,by first|rfl|go_num,λ_=>kW.o.2.2,eL⟩
 case round=>
  obtain⟨Y,Q3,hY2,rfl,rJ,hb⟩:=hrel;have RU:=H_ rJ;clear rJ kW q1 q2;by_cases kg:Y<1900
  ·go_wp2_with fail;go_roundw
   case rel=>exact⟨Y+1,by omega,by omega,by go_num,λ_=>Zn (by omega) lL.o.1,hb⟩
   case measure=>
    have e:wrap64 (Y+1)=Y+1:=Qw Q3 (by omega);simp only[intOf,e];exact ik (by omega)
  ·go_wp2_with fail;refine(Sz (Y+1) wr (by omega) (by omega)).mono ?_;rintro e w3 ⟨rfl,aZ⟩;have bU:=hb.trans (aZ.mono hb.size);obtain⟨B1,yI⟩:=x_ (bM (Y+1));rw[yI];have bC:=H_ yI;clear yI;by_cases Fs:B1<=date
   ·have T5:Y<2199:=by
     rcases Int.lt_or_le Y 2199 with h|h
     ·exact h
     ·have e:Y+1=2200:=by omega
      have e2:=bC.o;rw[e,tZ]at e2;omega
    go_wp2_with fail;go_roundw
    case rel=>exact⟨Y+1,by omega,by omega,by go_num,λ_=>by rw[bC.o];exact Fs,bU⟩
    case measure=>
     have e:wrap64 (Y+1)=Y+1:=Qw Q3 T5;simp only[intOf,e];exact ik T5
   ·have tN:=H_ (show date<bM (Y+1) by rw[bC.o];omega);have hY:inY Y:=⟨by omega,hY2⟩;go_wp2_with fail;refine(I8 Y w3 hY).mono ?_;rintro e w4 ⟨rfl,cP⟩;have dd:=bU.trans (cP.mono bU.size);have hbB:=ki hY;have tB:bM Y<=date:=RU.o hY.1;obtain⟨B,hB⟩:=x_ (bM Y);rw[hB]at hbB tB |-;have vt:=H_ hB;clear hB;go_wp2_with fail
    go_loopw [3,4] (λi s wr=>∃j:Nat,1<=j/\j<=12/\i=.int .i64 (j:Int)/\s=.int .i64 (date- B- cH Y (j- 1))/\0<=date- B- cH Y (j- 1)/\Below w.heap.size w wr) (λi _ _=>(12- intOf i).toNat)
    case atStart=>exact⟨1,by omega,by omega,rfl,by simp[cH],by simp[cH];omega,dd⟩
    case round=>
     obtain⟨j,Fp,tP,rfl,rfl,tB,hb⟩:=hrel;have hs:=oL Y (j- 1);obtain⟨S,hS⟩:=x_ (cH Y (j- 1));rw[hS]at hs tB |-;have HS:=H_ hS;clear hS;have aae:1<=(j:Int):=by omega
     have aaA:(j:Int)<=12:=by omega
     go_wp2_with fail;refine(vY Y (j:Int) wr).mono ?_;rintro e w3 ⟨rfl,aZ⟩;have Rw:=fI Y (j:Int);obtain⟨E,hE⟩:=x_ (ck Y (j:Int));rw[hE]at Rw |-;have HE:=H_ hE;clear hE;have bU:=hb.trans (aZ.mono hb.size);by_cases Fs:E<=date- B- S
     ·have aaM:j<=11:=vV hY tN.o Fp tP (by rw[HE.o,vt.o,HS.o];exact Fs);go_wp2_with fail;refine(vY Y (j:Int) w3).mono ?_;rintro e w4 ⟨rfl,cP⟩;rw[HE.o];have dd:=bU.trans (cP.mono bU.size);go_wp2_with fail;go_roundw
      case rel=>
       have e:cH Y (j+1- 1)=S+E:=by
        obtain⟨i,rfl⟩:∃i,j=i+1:=⟨j- 1,by omega⟩;rw[show i+1+1- 1=i+1 from rfl,cH,<-HS.o,<-HE.o];simp
       exact⟨j+1,by omega,by omega,by go_num,by rw[e];go_num,by rw[e];omega,dd⟩
      case measure=>
       have e:wrap64 ((j:Int)+1)=(j:Int)+1:=mw (show(j:Int)<12 by omega) (Int.le_refl _);simp only[intOf,e];exact ik (by omega)
     ·have iZ:date- B- S<E:=by omega
      go_wp2_with fail
      (try simp only[Exit.inBlock,Exit.then])
      refine bodyPost_ret (ip rfl _ _ _) rfl ⟨Y,(j:Int),date- B- S+1,0,by first|rfl|go_num,bU,.inl ⟨lL.o,rfl,hY,by omega,by omega,by omega,by rw[HE.o];omega,?_⟩⟩;rw[show((j:Int) - 1).toNat=j- 1 from by omega,HS.o,vt.o];omega
def da (n:Int):Int:=bM (n/ 12)+cH (n/ 12) (n%12).toNat
def lI (n:Int):Int × Int:=if inY (n/ 12)then(da n,0)else(0,2)
theorem Ca {n:Int}:ofI (n/ 12) (n%12+1) 1=lI n:=by
 unfold ofI lI;by_cases hy:inY (n/ 12)
 ·have:=nR (y:=n/ 12) (m:=n%12+1) hy (by omega) (by omega);rw[if_neg (by omega),if_pos hy];unfold da;rw[show n%12+1- 1=n%12 from by omega];simp only[Prod.mk.injEq,and_true];omega
 ·have e:ck (n/ 12) (n%12+1)=0:=by unfold ck;rw[if_neg (λh=>hy h.1)]
  rw[if_pos (by omega),if_neg hy]
theorem im {n:Int} (hy:inY (n/ 12)):qP (da n) (n/ 12) (n%12+1) 1:=by
 have:=nR (y:=n/ 12) (m:=n%12+1) hy (by omega) (by omega);refine⟨hy,by omega,by omega,by omega,by omega,?_⟩;unfold da;rw[show n%12+1- 1=n%12 from by omega];omega
theorem oE {n:Int} (hy:inY (n/ 12)):inD (da n):=by
 have h:=(im hy).year;have h1:=ki hy;have h2:=gN (show n/ 12+1<=2200 by have:=hy.2;omega);rw[tZ]at h2;unfold inD;have:=hy.2;omega
theorem ZM (n p:Int) (w:World) (hy:inY (n/ 12)) (hp0:0<=p) (QQ:p<=3600):Calls Tryz.prog 144 #[(da n),p] w (ap w (.tuple #[.int .i64 (lI (n+p)).1,.int .i64 (lI (n+p)).2])):=by
 obtain⟨r,hr⟩:=x_ (lI (n+p));rw[hr];have HR:=H_ hr;clear hr;have lN:=oE hy;have hc:=H_ (im hy);obtain⟨d0,KR⟩:=x_ (da n);rw[KR]at lN hc |-;clear KR;obtain⟨Y,hY⟩:=x_ (n/ 12);obtain⟨M,hM⟩:=x_ (n%12+1);have hn:n=12*Y+M- 1:=by omega
 have hM1:1<=M:=by omega
 have hM2:M<=12:=by omega
 rw[hY]at hy hc;rw[hM]at hc;obtain⟨gK,gS⟩:=hy;have lL:=H_ lN;clear hY hM lN;subst hn;go_enter Tryz.func144,Tryz.ntmps144;go_wp2_with fail;refine(EF d0 w (by have:=lL.o.1;have:=lL.o.2;unfold cx;omega)).mono ?_;rintro e w1 ⟨y,m,d,k,rfl,eL,oX⟩;obtain⟨hk,zk⟩:k=0/\qP d0 y m d:=by
  rcases oX with⟨_,h1,h2⟩|⟨h1,_⟩
  ·exact⟨h1,h2⟩
  ·exact absurd lL.o h1
 obtain⟨e1,e2,e3⟩:=zk.uniq hc.o;subst hk e1 e2 e3;clear oX zk hc;have hNl:0<=12*y+m- 1+p:=by omega
 by_cases hNy:(12*y+m- 1+p) / 12<=2199
 ·have adS:1900<=(12*y+m- 1+p) / 12:=by omega
  have hdd:=nR (y:=(12*y+m- 1+p) / 12) (m:=(12*y+m- 1+p) %12+1) ⟨adS,hNy⟩ (by omega) (by omega);have hf:=H_ (show ofI ((12*y+m- 1+p) / 12) ((12*y+m- 1+p) %12+1) 1=r by rw[<-HR.o,Ca]);go_wp2_with fail;refine(lx _ _ w1).mono ?_;rintro e w2 ⟨rfl,aH⟩;obtain⟨D,hD⟩:=x_ (ck ((12*y+m- 1+p) / 12) ((12*y+m- 1+p) %12+1));rw[hD]at hdd |-;clear hD;go_wp2_with fail
  (try rw[show min (1:Int) D=1 from by omega])
  refine(PG _ _ _ w2).mono ?_;rintro e w3 ⟨rfl,aZ⟩;rw[hf.o];go_wp2_with fail
  (try go_ret2)
  exact⟨rfl,eL.trans ((aH.trans (aZ.mono aH.size)).mono eL.size)⟩
 ·have hf:=H_ (show r=(0,2) by rw[<-HR.o];unfold lI;rw[if_neg (λh=>hNy h.2)]);have afj:2199< (12*y+m- 1+p) / 12:=by omega
  go_wp2_with fail
  (try go_ret2)
  exact⟨hf.o.symm▸rfl,eL⟩
def bw (y m p:Int):Int:=12*y+m- 1+p
def du (y m p:Int):Bool:=decide (1<=m/\m<=12/\1<=p/\p<=120/\inY y/\inY (bw y m (p- 1) / 12))
theorem ig {y m p q:Int} (h:du y m p=true) (h0:0<=q) (h1:q<p):inY y/\1<=m/\m<=12/\1<=p/\p<=120/\inY (bw y m q/ 12):=by
 have h:=of_decide_eq_true h;obtain⟨a1,a2,a3,a4,a5,a6⟩:=h;refine⟨a5,a1,a2,a3,a4,?_⟩;unfold inY bw at*;omega
def bo (y m n p:Int):Int:=if du y m n=true then(if 0<=p/\p<n then 0 else 2)else 1
def aX (y m n p:Int):Int × Int:=if bo y m n p=0 then(da (bw y m p),0)else(0,bo y m n p)
def ff (n:Int):Int:=da n+ck (n/ 12) (n%12+1) - 1
def bH (y m n p:Int):Int × Int:=if bo y m n p=0 then(ff (bw y m p),0)else(0,bo y m n p)
theorem kG {y m n p:Int} (h:bo y m n p=0):du y m n=true/\0<=p/\p<n:=by
 unfold bo at h;split at h
 ·split at h
  ·rename_i h1 h2;exact⟨h1,h2⟩
  ·omega
 ·omega
theorem BS (y m n p:Int) (w:World) (hy:inY y) (nx:1<=m) (jA:m<=12) (hp0:0<=p) (QQ:p<=200):Calls Tryz.prog 106 #[.agg #[y,m,n],p] w (ap w (.tuple #[.int .i64 (lI (bw y m p)).1,.int .i64 (lI (bw y m p)).2])):=by
 have hf:=H_ (Ca (n:=bw y m p));obtain⟨r,hr⟩:=x_ (lI (bw y m p));rw[hr]at hf |-;clear hr;obtain⟨gK,gS⟩:=hy;go_enter Tryz.func106,Tryz.ntmps106;go_upto_region 1 with fail;obtain⟨W,hW,H0,HB,yG,ewx⟩:=B_ w (.cells #[y,m,n] 23);rw[hW];clear ewx yG;have c0:=ab H0 0;have c1:=ab H0 1;clear hW H0;go_wp2_with fail;refine(aeu _ _ 1 W).mono ?_;rintro e w2 ⟨rfl,aH⟩;have e1:ofI ((12*y+m- 1+p) / 12) ((12*y+m- 1+p) %12+1) 1=r:=hf.o;rw[e1];clear e1;go_wp2_with fail;go_ret2;exact⟨rfl,HB.trans (aH.mono HB.size)⟩
theorem EH (y m n p:Int) (w:World) (hp0:0<=p) (QQ:p<=200):Calls Tryz.prog 101 #[.agg #[y,m,n],p] w (ap w (if inY y/\1<=m/\m<=12 then .tuple #[.int .i64 (lI (bw y m p)).1,.int .i64 (lI (bw y m p)).2]else .tuple #[(),(2:Int)])):=by
 by_cases mG:inY y/\1<=m/\m<=12
 case pos=>
  rw[if_pos mG];obtain⟨r,nJ⟩:=x_ (lI (bw y m p));rw[nJ];have HR:=H_ nJ;clear nJ;go_enter Tryz.func101,Tryz.ntmps101;go_upto_region 1 with fail;obtain⟨W,hW,H0,HB,HS,ewx⟩:=B_ w (.cells #[y,m,n] 23);rw[hW];clear ewx;have c0:=ab H0 0;have c1:=ab H0 1;have c2:=ab H0 2;have rL:=H_ H0;clear hW H0;go_wp2_with fail;refine(PG y m 1 W).mono ?_;rintro e w2 ⟨rfl,aH⟩;have dA:=HB.trans (aH.mono HB.size);obtain⟨hy,nx,jA⟩:=mG;have e1:ofI y m 1=(da (12*y+m- 1),0):=by
   have:=Ca (n:=12*y+m- 1);rw[show(12*y+m- 1) / 12=y from by omega,show(12*y+m- 1) %12+1=m from by omega]at this;rw[this];unfold lI;rw[show(12*y+m- 1) / 12=y from by omega,if_pos hy]
  rw[e1];have hr:=ZM (12*y+m- 1) p w2 (by rw[show(12*y+m- 1) / 12=y from by omega];exact hy) hp0 (by omega);rw[show lI (12*y+m- 1+p)=r from HR.o]at hr;obtain⟨d0,KR⟩:=x_ (da (12*y+m- 1));rw[KR]at hr |-;clear KR e1;go_wp2_with fail;refine hr.mono ?_;rintro e w3 ⟨rfl,aZ⟩;go_wp2_with fail;go_ret2;exact⟨rfl,dA.trans (aZ.mono dA.size)⟩
 case neg=>
 rw[if_neg mG];have e1:ofI y m 1=(0,2):=by
  unfold ofI;rw[if_pos (.inr (by unfold ck;rw[if_neg mG];omega))]
 have HE:=H_ e1;clear e1 mG;go_enter Tryz.func101,Tryz.ntmps101;go_upto_region 1 with fail;obtain⟨W,hW,H0,HB,HS,ewx⟩:=B_ w (.cells #[y,m,n] 23);rw[hW];clear ewx;have c0:=ab H0 0;have c1:=ab H0 1;have c2:=ab H0 2;have rL:=H_ H0;clear hW H0;go_wp2_with fail;refine(PG y m 1 W).mono ?_;rintro e w2 ⟨rfl,aH⟩;have dA:=HB.trans (aH.mono HB.size);rw[HE.o];go_wp2_with fail;go_ret2;exact⟨rfl,dA⟩
theorem mJ (y m n:Int) (w:World):Calls Tryz.prog 91 #[.agg #[y,m,n]] w (ap w (.bool (du y m n))):=by
 obtain⟨r,hr⟩:=x_ (du y m n);rw[hr];have HR:=H_ hr;clear hr;go_enter Tryz.func91,Tryz.ntmps91;go_upto_region 1 with fail;obtain⟨W,hW,H0,HB,HS,ewx⟩:=B_ w (.cells #[y,m,n] 23);rw[hW];clear ewx;have c0:=ab H0 0;have c1:=ab H0 1;have c2:=ab H0 2;have rL:=H_ H0;clear hW H0;by_cases k0:m<1
 case pos=>
  have hf:=H_ (show r=false by rw[<-HR.o];unfold du;exact decide_eq_false (λh=>by have:=h.1;omega));go_wp2_with fail;go_ret;exact⟨hf.o.symm▸rfl,HB⟩
 case neg=>
 by_cases k1:12<m
 case pos=>
  have hf:=H_ (show r=false by rw[<-HR.o];unfold du;exact decide_eq_false (λh=>by have:=h.2.1;omega));go_wp2_with fail;go_ret;exact⟨hf.o.symm▸rfl,HB⟩
 case neg=>
 by_cases k2:n<1
 case pos=>
  have hf:=H_ (show r=false by rw[<-HR.o];unfold du;exact decide_eq_false (λh=>by have:=h.2.2.1;omega));go_wp2_with fail;go_ret;exact⟨hf.o.symm▸rfl,HB⟩
 case neg=>
 by_cases k3:120<n
 case pos=>
  have hf:=H_ (show r=false by rw[<-HR.o];unfold du;exact decide_eq_false (λh=>by have:=h.2.2.2.1;omega));go_wp2_with fail;go_ret;exact⟨hf.o.symm▸rfl,HB⟩
 case neg=>
 by_cases k4:y<1900
 case pos=>
  have hf:=H_ (show r=false by rw[<-HR.o];unfold du;exact decide_eq_false (λh=>by have:=h.2.2.2.2.1.1;omega));go_wp2_with fail;go_ret;exact⟨hf.o.symm▸rfl,HB⟩
 case neg=>
 by_cases k5:2199<y
 case pos=>
  have hf:=H_ (show r=false by rw[<-HR.o];unfold du;exact decide_eq_false (λh=>by have:=h.2.2.2.2.1.2;omega));go_wp2_with fail;go_ret;exact⟨hf.o.symm▸rfl,HB⟩
 case neg=>
 go_wp2_with fail;refine(BS y m n (n- 1) W ⟨by omega,by omega⟩ (by omega) (by omega) (by omega) (by omega)).mono ?_;rintro e w2 ⟨rfl,aH⟩;have dA:=HB.trans (aH.mono HB.size);by_cases lN:inY (bw y m (n- 1) / 12)
 ·have hf:=H_ (show r=true by rw[<-HR.o];unfold du;exact decide_eq_true ⟨by omega,by omega,by omega,by omega,⟨by omega,by omega⟩,lN⟩);rw[show lI (bw y m (n- 1))=(da (bw y m (n- 1)),0)from if_pos lN];go_wp2_with fail;go_ret;exact⟨hf.o.symm▸rfl,dA⟩
 ·have hf:=H_ (show r=false by rw[<-HR.o];unfold du;exact decide_eq_false (λh=>lN h.2.2.2.2.2));rw[show lI (bw y m (n- 1))=(0,2)from if_neg lN];go_wp2_with fail;go_ret;exact⟨hf.o.symm▸rfl,dA⟩
theorem lz (y m n:Int) (w:World):Calls Tryz.prog 96 #[.agg #[y,m,n]] w (ap w (.bool (du y m n))):=by
 obtain⟨r,hr⟩:=x_ (du y m n);rw[hr];have HR:=H_ hr;clear hr;go_enter Tryz.func96,Tryz.ntmps96;go_upto_region 1 with fail;obtain⟨W,hW,H0,HB,HS,ewx⟩:=B_ w (.cells #[y,m,n] 23);rw[hW];clear ewx;have c0:=ab H0 0;have c1:=ab H0 1;have c2:=ab H0 2;have rL:=H_ H0;clear hW H0;by_cases k0:n<1
 case pos=>
  have hf:=H_ (show r=false by rw[<-HR.o];unfold du;exact decide_eq_false (λh=>by have:=h.2.2.1;omega));go_wp2_with fail;go_ret;exact⟨hf.o.symm▸rfl,HB⟩
 case neg=>
 by_cases k1:120<n
 case pos=>
  have hf:=H_ (show r=false by rw[<-HR.o];unfold du;exact decide_eq_false (λh=>by have:=h.2.2.2.1;omega));go_wp2_with fail;go_ret;exact⟨hf.o.symm▸rfl,HB⟩
 case neg=>
 go_wp2_with fail;refine(EH y m n (n- 1) W (by omega) (by omega)).mono ?_;rintro e w2 ⟨rfl,aH⟩;have dA:=HB.trans (aH.mono HB.size);by_cases mG:inY y/\1<=m/\m<=12
 ·rw[if_pos mG];by_cases lN:inY (bw y m (n- 1) / 12)
  ·have hf:=H_ (show r=true by rw[<-HR.o];unfold du;exact decide_eq_true ⟨mG.2.1,mG.2.2,by omega,by omega,mG.1,lN⟩);rw[show lI (bw y m (n- 1))=(da (bw y m (n- 1)),0)from if_pos lN];go_wp2_with fail;go_ret;exact⟨hf.o.symm▸rfl,dA⟩
  ·have hf:=H_ (show r=false by rw[<-HR.o];unfold du;exact decide_eq_false (λh=>lN h.2.2.2.2.2));rw[show lI (bw y m (n- 1))=(0,2)from if_neg lN];go_wp2_with fail;go_ret;exact⟨hf.o.symm▸rfl,dA⟩
 ·rw[if_neg mG];have hf:=H_ (show r=false by rw[<-HR.o];unfold du;exact decide_eq_false (λh=>mG ⟨h.2.2.2.2.1,h.1,h.2.1⟩));go_wp2_with fail;go_ret;exact⟨hf.o.symm▸rfl,dA⟩
theorem vO (y m n p:Int) (w:World):Calls Tryz.prog 105 #[.agg #[y,m,n],p] w (ap w (.int .i64 (bo y m n p))):=by
 obtain⟨r,hr⟩:=x_ (bo y m n p);rw[hr];have HR:=H_ hr;clear hr;go_enter Tryz.func105,Tryz.ntmps105;go_upto_region 1 with fail;obtain⟨W,hW,H0,HB,HS,ewx⟩:=B_ w (.cells #[y,m,n] 23);rw[hW];clear ewx;have c0:=ab H0 0;have c1:=ab H0 1;have c2:=ab H0 2;have rL:=H_ H0;clear hW H0;go_wp2_with fail;refine(mJ y m n W).mono ?_;rintro e w2 ⟨rfl,aH⟩;have dA:=HB.trans (aH.mono HB.size);have dn:=k_ aH rL;have d0:=ab dn.o 0;have d1:=ab dn.o 1;have d2:=ab dn.o 2;obtain⟨v,hv⟩:=x_ (du y m n);rw[hv];have HV:=H_ hv;clear hv c0 c1 c2;cases v with
 |false=>
  have hf:=H_ (show r=1 by rw[<-HR.o];unfold bo;rw[HV.o];simp);go_wp2_with fail;go_ret;exact⟨hf.o.symm▸rfl,dA⟩
 |true=>
  by_cases h1:p<0
  ·have hf:=H_ (show r=2 by rw[<-HR.o];unfold bo;rw[HV.o,if_pos rfl,if_neg (by omega)]);go_wp2_with fail;go_ret;exact⟨hf.o.symm▸rfl,dA⟩
  ·by_cases h2:n<=p
   ·have hf:=H_ (show r=2 by rw[<-HR.o];unfold bo;rw[HV.o,if_pos rfl,if_neg (by omega)]);go_wp2_with fail;go_ret;exact⟨hf.o.symm▸rfl,dA⟩
   ·have hf:=H_ (show r=0 by rw[<-HR.o];unfold bo;rw[HV.o,if_pos rfl,if_pos (by omega)]);go_wp2_with fail;go_ret;exact⟨hf.o.symm▸rfl,dA⟩
theorem ti (y m n p:Int) (w:World):Calls Tryz.prog 70 #[.agg #[y,m,n],p] w (ap w (.int .i64 (bo y m n p))):=by
 obtain⟨r,hr⟩:=x_ (bo y m n p);rw[hr];have HR:=H_ hr;clear hr;go_enter Tryz.func70,Tryz.ntmps70;go_upto_region 1 with fail;obtain⟨W,hW,H0,HB,HS,ewx⟩:=B_ w (.cells #[y,m,n] 23);rw[hW];clear ewx;have c0:=ab H0 0;have c1:=ab H0 1;have c2:=ab H0 2;have rL:=H_ H0;clear hW H0;go_wp2_with fail;refine(lz y m n W).mono ?_;rintro e w2 ⟨rfl,aH⟩;have dA:=HB.trans (aH.mono HB.size);have dn:=k_ aH rL;have d0:=ab dn.o 0;have d1:=ab dn.o 1;have d2:=ab dn.o 2;obtain⟨v,hv⟩:=x_ (du y m n);rw[hv];have HV:=H_ hv;clear hv c0 c1 c2;cases v with
 |false=>
  have hf:=H_ (show r=1 by rw[<-HR.o];unfold bo;rw[HV.o];simp);go_wp2_with fail;go_ret;exact⟨hf.o.symm▸rfl,dA⟩
 |true=>
  by_cases h1:p<0
  ·have hf:=H_ (show r=2 by rw[<-HR.o];unfold bo;rw[HV.o,if_pos rfl,if_neg (by omega)]);go_wp2_with fail;go_ret;exact⟨hf.o.symm▸rfl,dA⟩
  ·by_cases h2:n<=p
   ·have hf:=H_ (show r=2 by rw[<-HR.o];unfold bo;rw[HV.o,if_pos rfl,if_neg (by omega)]);go_wp2_with fail;go_ret;exact⟨hf.o.symm▸rfl,dA⟩
   ·have hf:=H_ (show r=0 by rw[<-HR.o];unfold bo;rw[HV.o,if_pos rfl,if_pos (by omega)]);go_wp2_with fail;go_ret;exact⟨hf.o.symm▸rfl,dA⟩
theorem vP (y m n p:Int) (w:World):Calls Tryz.prog 72 #[.agg #[y,m,n],p] w (ap w (.tuple #[.int .i64 (aX y m n p).1,.int .i64 (aX y m n p).2])):=by
 obtain⟨r,hr⟩:=x_ (aX y m n p);rw[hr];have HR:=H_ hr;clear hr;go_enter Tryz.func72,Tryz.ntmps72;go_upto_region 1 with fail;obtain⟨W,hW,H0,HB,HS,ewx⟩:=B_ w (.cells #[y,m,n] 23);rw[hW];clear ewx;have c0:=ab H0 0;have c1:=ab H0 1;have c2:=ab H0 2;have rL:=H_ H0;clear hW H0;go_wp2_with fail;refine(vO y m n p W).mono ?_;rintro e w2 ⟨rfl,aH⟩;have dA:=HB.trans (aH.mono HB.size);have dn:=k_ aH rL;have d0:=ab dn.o 0;have d1:=ab dn.o 1;have d2:=ab dn.o 2;obtain⟨v,hv⟩:=x_ (bo y m n p);rw[hv];have HV:=H_ hv;clear hv c0 c1 c2;by_cases h0:v=0
 ·subst h0;obtain⟨g1,g2,g3⟩:=kG HV.o;obtain⟨q1,q2,q3,q4,q5,q6⟩:=ig g1 g2 g3;have hf:=H_ (show r=(da (bw y m p),0) by rw[<-HR.o];unfold aX;rw[if_pos HV.o]);have FH:=H_ (show lI (bw y m p)=(da (bw y m p),0)from if_pos q6);have Q1:=H_ q1;clear g1 q1 q6;go_wp2_with fail;refine(BS y m n p w2 Q1.o q2 q3 g2 (by omega)).mono ?_;rintro e w3 ⟨rfl,aZ⟩;rw[FH.o];go_wp2_with fail;go_ret2;exact⟨hf.o.symm▸rfl,dA.trans (aZ.mono dA.size)⟩
 ·have h1:(v==0)=false:=by simpa using h0
  have h2:(v !=0)=true:=by simpa using h0
  have hf:=H_ (show r=(0,v) by rw[<-HR.o];unfold aX;rw[HV.o,if_neg h0]);clear h0;go_wp2_with fail;go_ret2;exact⟨hf.o.symm▸rfl,dA⟩
theorem ju (y m n p:Int) (w:World):Calls Tryz.prog 64 #[.agg #[y,m,n],p] w (ap w (.tuple #[.int .i64 (aX y m n p).1,.int .i64 (aX y m n p).2])):=by
 obtain⟨r,hr⟩:=x_ (aX y m n p);rw[hr];have HR:=H_ hr;clear hr;go_enter Tryz.func64,Tryz.ntmps64;go_upto_region 1 with fail;obtain⟨W,hW,H0,HB,HS,ewx⟩:=B_ w (.cells #[y,m,n] 23);rw[hW];clear ewx;have c0:=ab H0 0;have c1:=ab H0 1;have c2:=ab H0 2;have rL:=H_ H0;clear hW H0;go_wp2_with fail;refine(ti y m n p W).mono ?_;rintro e w2 ⟨rfl,aH⟩;have dA:=HB.trans (aH.mono HB.size);have dn:=k_ aH rL;have d0:=ab dn.o 0;have d1:=ab dn.o 1;have d2:=ab dn.o 2;obtain⟨v,hv⟩:=x_ (bo y m n p);rw[hv];have HV:=H_ hv;clear hv c0 c1 c2;by_cases h0:v=0
 ·subst h0;obtain⟨g1,g2,g3⟩:=kG HV.o;obtain⟨q1,q2,q3,q4,q5,q6⟩:=ig g1 g2 g3;have hf:=H_ (show r=(da (bw y m p),0) by rw[<-HR.o];unfold aX;rw[if_pos HV.o]);have FH:=H_ (show lI (bw y m p)=(da (bw y m p),0)from if_pos q6);have Q1:=H_ q1;clear g1 q1 q6;go_wp2_with fail;refine(EH y m n p w2 g2 (by omega)).mono ?_;rw[if_pos ⟨Q1.o,q2,q3⟩];rintro e w3 ⟨rfl,aZ⟩;rw[FH.o];go_wp2_with fail;go_ret2;exact⟨hf.o.symm▸rfl,dA.trans (aZ.mono dA.size)⟩
 ·have h1:(v==0)=false:=by simpa using h0
  have h2:(v !=0)=true:=by simpa using h0
  have hf:=H_ (show r=(0,v) by rw[<-HR.o];unfold aX;rw[HV.o,if_neg h0]);clear h0;go_wp2_with fail;go_ret2;exact⟨hf.o.symm▸rfl,dA⟩
theorem Af (y m n p:Int) (w:World):Calls Tryz.prog 80 #[.agg #[y,m,n],p] w (ap w (.tuple #[.int .i64 (bH y m n p).1,.int .i64 (bH y m n p).2])):=by
 obtain⟨r,hr⟩:=x_ (bH y m n p);rw[hr];have HR:=H_ hr;clear hr;go_enter Tryz.func80,Tryz.ntmps80;go_upto_region 1 with fail;obtain⟨W,hW,H0,HB,HS,ewx⟩:=B_ w (.cells #[y,m,n] 23);rw[hW];clear ewx;have c0:=ab H0 0;have c1:=ab H0 1;have c2:=ab H0 2;have rL:=H_ H0;clear hW H0;go_wp2_with fail;refine(vP y m n p W).mono ?_;rintro e w2 ⟨rfl,aH⟩;have dA:=HB.trans (aH.mono HB.size);obtain⟨v,hv⟩:=x_ (bo y m n p);have HV:=H_ hv;clear c0 c1 c2;by_cases h0:v=0
 ·subst h0;obtain⟨g1,g2,g3⟩:=kG HV.o;obtain⟨q1,q2,q3,q4,q5,q6⟩:=ig g1 g2 g3;have hf:=H_ (show r=(ff (bw y m p),0) by rw[<-HR.o];unfold bH;rw[if_pos HV.o]);rw[show aX y m n p=(da (bw y m p),0)from by unfold aX;rw[if_pos hv]];have lN:=oE q6;have zk:=H_ (im q6);have Bj:=H_ (show ff (bw y m p)=da (bw y m p)+ck (bw y m p/ 12) (bw y m p%12+1) - 1 from rfl);obtain⟨d0,KR⟩:=x_ (da (bw y m p));rw[KR]at lN zk Bj |-;have yZ:=lN.1;have tV:=lN.2;have lL:=H_ lN;clear g1 q1 q6 hv KR lN;go_wp2_with fail;refine(I9 d0 w2 (by unfold cx;omega)).mono ?_;rintro e w3 ⟨y1,m1,d1,k,rfl,aZ,oX⟩;obtain⟨hk,jY⟩:k=0/\qP d0 y1 m1 d1:=by
   rcases oX with⟨_,h1,h2⟩|⟨h1,_⟩
   ·exact⟨h1,h2⟩
   ·exact absurd lL.o h1
  obtain⟨e1,e2,e3⟩:=jY.uniq zk.o;rw[<-e1,<-e2]at Bj;have HC:=H_ jY;subst hk;clear oX zk e1 e2 e3 jY;go_wp2_with fail;refine(vY y1 m1 w3).mono ?_;rintro e w4 ⟨rfl,bU⟩;have hD:=fI y1 m1;obtain⟨D,hDD⟩:=x_ (ck y1 m1);rw[hDD]at hD Bj |-;clear hDD;go_wp2_with fail;go_ret2;exact⟨by rw[hf.o,Bj.o];first|done|rfl,dA.trans ((aZ.trans (bU.mono aZ.size)).mono dA.size)⟩
 ·have h1:(v==0)=false:=by simpa using h0
  have h2:(v !=0)=true:=by simpa using h0
  have hf:=H_ (show r=(0,v) by rw[<-HR.o];unfold bH;rw[hv,if_neg h0]);rw[show aX y m n p=(0,v)from by unfold aX;rw[hv,if_neg h0]];clear h0 hv;go_wp2_with fail;go_ret2;exact⟨hf.o.symm▸rfl,dA⟩
theorem eS (y m n p:Int) (w:World):Calls Tryz.prog 30 #[.agg #[y,m,n],p] w (ap w (.tuple #[.int .i64 (bH y m n p).1,.int .i64 (bH y m n p).2])):=by
 obtain⟨r,hr⟩:=x_ (bH y m n p);rw[hr];have HR:=H_ hr;clear hr;go_enter Tryz.func30,Tryz.ntmps30;go_upto_region 1 with fail;obtain⟨W,hW,H0,HB,HS,ewx⟩:=B_ w (.cells #[y,m,n] 23);rw[hW];clear ewx;have c0:=ab H0 0;have c1:=ab H0 1;have c2:=ab H0 2;have rL:=H_ H0;clear hW H0;go_wp2_with fail;refine(ju y m n p W).mono ?_;rintro e w2 ⟨rfl,aH⟩;have dA:=HB.trans (aH.mono HB.size);obtain⟨v,hv⟩:=x_ (bo y m n p);have HV:=H_ hv;clear c0 c1 c2;by_cases h0:v=0
 ·subst h0;obtain⟨g1,g2,g3⟩:=kG HV.o;obtain⟨q1,q2,q3,q4,q5,q6⟩:=ig g1 g2 g3;have hf:=H_ (show r=(ff (bw y m p),0) by rw[<-HR.o];unfold bH;rw[if_pos HV.o]);rw[show aX y m n p=(da (bw y m p),0)from by unfold aX;rw[if_pos hv]];have lN:=oE q6;have zk:=H_ (im q6);have Bj:=H_ (show ff (bw y m p)=da (bw y m p)+ck (bw y m p/ 12) (bw y m p%12+1) - 1 from rfl);obtain⟨d0,KR⟩:=x_ (da (bw y m p));rw[KR]at lN zk Bj |-;have yZ:=lN.1;have tV:=lN.2;have lL:=H_ lN;clear g1 q1 q6 hv KR lN;go_wp2_with fail;refine(EF d0 w2 (by unfold cx;omega)).mono ?_;rintro e w3 ⟨y1,m1,d1,k,rfl,aZ,oX⟩;obtain⟨hk,jY⟩:k=0/\qP d0 y1 m1 d1:=by
   rcases oX with⟨_,h1,h2⟩|⟨h1,_⟩
   ·exact⟨h1,h2⟩
   ·exact absurd lL.o h1
  obtain⟨e1,e2,e3⟩:=jY.uniq zk.o;rw[<-e1,<-e2]at Bj;have HC:=H_ jY;subst hk;clear oX zk e1 e2 e3 jY;go_wp2_with fail;refine(lx y1 m1 w3).mono ?_;rintro e w4 ⟨rfl,bU⟩;have hD:=fI y1 m1;obtain⟨D,hDD⟩:=x_ (ck y1 m1);rw[hDD]at hD Bj |-;clear hDD;go_wp2_with fail;go_ret2;exact⟨by rw[hf.o,Bj.o];first|done|rfl,dA.trans ((aZ.trans (bU.mono aZ.size)).mono dA.size)⟩
 ·have h1:(v==0)=false:=by simpa using h0
  have h2:(v !=0)=true:=by simpa using h0
  have hf:=H_ (show r=(0,v) by rw[<-HR.o];unfold bH;rw[hv,if_neg h0]);rw[show aX y m n p=(0,v)from by unfold aX;rw[hv,if_neg h0]];clear h0 hv;go_wp2_with fail;go_ret2;exact⟨hf.o.symm▸rfl,dA⟩
end
section
open Go Go.RowKit
open Go.Maps (Keyed)
abbrev UD:=DataW Unit
theorem pY {P:Program} {e:TypeId} (he:P.underlying e=some .bool) {v:Value} {z:UD × List MemPlace} (h:plainElem P e v=some z):∃a,v=.bool a/\z=(.lit (.bool a),[]):=by
 unfold plainElem at h;rw[he]at h;cases v<;>simp at h;exact⟨_,rfl,h.symm⟩
def pd {α:Type} (P:Program) (k e:TypeId) (κ:α->Lit) (w:World) (b n:Nat) (f:α->Bool):Prop:=
 ∃D:UD,w.ownsMap P k (plainElem P e) b n D/\∀c,D.atKey (κ c) (.lit (.bool false))=.lit (.bool (f c))
section
variable {α:Type} {P:Program} {k e t:TypeId} {κ:α->Lit} {w w':World} {b n:Nat} {f:α->Bool}
theorem pd.made (P:Program) (k e:TypeId) (κ:α->Lit) (w:World):pd P k e κ (w.alloc (.map #[] 0)) w.heap.size 0 (λ_=>false):=
 ⟨_,World.ownsMap_made w P k _,λ_=>rfl⟩
theorem pd.kept {row:Option Nat} (h:pd P k e κ w b n f) (hg:w.grownBy w' row) (bT:some b≠row):pd P k e κ w' b n f:=by
 obtain⟨D,h1,h2⟩:=h;exact⟨D,h1.kept hg bT,h2⟩
theorem pd.lt (h:pd P k e κ w b n f):b<w.heap.size:=by
 obtain⟨D,h1,h2⟩:=h;exact h1.lt
theorem pd.fr {Q:Nat->Prop} (h:pd P k e κ w b n f) (hf:Fr Q w w') (hb:Q b):pd P k e κ w' b n f:=by
 obtain⟨D,⟨es,dc,h1,h3,h4,h5⟩,h2⟩:=h;exact⟨D,⟨es,dc,(hf.block b hb).trans h1,h3,h4,h5⟩,h2⟩
theorem pd.below (h:pd P k e κ w b n f) (hb:Below w.heap.size w w'):pd P k e κ w' b n f:=h.fr (Fr.ofBelow hb) h.lt
theorem pd.mono (h:pd P k e κ w b n f) {n':Nat} (hn:n<=n'):pd P k e κ w b n' f:=by
 obtain⟨D,h1,h2⟩:=h;exact⟨D,h1.mono hn,h2⟩
theorem pd.eqv {g:α->Bool} (h:pd P k e κ w b n f) (hg:∀c,f c=g c):pd P k e κ w b n g:=by
 obtain⟨D,h1,h2⟩:=h;exact⟨D,h1,λc=>by rw[h2 c,hg c]⟩
theorem pd.look (h:pd P k e κ w b n f) (K:Keyed P k) (ht:P.underlying t=some (.map k e)) (he:P.underlying e=some .bool) (hz:(zeroValue e).run P w=.ok (.bool false) w)
 {ir:Value} {c:α} (iz:keyOf P k ir=some (κ c)):(Instr.lookup t (.map (some b)) ir false).run P w=.ok (.bool (f c)) w:=by
 obtain⟨D,h1,h2⟩:=h;obtain⟨v,ps,eC,hv⟩:=h1.lookup K ht hz (plainElem_bool he false) iz;obtain⟨a,rfl,ha⟩:=pY he hv;rw[h2 c]at ha;simp only[Prod.mk.injEq,DataW.lit.injEq,Lit.bool.injEq]at ha;rw[eC,ha.1]
theorem pd.store [DecidableEq α] (h:pd P k e κ w b n f) (K:Keyed P k) (ht:P.underlying t=some (.map k e)) (he:P.underlying e=some .bool) (hn:n<maxLen) (hκ:∀x y,κ x=κ y->x=y) (hl:∀x,WideAt.IsKeyLit (κ x))
 {ir:Value} {c:α} (x:Bool) (iz:keyOf P k ir=some (κ c)):
 ∃w',(Instr.mapUpdate t (.map (some b)) ir (.bool x)).run P w=.ok () w'/\pd P k e κ w' b (n+1) (λd=>if d=c then x else f d)/\w.grownBy w' (some b):=by
 obtain⟨D,h1,h2⟩:=h;obtain⟨w2,eC,h3,h4⟩:=h1.update K ht hn iz (plainElem_bool he x);refine⟨w2,eC,⟨_,h3,λd=>?_⟩,h4⟩;have hm:Maps.IsMap D:=by obtain⟨es,dc,_,_,_,e⟩:=h1;exact⟨_,e⟩
 by_cases hd:d=c
 ·subst hd;rw[Maps.atKey_put_same hm (hl d)];simp
 ·rw[Maps.atKey_put_other (λe=>hd (hκ _ _ e)),h2 d];simp[hd]
end
theorem bO {α:Type} {P:Program} {κ:α->Lit} {ops:Array Oper} {rest:List Oper} {o:Oper} {a:Act} {w:World} {Q:Exit->Act->World->Prop} (hw:Region.wanted o (yielded ops a.tmps)=true) (m x:Operand) (t:TypeId) (pC:o.op=Op.lookup t m x false)
 (k e:TypeId) (K:Keyed P k) (ht:P.underlying t=some (.map k e)) (he:P.underlying e=some .bool) (hz:(zeroValue e).run P w=.ok (.bool false) w) (b n:Nat) (f:α->Bool)
 (hm:a.eval m=.map (some b)) (h:pd P k e κ w b n f) (ir:Value) (c:α) (hx:a.eval x=ir) (iz:keyOf P k ir=some (κ c))
 (hK:wpList P ops Q rest (a.put o.dst (.bool (f c))) w):wpList P ops Q (o::rest) a w:=
 wpList_step λK' qj=>by
  rw[if_pos hw];have eC:=h.look K ht he hz iz;unfold Oper.wp;simp[execOp,pC,hm,hx,eC,Result.andThen];exact qj _ _ hK
theorem dV {α:Type} [DecidableEq α] {P:Program} {κ:α->Lit} {ops:Array Oper} {rest:List Oper} {o:Oper} {a:Act} {w:World} {Q:Exit->Act->World->Prop} (hg:o.guard=none) (m x v:Operand) (t:TypeId) (pC:o.op=Op.mapUpdate t m x v)
 (k e:TypeId) (K:Keyed P k) (ht:P.underlying t=some (.map k e)) (he:P.underlying e=some .bool) (b n:Nat) (f:α->Bool)
 (hm:a.eval m=.map (some b)) (h:pd P k e κ w b n f) (hn:n<maxLen) (hκ:∀x y,κ x=κ y->x=y) (hl:∀x,WideAt.IsKeyLit (κ x)) (ir:Value) (c:α) (hx:a.eval x=ir) (xv:Bool) (hv:a.eval v=.bool xv) (iz:keyOf P k ir=some (κ c))
 (hK:∀w',pd P k e κ w' b (n+1) (λd=>if d=c then xv else f d)->w.grownBy w' (some b)->wpList P ops Q rest (a.put o.dst undef) w'):wpList P ops Q (o::rest) a w:=by
 refine wpList_plain hg λK' qj=>?_
 obtain⟨w',eC,r1,r2⟩:=h.store K ht he hn hκ hl xv iz;unfold Oper.wp;simp[execOp,pC,hm,hx,hv,eC,Result.andThen];exact qj _ _ (hK w' r1 r2)
def qV (n:Int):Lit:=.int .i64 n
theorem qW (x y:Int) (h:qV x=qV y):x=y:=by unfold qV at h;injection h
theorem nV (x:Int):WideAt.IsKeyLit (qV x):=by unfold qV;first|trivial|exact Or.inl trivial|simp[WideAt.IsKeyLit]
theorem oA:Tryz.prog.underlying 3=some (.int .i64):=by kernel_rfl
theorem de:Tryz.prog.underlying 4=some .bool:=by kernel_rfl
theorem dU (w:World):(zeroValue 4).run Tryz.prog w=.ok (.bool false) w:=by kernel_rfl
theorem gx:Tryz.prog.underlying 218=some (.map 3 4):=by kernel_rfl
theorem dI:Keyed Tryz.prog 3:=Maps.int_keyed oA
theorem gD {n:Int} (h:cx n):keyOf Tryz.prog 3 (.int .i64 n)=some (qV n):=Maps.keyOf_int_mk oA (WalkArith.wf_i64 h)
abbrev KM (w:World) (b n:Nat) (f:Int->Bool):Prop:=pd Tryz.prog 3 4 qV w b n f
end
section
open Go Go.RowKit
theorem gy:(Tryz.prog.info? 78).map (·.size)=some 4:=by kernel_rfl
abbrev bn (a:ah):List Value:=[.int .i64 a.code,.int .i64 a.kind,.int .i64 a.basis,.int .i64 a.parent]
def pG (a:ah):Prop:=cx a.code/\cx a.kind/\cx a.basis/\cx a.parent
theorem ar.lit {w:World} {Q:Nat->Prop} {cs:List Value} {x:ah} (h:ar w Q cs x):cs=bn x/\pG x:=by
 obtain⟨c0,c1,c2,c3,rfl,⟨rfl,h0⟩,⟨rfl,h1⟩,⟨rfl,h2⟩,⟨rfl,h3⟩⟩:=h;exact⟨rfl,h0,h1,h2,h3⟩
theorem At.range {w:World} {Q:Nat->Prop} {b o:Nat} {vs:List Value} (h:At w Q ⟨b,o,none⟩ vs):w.rangeAt b o vs:=λj v hj=>h.c hj
theorem cG (a:ah):(Tryz.prog.info? 78).map (·.size)=some (bn a).length:=gy
theorem bX (a:ah):(Tryz.prog.info? 78).map (·.size)=some (bn a).toArray.size:=gy
theorem nO (a:ah):(bn a).toArray.all (·.oneCell')=true:=by simp only[bn,List.all_toArray,List.all_cons,List.all_nil,Value.oneCell',Bool.and_true]
theorem aO {P:Program} {ops:Array Oper} {rest:List Oper} {o:Oper} {a:Act} {Q:Exit->Act->World->Prop} {w0:World} (qE:o.guard=none) (ty:TypeId) (x y:Operand) (ho:o.op=.store ty x y) (hd:o.dst=none)
 (w1:World) (old:Array Value) (t:TypeId) (cells:Array Value) (hw:w0=w1.alloc (.cells old t)) (hx:a.eval x=.pointer (some ⟨w1.heap.size,0,none⟩)) (hy:a.eval y=.agg cells)
 (hi:(P.info? ty).map (·.size)=some cells.size) (mB:old.size=cells.size) (h1:cells.all (·.oneCell')=true)
 (h:∀w2:World,w2.heap[w1.heap.size]? =some (.cells cells t (0,0))->Below w1.heap.size w1 w2->w1.heap.size<w2.heap.size->wpList P ops Q rest a w2):
 wpList P ops Q (o::rest) a w0:=by
 subst hw;exact gj qE ty x y ho hd w1 old t cells hx hy hi mB h1 h
theorem al {w:World} {g:Nat} {x:Obj} (h:w.heap[g]? =some x) (o:Obj):(w.alloc o).heap[g]? =some x:=by
 rw[Below.heap_alloc _ _ _ (ag h)];exact h
theorem aD {B:Nat} {w w':World} (h:Below B w w') {g:Nat} (hg:B<=g) (cs:Array Value):Below B w (w'.setRow g cs):=
 ((Fr.ofBelow h).trans ((cC w' g cs).mono (λk (hk:k<B)=>by omega))).below
theorem OG (a:ah):(bn {}).toArray.size=(bn a).toArray.size:=rfl
def aK (l:List ah) (c:Int):Option ah:=l.find? (λa=>a.code==c)
def gH (o:Option ah):ah:=o.getD {}
def cF (l:List ah) (c:Int):Value:=.tuple #[.agg (bn (gH (aK l c))).toArray,.bool (aK l c).isSome]
theorem pJ {l:List ah} {c:Int} (h:∀j (hj:j<l.length),l[j].code≠c):aK l c=none:=by
 unfold aK;rw[List.find?_eq_none];intro x hx;obtain⟨j,hj,rfl⟩:=List.getElem_of_mem hx;simpa using h j hj
theorem pK {l:List ah} {c:Int} {k:Nat} (hk:k<l.length) (he:l[k].code=c) (h:∀j (hj:j<k),(l[j]'(by omega)).code≠c):aK l c=some l[k]:=by
 unfold aK;rw[List.find?_eq_some_iff_getElem];exact⟨by simpa using he,k,hk,rfl,λj hj=>by simpa using h j hj⟩
theorem mL (l:List ah) (A:Option Addr) (c:Nat) (code:Int) (w:World) (hl:aj ar 4 w (·<w.heap.size) [.slice A l.length c] l) (hc:cx code) (hn:l.length<=1000):Calls Tryz.prog 94 #[.slice A l.length c,code] w (ap w (cF l code)):=by
 obtain⟨r,hr⟩:=x_ (cF l code);rw[hr];have HR:=H_ hr;clear hr;obtain⟨n,bj⟩:=x_ (l.length);rw[bj]at hn;have HL:=H_ hl;have HN:=H_ bj;rw[bj];clear hl bj;obtain⟨fP,gn⟩:=hc;go_enter Tryz.func94,Tryz.ntmps94;go_upto_region 1 with fail;obtain⟨W,hW,H0,HB,HS,ewx⟩:=B_ w (.cells #[(),(),(),()] 78);rw[hW];clear ewx;have rL:=H_ H0;clear hW H0;go_wp2_with fail
 go_loopw [10] (λi wr=>∃k:Nat,k<=n/\i=.int .i64 (k:Int)/\Below W.heap.size W wr/\∀j (hj:j<l.length),j<k->l[j].code≠code) (λi _=>n- (intOf i).toNat)
 case atStart=>exact⟨0,by omega,rfl,Below.refl _ _,λj hj h=>by omega⟩
 case round=>
  obtain⟨k,hk,rfl,hb,hall⟩:=hrel;have HA:=H_ hall;have G0:=(hb.block _ HS).trans rL.o;have lF:=H_ G0;clear hall G0;have bP:=hb.size;by_cases aU:k<n
  case pos=>
   have bq:(k:Int)< (n:Int):=by omega
   have bI:k<l.length:=by rw[HN.o];exact aU
   obtain⟨b,o,es,dj,ed,bL,aS⟩:=aj.get HL.o k bI;subst dj;obtain⟨bE,eL,aH,aZ,bU⟩:=ar.lit bL;rw[bE]at aS;obtain⟨ac,ni⟩:=x_ (l[k]);rw[ni]at aS eL aH aZ bU;have nH:=H_ ni;have eZ:=H_ ((aS.fr (Fr.ofBelow (HB.trans (hb.mono HB.size)))).range);clear bL bE aS ni;obtain⟨c1,c2,c3,c4⟩:=ac;simp only at eL aH aZ bU;have Fh:=HB.trans (hb.mono HB.size);by_cases he:c1=code
   case pos=>
    subst he;have nJ:=H_ (show r=.tuple #[.agg (bn ⟨c1,c2,c3,c4⟩).toArray,true] by
     rw[<-HR.o];unfold cF;rw[pK bI (by rw[nH.o]) (λj hj=>HA.o j (by omega) hj),nH.o];rfl)
    go_wp2_with (first|(refine w_ 13 78 12 b (o+k*4) (bn ⟨c1,c2,c3,c4⟩) eZ.o (cG _) Tryz.underlying78 ?_)|(show wpList _ _ _ (Oper.mk none (Op.store _ (Operand.tmp 4) _) _ _ _ _::_) _ _;refine wpList_store_row rfl 78 (.tmp 4) (.tmp 18) rfl w.heap.size (bn ⟨c1,c2,c3,c4⟩).toArray rfl rfl 78 (bn {}).toArray (al lF.o _) (bX _) (OG _) (nO _) ?_));refine bodyPost_ret (v:=.tuple #[.agg (bn ⟨c1,c2,c3,c4⟩).toArray,true]) (aA rfl _ _ w.heap.size 78 _ (0,0) _ rfl (aB (al lF.o _) _) Tryz.underlying78 rfl (bX _) _ rfl) rfl ⟨by rw[nJ.o];first|done|rfl,aD (Fh.alloc Fh.size _) (Nat.le_refl _) _⟩
   case neg=>
    go_wp2_with (refine w_ 13 78 12 b (o+k*4) (bn ⟨c1,c2,c3,c4⟩) eZ.o (cG _) Tryz.underlying78 ?_);go_roundw
    case rel=>exact⟨k+1,by omega,by go_num,hb.alloc hb.size _,λj hj m7=>by
     rcases Nat.lt_or_ge j k with h|h
     ·exact HA.o j hj h
     ·have:j=k:=by omega
      subst this;rw[nH.o];exact he⟩
    case measure=>
     have e:wrap64 ((k:Int)+1)=((k+1:Nat):Int):=by unfold wrap64;omega
     simp only[intOf,e];omega
  case neg=>
   have bq:¬(k:Int)< (n:Int):=by omega
   have Fh:=HB.trans (hb.mono HB.size);have nJ:=H_ (show r=.tuple #[.agg (bn {}).toArray,false] by
    rw[<-HR.o];unfold cF;rw[pJ (λj hj=>HA.o j hj (by have:=HN.o;omega))];rfl)
   go_wp2_with (show wpList _ _ _ (Oper.mk none (Op.store _ (Operand.tmp 4) _) _ _ _ _::_) _ _;refine wpList_store_row rfl 78 (.tmp 4) (.tmp 20) rfl w.heap.size (bn {}).toArray rfl rfl 78 (bn {}).toArray lF.o (bX _) (OG _) (nO _) ?_);refine bodyPost_ret (v:=.tuple #[.agg (bn {}).toArray,false]) (aA rfl _ _ w.heap.size 78 _ (0,0) _ rfl (aB lF.o _) Tryz.underlying78 rfl (bX _) _ rfl) rfl ⟨by rw[nJ.o];first|done|rfl,aD Fh (Nat.le_refl _) _⟩
theorem mU (l:List ah) (A:Option Addr) (c:Nat) (code:Int) (w:World) (hl:aj ar 4 w (·<w.heap.size) [.slice A l.length c] l) (hc:cx code) (hn:l.length<=1000):Calls Tryz.prog 34 #[.slice A l.length c,code] w (ap w (cF l code)):=by
 obtain⟨r,hr⟩:=x_ (cF l code);rw[hr];have HR:=H_ hr;clear hr;obtain⟨n,bj⟩:=x_ (l.length);rw[bj]at hn;have HL:=H_ hl;have HN:=H_ bj;rw[bj];clear hl bj;obtain⟨fP,gn⟩:=hc;go_enter Tryz.func34,Tryz.ntmps34;go_upto_region 1 with fail;obtain⟨W,hW,H0,HB,HS,ewx⟩:=B_ w (.cells #[(),(),(),()] 78);rw[hW];clear ewx;have rL:=H_ H0;clear hW H0;go_wp2_with fail
 go_loopw [6] (λi wr=>∃k:Nat,k<=n/\i=.int .i64 (k:Int)/\Below W.heap.size W wr/\∀j (hj:j<l.length),j<k->l[j].code≠code) (λi _=>n- (intOf i).toNat)
 case atStart=>exact⟨0,by omega,rfl,Below.refl _ _,λj hj h=>by omega⟩
 case round=>
  obtain⟨k,hk,rfl,hb,hall⟩:=hrel;have HA:=H_ hall;have G0:=(hb.block _ HS).trans rL.o;have lF:=H_ G0;clear hall G0;have bP:=hb.size;by_cases aU:k<n
  case pos=>
   have bq:(k:Int)< (n:Int):=by omega
   have bI:k<l.length:=by rw[HN.o];exact aU
   obtain⟨b,o,es,dj,ed,bL,aS⟩:=aj.get HL.o k bI;subst dj;obtain⟨bE,eL,aH,aZ,bU⟩:=ar.lit bL;rw[bE]at aS;obtain⟨ac,ni⟩:=x_ (l[k]);rw[ni]at aS eL aH aZ bU;have nH:=H_ ni;have eZ:=H_ ((aS.fr (Fr.ofBelow (HB.trans (hb.mono HB.size)))).range);clear bL bE aS ni;obtain⟨c1,c2,c3,c4⟩:=ac;simp only at eL aH aZ bU;have Fh:=HB.trans (hb.mono HB.size);have k0:wr.cell? ⟨b,o+k*4,none⟩=some (.int .i64 c1):=eZ.o 0 _ rfl;by_cases he:c1=code
   case pos=>
    subst he;have nJ:=H_ (show r=.tuple #[.agg (bn ⟨c1,c2,c3,c4⟩).toArray,true] by
     rw[<-HR.o];unfold cF;rw[pK bI (by rw[nH.o]) (λj hj=>HA.o j (by omega) hj),nH.o];rfl)
    go_wp2_with (first|(refine w_ 23 78 22 b (o+k*4) (bn ⟨c1,c2,c3,c4⟩) eZ.o (cG _) Tryz.underlying78 ?_)|(show wpList _ _ _ (Oper.mk none (Op.store _ (Operand.tmp 4) _) _ _ _ _::_) _ _;refine wpList_store_row rfl 78 (.tmp 4) (.tmp 23) rfl w.heap.size (bn ⟨c1,c2,c3,c4⟩).toArray rfl rfl 78 (bn {}).toArray lF.o (bX _) (OG _) (nO _) ?_));refine bodyPost_ret (v:=.tuple #[.agg (bn ⟨c1,c2,c3,c4⟩).toArray,true]) (aA rfl _ _ w.heap.size 78 _ (0,0) _ rfl (aB lF.o _) Tryz.underlying78 rfl (bX _) _ rfl) rfl ⟨by rw[nJ.o];first|done|rfl,aD Fh (Nat.le_refl _) _⟩
   case neg=>
    go_wp2_with fail;go_roundw
    case rel=>exact⟨k+1,by omega,by go_num,hb,λj hj m7=>by
     rcases Nat.lt_or_ge j k with h|h
     ·exact HA.o j hj h
     ·have:j=k:=by omega
      subst this;rw[nH.o];exact he⟩
    case measure=>
     have e:wrap64 ((k:Int)+1)=((k+1:Nat):Int):=by unfold wrap64;omega
     simp only[intOf,e];omega
  case neg=>
   have bq:¬(k:Int)< (n:Int):=by omega
   have Fh:=HB.trans (hb.mono HB.size);have nJ:=H_ (show r=.tuple #[.agg (bn {}).toArray,false] by
    rw[<-HR.o];unfold cF;rw[pJ (λj hj=>HA.o j hj (by have:=HN.o;omega))];rfl)
   go_wp2_with (show wpList _ _ _ (Oper.mk none (Op.store _ (Operand.tmp 4) _) _ _ _ _::_) _ _;refine wpList_store_row rfl 78 (.tmp 4) (.tmp 24) rfl w.heap.size (bn {}).toArray rfl rfl 78 (bn {}).toArray lF.o (bX _) (OG _) (nO _) ?_);refine bodyPost_ret (v:=.tuple #[.agg (bn {}).toArray,false]) (aA rfl _ _ w.heap.size 78 _ (0,0) _ rfl (aB lF.o _) Tryz.underlying78 rfl (bX _) _ rfl) rfl ⟨by rw[nJ.o];first|done|rfl,aD Fh (Nat.le_refl _) _⟩
def upP (l:List ah):Nat->List Int->Int->List Int × Int
 |0,acc,c=>(acc,c)
 |f+1,acc,c=>match aK l c with
  |none=>(acc,c)
  |some a=>if acc.contains c then(acc,c)else upP l f (acc++[c]) a.parent
def upR (l:List ah):Nat->List Int->Int->List Int
 |0,acc,_=>acc
 |f+1,acc,c=>match aK l c with
  |none=>acc
  |some a=>upR l f (acc++[c]) a.parent
theorem cJ {l:List ah} {c:Int} {a:ah} (h:aK l c=some a):a∈l/\a.code=c:=by
 unfold aK at h;exact⟨List.mem_of_find?_eq_some h,by simpa using List.find?_some h⟩
theorem qT {l:List ah} {a:ah} (h:a∈l):(aK l a.code).isSome=true:=by
 unfold aK;rw[List.find?_isSome];exact⟨a,h,by simp⟩
def xB (l:List ah) (acc:List Int):Prop:=acc.Nodup/\∀x∈acc,(aK l x).isSome=true
theorem Ez:∀(xs ys:List Int),xs.Nodup->(∀x∈xs,x∈ys)->xs.length<=ys.length
 |[],_,_,_=>Nat.zero_le _
 |x::xs,ys,h,hs=>by
  rw[List.nodup_cons]at h;have hx:x∈ys:=hs x (by simp);have:=Ez xs (ys.erase x) h.2 (λy hy=>(List.mem_erase_of_ne (by rintro rfl;exact h.1 hy)).2 (hs y (by simp[hy])));rw[List.length_erase_of_mem hx]at this;have:=List.length_pos_of_mem hx;simp only[List.length_cons];omega
theorem mi {l:List ah} {acc:List Int} (h:xB l acc):acc.length<=l.length:=by
 have h1:acc ⊆ l.map (·.code):=by
  intro x hx;have:=h.2 x hx;obtain⟨a,ha⟩:=Option.isSome_iff_exists.1 this;obtain⟨m,e⟩:=cJ ha;exact List.mem_map.2 ⟨a,m,e⟩
 have:=Ez acc _ h.1 (λx hx=>h1 hx);simpa using this
theorem oB (l:List ah):xB l []:=⟨List.nodup_nil,by simp⟩
theorem pR {l:List ah} {acc:List Int} {c:Int} {a:ah} (h:xB l acc) (hc:acc.contains c=false) (ha:aK l c=some a):xB l (acc++[c]):=by
 have hn:c ∉ acc:=by simpa using hc
 refine⟨List.nodup_append.2 ⟨h.1,by simp,?_⟩,?_⟩
 ·intro x hx y hy;simp only[List.mem_singleton]at hy;subst hy;exact λe=>hn (e▸hx)
 ·intro x hx;rcases List.mem_append.1 hx with h1|h1
  ·exact h.2 x h1
  ·simp only[List.mem_singleton]at h1;subst h1;rw[ha];rfl
def aca (l:List ah) (acc:List Int) (c:Int):Prop:=∀x∈acc,∃a,aK l x=some a/\(a.parent∈acc\/a.parent=c)
theorem Fe {l:List ah} {S:List Int} (hS:∀x∈S,∃a,aK l x=some a/\a.parent∈S):∀(f:Nat) (acc:List Int) (c:Int),c∈S->(upR l f acc c).length=acc.length+f
 |0,acc,c,_=>rfl
 |f+1,acc,c,hc=>by
  obtain⟨a,ha,hp⟩:=hS c hc;unfold upR;rw[ha];simp only;rw[Fe hS f (acc++[c]) a.parent hp,List.length_append];simp only[List.length_cons,List.length_nil];omega
theorem JM {l:List ah}:∀(f:Nat) (acc:List Int) (c:Int),xB l acc->aca l acc c->acc.length+f=l.length+1->
 (aK l (upP l f acc c).2=none↔(upR l f acc c).length<=l.length)
 |0,acc,c,hk,_,hf=>by have:=mi hk;omega
 |f+1,acc,c,hk,hl,hf=>by
  unfold upP upR;cases ha:aK l c with
  |none=>
   simp only;rw[ha];have:=mi hk;simp[this]
  |some a=>
   simp only;by_cases hc:acc.contains c=true
   ·rw[if_pos hc];simp only[ha,reduceCtorEq,false_iff,Nat.not_le];have KD:c∈acc:=by simpa using hc
    have hS:∀x∈acc,∃a,aK l x=some a/\a.parent∈acc:=by
     intro x hx;obtain⟨b,h1,h2⟩:=hl x hx;refine⟨b,h1,?_⟩;rcases h2 with h2|h2
     ·exact h2
     ·rw[h2];exact KD
    obtain⟨b,h1,h2⟩:=hS c KD;rw[ha]at h1;cases h1;rw[Fe hS f (acc++[c]) a.parent h2,List.length_append];simp only[List.length_cons,List.length_nil];omega
   ·rw[if_neg hc];have hc':acc.contains c=false:=by simpa using hc
    refine JM f (acc++[c]) a.parent (pR hk hc' ha) ?_ (by simp only[List.length_append,List.length_cons,List.length_nil];omega);intro x hx;rcases List.mem_append.1 hx with h1|h1
    ·obtain⟨b,h2,h3⟩:=hl x h1;refine⟨b,h2,?_⟩;rcases h3 with h3|h3
     ·exact .inl (List.mem_append_left _ h3)
     ·exact .inl (h3▸List.mem_append_right _ (by simp))
    ·simp only[List.mem_singleton]at h1;subst h1;exact⟨a,ha,.inr rfl⟩
theorem yA {l:List ah}:∀(f:Nat) (acc:List Int) (c:Int),(∀x,acc.getLast?=some x->∃a,aK l x=some a/\a.parent=c)->
 ∀x,(upP l f acc c).1.getLast?=some x->∃a,aK l x=some a/\a.parent=(upP l f acc c).2
 |0,acc,c,h=>h
 |f+1,acc,c,h=>by
  unfold upP;cases ha:aK l c with
  |none=>exact h
  |some a=>
   simp only;by_cases hc:acc.contains c=true
   ·rw[if_pos hc];exact h
   ·rw[if_neg hc];refine yA f (acc++[c]) a.parent ?_;intro x hx;rw[List.getLast?_append]at hx;simp only[List.getLast?_singleton,Option.some_or,Option.some.injEq]at hx;subst hx;exact⟨a,ha,rfl⟩
theorem Cp {l:List ah}:∀(f:Nat) (acc:List Int) (c:Int),acc.length<=(upP l f acc c).1.length
 |0,acc,c=>Nat.le_refl _
 |f+1,acc,c=>by
  unfold upP;cases ha:aK l c with
  |none=>exact Nat.le_refl _
  |some a=>
   simp only;by_cases hc:acc.contains c=true
   ·rw[if_pos hc];exact Nat.le_refl _
   ·rw[if_neg hc];have:=Cp (l:=l) f (acc++[c]) a.parent;simp only[List.length_append,List.length_cons,List.length_nil]at this;omega
def ek (g:Bool) (a:ah):Bool:=decide (1<=a.code/\a.code<=99999/\1<=a.kind/\a.kind<=5)&&(if g then decide (1<=a.basis/\a.basis<=3)else a.basis==0)
def mP (l:List ah) (a:ah):Bool:=match aK l a.parent with
 |none=>false
 |some p=> !(p.code==a.code)&&p.kind==a.kind
def dF (l:List ah) (g:Bool) (a:ah):Bool:=ek g a&&(a.parent==0||(mP l a&&(upP l (l.length+1) [] a.code).2==0))
def ea (l:List ah) (g:Bool) (a:ah):Bool:=ek g a&&(a.parent==0||mP l a)
def tI (l:List ah) (g:Bool) (i:Nat):Bool:=match l[i]? with
 |none=>false
 |some a=> !(decide (0<i)&&decide ((l.getD (i- 1) {}).code≥a.code))&&dF l g a
def sE (l:List ah) (g:Bool) (i:Nat):Bool:=match l[i]? with
 |none=>false
 |some a=>ea l g a&&!(decide (0<i)&&decide (a.code<=(l.getD (i- 1) {}).code))&&decide ((upR l (l.length+1) [] a.code).length<=l.length)
def ej (l:List ah) (g:Bool):Bool:=(List.range l.length).all (tI l g)&&decide (l.length<=200)
def lG (l:List ah) (g:Bool):Bool:=decide (l.length<=200)&&(List.range l.length).all (sE l g)
theorem JN {l:List ah} (hc:∀a∈l,1<=a.code) (hp:∀a∈l,a.parent=0\/mP l a=true) {a:ah} (ha:a∈l):
 (upP l (l.length+1) [] a.code).2=0↔(upR l (l.length+1) [] a.code).length<=l.length:=by
 rw[<-JM (l.length+1) [] a.code (oB l) (λx hx=>by cases hx) (by simp)];have NL:=yA (l:=l) (l.length+1) [] a.code (λx hx=>by cases hx);obtain⟨a0,ha0⟩:=Option.isSome_iff_exists.1 (qT ha);have eX:1<=(upP l (l.length+1) [] a.code).1.length:=by
  unfold upP;rw[ha0];have:=Cp (l:=l) l.length ([]++[a.code]) a0.parent;simpa using this
 generalize upP l (l.length+1) [] a.code=P at*;obtain⟨p,e⟩:=P;simp only at*;have bT:p≠[]:=by rintro rfl;simp at eX
 obtain⟨b,hb,oQ⟩:=NL _ (List.getLast?_eq_some_getLast bT);constructor
 ·rintro rfl;cases h:aK l 0 with
  |none=>rfl
  |some z=>
   obtain⟨m,hz⟩:=cJ h;have:=hc z m;omega
 ·intro h;rcases hp b (cJ hb).1 with h0|h0
  ·rw[<-oQ];exact h0
  ·unfold mP at h0;rw[oQ,h]at h0;cases h0
theorem vR (l:List ah) (g:Bool):ej l g=lG l g:=by
 unfold ej lG;rw[Bool.and_comm]
 congr 1
 have T9:∀a,ek g a=true->1<=a.code:=by
  intro a h;unfold ek at h;simp only[Bool.and_eq_true,decide_eq_true_eq]at h;exact h.1.1
 rw[Bool.eq_iff_iff,List.all_eq_true,List.all_eq_true];constructor
 ·intro h;have h':∀i (hi:i<l.length),(!(decide (0<i)&&decide ((l.getD (i- 1) {}).code≥l[i].code)))=true/\dF l g l[i]=true:=by
   intro i hi;have:=h i (List.mem_range.2 hi);unfold tI at this;rw[List.getElem?_eq_getElem hi]at this;simp only[Bool.and_eq_true]at this;exact this
  have hf:∀a∈l,ek g a=true/\(a.parent=0\/mP l a=true/\(upP l (l.length+1) [] a.code).2=0):=by
   intro a ha;obtain⟨i,hi,rfl⟩:=List.getElem_of_mem ha;have:=(h' i hi).2;unfold dF at this;simpa using this
  have hc:∀a∈l,1<=a.code:=λa ha=>T9 a (hf a ha).1
  have hp:∀a∈l,a.parent=0\/mP l a=true:=λa ha=>(hf a ha).2.imp id (·.1)
  intro i hi;have hi':=List.mem_range.1 hi;have hm:l[i]∈l:=List.getElem_mem hi';unfold sE;rw[List.getElem?_eq_getElem hi'];simp only[Bool.and_eq_true,decide_eq_true_eq];refine⟨⟨?_,(h' i hi').1⟩,?_⟩
  ·unfold ea;rw[(hf _ hm).1,Bool.true_and];simpa using hp _ hm
  ·rw[<-JN hc hp hm];rcases(hf _ hm).2 with h0|h0
   ·have abh:∀(j:Nat) (i:Nat) (hi:i<l.length) (hj:j<i),(l[j]'(by omega)).code<l[i].code:=by
     intro j i
     induction i with
     |zero=>intro _ hj;omega
     |succ i ih=>
      intro hi hj;have h1:=(h' (i+1) hi).1;simp only[Nat.add_sub_cancel,Nat.zero_lt_succ,decide_true,Bool.true_and,Bool.not_eq_true',decide_eq_false_iff_not]at h1;rw[List.getD_eq_getElem?_getD,List.getElem?_eq_getElem (by omega),Option.getD_some]at h1;rcases Nat.lt_or_ge j i with h2|h2
      ·have:=ih (by omega) h2;omega
      ·have:j=i:=by omega
       subst this;omega
    have ha0:aK l l[i].code=some l[i]:=pK hi' rfl (λj hj e=>by have:=abh j i hi' hj;omega);have h00:aK l 0=none:=pJ (λj hj e=>by have:=hc _ (List.getElem_mem hj);omega);unfold upP;rw[ha0];simp only[List.contains_nil,Bool.false_eq_true,if_false];rw[h0];obtain⟨m,jA⟩:∃m,l.length=m+1:=⟨l.length- 1,by omega⟩;rw[jA];unfold upP;rw[h00]
   ·exact h0.2
 ·intro h;have h':∀i (hi:i<l.length),(ea l g l[i]=true/\(!(decide (0<i)&&decide (l[i].code<=(l.getD (i- 1) {}).code)))=true)/\(upR l (l.length+1) [] l[i].code).length<=l.length:=by
   intro i hi;have:=h i (List.mem_range.2 hi);unfold sE at this;rw[List.getElem?_eq_getElem hi]at this;simp only[Bool.and_eq_true,decide_eq_true_eq]at this;exact this
  have hf:∀a∈l,ek g a=true/\(a.parent=0\/mP l a=true):=by
   intro a ha;obtain⟨i,hi,rfl⟩:=List.getElem_of_mem ha;have:=(h' i hi).1.1;unfold ea at this;simpa using this
  have hc:∀a∈l,1<=a.code:=λa ha=>T9 a (hf a ha).1
  have hp:∀a∈l,a.parent=0\/mP l a=true:=λa ha=>(hf a ha).2
  intro i hi;have hi':=List.mem_range.1 hi;have hm:l[i]∈l:=List.getElem_mem hi';unfold tI;rw[List.getElem?_eq_getElem hi'];simp only[Bool.and_eq_true];refine⟨(h' i hi').1.2,?_⟩;unfold dF;rw[(hf _ hm).1,Bool.true_and,(JN hc hp hm).2 (h' i hi').2];rcases hp _ hm with h0|h0
  ·simp[h0]
  ·simp[h0]
end
end Go.Proofs.YtibiddakakgakaaGreat
