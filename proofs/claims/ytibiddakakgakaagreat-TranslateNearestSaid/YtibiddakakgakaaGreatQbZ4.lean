/- The law TranslateNearest. Written by gen_z4.py. -/
import Derived.Test.YtibiddakakgakaaGreatQbI18
import Derived.Test.YtibiddakakgakaaGreatQbW3
import Derived.Test.YtibiddakakgakaaGreatQbZ2P0
set_option linter.unusedVariables false
set_option linter.unusedSimpArgs false
set_option maxRecDepth 4000
attribute [local go_sem ↓] Go.wp_at_zero Go.wp_at_succ
set_option maxHeartbeats 16000000
namespace Go.Proofs.YtibiddakakgakaaGreat
open Go Go.RowKit
theorem agu {b:XBk} {e l p:Int} (h:(pm b e l p).2=0):
 ∃(x:ak) (y:bG),x∈b.es/\y∈x.lines/\(m6 b.es e l).1=y/\(pm b e l p).1.entity=x.entity/\(pm b e l p).1.date=x.date/\(rr b x.entity y.account x.date p).2=0/\
  (pm b e l p).1.amount=(cN y.amount (rr b x.entity y.account x.date p).1).1/\(cN y.amount (rr b x.entity y.account x.date p).1).2=0:=by
 obtain⟨x,y,k,h1,h2,h3,h4,h5⟩:=K0 h;refine⟨x,y,List.mem_of_getElem? h2,List.mem_of_getElem? h4,?_,h5⟩;have e1:b.es.getD k {}=x:=by rw[List.getD_eq_getElem?_getD,h2];rfl
 have aU:=(List.getElem?_eq_some_iff.1 h4).1;have e2:x.lines.getD l.toNat {}=y:=by rw[List.getD_eq_getElem?_getD,h4];rfl
 unfold m6;rw[h1];simp only;rw[e1,if_neg (by omega),e2]
theorem K9 {i y v:Int} (h:(cN y v).2=0) (hi:i=(cN y v).1) (hy: -1000000<=y/\y<=1000000) (hv:v<=1000000000):
 (-1000000000000000000<=i*1000000/\i*1000000<=1000000000000000000)/\(-1000000000000000<=y*v/\y*v<=1000000000000000)/\ -1000000<=2*(i*1000000- y*v)/\2*(i*1000000- y*v)<=1000000:=by
 obtain⟨⟨_,_,RW,_⟩,_⟩:=Ay h;have h1:=OQ y v;have h2:=KI h;rw[<-hi]at h1 h2;have h3:y*v<=1000000*1000000000:=by
  rcases Int.lt_or_le y 0 with hn|hn
  ·have:y*v<=0:=Int.mul_nonpos_of_nonpos_of_nonneg (by omega) (by omega);omega
  ·exact Pg hn hy.2 (by omega) hv
 have h4: -(1000000*1000000000)<=y*v:=by
  rcases Int.lt_or_le y 0 with hn|hn
  ·have h5:(-y)*v<=1000000*1000000000:=Pg (by omega) (by omega) (by omega) hv;rw[Int.neg_mul]at h5;omega
  ·have:0<=y*v:=sx hn (by omega);omega
 omega
theorem jn (b:XBk) (bl gl tl:List Value) (Ae Ar:Option Addr) (ce cr:Nat) (re rl p:Int) (w:World) (hk:BkC w (·<w.heap.size) bl b gl Ae ce Ar cr tl) (bP:Fb b) (lX:am p) (zb:am re):Calls Tryz.prog 6 #[.agg bl.toArray,.agg #[re,rl],p] w (ap w (.bool true)):=by
 have CZ:=H_ (λ(w2:World) (hb:Below w.heap.size w w2)=>BQ b bl gl tl Ae Ar ce cr w2 (hk.keep hb) bP.1 bP.2.1);have kY:=H_ (show bl.toArray.size=27 by have:=hk.len;simpa using this);have HK:=H_ hk;have N2:=H_ bP;have zU:=H_ (λ(w2:World) (hb:Below w.heap.size w w2) (hf:pI b)=>JK b bl gl tl Ae Ar ce cr re rl p w2 (hk.keep hb) (j9 hf bP) lX zb);have py:=H_ (show(pm b re rl p).2≠0->(pm b re rl p).1={}from V9);have jz:=H_ (show(pm b re rl p).2=0->_ from agu);obtain⟨i1,i2,i3,i4,i5,i6,i7,v2,hv⟩:∃i1 i2 i3 i4 i5 i6 i7 v2,pm b re rl p=(⟨⟨i1,i2⟩,i3,i4,i5,i6,i7⟩,v2):=⟨_,_,_,_,_,_,_,_,rfl⟩;simp only[hv]at zU py jz;have HLI:=H_ (λ(w2:World) (hb:Below w.heap.size w w2)=>agy b.es Ae ce re rl w2 (hk.keep hb).es);obtain⟨y1,y2,y3,ok,hly⟩:∃y1 y2 y3 ok,m6 b.es re rl=(⟨y1,y2,y3⟩,ok):=⟨_,_,_,_,rfl⟩;rw[hly]at HLI jz;have agI:=H_ (show bl.toArray[21]? =some (.slice Ae b.es.length ce) by rw[List.getElem?_toArray];exact hk.at_e.1);obtain⟨ne,bT⟩:∃n,b.es.length=n:=⟨_,rfl⟩;rw[bT]at agI HLI;obtain⟨fw,Od⟩:∃q:Prop,pI b=q:=⟨_,rfl⟩;rw[Od]at CZ;have Og:=H_ Od;clear hk bP Od lX hv hly bT;go_enter Tryz.func6,Tryz.ntmps6;go_upto_region 1 with fail;obtain⟨W1,cS,H1,bC,dr,ewx⟩:=B_ w (.cells bl.toArray 36);rw[cS];clear ewx;have yN:=H_ (show W1.heap.size=w.heap.size+1 by rw[<-cS];simp);clear cS;obtain⟨W2,fR,H2,dz,jK,ewx⟩:=B_ W1 (.cells #[re,rl] 38);rw[fR];clear ewx;have Xo:=H_ (show W2.heap.size=W1.heap.size+1 by rw[<-fR];simp);clear fR;have NV:=H_ bC;have Vr:=t_ NV dz;have rP:=H_ (show W2.heap[w.heap.size]? =some (.cells bl.toArray 36 (0,0))from((dz.block _ (ag (H1))).trans (H1)));have FW:=H_ (show W2.heap[w.heap.size+1]? =some (.cells #[re,rl] 38 (0,0)) by have h:=H2;rw[show W1.heap.size=w.heap.size+1 by rw[yN.o]]at h;exact h);clear H1 bC dr H2 dz jK;go_wp2_with fail;refine(sa W2).mono ?_;rintro e w3 ⟨rfl,aZ⟩;have Dq:=t_ Vr aZ;have sL:=k_ aZ rP;have Dn:=k_ aZ FW;clear aZ rP FW;have NO:=Dq;have iY:=sL;have Ob:=Dn;clear Dq sL Dn;go_wp2_with (refine W_ 16 36 3 (w.heap.size) iY.o (by rw[bF];exact congrArg some kY.o.symm) Tryz.underlying36 ?_);refine(CZ.o w3 NO.o).mono ?_;rintro e w4 ⟨bf,rfl,hf,bU⟩;have zn:=t_ NO bU;have i9:=k_ bU iY;have qy:=k_ bU Ob;clear bU;cases bf with
 |false=>
  clear hf;go_wp2_with fail;go_ret;exact⟨rfl,zn.o⟩
 |true=>
 have Ov:=H_ (show pI b from Og.o▸hf rfl);have ML:=H_ (j9 Ov.o N2.o);clear hf;go_wp2_with (first|(refine W_ 20 36 3 (w.heap.size) i9.o (by rw[bF];exact congrArg some kY.o.symm) Tryz.underlying36 ?_)|(refine W_ 21 38 4 (w.heap.size+1) qy.o Eg Tryz.underlying38 ?_));refine(zU.o w4 zn.o Ov.o).mono ?_;rintro e w5 ⟨rfl,cP⟩;have QT:=t_ zn cP;have lW:=k_ cP i9;have rH:=k_ cP qy;clear cP;by_cases h0:v2=0
 case neg=>
  obtain⟨⟨rfl,rfl⟩,rfl,rfl,rfl,rfl,rfl⟩:(i1=0/\i2=0)/\i3=0/\i4=0/\i5=0/\i6=0/\i7=0:=by
   have h:=py.o h0;simpa using h
  have h0b:(v2 !=0)=true:=by simpa using h0
  clear h0;go_upto_region 6 with(show wpList _ _ _ (Oper.mk none (Op.store _ (Operand.tmp 7) _) _ _ _ _::_) _ _;refine aO rfl 42 (.tmp 7) (.tmp 24) rfl rfl w5 #[(),(),(),(),(),(),()] 42 #[(),(),(),(),(),(),()] rfl rfl rfl aP rfl (by simp[Value.oneCell']) ?_;intro W6 H6 dK my)
  have HI6:=H_ H6;have TR:=t_ QT dK;clear H6 dK my;go_wp2_with (refine W_ 28 42 7 (w5.heap.size) HI6.o aP Tryz.underlying42 ?_);go_ret;exact⟨rfl,TR.o⟩
 case pos=>
 subst h0;obtain⟨x,y,QJ,hym,hyl,hie,agJ,hr0,oR,jY⟩:=jz.o rfl
 try simp only at hyl hie agJ oR
 subst hyl hie agJ;obtain⟨v,hv⟩:=x_ ((rr b x.entity y1 x.date p).1)
 try simp only at hr0 oR jY
 rw[hv]at oR jY;have agE:am y1/\am x.date:=by
  obtain⟨cs,he⟩:=aj.elt HK.o.es QJ;obtain⟨Al,cl,_,oY,lP⟩:=he.lit;exact⟨(Ek lP _ hym).1,oY.2.2.1⟩
 have TK:=H_ (λ(w2:World) (hb:Below w.heap.size w w2)=>show Calls Tryz.prog 24 #[.agg bl.toArray,x.entity,y1,x.date,p] w2 (ap w2 (.tuple #[v,()])) by
  have h:=TB b bl gl tl Ae Ar ce cr x.entity y1 x.date p w2 (HK.o.keep hb) ML.o agE.1 agE.2;rw[hr0,hv]at h;exact h)
 have Fl:=H_ (show(cN y2 v).2=0/\i7=(cN y2 v).1 from⟨jY,oR⟩);obtain⟨xe,rQ⟩:∃e,x.entity=e:=⟨_,rfl⟩;obtain⟨xd,hxd⟩:∃e,x.date=e:=⟨_,rfl⟩;rw[rQ,hxd]at TK;clear jz py QJ hym hr0 oR jY hv agE;rw[rQ,hxd]at*;clear rQ hxd;go_upto_region 6 with(show wpList _ _ _ (Oper.mk none (Op.store _ (Operand.tmp 7) _) _ _ _ _::_) _ _;refine aO rfl 42 (.tmp 7) (.tmp 24) rfl rfl w5 #[(),(),(),(),(),(),()] 42 #[i1,i2,xe,i4,i5,xd,i7] rfl rfl rfl aP rfl (by simp[Value.oneCell']) ?_;intro W6 H6 dK my)
 have HI6:=H_ H6;have TR:=t_ QT dK;have px:=k_ dK lW;have Kl:=k_ dK rH;have qx:=(ab px.o 21).trans agI.o;clear H6 dK my;go_wp2_with (refine W_ 34 38 4 (w.heap.size+1) Kl.o Eg Tryz.underlying38 ?_);refine(HLI.o W6 TR.o).mono ?_;rintro e w7 ⟨rfl,fC⟩;have HI7:=k_ fC HI6;have HW7:=t_ TR fC;have pB:=k_ fC px;have abv:=k_ fC Kl;clear fC;clear qx;go_upto_region 9 with(show wpList _ _ _ (Oper.mk none (Op.store _ (Operand.tmp 9) _) _ _ _ _::_) _ _;refine aO rfl 60 (.tmp 9) (.tmp 36) rfl rfl w7 #[(),(),()] 60 #[y1,y2,y3] rfl rfl rfl cK rfl (by simp[Value.oneCell']) ?_;intro W8 H8 o9 XW)
 have HL8:=H_ H8;have HI8:=k_ o9 HI7;have NJ:=k_ o9 pB;have HW8:=t_ HW7 o9;have a2:=ab HI8.o 2;have a5:=ab HI8.o 5;have b0:=ab HL8.o 0;clear H8 o9 XW;go_wp2_with (refine W_ 39 36 3 (w.heap.size) NJ.o (by rw[bF];exact congrArg some kY.o.symm) Tryz.underlying36 ?_);refine(TK.o W8 HW8.o).mono ?_;rintro e w9 ⟨rfl,kT⟩;have HI9:=k_ kT HI8;have HL9:=k_ kT HL8;have HW9:=t_ HW8 kT;have a6:=ab HI9.o 6;have b1:=ab HL9.o 1;clear kT a2 a5 b0;by_cases q1:y2>1000000
 case pos=>
  have q1d:decide (y2>1000000)=true:=decide_eq_true q1;clear q1;go_wp2_with fail;go_ret;exact⟨rfl,HW9.o⟩
 case neg=>
 have q1d:decide (y2>1000000)=false:=decide_eq_false q1;by_cases q2:y2< -1000000
 case pos=>
  have q2d:decide (y2< -1000000)=true:=decide_eq_true q2;clear q1 q2;go_wp2_with fail;go_ret;exact⟨rfl,HW9.o⟩
 case neg=>
 have q2d:decide (y2< -1000000)=false:=decide_eq_false q2;by_cases q3:v>1000000000
 case pos=>
  have q3d:decide (v>1000000000)=true:=decide_eq_true q3;clear q1 q2 q3;go_wp2_with fail;go_ret;exact⟨rfl,HW9.o⟩
 case neg=>
 have q3d:decide (v>1000000000)=false:=decide_eq_false q3;obtain⟨ir,Vn,VE,oO⟩:=K9 Fl.o.1 Fl.o.2 ⟨by omega,by omega⟩ (by omega);obtain⟨m1,nx⟩:∃m,i7*1000000=m:=⟨_,rfl⟩;obtain⟨m2,jA⟩:∃m,y2*v=m:=⟨_,rfl⟩;rw[nx]at ir VE oO;rw[jA]at Vn VE oO;have u1:IntKind.i64.wrap m1=m1:=by rw[IntKind.wrap_i64];omega
 have u2:IntKind.i64.wrap m2=m2:=by rw[IntKind.wrap_i64];omega
 have u3:IntKind.i64.wrap (m1- m2)=m1- m2:=by rw[IntKind.wrap_i64];omega
 have u4:IntKind.i64.wrap (2*(m1- m2))=2*(m1- m2):=by rw[IntKind.wrap_i64];omega
 have q4d:decide (2*(m1- m2)≥ -1000000)=true:=decide_eq_true VE;have q5d:decide (2*(m1- m2)<=1000000)=true:=decide_eq_true oO;clear q1 q2 q3 ir Vn VE oO;go_wp2_with fail;go_ret;exact⟨rfl,HW9.o⟩
end Go.Proofs.YtibiddakakgakaaGreat
