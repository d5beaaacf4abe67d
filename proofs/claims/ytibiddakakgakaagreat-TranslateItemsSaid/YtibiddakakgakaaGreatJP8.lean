/- The law TranslateItems. Written by gen_z3.py. -/
import Derived.Test.YtibiddakakgakaaGreatJZ2P0
set_option linter.unusedVariables false
set_option linter.unusedSimpArgs false
set_option maxRecDepth 4000
attribute [local go_sem ↓] Go.wp_at_zero Go.wp_at_succ
set_option maxHeartbeats 16000000
namespace Go.Proofs.YtibiddakakgakaaGreat
open Go Go.RowKit
theorem pS (b:XBk) (bl gl tl:List Value) (Ae Ar:Option Addr) (ce cr:Nat) (ent p:Int) (w:World) (hk:BkC w (·<w.heap.size) bl b gl Ae ce Ar cr tl) (bP:Fb b) (lX:am p):Calls Tryz.prog 7 #[.agg bl.toArray,ent,p] w (ap w (.bool true)):=by
 have CZ:=H_ (λ(w2:World) (hb:Below w.heap.size w w2)=>BQ b bl gl tl Ae Ar ce cr w2 (hk.keep hb) bP.1 bP.2.1);have kY:=H_ (show bl.toArray.size=27 by have:=hk.len;simpa using this);have HK:=H_ hk;have N2:=H_ bP;have zU:=H_ (λ(w2:World) (hb:Below w.heap.size w w2) (hf:pI b)=>Qn b bl gl tl Ae Ar ce cr ent p w2 (hk.keep hb) (j9 hf bP) lX);have yP:=H_ (λ(w2:World) (hb:Below w.heap.size w w2) (hf:pI b)=>Hy b bl gl tl Ae Ar ce cr ent p w2 (hk.keep hb) (j9 hf bP) lX);obtain⟨I1,I2,hv⟩:∃I1 I2,pQ b ent p=(I1,I2):=⟨_,_,rfl⟩;obtain⟨q,hq⟩:=x_ (I1.length);have HQ:=H_ hq;unfold rX at zU yP;simp only[hv]at zU yP;rw[hq]at zU yP;obtain⟨fw,Od⟩:∃q:Prop,pI b=q:=⟨_,rfl⟩;rw[Od]at CZ;have Og:=H_ Od;clear hk bP Od lX hv hq;go_enter Tryz.func7,Tryz.ntmps7;go_upto_region 1 with fail;obtain⟨W1,cS,H1,bC,dr,ewx⟩:=B_ w (.cells bl.toArray 36);rw[cS];clear ewx;have yN:=H_ (show W1.heap.size=w.heap.size+1 by rw[<-cS];simp);clear cS;have NV:=H_ bC;have vm:=H_ (show W1.heap[w.heap.size]? =some (.cells bl.toArray 36 (0,0))from H1);clear H1 bC dr;go_wp2_with fail;refine(sa W1).mono ?_;rintro e w3 ⟨rfl,aZ⟩;have Dq:=t_ NV aZ;have sL:=k_ aZ vm;clear aZ vm;have NO:=Dq;have iY:=sL;clear Dq sL;go_wp2_with (refine W_ 13 36 3 (w.heap.size) iY.o (by rw[bF];exact congrArg some kY.o.symm) Tryz.underlying36 ?_);refine(CZ.o w3 NO.o).mono ?_;rintro e w4 ⟨bf,rfl,hf,bU⟩;have zn:=t_ NO bU;have i9:=k_ bU iY;clear bU;cases bf with
 |false=>
  clear hf;go_wp2_with fail;go_ret;exact⟨rfl,zn.o⟩
 |true=>
 have Ov:=H_ (show pI b from Og.o▸hf rfl);have ML:=H_ (j9 Ov.o N2.o);clear hf;go_wp2_with (refine W_ 17 36 3 (w.heap.size) i9.o (by rw[bF];exact congrArg some kY.o.symm) Tryz.underlying36 ?_);refine(zU.o w4 zn.o Ov.o).mono ?_;rintro e w5 ⟨A5,c5,rfl,hl5,cP⟩;have R8:=H_ hl5;have QT:=t_ zn cP;have lW:=k_ cP i9;clear cP;clear hl5;go_wp2_with (refine W_ 24 36 3 (w.heap.size) lW.o (by rw[bF];exact congrArg some kY.o.symm) Tryz.underlying36 ?_);refine(yP.o w5 QT.o Ov.o).mono ?_;rintro e w6 ⟨A6,c6,rfl,hl6,dd⟩;have Mq:=H_ hl6;have acR:=H_ (R8.o.keep dd);have TR:=t_ QT dd;have px:=k_ dd lW;clear dd;have Ra:=H_ (show Calls Tryz.prog 29 #[.slice A5 q c5,.slice A6 q c6] w6 (ap w6 (.bool true)) by
  exact Me I1 A5 A6 q c5 c6 w6 HQ.o acR.o Mq.o)
 clear hl6;go_wp2_with fail;refine Ra.o.mono ?_;rintro e w7 ⟨rfl,fC⟩;have HW7:=t_ TR fC;clear fC;go_wp2_with fail;go_ret;exact⟨rfl,HW7.o⟩
end Go.Proofs.YtibiddakakgakaaGreat
