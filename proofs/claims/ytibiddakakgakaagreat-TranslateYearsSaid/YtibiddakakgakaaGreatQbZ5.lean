/- The law TranslateYears. Written by gen_z5.py. -/
import Derived.Test.YtibiddakakgakaaGreatQbW4
import Derived.Test.YtibiddakakgakaaGreatQbZ2P0
set_option linter.unusedVariables false
set_option linter.unusedSimpArgs false
set_option maxRecDepth 4000
attribute [local go_sem ↓] Go.wp_at_zero Go.wp_at_succ
set_option maxHeartbeats 16000000
namespace Go.Proofs.YtibiddakakgakaaGreat
open Go Go.RowKit
theorem j2 (b:XBk) (bl gl tl:List Value) (Ae Ar:Option Addr) (ce cr:Nat) (ent p:Int) (w:World) (hk:BkC w (·<w.heap.size) bl b gl Ae ce Ar cr tl) (bP:Fb b) (lX:am p):Calls Tryz.prog 10 #[.agg bl.toArray,ent,p] w (ap w (.bool true)):=by
 have CZ:=H_ (λ(w2:World) (hb:Below w.heap.size w w2)=>BQ b bl gl tl Ae Ar ce cr w2 (hk.keep hb) bP.1 bP.2.1);have kY:=H_ (show bl.toArray.size=27 by have:=hk.len;simpa using this);have HK:=H_ hk;have N2:=H_ bP;have zU:=H_ (λ(w2:World) (hb:Below w.heap.size w w2) (hf:pI b)=>Qn b bl gl tl Ae Ar ce cr ent p w2 (hk.keep hb) (j9 hf bP) lX);have py:=H_ (show(pQ b ent p).2≠0->(pQ b ent p).1=[]from mm);have HYE:=H_ (λ(h:(pQ b ent p).2=0) (i:bW) (hi:i∈(pQ b ent p).1)=>xj h hi);obtain⟨I1,I2,hv⟩:∃I1 I2,pQ b ent p=(I1,I2):=⟨_,_,rfl⟩;unfold rX at zU;simp only[hv]at zU py HYE;have xn:=λ(i:Nat) (hi:i<21)=>(show bl.toArray[i]? =gl.toArray[i]? by rw[List.getElem?_toArray,List.getElem?_toArray];exact hk.at_g hi)
 obtain⟨h0,h1,h2,h3,_⟩:=hk.g.cellsA;have jG:=H_ ((xn 1 (by omega)).trans h1);have jv:=H_ ((xn 2 (by omega)).trans h2);have kB:=H_ ((xn 3 (by omega)).trans h3);obtain⟨Ac,cc,Iy,Ds,_,jm,h4,_,_,_,ee,_⟩:=hk.g.view;have zF:=H_ ((xn 4 (by omega)).trans (show gl.toArray[4]? =some (.slice Ac b.g.chart.length cc) by rw[List.getElem?_toArray];exact h4));have ac3:=H_ (λ(w2:World) (hb:Below w.heap.size w w2) (m:Int) (a:ah) (hf:pI b) (h:aK b.g.chart m=some a)=>(show ∀w3,Below w2.heap.size w2 w3->Calls Tryz.prog 34 #[.slice Ac b.g.chart.length cc,m] w3 (ap w3 (.tuple #[.agg #[a.code,a.kind,a.basis,a.parent],true]))from λw3 aZ=>by
  have ni:=ee.accB a (cJ h).1;have hm:a.code=m:=(cJ h).2;have h2:=mU b.g.chart Ac cc m w3 (az ee (hb.trans (aZ.mono hb.size))) (by rw[<-hm];exact ni.1) (j9 hf bP).1.1;unfold cF at h2;rw[h]at h2;exact h2))
 obtain⟨nc,Rc⟩:∃n,b.g.chart.length=n:=⟨_,rfl⟩;rw[Rc]at zF ac3;obtain⟨bg,Va⟩:∃x,tG b.g p=x:=⟨_,rfl⟩;rw[Va]at HYE;have Gf:=H_ (λ(hbo:fH b ent p=0) (w2:World)=>(show Calls Tryz.prog 33 #[.agg #[b.g.calendar.year,b.g.calendar.month,b.g.calendar.periods],p] w2 (λe w'=>∃ce:Int,e=.returned (.tuple #[bg,ce])/\Below w2.heap.size w2 w')from by
  obtain⟨h1,_,h3⟩:=vN hbo;have h:=LU b.g.calendar.year b.g.calendar.month b.g.calendar.periods p w2 lX;rw[I7 h1.1 h3,Va]at h;exact h.mono (λe w' h=>⟨0,h.1,h.2⟩)))
 have HBO:=H_ (show I2=0->fH b ent p=0 from λh=>(j3 (show(pQ b ent p).2=0 by rw[hv];exact h)).1);obtain⟨fw,Od⟩:∃q:Prop,pI b=q:=⟨_,rfl⟩;rw[Od]at CZ;have Og:=H_ Od;clear hk bP Od lX hv xn h0 h1 h2 h3 jm h4 ee Rc Va;go_enter Tryz.func10,Tryz.ntmps10;go_upto_region 1 with fail;obtain⟨W1,cS,H1,bC,dr,ewx⟩:=B_ w (.cells bl.toArray 36);rw[cS];clear ewx;have yN:=H_ (show W1.heap.size=w.heap.size+1 by rw[<-cS];simp);clear cS;have NV:=H_ bC;have vm:=H_ (show W1.heap[w.heap.size]? =some (.cells bl.toArray 36 (0,0))from H1);clear H1 bC dr;go_wp2_with fail;refine(sa W1).mono ?_;rintro e w3 ⟨rfl,aZ⟩;have Dq:=t_ NV aZ;have sL:=k_ aZ vm;clear aZ vm;have NO:=Dq;have iY:=sL;clear Dq sL;go_wp2_with (refine W_ 16 36 3 (w.heap.size) iY.o (by rw[bF];exact congrArg some kY.o.symm) Tryz.underlying36 ?_);refine(CZ.o w3 NO.o).mono ?_;rintro e w4 ⟨bf,rfl,hf,bU⟩;have zn:=t_ NO bU;have i9:=k_ bU iY;clear bU;cases bf with
 |false=>
  clear hf;go_wp2_with fail;go_ret;exact⟨rfl,zn.o⟩
 |true=>
 have Ov:=H_ (show pI b from Og.o▸hf rfl);have ML:=H_ (j9 Ov.o N2.o);clear hf;go_wp2_with (refine W_ 20 36 3 (w.heap.size) i9.o (by rw[bF];exact congrArg some kY.o.symm) Tryz.underlying36 ?_);refine(zU.o w4 zn.o Ov.o).mono ?_;rintro e w5 ⟨A5,c5,rfl,hl5,cP⟩;have R8:=H_ hl5;have QT:=t_ zn cP;have lW:=k_ cP i9;clear cP;clear hl5;by_cases h0:I2=0
 case neg=>
  have hI:=py.o h0;subst hI;have h0b:(I2 !=0)=true:=by simpa using h0
  clear h0;go_wp2_with fail;go_ret;exact⟨rfl,QT.o⟩
 case pos=>
 subst h0;obtain⟨q,hq⟩:=x_ (I1.length);have HQ:=H_ hq;have hqc:=R8.o.cap;rw[hq]at hqc |-;unfold maxLen at hqc;have lT:=H_ (dg lW.o jG.o jv.o kB.o);clear hq;go_wp2_with (refine w_ 34 23 33 w.heap.size (1) _ lT.o bV Tryz.underlying23 ?_);refine(Gf.o (HBO.o (by first|rfl|trivial)) w5).mono ?_;rintro e w6 ⟨cb,rfl,dd⟩;have Mq:=H_ (R8.o.keep dd);have TR:=t_ QT dd;have px:=k_ dd lW;clear dd;go_wp2_with fail
 go_loopw [11] (λi wr=>∃k:Nat,k<=q/\i=.int .i64 (k:Int)/\Below w6.heap.size w6 wr) (λi _=>q- (intOf i).toNat)
 case atStart=>exact⟨0,by omega,rfl,Below.refl _ _⟩
 case round=>
  obtain⟨k,hk,rfl,hb⟩:=hrel;have zI:=H_ hb;have HWR:=t_ TR hb;have agM:=k_ hb px;clear hb;by_cases aU:k<q
  case neg=>
   have bq:¬(k:Int)< (q:Int):=by omega
   go_wp2_with fail;go_ret;exact⟨rfl,HWR.o⟩
  case pos=>
   have bq:(k:Int)< (q:Int):=by omega
   have bI:k<I1.length:=by rw[HQ.o];exact aU
   have hl6:=Mq.o;obtain⟨bi,oi,cs,hA,m4,ft,aS⟩:=aj.get hl6 k bI;rw[GI ft]at aS;obtain⟨a,MQ,JW⟩:=HYE.o (by first|rfl|trivial) _ (List.getElem_mem bI);obtain⟨x,hx⟩:=x_ (I1[k]);rw[hx]at aS MQ JW;obtain⟨⟨i1,i2⟩,i3,i4,i5,i6,i7⟩:=x;simp only at MQ JW;subst hA;have dt:=(aS.fr (Fr.ofBelow zI.o));have KI2:=H_ (show wr.cell? ⟨bi,oi+k*7+3,none⟩=some (.int .i64 i4)from dt.c (j:=3) rfl);have KI4:=H_ (show wr.cell? ⟨bi,oi+k*7+5,none⟩=some (.int .i64 i6)from dt.c (j:=5) rfl);have LTI:=H_ (show bi<wr.heap.size from Nat.lt_of_lt_of_le m4 zI.o.size);have LTB:=H_ (ag agM.o);have KC4:=H_ ((ab agM.o 4).trans zF.o);have tW:=H_ (ac3.o wr HWR.o i4 a Ov.o MQ);obtain⟨p1,p2,p3,p4⟩:=a;simp only at JW;have HYY:=H_ JW;clear hl6 ft aS dt MQ JW hx bI m4;go_upto_region 12 with fail;refine cV 13 (λi=>i==11) (Ks wr [.val (.pointer (some ⟨w.heap.size,0,none⟩)),.val (.pointer (some ⟨w.heap.size,4,none⟩)),.val (.slice Ac nc cc),.val (.slice (some ⟨bi,oi,none⟩) q c5),(k:Int),.val (.pointer (some ⟨bi,oi+k*7,none⟩)),.val (.pointer (some ⟨bi,oi+k*7+3,none⟩)),i4,.val (.tuple #[.agg #[p1,p2,p3,p4],true]),.val (.tuple #[.agg #[p1,p2,p3,p4],true]),.val (.agg #[p1,p2,p3,p4]),true,.own (cM wr #[.int .i64 0,.int .i64 0,.int .i64 0,.int .i64 0] 78) (cM.keep _ _ _)])
    (λw'=>Below wr.heap.size wr w') (Ks wr [.val (.pointer (some ⟨w.heap.size,0,none⟩)),.val (.pointer (some ⟨w.heap.size,4,none⟩)),.val (.slice Ac nc cc),.val (.slice (some ⟨bi,oi,none⟩) q c5),(k:Int),.val (.pointer (some ⟨bi,oi+k*7,none⟩)),.val (.pointer (some ⟨bi,oi+k*7+3,none⟩)),i4,.val (.tuple #[.agg #[p1,p2,p3,p4],true]),.val (.tuple #[.agg #[p1,p2,p3,p4],true]),.val (.agg #[p1,p2,p3,p4]),true,.own (cM wr #[.int .i64 p1,.int .i64 p2,.int .i64 p3,.int .i64 p4] 78) (cM.keep _ _ _)])
    (λw'=>Below wr.heap.size wr w') K_ K_ K_ (by decide) K_ K_ K_ K_ rfl K_ _ rfl rfl (Below.refl _ _).drew ?_ ?_ ?_ ?_
   ·refine⟨b_ (q_ 3),b_ (p_ 0 46),e_ (p_ 1 47) λ_ h=>l_ h LTB.o KC4.o,b_ (q_ 7),b_ (q_ 11),c_ (p_ 3 49) (p_ 4 50),b_ (p_ 5 51),e_ (p_ 6 52) λ_ h=>l_ h LTI.o KI2.o,?_,b_ (p_ 8 54),b_ (p_ 9 45),b_ (p_ 9 45),?_,trivial⟩
    ·refine O2_ (p_ 2 48) (p_ 7 53) λA0 w2 K e0 e1 hS hK=>?_;go_simp
     go_at_call 34
     refine(tW.o _ hS).mono ?_;rintro e w3 ⟨rfl,h3⟩;exact hK.out _ _ (hS.trans (h3.mono hS.size)) (Ks.of rfl rfl) (Ks.keep h3)
    ·refine O0_ λA0 w2 K hS hK=>?_;go_simp;exact hK.out _ _ (hS.alloc hS.size _) (Ks.of rfl (cM.made hS.size _ _)) (Ks.keep (ai w2 _))
   ·intro _ A0 w2 hI hall K hK;obtain⟨xp,gp,hp⟩:=hI.got 12 _ 12 rfl rfl (hall 12 (by decide) rfl);obtain⟨xv,gv,hv⟩:=hI.got 10 _ 55 rfl rfl (hall 10 (by decide) rfl);obtain⟨g,rfl,jy,f8⟩:=hp _ rfl;obtain rfl:xv=.agg #[p1,p2,p3,p4]:=hv _ rfl;have hS:=hI.world;refine aa rfl ?_;refine wp_store_row 78 (.tmp 12) (.tmp 55) rfl g #[p1,p2,p3,p4] (by simp[Act.eval,Array.getD_eq_getD_getElem?,gp]) (by simp[Act.eval,Array.getD_eq_getD_getElem?,gv]) 78 #[(),(),(),()] f8 (bX ⟨p1,p2,p3,p4⟩) rfl (by simp[Value.oneCell']) ?_;refine hK _ (aD hS jy _) ?_;intro i o d u hi ho hd hu hV;refine Ks.store (p:=12) (kn:=_) rfl hV (λDl=>?_);subst Dl;obtain rfl:_=o:=Option.some.inj ho;obtain rfl:_=d:=Option.some.inj hd;obtain rfl:_=u:=Option.some.inj (gp.symm.trans hu);exact⟨g,rfl,jy,aB f8 _⟩
   ·refine⟨o_,o_,o_,o_,o_,o_,o_,o_,o_,o_,o_,?_,o_,o_,trivial⟩
    ·intro _;intro _ A0 w2 hI hd hnd K hK;have e0:=hI.p hd 9 45;exact hI.z hK
   ·intro A0 w2 hI;have hS:=hI.world;have c9:=hI.cg [(0,46),(1,47),(2,48),(3,49),(4,50),(5,51),(6,52),(7,53),(8,54),(9,45),(10,55),(11,56),(12,12)] [13] j_;obtain⟨x0,x1,x2,x3,x4,x5,x6,x7,x8,x9,dN,ef,fh,y13,hA,hV⟩:=c9;obtain rfl:dN=.agg #[p1,p2,p3,p4]:=hV 10 _ _ _ rfl rfl _ rfl;obtain rfl:ef=.bool true:=hV 11 _ _ _ rfl rfl _ rfl;obtain⟨g,rfl,jy,f8⟩:=hV 12 _ _ _ rfl rfl _ rfl;clear hV hI;simp only[ba,List.foldl,List.setIfInBounds_toArray,List.set_cons_zero,List.set_cons_succ]at hA;rw[hA];clear hA;simp only[List.drop_succ_cons,List.drop_zero];have Dg:=H_ f8;have HBN:=t_ zI hS;have c1:=ab f8 1;have f4:=(hS.cell (p:=⟨bi,oi+k*7+5,none⟩) LTI.o).trans KI4.o;clear f8 jy hS;go_upto_region 13 with fail;by_cases q4:p2=4
    case pos=>
     subst q4;have hd6:decide (i6<bg)=false:=decide_eq_false (by have:=HYY.o (.inl rfl);omega);go_wp2_with fail;go_roundw
     case rel=>exact⟨k+1,by omega,by go_num,HBN.o⟩
     case measure=>first|exact aQ aU|(simp only[intOf];omega)
    case neg=>
    have q4b:(p2==4)=false:=by simpa using q4
    by_cases q5:p2=5
    case pos=>
     subst q5;have hd6:decide (i6<bg)=false:=decide_eq_false (by have:=HYY.o (.inr rfl);omega);go_wp2_with fail;go_roundw
     case rel=>exact⟨k+1,by omega,by go_num,HBN.o⟩
     case measure=>first|exact aQ aU|(simp only[intOf];omega)
    case neg=>
    have q5b:(p2==5)=false:=by simpa using q5
    clear q4 q5;go_wp2_with fail;go_roundw
    case rel=>exact⟨k+1,by omega,by go_num,HBN.o⟩
    case measure=>first|exact aQ aU|(simp only[intOf];omega)
end Go.Proofs.YtibiddakakgakaaGreat
