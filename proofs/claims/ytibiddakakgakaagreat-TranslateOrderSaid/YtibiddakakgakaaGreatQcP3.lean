/- The law TranslateOrder. Written by gen_p3.py. -/
import Derived.Test.YtibiddakakgakaaGreatQcW6
import Derived.Test.YtibiddakakgakaaGreatQcZ2P1
set_option linter.unusedVariables false
set_option linter.unusedSimpArgs false
set_option maxRecDepth 4000
attribute [local go_sem ↓] Go.wp_at_zero Go.wp_at_succ
set_option maxHeartbeats 16000000
namespace Go.Proofs.YtibiddakakgakaaGreat
open Go Go.RowKit
def agV (ent t:Int) (p:Nat) (x:ak):Bool:=decide (x.entity=ent/\x.date<=t)&&(decide (x.kind=3)==decide (p=1))
def ag2 (es:List ak) (k:Nat) (ent t:Int) (p i:Nat):List ak:=
 if p=0 then((agU es k).take i).filter (agV ent t 0)
 else if p=1 then(agU es k).filter (agV ent t 0)++((agU es k).take i).filter (agV ent t 1)
 else X5 es k ent t
theorem ahp (es:List ak) (k:Nat):(agU es k).length=es.length:=by unfold agU;rw[List.length_map,List.length_range]
theorem aiB {es:List ak} {k i:Nat} (hi:i<es.length):(agU es k)[i]? =some (es.getD ((i+k) %es.length) {}):=by
 unfold agU;rw[List.getElem?_map,List.getElem?_range hi];rfl
theorem ah2 (es:List ak) (k:Nat) (ent t:Int):ag2 es k ent t 0 0=[]:=by simp[ag2]
theorem ail {es:List ak} {k:Nat} {ent t:Int} {p i:Nat} (hp:p<2) (hi:i<es.length):
 ag2 es k ent t p (i+1)=if agV ent t p (es.getD ((i+k) %es.length) {})=true then ag2 es k ent t p i++[es.getD ((i+k) %es.length) {}]else ag2 es k ent t p i:=by
 have hg:=aiB (es:=es) (k:=k) hi;have ht:(agU es k).take (i+1)=(agU es k).take i++[es.getD ((i+k) %es.length) {}]:=by rw[List.take_add_one,hg];rfl
 rcases(show p=0\/p=1 by omega)with rfl|rfl
 ·show((agU es k).take (i+1)).filter (agV ent t 0)=if _ then((agU es k).take i).filter (agV ent t 0)++_ else((agU es k).take i).filter (agV ent t 0)
  rw[ht,List.filter_append];by_cases h:agV ent t 0 (es.getD ((i+k) %es.length) {})=true
  ·rw[if_pos h,List.filter_cons_of_pos h,List.filter_nil]
  ·rw[if_neg h,List.filter_cons_of_neg h,List.filter_nil,List.append_nil]
 ·show(agU es k).filter (agV ent t 0)++((agU es k).take (i+1)).filter (agV ent t 1)=if _ then(agU es k).filter (agV ent t 0)++((agU es k).take i).filter (agV ent t 1)++_ else(agU es k).filter (agV ent t 0)++((agU es k).take i).filter (agV ent t 1)
  rw[ht,List.filter_append];by_cases h:agV ent t 1 (es.getD ((i+k) %es.length) {})=true
  ·rw[if_pos h,List.filter_cons_of_pos h,List.filter_nil,List.append_assoc]
  ·rw[if_neg h,List.filter_cons_of_neg h,List.filter_nil,List.append_nil]
theorem aim {es:List ak} {k:Nat} {ent t:Int} {p:Nat} (hp:p<2):ag2 es k ent t p es.length=ag2 es k ent t (p+1) 0:=by
 have hl:(agU es k).take es.length=agU es k:=List.take_of_length_le (by rw[ahp];exact Nat.le_refl _);unfold ag2;rcases(show p=0\/p=1 by omega)with rfl|rfl
 ·rw[if_pos rfl,if_neg (by decide),if_pos rfl,hl,List.take_zero,List.filter_nil,List.append_nil]
 ·rw[if_neg (by decide),if_pos rfl,if_neg (by decide),if_neg (by decide),hl];unfold X5
  congr 1
  ·refine List.filter_congr λx _=>?_
   unfold agV;by_cases h:x.kind=3<;>simp[h]
  ·refine List.filter_congr λx _=>?_
   unfold agV;by_cases h:x.kind=3<;>simp[h]
theorem ahR (es:List ak) (k:Nat) (ent t:Int):ag2 es k ent t 2 0=X5 es k ent t:=rfl
theorem ahS {es:List ak} {k:Nat} {ent t:Int} {p i:Nat}:(ag2 es k ent t p i).length<=2*es.length:=by
 have h1:∀f:ak->Bool,((agU es k).filter f).length<=es.length:=λf=>by rw[<-ahp es k];exact List.length_filter_le _ _
 have h2:∀f:ak->Bool,(((agU es k).take i).filter f).length<=es.length:=λf=>by
  refine Nat.le_trans (List.length_filter_le _ _) ?_;rw[List.length_take,ahp];omega
 unfold ag2;split
 ·have:=h2 (agV ent t 0);omega
 ·split
  ·rw[List.length_append];have:=h1 (agV ent t 0);have:=h2 (agV ent t 1);omega
  ·unfold X5;rw[List.length_append];have:=h1 (λx=>decide (x.entity=ent/\x.date<=t)&&!decide (x.kind=3));have:=h1 (λx=>decide (x.entity=ent/\x.date<=t)&&decide (x.kind=3));omega
theorem ahX {es:List ak} {k:Nat} {ent t:Int} {x:ak} (h:x∈X5 es k ent t):x∈es:=(List.mem_filter.1 ((agY es k ent t).mem_iff.1 h)).1
theorem aix {w:World} {Q:Nat->Prop} {base:Nat} {v:Value} {acc xs:List jS} (h:w.ownsRow base 51 7 v acc.length (acc.flatMap bY)) (hm:∀x∈acc,x∈xs) (hE:∀x∈xs,ax w Q (bY x) x.1) (hQ:∀g,v.ownBlock=some g->Q g):aj ax 7 w Q [v] (acc.map (·.1)):=by
 refine kO (css:=acc.map bY) (base:=base) (e:=51) (λcs hc=>by obtain⟨x,_,rfl⟩:=List.mem_map.1 hc;rfl) ?_ (λi x hx=>?_) hQ
 ·rw[List.length_map,<-List.flatMap_def];exact h
 ·rw[List.getElem?_map]at hx;cases hi:acc[i]? with
  |none=>rw[hi]at hx;cases hx
  |some y=>
   rw[hi]at hx;obtain rfl:=Option.some.inj hx;exact⟨bY y,by rw[List.getElem?_map,hi];rfl,hE y (hm y (List.mem_of_getElem? hi))⟩
theorem aiC {i k n:Nat} (hn:0<n):Int.tmod ((i:Int)+(k:Int)) (n:Int)=(((i+k) %n:Nat):Int):=by
 rw[Int.tmod_eq_emod_of_nonneg (by omega)]
 push_cast
 rfl
set_option maxRecDepth 100000 in
theorem ag8 (b:XBk) (bl gl tl:List Value) (Ae Ar:Option Addr) (ce cr:Nat) (pe pa pd pp kk:Int) (w:World) (hk:BkC w (·<w.heap.size) bl b gl Ae ce Ar cr tl) (bP:Fb b) (hpp:am pp) (ajU:0<=kk/\kk<=255):Calls Tryz.prog 8 #[.agg bl.toArray,.agg #[pe,pa,pd,pp],.int .u8 kk] w (ap w (.bool true)):=by
 obtain⟨kn,rfl⟩:∃kn:Nat,kk=(kn:Int):=⟨kk.toNat,by omega⟩;have hkb:kn<=255:=by omega
 clear ajU;have CZ:=H_ (λ(w2:World) (hb:Below w.heap.size w w2)=>BQ b bl gl tl Ae Ar ce cr w2 (hk.keep hb) bP.1 bP.2.1);have kY:=H_ (show bl.toArray.size=27 by have:=hk.len;simpa using this);have HK:=H_ hk;have N2:=H_ bP;have HVA:=H_ (λ(w2:World) (hb:Below w.heap.size w w2) (hf:pI b)=>Mm b bl gl tl Ae Ar ce cr w2 (hk.keep hb) (j9 hf bP));have zU:=H_ (λ(w2:World) (hb:Below w.heap.size w w2) (hf:pI b)=>Qn b bl gl tl Ae Ar ce cr pe pp w2 (hk.keep hb) (j9 hf bP) hpp);obtain⟨I1,I2,ai9⟩:∃I1 I2,pQ b pe pp=(I1,I2):=⟨_,_,rfl⟩;have ajh:=H_ ai9;unfold rX at zU;simp only[ai9]at zU;have HKB:=H_ hkb;have ais:=H_ hpp;have HON:=H_ (show bl.toArray.all (·.oneCell')=true by have:=hk.ones;simpa using this);obtain⟨n,hn⟩:=x_ (b.es.length);have HN:=H_ hn;have ahr:=H_ (show bl.toArray[21]? =some (.slice Ae n ce) by rw[List.getElem?_toArray,<-hn];exact hk.at_e.1);have xn:=λ(i:Nat) (hi:i<21)=>(show bl.toArray[i]? =gl.toArray[i]? by rw[List.getElem?_toArray,List.getElem?_toArray];exact hk.at_g hi)
 obtain⟨h0,h1,h2,h3,_⟩:=hk.g.cellsA;have jG:=H_ ((xn 1 (by omega)).trans h1);have jv:=H_ ((xn 2 (by omega)).trans h2);have kB:=H_ ((xn 3 (by omega)).trans h3);obtain⟨LR,hLR⟩:∃q,bH b.g.calendar.year b.g.calendar.month b.g.calendar.periods pp=q:=⟨_,rfl⟩;have HLR:=H_ hLR;have pb:=H_ (λw2:World=>eS b.g.calendar.year b.g.calendar.month b.g.calendar.periods pp w2);rw[hLR]at pb;obtain⟨ta,te⟩:=LR;have HLD:=H_ (show bA b.g pp=ta by unfold bA;rw[hLR]);have ajr:=H_ (λ(v:Value)=>show(bl.set 21 v).toArray[21]? =some v by rw[List.getElem?_toArray,List.getElem?_set_self (by have:=hk.len;omega)]);obtain⟨ib,hib,X7,Xu,XU⟩:=info_parts ll;obtain⟨fw,Od⟩:∃q:Prop,pI b=q:=⟨_,rfl⟩;rw[Od]at CZ;have Og:=H_ Od;clear hk bP Od hpp hkb hn xn h0 h1 h2 h3 hLR ai9;go_enter Tryz.func8,Tryz.ntmps8;go_upto_region 1 with fail;obtain⟨W1,cS,H1,bC,dr,ewx⟩:=B_ w (.cells bl.toArray 36);rw[cS];clear ewx;have yN:=H_ (show W1.heap.size=w.heap.size+1 by rw[<-cS];simp);clear cS;obtain⟨W2,fR,H2,dz,jK,ewx⟩:=B_ W1 (.cells #[pe,pa,pd,pp] 48);rw[fR];clear ewx;have Xo:=H_ (show W2.heap.size=W1.heap.size+1 by rw[<-fR];simp);clear fR;have NV:=H_ bC;have Vr:=t_ NV dz;have rP:=H_ (show W2.heap[w.heap.size]? =some (.cells bl.toArray 36 (0,0))from((dz.block _ (ag (H1))).trans (H1)));have ahU:=H_ (show W2.heap[w.heap.size+1]? =some (.cells #[pe,pa,pd,pp] 48 (0,0)) by have h:=H2;rw[show W1.heap.size=w.heap.size+1 by rw[yN.o]]at h;exact h);clear H1 bC dr H2 dz jK;go_wp2_with fail;refine(sa W2).mono ?_;rintro e w3 ⟨rfl,aZ⟩;have Dq:=t_ Vr aZ;have sL:=k_ aZ rP;have ahf:=k_ aZ ahU;clear aZ rP ahU;have NO:=Dq;have iY:=sL;have ahh:=ahf;clear Dq sL ahf;go_wp2_with (refine W_ 20 36 3 (w.heap.size) iY.o (by rw[bF];exact congrArg some kY.o.symm) Tryz.underlying36 ?_);refine(CZ.o w3 NO.o).mono ?_;rintro e w4 ⟨bf,rfl,hf,bU⟩;have zn:=t_ NO bU;have i9:=k_ bU iY;have ahF:=k_ bU ahh;clear bU;cases bf with
 |false=>
  clear hf;go_wp2_with fail;go_ret;exact⟨rfl,zn.o⟩
 |true=>
 have Ov:=H_ (show pI b from Og.o▸hf rfl);have ML:=H_ (j9 Ov.o N2.o);clear hf;go_wp2_with (refine W_ 24 36 3 (w.heap.size) i9.o (by rw[bF];exact congrArg some kY.o.symm) Tryz.underlying36 ?_);refine(HVA.o w4 zn.o Ov.o).mono ?_;rintro e w5 ⟨rfl,cP⟩;have QT:=t_ zn cP;have lW:=k_ cP i9;have aha:=k_ cP ahF;clear cP;by_cases hv:cE b
 case neg=>
  have hvd:decide (cE b)=false:=decide_eq_false hv;rw[hvd];clear hv hvd;go_wp2_with fail;go_ret;exact⟨rfl,QT.o⟩
 case pos=>
 have hvd:decide (cE b)=true:=decide_eq_true hv;rw[hvd];have HV:=H_ hv;have qx:=(ab lW.o 21).trans ahr.o;have l21:=ag lW.o;have p3:=ab aha.o 3;clear hv hvd;by_cases VI:n=0
 case pos=>
  have aaX:((n:Int)==0)=true:=by simp[VI]
  clear VI;go_wp2_with fail;go_ret;exact⟨rfl,QT.o⟩
 case neg=>
 have aaX:((n:Int)==0)=false:=by simp[VI]
 have H61:=H_ (show n<=61 by rw[<-HN.o];exact Ov.o.1.2.1);have Yl:=H_ (show 0<n by omega);have ai6:=H_ (show n≠0 by omega);have HWK:=H_ (show IntKind.i64.wrap (kn:Int)=(kn:Int) by rw[IntKind.wrap_i64];have:=HKB.o;omega);have lT:=H_ (dg lW.o jG.o jv.o kB.o);clear VI;go_wp2_with (refine w_ 37 23 36 w.heap.size (1) _ lT.o bV Tryz.underlying23 ?_);clear aaX;refine(pb.o w5).mono ?_;rintro e w6 ⟨rfl,dd⟩;have TR:=t_ QT dd;have px:=k_ dd lW;have ag4:=k_ dd aha;clear dd;clear qx l21 p3;go_upto_region 7 with(first|(refine W_ 43 36 3 (w.heap.size) px.o (by rw[bF];exact congrArg some kY.o.symm) Tryz.underlying36 ?_)|(show wpList _ _ _ (Oper.mk none (Op.store _ (Operand.tmp 9) _) _ _ _ _::_) _ _;go_loud (refine aO rfl 36 (.tmp 9) (.tmp 43) rfl rfl w6 #[.string ⟨#[]⟩,(),(),(),.slice none 0 0,(),(),(),(),(),(),(),(),(),(),(),(),(),(),(),.slice none 0 0,.slice none 0 0,.slice none 0 0,.slice none 0 0,.slice none 0 0,.slice none 0 0,.string ⟨#[]⟩] 36 bl.toArray rfl rfl rfl (by rw[bF];exact congrArg some kY.o.symm) kY.o.symm HON.o ?_);intro w7 H7 em HS7))
 have HD7:=H_ H7;have ajY:=H_ em;have fC:=em;clear H7 em HS7;have HW7:=t_ TR fC;have pB:=k_ fC px;have ajT:=k_ fC ag4;clear fC;have d21:=(ab HD7.o 21).trans ahr.o;have z21:=bB HD7.o 21;go_upto_region 8 with fail;have HD8:=H_ (show(w7.setCell ⟨w6.heap.size,21,none⟩ (.slice none 0 0)).heap[w6.heap.size]? =some (.cells (bl.set 21 (.slice none 0 0)).toArray 36 (0,0)) by
  have h:=aG HD7.o 21 (.slice none 0 0)
  rwa[List.setIfInBounds_toArray]at h)
 have aiN:=H_ (show Below w6.heap.size w6 (w7.setCell ⟨w6.heap.size,21,none⟩ (.slice none 0 0))from((Fr.ofBelow ajY.o).setCell (p:=⟨w6.heap.size,21,none⟩) (λh=>Nat.lt_irrefl _ h) _).below);have XW:=H_ (show w7.heap.size<=(w7.setCell ⟨w6.heap.size,21,none⟩ (.slice none 0 0)).heap.size by simp);have LD7:=H_ (ag HD7.o);generalize w7.setCell ⟨w6.heap.size,21,none⟩ (.slice none 0 0)=w8 at*;have jX:=aiN.o;clear d21 z21;have HW8:=t_ TR jX;have NJ:=k_ jX px;have ai1:=k_ jX ag4;clear jX;obtain⟨xs,YJ,rQ⟩:=pX (HK.o.keep TR.o).es;have HXS:=H_ YJ;have HXE:=H_ rQ;have HXW:=H_ (show ∀x∈xs,ax w6 (·<w6.heap.size) (bY x) x.1 from λx hx=>by
  obtain⟨i,hi,rfl⟩:=List.getElem_of_mem hx;exact(rQ i _ (List.getElem?_eq_getElem hi)).1)
 have qx:=(ab NJ.o 21).trans ahr.o;clear YJ rQ;go_wp2_with fail;clear qx
 go_loopw [11] (λu wr=>∃(p:Nat) (acc:List jS) (A:Option Addr) (c:Nat),p<=2/\u=.int .i64 (p:Int)/\acc.map (·.1)=ag2 b.es kn pe ta p 0/\(∀x∈acc,x∈xs)/\wr.heap[w6.heap.size]? =some (.cells (bl.set 21 (.slice A acc.length c)).toArray 36 (0,0))/\wr.ownsRow w7.heap.size 51 7 (.slice A acc.length c) acc.length (acc.flatMap bY)/\Below w6.heap.size w6 wr/\w7.heap.size<=wr.heap.size) (λu _=>2- (intOf u).toNat)
 case atStart=>exact⟨0,[],none,0,by omega,rfl,by rw[ah2];rfl,(λx hx=>by cases hx),HD8.o,World.ownsRow_nil _ _ _ _,aiN.o,XW.o⟩
 case round=>
  obtain⟨p,ajC,A0,c0,hp,rfl,ah7,aiL,C2,ho0,el,CO⟩:=hrel;generalize wr=wo at*;have HWO:=t_ TR el;by_cases aU:p<2
  case neg=>
   have bq:¬(p:Int)<2:=by omega
   obtain rfl:p=2:=by omega
   rw[ahR]at ah7;obtain⟨ln,hln⟩:∃z,ajC.length=z:=⟨_,rfl⟩;have hlo:(X5 b.es kn pe ta).length=ln:=by rw[<-ah7,List.length_map,hln]
   have ajW:=k_ el px;have aiF:=k_ el ag4;have HLO:=H_ hlo;have rJ:=aix (Q:=(·<wo.heap.size)) ho0 aiL (λx hx=>(HXW.o x hx).keep el) (λg hg=>(ho0.lt g hg).2);rw[ah7,hln]at rJ;have HL:=H_ rJ;rw[hln]at C2;have HDo:=H_ C2;have HM:=H_ (show BkC wo (·<wo.heap.size) (bl.set 21 (.slice A0 ln c0)) ⟨b.g,X5 b.es kn pe ta,b.rs⟩ gl A0 c0 Ar cr tl from by
    have h:=ahJ (HK.o.keep HWO.o) (es:=X5 b.es kn pe ta) (A2:=A0) (c2:=c0) (by rw[HLO.o];exact HL.o)
    rwa[HLO.o]at h)
   have HSN:=H_ (show okB ⟨b.g,X5 b.es kn pe ta,b.rs⟩from⟨ML.o.1,⟨λx hx=>ML.o.2.1.1 x (ahX hx),by
    have h:=ahS (es:=b.es) (k:=kn) (ent:=pe) (t:=ta) (p:=2) (i:=0);rw[ahR,HN.o]at h;have:=H61.o;show(X5 b.es kn pe ta).length<=_;omega⟩,ML.o.2.2⟩)
   have aip:=H_ (show pQ ⟨b.g,X5 b.es kn pe ta,b.rs⟩ pe pp=(I1,I2)from by
    have h:=(ahC HV.o kn pe pp).2;rw[HLD.o]at h;rw[h];exact ajh.o)
   have HMO:=H_ (λ(w2:World) (hb:Below wo.heap.size wo w2)=>Qn ⟨b.g,X5 b.es kn pe ta,b.rs⟩ (bl.set 21 (.slice A0 ln c0)) gl tl A0 Ar c0 cr pe pp w2 (HM.o.keep hb) HSN.o ais.o);unfold rX at HMO;simp only[aip.o]at HMO;obtain⟨q,hq⟩:=x_ (I1.length);rw[hq]at HMO zU;have HQ:=H_ hq;have HDS:=H_ (show(bl.set 21 (.slice A0 ln c0)).toArray.size=27 by simpa using kY.o);have p0:=ab aiF.o 0;have p3:=ab aiF.o 3;clear hln hlo ah7 aiL C2 ho0 el CO rJ hq;go_wp2_with (refine W_ 93 36 3 (w.heap.size) ajW.o (by rw[bF];exact congrArg some kY.o.symm) Tryz.underlying36 ?_);refine(zU.o wo HWO.o Ov.o).mono ?_;rintro e w11 ⟨A11,Nt,rfl,aiq,Np⟩;have aji:=H_ aiq;have abE:=H_ Np;have ahi:=t_ HWO Np;have ag6:=k_ Np aiF;have aay:=k_ Np HDo;clear aiq Np p0 p3 bq;have p0:=ab ag6.o 0;have p3:=ab ag6.o 3;go_wp2_with (refine W_ 102 36 9 (w6.heap.size) aay.o (by rw[bF];exact congrArg some HDS.o.symm) Tryz.underlying36 ?_);refine(HMO.o w11 abE.o).mono ?_;rintro e w12 ⟨A12,RX,rfl,ait,adC⟩;have ai8:=H_ ait;have air:=H_ (aji.o.keep adC);have ah8:=t_ ahi adC;clear ait adC p0 p3;go_wp2_with fail;refine(Me I1 A11 A12 q Nt RX w12 HQ.o air.o ai8.o).mono ?_;rintro e w13 ⟨rfl,ahx⟩;have aiG:=t_ ah8 ahx;clear ahx;go_wp2_with fail;go_ret;exact⟨rfl,aiG.o⟩
  case pos=>
   have bq:(p:Int)<2:=by omega
   have Bp:=H_ aU;go_wp2_with fail
   go_loopw [12] (λu wr=>∃(i:Nat) (acc:List jS) (A:Option Addr) (c:Nat),i<=n/\u=.int .i64 (i:Int)/\acc.map (·.1)=ag2 b.es kn pe ta p i/\(∀x∈acc,x∈xs)/\wr.heap[w6.heap.size]? =some (.cells (bl.set 21 (.slice A acc.length c)).toArray 36 (0,0))/\wr.ownsRow w7.heap.size 51 7 (.slice A acc.length c) acc.length (acc.flatMap bY)/\Below w6.heap.size w6 wr/\w7.heap.size<=wr.heap.size) (λu _=>n- (intOf u).toNat)
   case atStart=>exact⟨0,ajC,A0,c0,by omega,rfl,ah7,aiL,C2,ho0,el,CO⟩
   case round=>
    clear ah7 aiL C2 ho0 el CO bq;obtain⟨i,acc,A,c,hi,rfl,ni,hax,hd,ho,hb,hs⟩:=hrel;by_cases lN:i<n
    case neg=>
     have ajH:¬(i:Int)< (n:Int):=by omega
     obtain rfl:i=n:=by omega
     go_wp2_with fail;go_roundw
     case rel=>exact⟨p+1,acc,A,c,by omega,by go_num,by rw[ni,<-aim aU,HN.o],hax,hd,ho,hb,hs⟩
     case measure=>first|exact aQ aU|(simp only[intOf];omega)
    case pos=>
     have ajH:(i:Int)< (n:Int):=by omega
     have lL:=H_ lN;have nH:=H_ ni;have HAX:=H_ hax;have HDR:=H_ hd;have HOR:=H_ ho;have zI:=H_ hb;have HSR:=H_ hs;have ajN:=k_ hb px;have ajy:=k_ hb ag4;obtain⟨m,hm⟩:=x_ ((i+kn) %n);have HMI:=H_ (show Int.tmod ((i:Int)+(kn:Int)) (n:Int)=(m:Int) by rw[<-hm];exact aiC Yl.o);have HMN:=H_ (show(m:Int)< (n:Int) by have:=Nat.mod_lt (i+kn) Yl.o;omega);have HWI:=H_ (show IntKind.i64.wrap ((i:Int)+(kn:Int))=(i:Int)+(kn:Int) by rw[IntKind.wrap_i64];have:=HKB.o;have:=H61.o;omega);have QF:m<xs.length:=by have h:=congrArg List.length HXS.o;rw[List.length_map,HN.o]at h;have:=HMN.o;omega
     obtain⟨Be,eb,eo,dj,TW⟩:=HXE.o m _ (List.getElem?_eq_getElem QF);subst dj;have HXM:=H_ (List.getElem_mem QF);have HXD:=H_ (show b.es.getD ((i+kn) %b.es.length) {}=xs[m].1 by
      rw[HN.o,hm,List.getD_eq_getElem?_getD,<-HXS.o,List.getElem?_map,List.getElem?_eq_getElem QF];rfl)
     obtain⟨x,hx⟩:=x_ (xs[m]);rw[hx]at TW HXM HXD;obtain⟨⟨xi,xe,xd,xk,xo,xt,ls⟩,Al,cl⟩:=x;obtain⟨nl,bj⟩:∃n,ls.length=n:=⟨_,rfl⟩;have jz:=H_ bj;have hrw:bY ((⟨xi,xe,xd,xk,xo,xt,ls⟩:ak),Al,cl)=[.int .i64 xi,.int .i64 xe,.int .i64 xd,.int .i64 xk,.int .i64 xo,.string xt,.slice Al nl cl]:=by rw[<-bj];rfl
     rw[hrw]at TW;have R5:=H_ hrw;have rM:=H_ (show At wr (·<wr.heap.size) ⟨eb,eo+m*7,none⟩ [.int .i64 xi,.int .i64 xe,.int .i64 xd,.int .i64 xk,.int .i64 xo,.string xt,.slice Al nl cl]from⟨Nat.lt_of_lt_of_le (TW.fr (Fr.ofBelow zI.o)).1 (Nat.le_trans (Nat.le_of_lt LD7.o) (Nat.le_trans (Nat.le_refl _) HSR.o)),(TW.fr (Fr.ofBelow zI.o)).2⟩);have KE:=H_ ((ab ajN.o 21).trans ahr.o);have LTB:=H_ (ag ajN.o);clear ni hax hd ho hb hs hm QF Be TW hx bj hrw;go_upto_region 15 with fail;clear ajH;refine dC 11 (Ks wr [.val (.pointer (some ⟨w.heap.size,21,none⟩)),.val (.slice (some ⟨eb,eo,none⟩) n ce),(i:Int),.val (.int .u8 (kn:Int)),(kn:Int),.val (.int .i64 ((i:Int)+(kn:Int))),(n:Int),(m:Int),.val (.pointer (some ⟨eb,eo+m*7,none⟩)),.val (.agg #[xi,xe,xd,xk,xo,xt,.slice Al nl cl]),.own (cM wr #[.int .i64 0,.int .i64 0,.int .i64 0,.int .i64 0,.int .i64 0,.string ⟨#[]⟩,.slice none 0 0] 51) (cM.keep _ _ _)])
      (λw'=>Below wr.heap.size wr w') K_ K_ K_ (by decide) K_ K_ K_ (Below.refl _ _).drew ?_ ?_
     ·refine⟨b_ (q_ 3),e_ (p_ 0 57) λ_ h=>l_ h LTB.o KE.o,b_ (q_ 12),b_ (q_ 2),?_,?_,b_ (q_ 10),?_,?_,?_,?_,trivial⟩
      ·intro _ A0 w2 hI hd hnd K hK;have e0:=hI.p hd 3 60;have hS:=hI.world;have hwk:=HWK.o;exact hI.z hK
      ·intro _ A0 w2 hI hd hnd K hK;have e0:=hI.p hd 2 59;have e1:=hI.p hd 4 61;have hS:=hI.world;have hwi:=HWI.o;exact hI.z hK
      ·intro _ A0 w2 hI hd hnd K hK;have e0:=hI.p hd 5 62;have e1:=hI.p hd 6 63;have hS:=hI.world;have hmI:=HMI.o;have bT:=ai6.o;exact hI.z hK
      ·intro _ A0 w2 hI hd hnd K hK;have nz:=HMN.o;have e0:=hI.p hd 1 58;have e1:=hI.p hd 7 64;exact hI.z hK
      ·refine O1_ (p_ 8 65) λA0 w2 K e0 hS hK=>?_;have aJ:w2.rangeAt eb (eo+m*7) [xi,xe,xd,xk,xo,xt,.slice Al nl cl]:=(rM.o.fr (Fr.ofBelow hS)).range;have aI:=aY;refine wp_load_mid 51 (.tmp 65) rfl _ _ (v_ e0) _ _ aJ Tryz.underlying51 rfl aI ?_;exact kq hK hS rfl
      ·refine O0_ λA0 w2 K hS hK=>?_;go_simp;exact hK.out _ _ (hS.alloc hS.size _) (Ks.of rfl (cM.made hS.size _ _)) (Ks.keep (ai w2 _))
     ·intro A0 w2 hI;have hS:=hI.world;have c9:=hI.cg [(0,57),(1,58),(2,59),(3,60),(4,61),(5,62),(6,63),(7,64),(8,65),(9,66),(10,13)] [] j_;obtain⟨x0,x1,x2,x3,x4,x5,x6,x7,x8,x9,dN,hA,hV⟩:=c9;obtain rfl:x9=.agg #[xi,xe,xd,xk,xo,xt,.slice Al nl cl]:=hV 9 _ _ _ rfl rfl _ rfl;have k10:(cM wr #[(),(),(),(),(),.string ⟨#[]⟩,.slice none 0 0] 51) dN w2:=hV 10 _ _ _ rfl rfl _ rfl;clear hV hI;simp only[ba,List.foldl,List.setIfInBounds_toArray,List.set_cons_zero,List.set_cons_succ]at hA;rw[hA];clear hA;simp only[List.drop_succ_cons,List.drop_zero];obtain⟨g,rfl,jy,hg2⟩:=k10;refine wpList_store_row rfl 51 (.tmp 13) (.tmp 66) rfl g #[xi,xe,xd,xk,xo,xt,.slice Al nl cl] rfl rfl 51 #[(),(),(),(),(),.string ⟨#[]⟩,.slice none 0 0] hg2 aY rfl (by simp[Value.oneCell']) ?_;have h6x:=aB hg2 #[xi,xe,xd,xk,xo,xt,.slice Al nl cl];have h6b:=aD hS jy #[xi,xe,xd,xk,xo,xt,.slice Al nl cl];generalize w2.setRow g #[xi,xe,xd,xk,xo,xt,.slice Al nl cl]=w9 at*;have HX9:=H_ h6x;have CG:=H_ h6b;have HBw:=H_ (zI.o.trans (h6b.mono (by have:=HSR.o;have:=LD7.o;omega)));have aiO:=k_ h6b ajy;have HD9:=k_ h6b HDR;have HO9:=H_ (bb HOR.o h6b);clear jy hg2 hS h6x h6b;have hnx:ag2 b.es kn pe ta p (i+1)=if agV pe ta p ⟨xi,xe,xd,xk,xo,xt,ls⟩=true then acc.map (·.1)++[⟨xi,xe,xd,xk,xo,xt,ls⟩]else acc.map (·.1):=by
       rw[ail Bp.o (by rw[HN.o];exact lL.o),HXD.o,nH.o]
      have HNX:=H_ hnx;have x1:=ab HX9.o 1;have x2:=ab HX9.o 2;have x3:=ab HX9.o 3;have p0:=ab aiO.o 0;clear hnx;have h61:=H61.o;by_cases q1:xe=pe
      case neg=>
       have mF:(xe==pe)=false:=by simpa using q1
       have ahH:=H_ (show agV pe ta p ⟨xi,xe,xd,xk,xo,xt,ls⟩=false by unfold agV;simp[q1]);clear q1;have HSP:=H_ (show ag2 b.es kn pe ta p (i+1)=acc.map (·.1) by rw[HNX.o,if_neg (by rw[ahH.o];decide)]);go_wp2_with fail;go_roundw
       case rel=>exact⟨i+1,acc,A,c,by omega,by go_num,HSP.o.symm,HAX.o,HD9.o,HO9.o,HBw.o,Nat.le_trans HSR.o CG.o.size⟩
       case measure=>first|exact aQ lL.o|(simp only[intOf];omega)
      case pos=>
      have mF:(xe==pe)=true:=by simpa using q1
      by_cases q2:xd<=ta
      case neg=>
       have lc:decide (xd<=ta)=false:=decide_eq_false q2;have ahH:=H_ (show agV pe ta p ⟨xi,xe,xd,xk,xo,xt,ls⟩=false by unfold agV;simp[q2]);clear q1 q2;have HSP:=H_ (show ag2 b.es kn pe ta p (i+1)=acc.map (·.1) by rw[HNX.o,if_neg (by rw[ahH.o];decide)]);go_wp2_with fail;go_roundw
       case rel=>exact⟨i+1,acc,A,c,by omega,by go_num,HSP.o.symm,HAX.o,HD9.o,HO9.o,HBw.o,Nat.le_trans HSR.o CG.o.size⟩
       case measure=>first|exact aQ lL.o|(simp only[intOf];omega)
      case pos=>
      have lc:decide (xd<=ta)=true:=decide_eq_true q2;obtain⟨k3,lO⟩:∃z:Bool,(xk==3)=z:=⟨_,rfl⟩;obtain⟨p1,QQ⟩:∃z:Bool,((p:Int)==1)=z:=⟨_,rfl⟩;have ahH:=H_ (show agV pe ta p ⟨xi,xe,xd,xk,xo,xt,ls⟩=(k3==p1) by
       unfold agV;rw[<-lO,<-QQ,decide_eq_true (show xe=pe/\xd<=ta from⟨q1,q2⟩),Bool.true_and];have e1:(xk==3)=decide (xk=3):=by by_cases h:xk=3<;>simp[h]
       have e2:((p:Int)==1)=decide (p=1):=by
        by_cases h:p=1
        ·subst h;rfl
        ·have h3:¬(p:Int)=1:=by omega
         simp[h,h3]
       rw[e1,e2])
      clear q1 q2;cases hkp:(k3==p1)with
      |false=>
       rw[hkp]at ahH;have HSP:=H_ (show ag2 b.es kn pe ta p (i+1)=acc.map (·.1) by rw[HNX.o,if_neg (by rw[ahH.o];decide)]);go_wp2_with fail;go_roundw
       case rel=>exact⟨i+1,acc,A,c,by omega,by go_num,HSP.o.symm,HAX.o,HD9.o,HO9.o,HBw.o,Nat.le_trans HSR.o CG.o.size⟩
       case measure=>first|exact aQ lL.o|(simp only[intOf];omega)
      |true=>
       rw[hkp]at ahH;have HSP:=H_ (show ag2 b.es kn pe ta p (i+1)=acc.map (·.1)++[⟨xi,xe,xd,xk,xo,xt,ls⟩] by rw[HNX.o,if_pos ahH.o]);obtain⟨ln,hln⟩:∃z,acc.length=z:=⟨_,rfl⟩;have HLN:=H_ hln;rw[hln]at HD9 HO9;have IP:=H_ (show ln<=122 by
        have h:=ahS (es:=b.es) (k:=kn) (ent:=pe) (t:=ta) (p:=p) (i:=i);rw[<-nH.o,List.length_map,HLN.o,HN.o]at h;have:=H61.o;omega)
       have d21:=(ab HD9.o 21).trans (ajr.o _);have z21:=bB HD9.o 21;have H79:=H_ (Nat.le_trans HSR.o CG.o.size);clear hln;go_upto_region 14 with(first|(refine W_ 88 51 13 (g) HX9.o aY Tryz.underlying51 ?_)|(show wpList _ _ _ (Oper.mk (some 90) _ _ _ _ _::_) _ _;go_loud (refine cq _ rfl (.tmp 87) (.tmp 89) 30 rfl w7.heap.size 51 ib _ 7 80 jp hib X7 Xu XU rfl (by decide) (.slice A ln c) ln (acc.flatMap bY) rfl (bb HO9.o (ai w9 _)) (λ_=>True) (some ⟨w9.heap.size,0,none⟩) 1 1 [xi,xe,xd,xk,xo,xt,.slice Al nl cl] rfl (ahD (K:=7) rfl (heap_alloc_new _ _) trivial) (by simp[Value.oneCell']) (by simp only[maxLen];have:=IP.o;omega) (by have:=IP.o;omega) (by have:=CG.o.size;have:=HSR.o;simp;omega) ?_);intro v9 wa cj gk _;obtain⟨A2,n2,c2,rfl⟩:=bS cj;obtain rfl:=fV cj;have HBa:=H_ (bK ((ai w9 (.cells #[xi,xe,xd,xk,xo,xt,.slice Al nl cl] 51)).mono H79.o) gk (λq hq=>((bb HO9.o (ai w9 (.cells #[xi,xe,xd,xk,xo,xt,.slice Al nl cl] 51))).lt q hq).1) H79.o);have HOa:=H_ cj;have HDa:=H_ ((HBa.o.block _ LD7.o).trans HD9.o);have d21:=(ab HDa.o 21).trans (ajr.o _);have z21:=bB HDa.o 21;clear cj gk))
       have HDs:=H_ (show(wa.setCell ⟨w6.heap.size,21,none⟩ (.slice A2 (ln+1) c2)).heap[w6.heap.size]? =some (.cells (bl.set 21 (.slice A2 (ln+1) c2)).toArray 36 (0,0)) by
        have h:=aG HDa.o 21 (.slice A2 (ln+1) c2)
        rwa[List.setIfInBounds_toArray,List.set_set]at h)
       have HOs:=H_ (show(wa.setCell ⟨w6.heap.size,21,none⟩ (.slice A2 (ln+1) c2)).ownsRow w7.heap.size 51 7 (.slice A2 (ln+1) c2) (ln+1) (acc.flatMap bY++[.int .i64 xi,.int .i64 xe,.int .i64 xd,.int .i64 xk,.int .i64 xo,.string xt,.slice Al nl cl])from cU HOa.o (λg hg=>Below.heap_setCell wa ⟨w6.heap.size,21,none⟩ _ g (by show g≠w6.heap.size;have:=(HOa.o.lt _ hg).1;have:=LD7.o;omega)));have HBs:=H_ (show Below w6.heap.size w6 (wa.setCell ⟨w6.heap.size,21,none⟩ (.slice A2 (ln+1) c2))from((Fr.ofBelow (HBw.o.trans (HBa.o.mono (Nat.le_of_lt LD7.o)))).setCell (p:=⟨w6.heap.size,21,none⟩) (λh=>Nat.lt_irrefl _ h) _).below);have HSs:=H_ (show w7.heap.size<=(wa.setCell ⟨w6.heap.size,21,none⟩ (.slice A2 (ln+1) c2)).heap.size by have h1:=HBa.o.size;have h2:=H79.o;have h3:(wa.setCell ⟨w6.heap.size,21,none⟩ (.slice A2 (ln+1) c2)).heap.size=wa.heap.size:=(by simp);omega);generalize wa.setCell ⟨w6.heap.size,21,none⟩ (.slice A2 (ln+1) c2)=w10 at*;have rJ:(acc++[((⟨xi,xe,xd,xk,xo,xt,ls⟩:ak),Al,cl)]).length=ln+1:=by rw[List.length_append,HLN.o];rfl
       have ID:(acc++[((⟨xi,xe,xd,xk,xo,xt,ls⟩:ak),Al,cl)]).flatMap bY=acc.flatMap bY++[.int .i64 xi,.int .i64 xe,.int .i64 xd,.int .i64 xk,.int .i64 xo,.string xt,.slice Al nl cl]:=by rw[List.flatMap_append,List.flatMap_cons,List.flatMap_nil,List.append_nil,R5.o]
       have RU:=H_ rJ;have HFL:=H_ ID;clear rJ ID d21 z21;go_wp2_with fail;go_roundw
       case rel=>exact⟨i+1,acc++[((⟨xi,xe,xd,xk,xo,xt,ls⟩:ak),Al,cl)],A2,c2,by omega,by go_num,by rw[HSP.o,List.map_append];rfl,λx hx=>by
        rcases List.mem_append.1 hx with hx|hx
        ·exact HAX.o x hx
        ·rw[List.mem_singleton]at hx;rw[hx];exact HXM.o,by rw[RU.o];exact HDs.o,by rw[RU.o,HFL.o];exact HOs.o,HBs.o,HSs.o⟩
       case measure=>first|exact aQ lL.o|(simp only[intOf];omega)
end Go.Proofs.YtibiddakakgakaaGreat
