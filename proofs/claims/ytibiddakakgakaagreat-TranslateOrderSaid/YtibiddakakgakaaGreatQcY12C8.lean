/- The entry of a number. Written by gen_y12.py. -/
import Derived.Test.YtibiddakakgakaaGreatQcY3P9
set_option linter.unusedVariables false
set_option linter.unusedSimpArgs false
set_option maxRecDepth 4000
attribute [local go_sem ↓] Go.wp_at_zero Go.wp_at_succ
set_option maxHeartbeats 16000000
namespace Go.Proofs.YtibiddakakgakaaGreat
section
open Go Go.RowKit
theorem SW (p1 p2 p3 p4 p5:Int) (p6:ByteArray) (Al:Option Addr) (n7 Kb:Nat) (g:Nat) (code:Int) (w:World) (hc:w.cell? ⟨g,0,none⟩=some (.int .i64 code)) (hg:g<w.heap.size):Calls Tryz.prog 45 #[.agg #[p1,p2,p3,p4,p5,p6,.slice Al n7 Kb],.pointer (some ⟨g,0,none⟩)] w (ap w (.bool (p1==code))):=by
 obtain⟨q,hq⟩:=x_ ((p1==code));rw[hq];have HC:=H_ hc;have HG:=H_ hg;clear hc hg;go_enter Tryz.func45,Tryz.ntmps45;go_upto_region 1 with fail;obtain⟨W1,cS,H1,bC,dr,ewx⟩:=B_ w (.cells #[p1,p2,p3,p4,p5,p6,.slice Al n7 Kb] 51);rw[cS];clear ewx;clear cS;have c0:=ab H1 0;have cI:=(bC.cell (p:=⟨g,0,none⟩) HG.o).trans HC.o;clear H1;go_wp2_with fail;go_ret;exact⟨rfl,bC⟩
theorem SV (l:List ak) (A:Option Addr) (c g:Nat) (code:Int) (w:World) (hl:aj ax 7 w (·<w.heap.size) [.slice A l.length c] l) (hgc:w.cell? ⟨g,0,none⟩=some (.int .i64 code)) (hg:g<w.heap.size):Calls Tryz.prog 44 #[.slice A l.length c,.func (.func 45) #[] #[.pointer (some ⟨g,0,none⟩)]] w (ap w (.int .i64 (iB (λa=>a.id==code) l))):=by
 obtain⟨r,hr⟩:=x_ (iB (λa=>a.id==code) l);rw[hr];have HR:=H_ hr;have gr:=hl.cap;unfold maxLen at gr;obtain⟨n,bj⟩:=x_ (l.length);have HL:=H_ hl;have HN:=H_ bj;have FP:=H_ hgc;have HG:=H_ hg;rw[bj]at gr |-;clear hl bj hr hgc hg;go_enter Tryz.func44,Tryz.ntmps44;go_wp2_with fail
 go_loopw [8] (λi wr=>∃k:Nat,k<=n/\i=.int .i64 (k:Int)/\Below w.heap.size w wr/\∀j (hj:j<l.length),j<k->(l[j].id==code)=false) (λi _=>n- (intOf i).toNat)
 case atStart=>exact⟨0,by omega,rfl,Below.refl _ _,λj hj h=>by omega⟩
 case round=>
  obtain⟨k,hk,rfl,hb,hall⟩:=hrel;have HA:=H_ hall;clear hall;have bP:=hb.size;by_cases aU:k<n
  case pos=>
   have bq:(k:Int)< (n:Int):=by omega
   have gW:0<n:=by omega
   have bI:k<l.length:=by rw[HN.o];exact aU
   obtain⟨b,o,es,dj,ed,bL,aS⟩:=aj.get HL.o k bI;subst dj;obtain⟨Al,Kb,bE,_⟩:=ax.lit bL;rw[bE]at aS;clear bE;obtain⟨q,hq⟩:=x_ ((l[k].id==code));have HQ:=H_ hq;obtain⟨x,hx⟩:=x_ (l[k]);rw[hx]at aS hq;obtain⟨p1,p2,p3,p4,p5,p6,p7⟩:=x;obtain⟨n7,hn7⟩:∃n,p7.length=n:=⟨_,rfl⟩;simp only[hn7]at aS;clear hn7;have eZ:=H_ (show wr.rangeAt b (o+k*7) [p1,p2,p3,p4,p5,p6,.slice Al n7 Kb]from(aS.fr (Fr.ofBelow hb)).range);have cI:=(SW p1 p2 p3 p4 p5 p6 Al n7 Kb g code wr ((hb.cell (p:=⟨g,0,none⟩) HG.o).trans FP.o) (Nat.lt_of_lt_of_le HG.o hb.size));simp only at hq;rw[hq]at cI;have FK:=H_ cI;clear bL aS hx ed hq cI;go_wp2_with (refine w_ 15 51 14 b (o+k*7) [p1,p2,p3,p4,p5,p6,.slice Al n7 Kb] eZ.o aY Tryz.underlying51 ?_);refine FK.o.mono ?_;rintro e w2 ⟨rfl,aH⟩;have dA:=hb.trans (aH.mono hb.size);cases q with
   |true=>
    have hf:=H_ (show r=(k:Int) by rw[<-HR.o];exact nW bI HQ.o HA.o);go_wp2_with fail;go_ret;exact⟨hf.o.symm▸rfl,dA⟩
   |false=>
    go_wp2_with fail;go_roundw
    case rel=>exact⟨k+1,by omega,by go_num,dA,λj hj m7=>by
     rcases Nat.lt_or_ge j k with h|h
     ·exact HA.o j hj h
     ·obtain rfl:j=k:=by omega
      exact HQ.o⟩
    case measure=>first|exact aQ aU|(simp only[intOf];omega)
  case neg=>
   have bq:¬(k:Int)< (n:Int):=by omega
   have hf:=H_ (show r= -1 by rw[<-HR.o];exact mf (λj hj=>HA.o j hj (by have:=HN.o;omega)));go_wp2_with fail;go_ret;exact⟨hf.o.symm▸rfl,hb⟩
theorem Zx (l:List ak) (code:Int):(iB (λa=>a.id==code) l= -1/\eH l code=none)\/∃k,∃hk:k<l.length,iB (λa=>a.id==code) l=(k:Int)/\eH l code=some k:=by
 unfold iB eH;cases h:l.findIdx? (λa=>a.id==code)with
 |none=>exact .inl ⟨rfl,rfl⟩
 |some k=>
  rw[List.findIdx?_eq_some_iff_getElem]at h;exact .inr ⟨k,h.1,rfl,rfl⟩
end
section
open Go Go.RowKit Go.ChangeShapes Go.WideShapes Go.Deep
structure BF where
 entity:Int:=0
 account:Int:=0
 date:Int:=0
 p:Int:=0
def tX (w:World) (Q:Nat->Prop) (cs:List Value) (x:BF):Prop:=∃c0 c1 c2 c3:List Value,cs=c0++c1++c2++c3/\av c0 x.entity/\av c1 x.account/\av c2 x.date/\av c3 x.p
theorem tX.lit {w:World} {Q:Nat->Prop} {cs:List Value} {x:BF} (h:tX w Q cs x):cs=[.int .i64 x.entity,.int .i64 x.account,.int .i64 x.date,.int .i64 x.p]/\am x.entity/\am x.account/\am x.date/\am x.p:=by
 obtain⟨c0,c1,c2,c3,rfl,⟨rfl,h0⟩,⟨rfl,h1⟩,⟨rfl,h2⟩,⟨rfl,h3⟩⟩:=h;exact⟨rfl,h0,h1,h2,h3⟩
section
variable {H:Type} {enc:TypeId × Value->H} {W:World}
def Io (x:aC):Prop:=x.currency.size<=140737488355327
theorem ZJ:fx enc W 70 (bN W (·<W.heap.size)) Io:=λbZ cs x h dS hz=>by
 obtain⟨xs,n,_,rfl,mH,eV,hf⟩:=DataW.trod_struct Tryz.underlying70 h;have vi:cs.length=4:=mH.trans K_;have hw:∀(j:Nat) (t:TypeId) (y:DataW H × List MemPlace),([9,3,3,3]:List TypeId)[j]? =some t->xs[j]? =some y->∀n∈y.1.weights Tryz.prog t,n<=reachBytes:=λj t y ht hy n hn=>hz n (by
  simp only[DataW.weights,Tryz.underlying70];exact DataW.weights_mem_each (j:=j) (t:=t) (d:=y.1) ht (by rw[List.getElem?_map,hy];rfl) n hn)
 have h0:=hf 0 _ rfl;obtain⟨y0,kz⟩:∃y,xs[0]? =some y:=⟨_,List.getElem?_eq_getElem (by rw[eV];decide)⟩;obtain⟨a0,q0,z0⟩:=AD _ _ _ (h0.trans kz) (λb cm hb=>dS b cm (List.mem_flatMap.2 ⟨y0,List.mem_of_getElem? kz,hb⟩)) (hw 0 _ y0 rfl kz);have h1:=hf 1 _ rfl;obtain⟨y1,gK⟩:∃y,xs[1]? =some y:=⟨_,List.getElem?_eq_getElem (by rw[eV];decide)⟩;obtain⟨a1,q1,z1⟩:=cL _ _ _ (h1.trans gK) (λb cm hb=>dS b cm (List.mem_flatMap.2 ⟨y1,List.mem_of_getElem? gK,hb⟩)) (hw 1 _ y1 rfl gK);have h2:=hf 2 _ rfl;obtain⟨y2,gS⟩:∃y,xs[2]? =some y:=⟨_,List.getElem?_eq_getElem (by rw[eV];decide)⟩;obtain⟨a2,q2,z2⟩:=cL _ _ _ (h2.trans gS) (λb cm hb=>dS b cm (List.mem_flatMap.2 ⟨y2,List.mem_of_getElem? gS,hb⟩)) (hw 2 _ y2 rfl gS);have h3:=hf 3 _ rfl;obtain⟨y3,pg⟩:∃y,xs[3]? =some y:=⟨_,List.getElem?_eq_getElem (by rw[eV];decide)⟩;obtain⟨a3,q3,z3⟩:=cL _ _ _ (h3.trans pg) (λb cm hb=>dS b cm (List.mem_flatMap.2 ⟨y3,List.mem_of_getElem? pg,hb⟩)) (hw 3 _ y3 rfl pg);refine⟨⟨a0,a1,a2,a3⟩,⟨_,_,_,_,?_,q0,q1,q2,q3⟩,z0⟩;have e0:(cs.drop 0).take (Tryz.prog.cellsOf 9)=(cs.drop 0).take 1:=by rw[show Tryz.prog.cellsOf 9=1 from by kernel_rfl]
 have e1:(cs.drop 1).take (Tryz.prog.cellsOf 3)=(cs.drop 1).take 1:=by rw[show Tryz.prog.cellsOf 3=1 from by kernel_rfl]
 have e2:(cs.drop 2).take (Tryz.prog.cellsOf 3)=(cs.drop 2).take 1:=by rw[show Tryz.prog.cellsOf 3=1 from by kernel_rfl]
 have e3:(cs.drop 3).take (Tryz.prog.cellsOf 3)=(cs.drop 3).take 1:=by rw[show Tryz.prog.cellsOf 3=1 from by kernel_rfl]
 show cs=(cs.drop 0).take (Tryz.prog.cellsOf 9)++(cs.drop 1).take (Tryz.prog.cellsOf 3)++(cs.drop 2).take (Tryz.prog.cellsOf 3)++(cs.drop 3).take (Tryz.prog.cellsOf 3);rw[e0,e1,e2,e3];have z:cs=cs.drop 0:=rfl;have t0:=aq cs 0 1;have t1:=aq cs 1 1;have t2:=aq cs 2 1;have t3:=aq cs 3 1;have tn:cs.drop 4=[]:=List.drop_eq_nil_of_le (by omega);simp only[Nat.reduceAdd]at t0 t1 t2 t3;have r3:=t3.trans (by rw[tn,List.append_nil]);have r2:=t2.trans (congrArg (_++ ·) r3);have r1:=t1.trans (congrArg (_++ ·) r2);have r0:=t0.trans (congrArg (_++ ·) r1);refine z.trans (r0.trans ?_);simp only[List.append_assoc]
theorem Te:fx enc W 31 (aj bN 4 W (·<W.heap.size)) (yF Io):=sy Tryz.underlying31 K_ (by decide) ZJ
def Fc (x:BF):Prop:=True
theorem Po:fx enc W 48 (tX W (·<W.heap.size)) Fc:=λbZ cs x h dS hz=>by
 obtain⟨xs,n,_,rfl,mH,eV,hf⟩:=DataW.trod_struct Tryz.underlying48 h;have vi:cs.length=4:=mH.trans K_;have hw:∀(j:Nat) (t:TypeId) (y:DataW H × List MemPlace),([3,3,3,3]:List TypeId)[j]? =some t->xs[j]? =some y->∀n∈y.1.weights Tryz.prog t,n<=reachBytes:=λj t y ht hy n hn=>hz n (by
  simp only[DataW.weights,Tryz.underlying48];exact DataW.weights_mem_each (j:=j) (t:=t) (d:=y.1) ht (by rw[List.getElem?_map,hy];rfl) n hn)
 have h0:=hf 0 _ rfl;obtain⟨y0,kz⟩:∃y,xs[0]? =some y:=⟨_,List.getElem?_eq_getElem (by rw[eV];decide)⟩;obtain⟨a0,q0,z0⟩:=cL _ _ _ (h0.trans kz) (λb cm hb=>dS b cm (List.mem_flatMap.2 ⟨y0,List.mem_of_getElem? kz,hb⟩)) (hw 0 _ y0 rfl kz);have h1:=hf 1 _ rfl;obtain⟨y1,gK⟩:∃y,xs[1]? =some y:=⟨_,List.getElem?_eq_getElem (by rw[eV];decide)⟩;obtain⟨a1,q1,z1⟩:=cL _ _ _ (h1.trans gK) (λb cm hb=>dS b cm (List.mem_flatMap.2 ⟨y1,List.mem_of_getElem? gK,hb⟩)) (hw 1 _ y1 rfl gK);have h2:=hf 2 _ rfl;obtain⟨y2,gS⟩:∃y,xs[2]? =some y:=⟨_,List.getElem?_eq_getElem (by rw[eV];decide)⟩;obtain⟨a2,q2,z2⟩:=cL _ _ _ (h2.trans gS) (λb cm hb=>dS b cm (List.mem_flatMap.2 ⟨y2,List.mem_of_getElem? gS,hb⟩)) (hw 2 _ y2 rfl gS);have h3:=hf 3 _ rfl;obtain⟨y3,pg⟩:∃y,xs[3]? =some y:=⟨_,List.getElem?_eq_getElem (by rw[eV];decide)⟩;obtain⟨a3,q3,z3⟩:=cL _ _ _ (h3.trans pg) (λb cm hb=>dS b cm (List.mem_flatMap.2 ⟨y3,List.mem_of_getElem? pg,hb⟩)) (hw 3 _ y3 rfl pg);refine⟨⟨a0,a1,a2,a3⟩,⟨_,_,_,_,?_,q0,q1,q2,q3⟩,trivial⟩;have e0:(cs.drop 0).take (Tryz.prog.cellsOf 3)=(cs.drop 0).take 1:=by rw[show Tryz.prog.cellsOf 3=1 from by kernel_rfl]
 have e1:(cs.drop 1).take (Tryz.prog.cellsOf 3)=(cs.drop 1).take 1:=by rw[show Tryz.prog.cellsOf 3=1 from by kernel_rfl]
 have e2:(cs.drop 2).take (Tryz.prog.cellsOf 3)=(cs.drop 2).take 1:=by rw[show Tryz.prog.cellsOf 3=1 from by kernel_rfl]
 have e3:(cs.drop 3).take (Tryz.prog.cellsOf 3)=(cs.drop 3).take 1:=by rw[show Tryz.prog.cellsOf 3=1 from by kernel_rfl]
 show cs=(cs.drop 0).take (Tryz.prog.cellsOf 3)++(cs.drop 1).take (Tryz.prog.cellsOf 3)++(cs.drop 2).take (Tryz.prog.cellsOf 3)++(cs.drop 3).take (Tryz.prog.cellsOf 3);rw[e0,e1,e2,e3];have z:cs=cs.drop 0:=rfl;have t0:=aq cs 0 1;have t1:=aq cs 1 1;have t2:=aq cs 2 1;have t3:=aq cs 3 1;have tn:cs.drop 4=[]:=List.drop_eq_nil_of_le (by omega);simp only[Nat.reduceAdd]at t0 t1 t2 t3;have r3:=t3.trans (by rw[tn,List.append_nil]);have r2:=t2.trans (congrArg (_++ ·) r3);have r1:=t1.trans (congrArg (_++ ·) r2);have r0:=t0.trans (congrArg (_++ ·) r1);refine z.trans (r0.trans ?_);simp only[List.append_assoc]
theorem xK {T E:TypeId} (ht:Tryz.prog.underlying T=some (.slice E)):fx enc W T (λcs (_:Unit)=>∃v,cs=[v]/\v.oneCell'=true) Qx:=λbZ cs x h dS hz=>by
 rcases open_slice ht h with⟨rfl,rfl⟩|⟨a,len,cap,m,n,Df,Pl,rfl,_,hl,hm,Iz,rfl,hi⟩
 ·exact⟨(),⟨_,rfl,rfl⟩,trivial⟩
 ·exact⟨(),⟨_,rfl,rfl⟩,trivial⟩
def Bz (w:World) (cs:List Value) (b:XBk):Prop:=∃gl Ae ce Ar cr tl,BkC w (·<w.heap.size) cs b gl Ae ce Ar cr tl
def Fb (b:XBk):Prop:=szG b.g/\(∀x∈b.es,Co x)/\∀r∈b.rs,Io r
theorem Cb:fx enc W 36 (Bz W) Fb:=λbZ cs x h dS hz=>by
 obtain⟨xs,n,_,rfl,mH,eV,hf⟩:=DataW.trod_struct Tryz.underlying36 h;have vi:cs.length=27:=mH.trans K_;have hw:∀(j:Nat) (t:TypeId) (y:DataW H × List MemPlace),([29,30,31,32,33,34,9]:List TypeId)[j]? =some t->xs[j]? =some y->∀n∈y.1.weights Tryz.prog t,n<=reachBytes:=λj t y ht hy n hn=>hz n (by
  simp only[DataW.weights,Tryz.underlying36];exact DataW.weights_mem_each (j:=j) (t:=t) (d:=y.1) ht (by rw[List.getElem?_map,hy];rfl) n hn)
 have h0:=hf 0 _ rfl;obtain⟨y0,kz⟩:∃y,xs[0]? =some y:=⟨_,List.getElem?_eq_getElem (by rw[eV];decide)⟩;obtain⟨a0,q0,z0⟩:=Tb _ _ _ (h0.trans kz) (λb cm hb=>dS b cm (List.mem_flatMap.2 ⟨y0,List.mem_of_getElem? kz,hb⟩)) (hw 0 _ y0 rfl kz);have h1:=hf 1 _ rfl;obtain⟨y1,gK⟩:∃y,xs[1]? =some y:=⟨_,List.getElem?_eq_getElem (by rw[eV];decide)⟩;obtain⟨a1,q1,z1⟩:=Pn _ _ _ (h1.trans gK) (λb cm hb=>dS b cm (List.mem_flatMap.2 ⟨y1,List.mem_of_getElem? gK,hb⟩)) (hw 1 _ y1 rfl gK);have h2:=hf 2 _ rfl;obtain⟨y2,gS⟩:∃y,xs[2]? =some y:=⟨_,List.getElem?_eq_getElem (by rw[eV];decide)⟩;obtain⟨a2,q2,z2⟩:=Te _ _ _ (h2.trans gS) (λb cm hb=>dS b cm (List.mem_flatMap.2 ⟨y2,List.mem_of_getElem? gS,hb⟩)) (hw 2 _ y2 rfl gS);have h3:=hf 3 _ rfl;obtain⟨y3,pg⟩:∃y,xs[3]? =some y:=⟨_,List.getElem?_eq_getElem (by rw[eV];decide)⟩;obtain⟨a3,q3,z3⟩:=(xK Tryz.underlying32) _ _ _ (h3.trans pg) (λb cm hb=>dS b cm (List.mem_flatMap.2 ⟨y3,List.mem_of_getElem? pg,hb⟩)) (hw 3 _ y3 rfl pg);have h4:=hf 4 _ rfl;obtain⟨y4,zS⟩:∃y,xs[4]? =some y:=⟨_,List.getElem?_eq_getElem (by rw[eV];decide)⟩;obtain⟨a4,q4,z4⟩:=(xK Tryz.underlying33) _ _ _ (h4.trans zS) (λb cm hb=>dS b cm (List.mem_flatMap.2 ⟨y4,List.mem_of_getElem? zS,hb⟩)) (hw 4 _ y4 rfl zS);have h5:=hf 5 _ rfl;obtain⟨y5,Ni⟩:∃y,xs[5]? =some y:=⟨_,List.getElem?_eq_getElem (by rw[eV];decide)⟩;obtain⟨a5,q5,z5⟩:=(xK Tryz.underlying34) _ _ _ (h5.trans Ni) (λb cm hb=>dS b cm (List.mem_flatMap.2 ⟨y5,List.mem_of_getElem? Ni,hb⟩)) (hw 5 _ y5 rfl Ni);have h6:=hf 6 _ rfl;obtain⟨y6,Of⟩:∃y,xs[6]? =some y:=⟨_,List.getElem?_eq_getElem (by rw[eV];decide)⟩;obtain⟨a6,q6,z6⟩:=AD _ _ _ (h6.trans Of) (λb cm hb=>dS b cm (List.mem_flatMap.2 ⟨y6,List.mem_of_getElem? Of,hb⟩)) (hw 6 _ y6 rfl Of);have e0:(cs.drop 0).take (Tryz.prog.cellsOf 29)=(cs.drop 0).take 21:=by rw[show Tryz.prog.cellsOf 29=21 from by kernel_rfl]
 have e1:(cs.drop 21).take (Tryz.prog.cellsOf 30)=(cs.drop 21).take 1:=by rw[show Tryz.prog.cellsOf 30=1 from by kernel_rfl]
 have e2:(cs.drop 22).take (Tryz.prog.cellsOf 31)=(cs.drop 22).take 1:=by rw[show Tryz.prog.cellsOf 31=1 from by kernel_rfl]
 have e3:(cs.drop 23).take (Tryz.prog.cellsOf 32)=(cs.drop 23).take 1:=by rw[show Tryz.prog.cellsOf 32=1 from by kernel_rfl]
 have e4:(cs.drop 24).take (Tryz.prog.cellsOf 33)=(cs.drop 24).take 1:=by rw[show Tryz.prog.cellsOf 33=1 from by kernel_rfl]
 have e5:(cs.drop 25).take (Tryz.prog.cellsOf 34)=(cs.drop 25).take 1:=by rw[show Tryz.prog.cellsOf 34=1 from by kernel_rfl]
 have e6:(cs.drop 26).take (Tryz.prog.cellsOf 9)=(cs.drop 26).take 1:=by rw[show Tryz.prog.cellsOf 9=1 from by kernel_rfl]
 have r0:=e0;have r1:=e1;have r2:=e2;have r3:=e3;have r4:=e4;have r5:=e5;have r6:=e6;have q0':aL W (·<W.heap.size) ((cs.drop 0).take 21) a0:=by rw[<-e0];exact q0
 have q1':aj ax 7 W (·<W.heap.size) ((cs.drop 21).take 1) a1:=by rw[<-e1];exact q1
 have q2':aj bN 4 W (·<W.heap.size) ((cs.drop 22).take 1) a2:=by rw[<-e2];exact q2
 have q3':∃v,(cs.drop 23).take 1=[v]/\v.oneCell'=true:=by rw[<-e3];exact q3
 have q4':∃v,(cs.drop 24).take 1=[v]/\v.oneCell'=true:=by rw[<-e4];exact q4
 have q5':∃v,(cs.drop 25).take 1=[v]/\v.oneCell'=true:=by rw[<-e5];exact q5
 have q6':(cs.drop 26).take 1=[.string a6]:=by rw[<-e6];exact q6
 clear e0 e1 e2 e3 e4 e5 e6 r0 r1 r2 r3 r4 r5 r6 q0 q1 q2 q3 q4 q5 q6 hw hf h0 h1 h2 h3 h4 h5 h6;have t0:=aq cs 0 21;have t1:=aq cs 21 1;have t2:=aq cs 22 1;have t3:=aq cs 23 1;have t4:=aq cs 24 1;have t5:=aq cs 25 1;have t6:=aq cs 26 1;have tn:cs.drop 27=[]:=List.drop_eq_nil_of_le (by omega);simp only[Nat.reduceAdd,List.drop_zero]at t0 t1 t2 t3 t4 t5 t6;obtain⟨Ae,ce,k1,k2⟩:=q1'.form;obtain⟨Ar,cr,k3,k4⟩:=q2'.form;obtain⟨v3,k5,o3⟩:=q3';obtain⟨v4,k6,o4⟩:=q4';obtain⟨v5,k7,o5⟩:=q5';refine⟨⟨a0,a1,a2⟩,⟨(cs.drop 0).take 21,Ae,ce,Ar,cr,[v3,v4,v5,.string a6],?_,rfl,?_,q0',?_,?_⟩,⟨z0,z1,z2⟩⟩
 ·rw[List.drop_zero];refine t0.trans (congrArg _ ?_);rw[t1,k1,t2,k3,t3,k5,t4,k6,t5,k7,t6,q6',tn];rfl
 ·intro v hv;simp only[List.mem_cons,List.not_mem_nil,or_false]at hv;rcases hv with rfl|rfl|rfl|rfl
  ·exact o3
  ·exact o4
  ·exact o5
  ·rfl
 ·rw[<-k1];exact q1'
 ·rw[<-k3];exact q2'
end
end
end Go.Proofs.YtibiddakakgakaaGreat
