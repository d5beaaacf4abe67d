/- Arguments of the program's types, opened to data, with the sizes of their texts. Written by gen_c4.py. -/
import Derived.Test.YtibiddakakgakaaGreatQdB28S1
import Derived.Deep.Slices
import Derived.Deep.Fields
import Derived.ChangeSame
import Derived.ProofKit
import Derived.OpenShut
import Derived.ShutString
import Derived.ChangeOld
import Derived.Below
import Derived.SizedLaws
set_option linter.unusedVariables false
set_option linter.unusedSimpArgs false
set_option maxRecDepth 4000
attribute [local go_sem ↓] Go.wp_at_zero Go.wp_at_succ
set_option maxHeartbeats 16000000
namespace Go.Proofs.YtibiddakakgakaaGreat
section
open Go Go.RowKit Go.ChangeShapes Go.WideShapes Go.Deep
theorem own:ownKnob Tryz.prog.godebug=none:=by kernel_rfl
theorem lr:laidOutB Tryz.prog=true:=by kernel_rfl
section
variable {H:Type} {enc:TypeId × Value->H} {W:World}
def fx (enc:TypeId × Value->H) (W:World) (T:TypeId) {α:Type} (C:List Value->α->Prop) (Z:α->Prop):Prop:=
 ∀bZ cs x,DataW.trod enc Tryz.prog W 0 (λ_=>true) true bZ T cs=some x->(∀b cm,MemPlace.cell b cm∈x.2->W.frozen? ⟨b,cm,none⟩=false)->(∀n∈x.1.weights Tryz.prog T,n<=reachBytes)->∃a,C cs a/\Z a
def Qx {α:Type} (_:α):Prop:=True
def yF {α:Type} (Z:α->Prop) (l:List α):Prop:=∀x∈l,Z x
def acp (s:ByteArray):Prop:=s.size<=140737488355327
theorem cL:fx enc W 3 av Qx:=λbZ cs x h _ _=>by
 obtain⟨n,rfl,_,hwf⟩:=DataW.trod_int Tryz.underlying3 h;refine⟨n,⟨rfl,?_⟩,trivial⟩;simp only[Lit.wf,IntKind.min,IntKind.max,Bool.and_eq_true,decide_eq_true_eq]at hwf;simp[IntKind.signed,IntKind.bits]at hwf;unfold cx;omega
theorem AD:fx enc W 9 gZ acp:=λbZ cs x h _ hz=>by
 obtain⟨s,rfl,rfl,_⟩:=DataW.trod_string Tryz.underlying9 h;have:=hz s.data.toList.length (by simp[DataW.weights]);have hr:=reachBytes_lt;refine⟨s,rfl,?_⟩;unfold acp;have:s.size=s.data.toList.length:=by first|rfl|simp
 omega
theorem ZG:fx enc W 4 vE Qx:=λbZ cs x h _ _=>by
 obtain⟨b,rfl,_⟩:=DataW.trod_bool Tryz.underlying4 h;exact⟨b,rfl,trivial⟩
theorem OK {a:Addr} {n k:Nat} {cs:List Value} (h:∀i,i<n->W.cell? ((a.add k).add i)=cs[i]?):∀i,i<n->W.cell? (a.add (k+i))=cs[i]? :=λi hi=>by
 rw[<-DF];exact h i hi
theorem tr {P:Program} {e:TypeId}:∀{ds:List (DataW H)} {d:DataW H},d∈ds->∀n∈d.weights P e,n∈DataW.weightsAll P e ds
 |[],_,h,_,_=>by cases h
 |a::r,d,h,n,hn=>by
  simp only[DataW.weightsAll,List.mem_append];rcases List.mem_cons.1 h with rfl|h
  ·exact Or.inl hn
  ·exact Or.inr (tr h n hn)
theorem sy {α:Type} {El:World->(Nat->Prop)->List Value->α->Prop} {Z:α->Prop} {T E:TypeId} {size:Nat} (ht:Tryz.prog.underlying T=some (.slice E)) (hC:Tryz.prog.cellsOf E=size) (hs:0<size)
 (hE:fx enc W E (El W (·<W.heap.size)) Z):fx enc W T (aj El size W (·<W.heap.size)) (yF Z):=λbZ cs x h dS hz=>by
 have aU:=DataW.trod_lt _ _ _ _ h;rcases open_slice ht h with⟨rfl,rfl⟩|⟨a,len,cap,m,n,Df,Pl,rfl,_,hl,hm,Iz,rfl,hi⟩
 ·exact⟨[],⟨none,0,rfl,by simp,by simp[maxLen],λh=>absurd h (by simp)⟩,λx hx=>by cases hx⟩
 ·simp only[if_true]at Iz;subst Iz;rw[hC]at hi aU dS;have ir:∀i,i<len->∃es y,(∀j,j<es.length->W.cell? (a.add (i*size+j))=es[j]?)/\es.length=size/\El W (·<W.heap.size) es y/\Z y:=by
   intro i hil;have sO:i<m:=by omega
   obtain⟨cs',hc,ht'⟩:=hi i sO;obtain⟨_,mH,aS⟩:=World.cells?_some hc;obtain⟨y,hy,hzy⟩:=hE _ _ _ ht' (λb cm hb=>dS b cm (List.mem_append_right _ (List.mem_flatMap.2 ⟨i,List.mem_range.2 sO,hb⟩))) (λn hn=>hz n (by
    simp only[DataW.weights,ht];exact List.mem_cons_of_mem _ (List.mem_append_left _ (tr (List.mem_map.2 ⟨i,List.mem_range.2 hil,rfl⟩) n hn))))
   exact⟨cs',y,λj hj=>OK aS j (by omega),mH,hy,hzy⟩
  have eX:∃xs:List α,xs.length=len/\∀i x,xs[i]? =some x->∃es,(∀j,j<es.length->W.cell? (a.add (i*size+j))=es[j]?)/\es.length=size/\El W (·<W.heap.size) es x/\Z x:=by
   have:∀k,k<=len->∃xs:List α,xs.length=k/\∀i x,xs[i]? =some x->∃es,(∀j,j<es.length->W.cell? (a.add (i*size+j))=es[j]?)/\es.length=size/\El W (·<W.heap.size) es x/\Z x:=by
    intro k
    induction k with
    |zero=>exact λ_=>⟨[],rfl,λi x h=>by simp at h⟩
    |succ k ih=>
     intro hk;obtain⟨xs,eV,hx⟩:=ih (by omega);obtain⟨es,y,h1,h2,h3,h4⟩:=ir k (by omega);refine⟨xs++[y],by simp[eV],λi x ja=>?_⟩;by_cases TG:i<xs.length
     ·rw[List.getElem?_append_left TG]at ja;exact hx i x ja
     ·rw[List.getElem?_append_right (by omega)]at ja;have h0:i- xs.length=0:=by
       have:=(List.getElem?_eq_some_iff.1 ja).1;simp at this;omega
      rw[h0]at ja;simp at ja;subst ja;have:i=k:=by omega
      subst this;exact⟨es,h1,h2,h3,h4⟩
   exact this len (Nat.le_refl _)
  obtain⟨xs,rfl,hx⟩:=eX;refine⟨xs,⟨some a,m,rfl,hl,hm,λhn=>?_⟩,λx hx'=>?_⟩
  ·have h0:=hx 0 xs[0] (List.getElem?_eq_getElem hn);obtain⟨es0,sM,Ng,_⟩:=h0;have Nr:=sM 0 (by omega);rw[List.getElem?_eq_getElem (by omega)]at Nr;obtain⟨b,cm,acu⟩:=a;have aan:acu=none:=by simpa[Addr.add]using World.cell?_spot Nr
   subst aan;have jB:∀q,q<m*size->MemPlace.cell b (cm+q)∈MemPlace.row ⟨b,cm,none⟩ (m*size):=λq hq=>MemPlace.mem_row.2 ⟨q,hq,rfl⟩
   have hms:0<m*size:=Nat.mul_pos (by omega) hs;refine⟨b,cm,rfl,aU _ (List.mem_append_left _ (jB 0 hms)),λi x ja=>?_⟩;obtain⟨es,hc,hlE,kZ,_⟩:=hx i x ja;have hil:i<xs.length:=(List.getElem?_eq_some_iff.1 ja).1;refine⟨es,kZ,aU _ (List.mem_append_left _ (jB 0 hms)),λj u hu=>?_⟩;have hj:j<es.length:=(List.getElem?_eq_some_iff.1 hu).1;have e1:=hc j hj;rw[add_plain]at e1;rw[Addr.add_lit,Nat.add_assoc];refine⟨e1.trans hu,dS _ _ (List.mem_append_left _ (jB (i*size+j) ?_))⟩;have:i*size+size<=m*size:=by rw[<-Nat.succ_mul];exact Nat.mul_le_mul_right _ (by omega)
   omega
  ·obtain⟨i,yZ,tV⟩:=List.mem_iff_getElem.1 hx';obtain⟨_,_,_,_,hz4⟩:=hx i x (by rw[List.getElem?_eq_getElem yZ,tV]);exact hz4
theorem aq (cs:List Value) (a n:Nat):cs.drop a=(cs.drop a).take n++cs.drop (a+n):=by
 rw[<-List.drop_drop,List.take_append_drop]
def Ql (x:bG):Prop:=True
theorem ZH:fx enc W 60 (bc W (·<W.heap.size)) Ql:=λbZ cs x h dS hz=>by
 obtain⟨xs,n,_,rfl,mH,eV,hf⟩:=DataW.trod_struct Tryz.underlying60 h;have akw:cs.length=3:=mH.trans K_;have hw:∀(j:Nat) (t:TypeId) (y:DataW H × List MemPlace),([3,3,3]:List TypeId)[j]? =some t->xs[j]? =some y->∀n∈y.1.weights Tryz.prog t,n<=reachBytes:=λj t y ht hy n hn=>hz n (by
  simp only[DataW.weights,Tryz.underlying60];exact DataW.weights_mem_each (j:=j) (t:=t) (d:=y.1) ht (by rw[List.getElem?_map,hy];rfl) n hn)
 have h0:=hf 0 _ rfl;obtain⟨y0,kz⟩:∃y,xs[0]? =some y:=⟨_,List.getElem?_eq_getElem (by rw[eV];decide)⟩;obtain⟨a0,q0,z0⟩:=cL _ _ _ (h0.trans kz) (λb cm hb=>dS b cm (List.mem_flatMap.2 ⟨y0,List.mem_of_getElem? kz,hb⟩)) (hw 0 _ y0 rfl kz);have h1:=hf 1 _ rfl;obtain⟨y1,gK⟩:∃y,xs[1]? =some y:=⟨_,List.getElem?_eq_getElem (by rw[eV];decide)⟩;obtain⟨a1,q1,z1⟩:=cL _ _ _ (h1.trans gK) (λb cm hb=>dS b cm (List.mem_flatMap.2 ⟨y1,List.mem_of_getElem? gK,hb⟩)) (hw 1 _ y1 rfl gK);have h2:=hf 2 _ rfl;obtain⟨y2,gS⟩:∃y,xs[2]? =some y:=⟨_,List.getElem?_eq_getElem (by rw[eV];decide)⟩;obtain⟨a2,q2,z2⟩:=cL _ _ _ (h2.trans gS) (λb cm hb=>dS b cm (List.mem_flatMap.2 ⟨y2,List.mem_of_getElem? gS,hb⟩)) (hw 2 _ y2 rfl gS);refine⟨⟨a0,a1,a2⟩,⟨_,_,_,?_,q0,q1,q2⟩,trivial⟩;have e0:(cs.drop 0).take (Tryz.prog.cellsOf 3)=(cs.drop 0).take 1:=by rw[show Tryz.prog.cellsOf 3=1 from by kernel_rfl]
 have e1:(cs.drop 1).take (Tryz.prog.cellsOf 3)=(cs.drop 1).take 1:=by rw[show Tryz.prog.cellsOf 3=1 from by kernel_rfl]
 have e2:(cs.drop 2).take (Tryz.prog.cellsOf 3)=(cs.drop 2).take 1:=by rw[show Tryz.prog.cellsOf 3=1 from by kernel_rfl]
 show cs=(cs.drop 0).take (Tryz.prog.cellsOf 3)++(cs.drop 1).take (Tryz.prog.cellsOf 3)++(cs.drop 2).take (Tryz.prog.cellsOf 3);rw[e0,e1,e2];have z:cs=cs.drop 0:=rfl;have t0:=aq cs 0 1;have t1:=aq cs 1 1;have t2:=aq cs 2 1;have tn:cs.drop 3=[]:=List.drop_eq_nil_of_le (by omega);simp only[Nat.reduceAdd]at t0 t1 t2;have r2:=t2.trans (by rw[tn,List.append_nil]);have r1:=t1.trans (congrArg (_++ ·) r2);have r0:=t0.trans (congrArg (_++ ·) r1);refine z.trans (r0.trans ?_);simp only[List.append_assoc]
theorem Tc:fx enc W 49 (aj bc 3 W (·<W.heap.size)) (yF Ql):=sy Tryz.underlying49 K_ (by decide) ZH
def Co (x:ak):Prop:=x.text.size<=140737488355327
theorem Ta:fx enc W 51 (ax W (·<W.heap.size)) Co:=λbZ cs x h dS hz=>by
 obtain⟨xs,n,_,rfl,mH,eV,hf⟩:=DataW.trod_struct Tryz.underlying51 h;have akw:cs.length=7:=mH.trans K_;have hw:∀(j:Nat) (t:TypeId) (y:DataW H × List MemPlace),([3,3,3,3,3,9,49]:List TypeId)[j]? =some t->xs[j]? =some y->∀n∈y.1.weights Tryz.prog t,n<=reachBytes:=λj t y ht hy n hn=>hz n (by
  simp only[DataW.weights,Tryz.underlying51];exact DataW.weights_mem_each (j:=j) (t:=t) (d:=y.1) ht (by rw[List.getElem?_map,hy];rfl) n hn)
 have h0:=hf 0 _ rfl;obtain⟨y0,kz⟩:∃y,xs[0]? =some y:=⟨_,List.getElem?_eq_getElem (by rw[eV];decide)⟩;obtain⟨a0,q0,z0⟩:=cL _ _ _ (h0.trans kz) (λb cm hb=>dS b cm (List.mem_flatMap.2 ⟨y0,List.mem_of_getElem? kz,hb⟩)) (hw 0 _ y0 rfl kz);have h1:=hf 1 _ rfl;obtain⟨y1,gK⟩:∃y,xs[1]? =some y:=⟨_,List.getElem?_eq_getElem (by rw[eV];decide)⟩;obtain⟨a1,q1,z1⟩:=cL _ _ _ (h1.trans gK) (λb cm hb=>dS b cm (List.mem_flatMap.2 ⟨y1,List.mem_of_getElem? gK,hb⟩)) (hw 1 _ y1 rfl gK);have h2:=hf 2 _ rfl;obtain⟨y2,gS⟩:∃y,xs[2]? =some y:=⟨_,List.getElem?_eq_getElem (by rw[eV];decide)⟩;obtain⟨a2,q2,z2⟩:=cL _ _ _ (h2.trans gS) (λb cm hb=>dS b cm (List.mem_flatMap.2 ⟨y2,List.mem_of_getElem? gS,hb⟩)) (hw 2 _ y2 rfl gS);have h3:=hf 3 _ rfl;obtain⟨y3,pg⟩:∃y,xs[3]? =some y:=⟨_,List.getElem?_eq_getElem (by rw[eV];decide)⟩;obtain⟨a3,q3,z3⟩:=cL _ _ _ (h3.trans pg) (λb cm hb=>dS b cm (List.mem_flatMap.2 ⟨y3,List.mem_of_getElem? pg,hb⟩)) (hw 3 _ y3 rfl pg);have h4:=hf 4 _ rfl;obtain⟨y4,zS⟩:∃y,xs[4]? =some y:=⟨_,List.getElem?_eq_getElem (by rw[eV];decide)⟩;obtain⟨a4,q4,z4⟩:=cL _ _ _ (h4.trans zS) (λb cm hb=>dS b cm (List.mem_flatMap.2 ⟨y4,List.mem_of_getElem? zS,hb⟩)) (hw 4 _ y4 rfl zS);have h5:=hf 5 _ rfl;obtain⟨y5,Ni⟩:∃y,xs[5]? =some y:=⟨_,List.getElem?_eq_getElem (by rw[eV];decide)⟩;obtain⟨a5,q5,z5⟩:=AD _ _ _ (h5.trans Ni) (λb cm hb=>dS b cm (List.mem_flatMap.2 ⟨y5,List.mem_of_getElem? Ni,hb⟩)) (hw 5 _ y5 rfl Ni);have h6:=hf 6 _ rfl;obtain⟨y6,Of⟩:∃y,xs[6]? =some y:=⟨_,List.getElem?_eq_getElem (by rw[eV];decide)⟩;obtain⟨a6,q6,z6⟩:=Tc _ _ _ (h6.trans Of) (λb cm hb=>dS b cm (List.mem_flatMap.2 ⟨y6,List.mem_of_getElem? Of,hb⟩)) (hw 6 _ y6 rfl Of);refine⟨⟨a0,a1,a2,a3,a4,a5,a6⟩,⟨_,_,_,_,_,_,_,?_,q0,q1,q2,q3,q4,q5,q6⟩,z5⟩;have e0:(cs.drop 0).take (Tryz.prog.cellsOf 3)=(cs.drop 0).take 1:=by rw[show Tryz.prog.cellsOf 3=1 from by kernel_rfl]
 have e1:(cs.drop 1).take (Tryz.prog.cellsOf 3)=(cs.drop 1).take 1:=by rw[show Tryz.prog.cellsOf 3=1 from by kernel_rfl]
 have e2:(cs.drop 2).take (Tryz.prog.cellsOf 3)=(cs.drop 2).take 1:=by rw[show Tryz.prog.cellsOf 3=1 from by kernel_rfl]
 have e3:(cs.drop 3).take (Tryz.prog.cellsOf 3)=(cs.drop 3).take 1:=by rw[show Tryz.prog.cellsOf 3=1 from by kernel_rfl]
 have e4:(cs.drop 4).take (Tryz.prog.cellsOf 3)=(cs.drop 4).take 1:=by rw[show Tryz.prog.cellsOf 3=1 from by kernel_rfl]
 have e5:(cs.drop 5).take (Tryz.prog.cellsOf 9)=(cs.drop 5).take 1:=by rw[show Tryz.prog.cellsOf 9=1 from by kernel_rfl]
 have e6:(cs.drop 6).take (Tryz.prog.cellsOf 49)=(cs.drop 6).take 1:=by rw[show Tryz.prog.cellsOf 49=1 from by kernel_rfl]
 show cs=(cs.drop 0).take (Tryz.prog.cellsOf 3)++(cs.drop 1).take (Tryz.prog.cellsOf 3)++(cs.drop 2).take (Tryz.prog.cellsOf 3)++(cs.drop 3).take (Tryz.prog.cellsOf 3)++(cs.drop 4).take (Tryz.prog.cellsOf 3)++(cs.drop 5).take (Tryz.prog.cellsOf 9)++(cs.drop 6).take (Tryz.prog.cellsOf 49);rw[e0,e1,e2,e3,e4,e5,e6];have z:cs=cs.drop 0:=rfl;have t0:=aq cs 0 1;have t1:=aq cs 1 1;have t2:=aq cs 2 1;have t3:=aq cs 3 1;have t4:=aq cs 4 1;have t5:=aq cs 5 1;have t6:=aq cs 6 1;have tn:cs.drop 7=[]:=List.drop_eq_nil_of_le (by omega);simp only[Nat.reduceAdd]at t0 t1 t2 t3 t4 t5 t6;have r6:=t6.trans (by rw[tn,List.append_nil]);have r5:=t5.trans (congrArg (_++ ·) r6);have r4:=t4.trans (congrArg (_++ ·) r5);have r3:=t3.trans (congrArg (_++ ·) r4);have r2:=t2.trans (congrArg (_++ ·) r3);have r1:=t1.trans (congrArg (_++ ·) r2);have r0:=t0.trans (congrArg (_++ ·) r1);refine z.trans (r0.trans ?_);simp only[List.append_assoc]
theorem Pn:fx enc W 30 (aj ax 7 W (·<W.heap.size)) (yF Co):=sy Tryz.underlying30 K_ (by decide) Ta
def AW (x:ah):Prop:=True
theorem LL:fx enc W 78 (ar W (·<W.heap.size)) AW:=λbZ cs x h dS hz=>by
 obtain⟨xs,n,_,rfl,mH,eV,hf⟩:=DataW.trod_struct Tryz.underlying78 h;have akw:cs.length=4:=mH.trans K_;have hw:∀(j:Nat) (t:TypeId) (y:DataW H × List MemPlace),([3,3,3,3]:List TypeId)[j]? =some t->xs[j]? =some y->∀n∈y.1.weights Tryz.prog t,n<=reachBytes:=λj t y ht hy n hn=>hz n (by
  simp only[DataW.weights,Tryz.underlying78];exact DataW.weights_mem_each (j:=j) (t:=t) (d:=y.1) ht (by rw[List.getElem?_map,hy];rfl) n hn)
 have h0:=hf 0 _ rfl;obtain⟨y0,kz⟩:∃y,xs[0]? =some y:=⟨_,List.getElem?_eq_getElem (by rw[eV];decide)⟩;obtain⟨a0,q0,z0⟩:=cL _ _ _ (h0.trans kz) (λb cm hb=>dS b cm (List.mem_flatMap.2 ⟨y0,List.mem_of_getElem? kz,hb⟩)) (hw 0 _ y0 rfl kz);have h1:=hf 1 _ rfl;obtain⟨y1,gK⟩:∃y,xs[1]? =some y:=⟨_,List.getElem?_eq_getElem (by rw[eV];decide)⟩;obtain⟨a1,q1,z1⟩:=cL _ _ _ (h1.trans gK) (λb cm hb=>dS b cm (List.mem_flatMap.2 ⟨y1,List.mem_of_getElem? gK,hb⟩)) (hw 1 _ y1 rfl gK);have h2:=hf 2 _ rfl;obtain⟨y2,gS⟩:∃y,xs[2]? =some y:=⟨_,List.getElem?_eq_getElem (by rw[eV];decide)⟩;obtain⟨a2,q2,z2⟩:=cL _ _ _ (h2.trans gS) (λb cm hb=>dS b cm (List.mem_flatMap.2 ⟨y2,List.mem_of_getElem? gS,hb⟩)) (hw 2 _ y2 rfl gS);have h3:=hf 3 _ rfl;obtain⟨y3,pg⟩:∃y,xs[3]? =some y:=⟨_,List.getElem?_eq_getElem (by rw[eV];decide)⟩;obtain⟨a3,q3,z3⟩:=cL _ _ _ (h3.trans pg) (λb cm hb=>dS b cm (List.mem_flatMap.2 ⟨y3,List.mem_of_getElem? pg,hb⟩)) (hw 3 _ y3 rfl pg);refine⟨⟨a0,a1,a2,a3⟩,⟨_,_,_,_,?_,q0,q1,q2,q3⟩,trivial⟩;have e0:(cs.drop 0).take (Tryz.prog.cellsOf 3)=(cs.drop 0).take 1:=by rw[show Tryz.prog.cellsOf 3=1 from by kernel_rfl]
 have e1:(cs.drop 1).take (Tryz.prog.cellsOf 3)=(cs.drop 1).take 1:=by rw[show Tryz.prog.cellsOf 3=1 from by kernel_rfl]
 have e2:(cs.drop 2).take (Tryz.prog.cellsOf 3)=(cs.drop 2).take 1:=by rw[show Tryz.prog.cellsOf 3=1 from by kernel_rfl]
 have e3:(cs.drop 3).take (Tryz.prog.cellsOf 3)=(cs.drop 3).take 1:=by rw[show Tryz.prog.cellsOf 3=1 from by kernel_rfl]
 show cs=(cs.drop 0).take (Tryz.prog.cellsOf 3)++(cs.drop 1).take (Tryz.prog.cellsOf 3)++(cs.drop 2).take (Tryz.prog.cellsOf 3)++(cs.drop 3).take (Tryz.prog.cellsOf 3);rw[e0,e1,e2,e3];have z:cs=cs.drop 0:=rfl;have t0:=aq cs 0 1;have t1:=aq cs 1 1;have t2:=aq cs 2 1;have t3:=aq cs 3 1;have tn:cs.drop 4=[]:=List.drop_eq_nil_of_le (by omega);simp only[Nat.reduceAdd]at t0 t1 t2 t3;have r3:=t3.trans (by rw[tn,List.append_nil]);have r2:=t2.trans (congrArg (_++ ·) r3);have r1:=t1.trans (congrArg (_++ ·) r2);have r0:=t0.trans (congrArg (_++ ·) r1);refine z.trans (r0.trans ?_);simp only[List.append_assoc]
theorem xJ:fx enc W 24 (aj ar 4 W (·<W.heap.size)) (yF AW):=sy Tryz.underlying24 K_ (by decide) LL
def Qm (x:bu):Prop:=True
theorem ZI:fx enc W 154 (bJ W (·<W.heap.size)) Qm:=λbZ cs x h dS hz=>by
 obtain⟨xs,n,_,rfl,mH,eV,hf⟩:=DataW.trod_struct Tryz.underlying154 h;have akw:cs.length=3:=mH.trans K_;have hw:∀(j:Nat) (t:TypeId) (y:DataW H × List MemPlace),([3,3,3]:List TypeId)[j]? =some t->xs[j]? =some y->∀n∈y.1.weights Tryz.prog t,n<=reachBytes:=λj t y ht hy n hn=>hz n (by
  simp only[DataW.weights,Tryz.underlying154];exact DataW.weights_mem_each (j:=j) (t:=t) (d:=y.1) ht (by rw[List.getElem?_map,hy];rfl) n hn)
 have h0:=hf 0 _ rfl;obtain⟨y0,kz⟩:∃y,xs[0]? =some y:=⟨_,List.getElem?_eq_getElem (by rw[eV];decide)⟩;obtain⟨a0,q0,z0⟩:=cL _ _ _ (h0.trans kz) (λb cm hb=>dS b cm (List.mem_flatMap.2 ⟨y0,List.mem_of_getElem? kz,hb⟩)) (hw 0 _ y0 rfl kz);have h1:=hf 1 _ rfl;obtain⟨y1,gK⟩:∃y,xs[1]? =some y:=⟨_,List.getElem?_eq_getElem (by rw[eV];decide)⟩;obtain⟨a1,q1,z1⟩:=cL _ _ _ (h1.trans gK) (λb cm hb=>dS b cm (List.mem_flatMap.2 ⟨y1,List.mem_of_getElem? gK,hb⟩)) (hw 1 _ y1 rfl gK);have h2:=hf 2 _ rfl;obtain⟨y2,gS⟩:∃y,xs[2]? =some y:=⟨_,List.getElem?_eq_getElem (by rw[eV];decide)⟩;obtain⟨a2,q2,z2⟩:=cL _ _ _ (h2.trans gS) (λb cm hb=>dS b cm (List.mem_flatMap.2 ⟨y2,List.mem_of_getElem? gS,hb⟩)) (hw 2 _ y2 rfl gS);refine⟨⟨a0,a1,a2⟩,⟨_,_,_,?_,q0,q1,q2⟩,trivial⟩;have e0:(cs.drop 0).take (Tryz.prog.cellsOf 3)=(cs.drop 0).take 1:=by rw[show Tryz.prog.cellsOf 3=1 from by kernel_rfl]
 have e1:(cs.drop 1).take (Tryz.prog.cellsOf 3)=(cs.drop 1).take 1:=by rw[show Tryz.prog.cellsOf 3=1 from by kernel_rfl]
 have e2:(cs.drop 2).take (Tryz.prog.cellsOf 3)=(cs.drop 2).take 1:=by rw[show Tryz.prog.cellsOf 3=1 from by kernel_rfl]
 show cs=(cs.drop 0).take (Tryz.prog.cellsOf 3)++(cs.drop 1).take (Tryz.prog.cellsOf 3)++(cs.drop 2).take (Tryz.prog.cellsOf 3);rw[e0,e1,e2];have z:cs=cs.drop 0:=rfl;have t0:=aq cs 0 1;have t1:=aq cs 1 1;have t2:=aq cs 2 1;have tn:cs.drop 3=[]:=List.drop_eq_nil_of_le (by omega);simp only[Nat.reduceAdd]at t0 t1 t2;have r2:=t2.trans (by rw[tn,List.append_nil]);have r1:=t1.trans (congrArg (_++ ·) r2);have r0:=t0.trans (congrArg (_++ ·) r1);refine z.trans (r0.trans ?_);simp only[List.append_assoc]
theorem Td:fx enc W 72 (aj bJ 3 W (·<W.heap.size)) (yF Qm):=sy Tryz.underlying72 K_ (by decide) ZI
theorem Pm:fx enc W 74 (aN W (·<W.heap.size)) szE:=λbZ cs x h dS hz=>by
 obtain⟨xs,n,_,rfl,mH,eV,hf⟩:=DataW.trod_struct Tryz.underlying74 h;have akw:cs.length=5:=mH.trans K_;have hw:∀(j:Nat) (t:TypeId) (y:DataW H × List MemPlace),([9,9,24,72,4]:List TypeId)[j]? =some t->xs[j]? =some y->∀n∈y.1.weights Tryz.prog t,n<=reachBytes:=λj t y ht hy n hn=>hz n (by
  simp only[DataW.weights,Tryz.underlying74];exact DataW.weights_mem_each (j:=j) (t:=t) (d:=y.1) ht (by rw[List.getElem?_map,hy];rfl) n hn)
 have h0:=hf 0 _ rfl;obtain⟨y0,kz⟩:∃y,xs[0]? =some y:=⟨_,List.getElem?_eq_getElem (by rw[eV];decide)⟩;obtain⟨a0,q0,z0⟩:=AD _ _ _ (h0.trans kz) (λb cm hb=>dS b cm (List.mem_flatMap.2 ⟨y0,List.mem_of_getElem? kz,hb⟩)) (hw 0 _ y0 rfl kz);have h1:=hf 1 _ rfl;obtain⟨y1,gK⟩:∃y,xs[1]? =some y:=⟨_,List.getElem?_eq_getElem (by rw[eV];decide)⟩;obtain⟨a1,q1,z1⟩:=AD _ _ _ (h1.trans gK) (λb cm hb=>dS b cm (List.mem_flatMap.2 ⟨y1,List.mem_of_getElem? gK,hb⟩)) (hw 1 _ y1 rfl gK);have h2:=hf 2 _ rfl;obtain⟨y2,gS⟩:∃y,xs[2]? =some y:=⟨_,List.getElem?_eq_getElem (by rw[eV];decide)⟩;obtain⟨a2,q2,z2⟩:=xJ _ _ _ (h2.trans gS) (λb cm hb=>dS b cm (List.mem_flatMap.2 ⟨y2,List.mem_of_getElem? gS,hb⟩)) (hw 2 _ y2 rfl gS);have h3:=hf 3 _ rfl;obtain⟨y3,pg⟩:∃y,xs[3]? =some y:=⟨_,List.getElem?_eq_getElem (by rw[eV];decide)⟩;obtain⟨a3,q3,z3⟩:=Td _ _ _ (h3.trans pg) (λb cm hb=>dS b cm (List.mem_flatMap.2 ⟨y3,List.mem_of_getElem? pg,hb⟩)) (hw 3 _ y3 rfl pg);have h4:=hf 4 _ rfl;obtain⟨y4,zS⟩:∃y,xs[4]? =some y:=⟨_,List.getElem?_eq_getElem (by rw[eV];decide)⟩;obtain⟨a4,q4,z4⟩:=ZG _ _ _ (h4.trans zS) (λb cm hb=>dS b cm (List.mem_flatMap.2 ⟨y4,List.mem_of_getElem? zS,hb⟩)) (hw 4 _ y4 rfl zS);refine⟨⟨a0,a1,a2,a3,a4⟩,⟨_,_,_,_,_,?_,q0,q1,q2,q3,q4⟩,⟨z0,z1⟩⟩;have e0:(cs.drop 0).take (Tryz.prog.cellsOf 9)=(cs.drop 0).take 1:=by rw[show Tryz.prog.cellsOf 9=1 from by kernel_rfl]
 have e1:(cs.drop 1).take (Tryz.prog.cellsOf 9)=(cs.drop 1).take 1:=by rw[show Tryz.prog.cellsOf 9=1 from by kernel_rfl]
 have e2:(cs.drop 2).take (Tryz.prog.cellsOf 24)=(cs.drop 2).take 1:=by rw[show Tryz.prog.cellsOf 24=1 from by kernel_rfl]
 have e3:(cs.drop 3).take (Tryz.prog.cellsOf 72)=(cs.drop 3).take 1:=by rw[show Tryz.prog.cellsOf 72=1 from by kernel_rfl]
 have e4:(cs.drop 4).take (Tryz.prog.cellsOf 4)=(cs.drop 4).take 1:=by rw[show Tryz.prog.cellsOf 4=1 from by kernel_rfl]
 show cs=(cs.drop 0).take (Tryz.prog.cellsOf 9)++(cs.drop 1).take (Tryz.prog.cellsOf 9)++(cs.drop 2).take (Tryz.prog.cellsOf 24)++(cs.drop 3).take (Tryz.prog.cellsOf 72)++(cs.drop 4).take (Tryz.prog.cellsOf 4);rw[e0,e1,e2,e3,e4];have z:cs=cs.drop 0:=rfl;have t0:=aq cs 0 1;have t1:=aq cs 1 1;have t2:=aq cs 2 1;have t3:=aq cs 3 1;have t4:=aq cs 4 1;have tn:cs.drop 5=[]:=List.drop_eq_nil_of_le (by omega);simp only[Nat.reduceAdd]at t0 t1 t2 t3 t4;have r4:=t4.trans (by rw[tn,List.append_nil]);have r3:=t3.trans (congrArg (_++ ·) r4);have r2:=t2.trans (congrArg (_++ ·) r3);have r1:=t1.trans (congrArg (_++ ·) r2);have r0:=t0.trans (congrArg (_++ ·) r1);refine z.trans (r0.trans ?_);simp only[List.append_assoc]
theorem LM:fx enc W 27 (aj aN 5 W (·<W.heap.size)) (yF szE):=sy Tryz.underlying27 K_ (by decide) Pm
def aco (x:BE):Prop:=True
theorem acf:fx enc W 23 (iK W (·<W.heap.size)) aco:=λbZ cs x h dS hz=>by
 obtain⟨xs,n,_,rfl,mH,eV,hf⟩:=DataW.trod_struct Tryz.underlying23 h;have akw:cs.length=3:=mH.trans K_;have hw:∀(j:Nat) (t:TypeId) (y:DataW H × List MemPlace),([3,3,3]:List TypeId)[j]? =some t->xs[j]? =some y->∀n∈y.1.weights Tryz.prog t,n<=reachBytes:=λj t y ht hy n hn=>hz n (by
  simp only[DataW.weights,Tryz.underlying23];exact DataW.weights_mem_each (j:=j) (t:=t) (d:=y.1) ht (by rw[List.getElem?_map,hy];rfl) n hn)
 have h0:=hf 0 _ rfl;obtain⟨y0,kz⟩:∃y,xs[0]? =some y:=⟨_,List.getElem?_eq_getElem (by rw[eV];decide)⟩;obtain⟨a0,q0,z0⟩:=cL _ _ _ (h0.trans kz) (λb cm hb=>dS b cm (List.mem_flatMap.2 ⟨y0,List.mem_of_getElem? kz,hb⟩)) (hw 0 _ y0 rfl kz);have h1:=hf 1 _ rfl;obtain⟨y1,gK⟩:∃y,xs[1]? =some y:=⟨_,List.getElem?_eq_getElem (by rw[eV];decide)⟩;obtain⟨a1,q1,z1⟩:=cL _ _ _ (h1.trans gK) (λb cm hb=>dS b cm (List.mem_flatMap.2 ⟨y1,List.mem_of_getElem? gK,hb⟩)) (hw 1 _ y1 rfl gK);have h2:=hf 2 _ rfl;obtain⟨y2,gS⟩:∃y,xs[2]? =some y:=⟨_,List.getElem?_eq_getElem (by rw[eV];decide)⟩;obtain⟨a2,q2,z2⟩:=cL _ _ _ (h2.trans gS) (λb cm hb=>dS b cm (List.mem_flatMap.2 ⟨y2,List.mem_of_getElem? gS,hb⟩)) (hw 2 _ y2 rfl gS);refine⟨⟨a0,a1,a2⟩,⟨_,_,_,?_,q0,q1,q2⟩,trivial⟩;have e0:(cs.drop 0).take (Tryz.prog.cellsOf 3)=(cs.drop 0).take 1:=by rw[show Tryz.prog.cellsOf 3=1 from by kernel_rfl]
 have e1:(cs.drop 1).take (Tryz.prog.cellsOf 3)=(cs.drop 1).take 1:=by rw[show Tryz.prog.cellsOf 3=1 from by kernel_rfl]
 have e2:(cs.drop 2).take (Tryz.prog.cellsOf 3)=(cs.drop 2).take 1:=by rw[show Tryz.prog.cellsOf 3=1 from by kernel_rfl]
 show cs=(cs.drop 0).take (Tryz.prog.cellsOf 3)++(cs.drop 1).take (Tryz.prog.cellsOf 3)++(cs.drop 2).take (Tryz.prog.cellsOf 3);rw[e0,e1,e2];have z:cs=cs.drop 0:=rfl;have t0:=aq cs 0 1;have t1:=aq cs 1 1;have t2:=aq cs 2 1;have tn:cs.drop 3=[]:=List.drop_eq_nil_of_le (by omega);simp only[Nat.reduceAdd]at t0 t1 t2;have r2:=t2.trans (by rw[tn,List.append_nil]);have r1:=t1.trans (congrArg (_++ ·) r2);have r0:=t0.trans (congrArg (_++ ·) r1);refine z.trans (r0.trans ?_);simp only[List.append_assoc]
def Tz (x:gG):Prop:=True
theorem Tf:fx enc W 26 (dH W (·<W.heap.size)) Tz:=λbZ cs x h dS hz=>by
 obtain⟨xs,n,_,rfl,mH,eV,hf⟩:=DataW.trod_struct Tryz.underlying26 h;have akw:cs.length=15:=mH.trans K_;have hw:∀(j:Nat) (t:TypeId) (y:DataW H × List MemPlace),([3,3,3,3,3,3,3,3,3,3,3,3,3,3,3]:List TypeId)[j]? =some t->xs[j]? =some y->∀n∈y.1.weights Tryz.prog t,n<=reachBytes:=λj t y ht hy n hn=>hz n (by
  simp only[DataW.weights,Tryz.underlying26];exact DataW.weights_mem_each (j:=j) (t:=t) (d:=y.1) ht (by rw[List.getElem?_map,hy];rfl) n hn)
 have h0:=hf 0 _ rfl;obtain⟨y0,kz⟩:∃y,xs[0]? =some y:=⟨_,List.getElem?_eq_getElem (by rw[eV];decide)⟩;obtain⟨a0,q0,z0⟩:=cL _ _ _ (h0.trans kz) (λb cm hb=>dS b cm (List.mem_flatMap.2 ⟨y0,List.mem_of_getElem? kz,hb⟩)) (hw 0 _ y0 rfl kz);have h1:=hf 1 _ rfl;obtain⟨y1,gK⟩:∃y,xs[1]? =some y:=⟨_,List.getElem?_eq_getElem (by rw[eV];decide)⟩;obtain⟨a1,q1,z1⟩:=cL _ _ _ (h1.trans gK) (λb cm hb=>dS b cm (List.mem_flatMap.2 ⟨y1,List.mem_of_getElem? gK,hb⟩)) (hw 1 _ y1 rfl gK);have h2:=hf 2 _ rfl;obtain⟨y2,gS⟩:∃y,xs[2]? =some y:=⟨_,List.getElem?_eq_getElem (by rw[eV];decide)⟩;obtain⟨a2,q2,z2⟩:=cL _ _ _ (h2.trans gS) (λb cm hb=>dS b cm (List.mem_flatMap.2 ⟨y2,List.mem_of_getElem? gS,hb⟩)) (hw 2 _ y2 rfl gS);have h3:=hf 3 _ rfl;obtain⟨y3,pg⟩:∃y,xs[3]? =some y:=⟨_,List.getElem?_eq_getElem (by rw[eV];decide)⟩;obtain⟨a3,q3,z3⟩:=cL _ _ _ (h3.trans pg) (λb cm hb=>dS b cm (List.mem_flatMap.2 ⟨y3,List.mem_of_getElem? pg,hb⟩)) (hw 3 _ y3 rfl pg);have h4:=hf 4 _ rfl;obtain⟨y4,zS⟩:∃y,xs[4]? =some y:=⟨_,List.getElem?_eq_getElem (by rw[eV];decide)⟩;obtain⟨a4,q4,z4⟩:=cL _ _ _ (h4.trans zS) (λb cm hb=>dS b cm (List.mem_flatMap.2 ⟨y4,List.mem_of_getElem? zS,hb⟩)) (hw 4 _ y4 rfl zS);have h5:=hf 5 _ rfl;obtain⟨y5,Ni⟩:∃y,xs[5]? =some y:=⟨_,List.getElem?_eq_getElem (by rw[eV];decide)⟩;obtain⟨a5,q5,z5⟩:=cL _ _ _ (h5.trans Ni) (λb cm hb=>dS b cm (List.mem_flatMap.2 ⟨y5,List.mem_of_getElem? Ni,hb⟩)) (hw 5 _ y5 rfl Ni);have h6:=hf 6 _ rfl;obtain⟨y6,Of⟩:∃y,xs[6]? =some y:=⟨_,List.getElem?_eq_getElem (by rw[eV];decide)⟩;obtain⟨a6,q6,z6⟩:=cL _ _ _ (h6.trans Of) (λb cm hb=>dS b cm (List.mem_flatMap.2 ⟨y6,List.mem_of_getElem? Of,hb⟩)) (hw 6 _ y6 rfl Of);have h7:=hf 7 _ rfl;obtain⟨y7,hy7⟩:∃y,xs[7]? =some y:=⟨_,List.getElem?_eq_getElem (by rw[eV];decide)⟩;obtain⟨a7,q7,z7⟩:=cL _ _ _ (h7.trans hy7) (λb cm hb=>dS b cm (List.mem_flatMap.2 ⟨y7,List.mem_of_getElem? hy7,hb⟩)) (hw 7 _ y7 rfl hy7);have h8:=hf 8 _ rfl;obtain⟨y8,hy8⟩:∃y,xs[8]? =some y:=⟨_,List.getElem?_eq_getElem (by rw[eV];decide)⟩;obtain⟨a8,q8,z8⟩:=cL _ _ _ (h8.trans hy8) (λb cm hb=>dS b cm (List.mem_flatMap.2 ⟨y8,List.mem_of_getElem? hy8,hb⟩)) (hw 8 _ y8 rfl hy8);have h9:=hf 9 _ rfl;obtain⟨y9,hy9⟩:∃y,xs[9]? =some y:=⟨_,List.getElem?_eq_getElem (by rw[eV];decide)⟩;obtain⟨a9,q9,z9⟩:=cL _ _ _ (h9.trans hy9) (λb cm hb=>dS b cm (List.mem_flatMap.2 ⟨y9,List.mem_of_getElem? hy9,hb⟩)) (hw 9 _ y9 rfl hy9);have dl:=hf 10 _ rfl;obtain⟨y10,XO⟩:∃y,xs[10]? =some y:=⟨_,List.getElem?_eq_getElem (by rw[eV];decide)⟩;obtain⟨a10,q10,z10⟩:=cL _ _ _ (dl.trans XO) (λb cm hb=>dS b cm (List.mem_flatMap.2 ⟨y10,List.mem_of_getElem? XO,hb⟩)) (hw 10 _ y10 rfl XO);have dx:=hf 11 _ rfl;obtain⟨y11,Yg⟩:∃y,xs[11]? =some y:=⟨_,List.getElem?_eq_getElem (by rw[eV];decide)⟩;obtain⟨a11,q11,z11⟩:=cL _ _ _ (dx.trans Yg) (λb cm hb=>dS b cm (List.mem_flatMap.2 ⟨y11,List.mem_of_getElem? Yg,hb⟩)) (hw 11 _ y11 rfl Yg);have et:=hf 12 _ rfl;obtain⟨y12,YI⟩:∃y,xs[12]? =some y:=⟨_,List.getElem?_eq_getElem (by rw[eV];decide)⟩;obtain⟨a12,q12,z12⟩:=cL _ _ _ (et.trans YI) (λb cm hb=>dS b cm (List.mem_flatMap.2 ⟨y12,List.mem_of_getElem? YI,hb⟩)) (hw 12 _ y12 rfl YI);have fA:=hf 13 _ rfl;obtain⟨y13,Xr⟩:∃y,xs[13]? =some y:=⟨_,List.getElem?_eq_getElem (by rw[eV];decide)⟩;obtain⟨a13,q13,z13⟩:=cL _ _ _ (fA.trans Xr) (λb cm hb=>dS b cm (List.mem_flatMap.2 ⟨y13,List.mem_of_getElem? Xr,hb⟩)) (hw 13 _ y13 rfl Xr);have gQ:=hf 14 _ rfl;obtain⟨y14,VW⟩:∃y,xs[14]? =some y:=⟨_,List.getElem?_eq_getElem (by rw[eV];decide)⟩;obtain⟨a14,q14,z14⟩:=cL _ _ _ (gQ.trans VW) (λb cm hb=>dS b cm (List.mem_flatMap.2 ⟨y14,List.mem_of_getElem? VW,hb⟩)) (hw 14 _ y14 rfl VW);refine⟨⟨a0,a1,a2,a3,a4,a5,a6,a7,a8,a9,a10,a11,a12,a13,a14⟩,⟨_,_,_,_,_,_,_,_,_,_,_,_,_,_,_,?_,q0,q1,q2,q3,q4,q5,q6,q7,q8,q9,q10,q11,q12,q13,q14⟩,trivial⟩;have e0:(cs.drop 0).take (Tryz.prog.cellsOf 3)=(cs.drop 0).take 1:=by rw[show Tryz.prog.cellsOf 3=1 from by kernel_rfl]
 have e1:(cs.drop 1).take (Tryz.prog.cellsOf 3)=(cs.drop 1).take 1:=by rw[show Tryz.prog.cellsOf 3=1 from by kernel_rfl]
 have e2:(cs.drop 2).take (Tryz.prog.cellsOf 3)=(cs.drop 2).take 1:=by rw[show Tryz.prog.cellsOf 3=1 from by kernel_rfl]
 have e3:(cs.drop 3).take (Tryz.prog.cellsOf 3)=(cs.drop 3).take 1:=by rw[show Tryz.prog.cellsOf 3=1 from by kernel_rfl]
 have e4:(cs.drop 4).take (Tryz.prog.cellsOf 3)=(cs.drop 4).take 1:=by rw[show Tryz.prog.cellsOf 3=1 from by kernel_rfl]
 have e5:(cs.drop 5).take (Tryz.prog.cellsOf 3)=(cs.drop 5).take 1:=by rw[show Tryz.prog.cellsOf 3=1 from by kernel_rfl]
 have e6:(cs.drop 6).take (Tryz.prog.cellsOf 3)=(cs.drop 6).take 1:=by rw[show Tryz.prog.cellsOf 3=1 from by kernel_rfl]
 have e7:(cs.drop 7).take (Tryz.prog.cellsOf 3)=(cs.drop 7).take 1:=by rw[show Tryz.prog.cellsOf 3=1 from by kernel_rfl]
 have e8:(cs.drop 8).take (Tryz.prog.cellsOf 3)=(cs.drop 8).take 1:=by rw[show Tryz.prog.cellsOf 3=1 from by kernel_rfl]
 have e9:(cs.drop 9).take (Tryz.prog.cellsOf 3)=(cs.drop 9).take 1:=by rw[show Tryz.prog.cellsOf 3=1 from by kernel_rfl]
 have e10:(cs.drop 10).take (Tryz.prog.cellsOf 3)=(cs.drop 10).take 1:=by rw[show Tryz.prog.cellsOf 3=1 from by kernel_rfl]
 have e11:(cs.drop 11).take (Tryz.prog.cellsOf 3)=(cs.drop 11).take 1:=by rw[show Tryz.prog.cellsOf 3=1 from by kernel_rfl]
 have e12:(cs.drop 12).take (Tryz.prog.cellsOf 3)=(cs.drop 12).take 1:=by rw[show Tryz.prog.cellsOf 3=1 from by kernel_rfl]
 have e13:(cs.drop 13).take (Tryz.prog.cellsOf 3)=(cs.drop 13).take 1:=by rw[show Tryz.prog.cellsOf 3=1 from by kernel_rfl]
 have e14:(cs.drop 14).take (Tryz.prog.cellsOf 3)=(cs.drop 14).take 1:=by rw[show Tryz.prog.cellsOf 3=1 from by kernel_rfl]
 show cs=(cs.drop 0).take (Tryz.prog.cellsOf 3)++(cs.drop 1).take (Tryz.prog.cellsOf 3)++(cs.drop 2).take (Tryz.prog.cellsOf 3)++(cs.drop 3).take (Tryz.prog.cellsOf 3)++(cs.drop 4).take (Tryz.prog.cellsOf 3)++(cs.drop 5).take (Tryz.prog.cellsOf 3)++(cs.drop 6).take (Tryz.prog.cellsOf 3)++(cs.drop 7).take (Tryz.prog.cellsOf 3)++(cs.drop 8).take (Tryz.prog.cellsOf 3)++(cs.drop 9).take (Tryz.prog.cellsOf 3)++(cs.drop 10).take (Tryz.prog.cellsOf 3)++(cs.drop 11).take (Tryz.prog.cellsOf 3)++(cs.drop 12).take (Tryz.prog.cellsOf 3)++(cs.drop 13).take (Tryz.prog.cellsOf 3)++(cs.drop 14).take (Tryz.prog.cellsOf 3);rw[e0,e1,e2,e3,e4,e5,e6,e7,e8,e9,e10,e11,e12,e13,e14];have z:cs=cs.drop 0:=rfl;have t0:=aq cs 0 1;have t1:=aq cs 1 1;have t2:=aq cs 2 1;have t3:=aq cs 3 1;have t4:=aq cs 4 1;have t5:=aq cs 5 1;have t6:=aq cs 6 1;have t7:=aq cs 7 1;have t8:=aq cs 8 1;have t9:=aq cs 9 1;have t10:=aq cs 10 1;have t11:=aq cs 11 1;have t12:=aq cs 12 1;have t13:=aq cs 13 1;have t14:=aq cs 14 1;have tn:cs.drop 15=[]:=List.drop_eq_nil_of_le (by omega);simp only[Nat.reduceAdd]at t0 t1 t2 t3 t4 t5 t6 t7 t8 t9 t10 t11 t12 t13 t14;have cz:=t14.trans (by rw[tn,List.append_nil]);have ct:=t13.trans (congrArg (_++ ·) cz);have cy:=t12.trans (congrArg (_++ ·) ct);have cA:=t11.trans (congrArg (_++ ·) cy);have cw:=t10.trans (congrArg (_++ ·) cA);have r9:=t9.trans (congrArg (_++ ·) cw);have r8:=t8.trans (congrArg (_++ ·) r9);have r7:=t7.trans (congrArg (_++ ·) r8);have r6:=t6.trans (congrArg (_++ ·) r7);have r5:=t5.trans (congrArg (_++ ·) r6);have r4:=t4.trans (congrArg (_++ ·) r5);have r3:=t3.trans (congrArg (_++ ·) r4);have r2:=t2.trans (congrArg (_++ ·) r3);have r1:=t1.trans (congrArg (_++ ·) r2);have r0:=t0.trans (congrArg (_++ ·) r1);refine z.trans (r0.trans ?_);simp only[List.append_assoc]
theorem Tb:fx enc W 29 (aL W (·<W.heap.size)) szG:=λbZ cs x h dS hz=>by
 obtain⟨xs,n,_,rfl,mH,eV,hf⟩:=DataW.trod_struct Tryz.underlying29 h;have akw:cs.length=21:=mH.trans K_;have hw:∀(j:Nat) (t:TypeId) (y:DataW H × List MemPlace),([9,23,24,26,27]:List TypeId)[j]? =some t->xs[j]? =some y->∀n∈y.1.weights Tryz.prog t,n<=reachBytes:=λj t y ht hy n hn=>hz n (by
  simp only[DataW.weights,Tryz.underlying29];exact DataW.weights_mem_each (j:=j) (t:=t) (d:=y.1) ht (by rw[List.getElem?_map,hy];rfl) n hn)
 have h0:=hf 0 _ rfl;obtain⟨y0,kz⟩:∃y,xs[0]? =some y:=⟨_,List.getElem?_eq_getElem (by rw[eV];decide)⟩;obtain⟨a0,q0,z0⟩:=AD _ _ _ (h0.trans kz) (λb cm hb=>dS b cm (List.mem_flatMap.2 ⟨y0,List.mem_of_getElem? kz,hb⟩)) (hw 0 _ y0 rfl kz);have h1:=hf 1 _ rfl;obtain⟨y1,gK⟩:∃y,xs[1]? =some y:=⟨_,List.getElem?_eq_getElem (by rw[eV];decide)⟩;obtain⟨a1,q1,z1⟩:=acf _ _ _ (h1.trans gK) (λb cm hb=>dS b cm (List.mem_flatMap.2 ⟨y1,List.mem_of_getElem? gK,hb⟩)) (hw 1 _ y1 rfl gK);have h2:=hf 2 _ rfl;obtain⟨y2,gS⟩:∃y,xs[2]? =some y:=⟨_,List.getElem?_eq_getElem (by rw[eV];decide)⟩;obtain⟨a2,q2,z2⟩:=xJ _ _ _ (h2.trans gS) (λb cm hb=>dS b cm (List.mem_flatMap.2 ⟨y2,List.mem_of_getElem? gS,hb⟩)) (hw 2 _ y2 rfl gS);have h3:=hf 3 _ rfl;obtain⟨y3,pg⟩:∃y,xs[3]? =some y:=⟨_,List.getElem?_eq_getElem (by rw[eV];decide)⟩;obtain⟨a3,q3,z3⟩:=Tf _ _ _ (h3.trans pg) (λb cm hb=>dS b cm (List.mem_flatMap.2 ⟨y3,List.mem_of_getElem? pg,hb⟩)) (hw 3 _ y3 rfl pg);have h4:=hf 4 _ rfl;obtain⟨y4,zS⟩:∃y,xs[4]? =some y:=⟨_,List.getElem?_eq_getElem (by rw[eV];decide)⟩;obtain⟨a4,q4,z4⟩:=LM _ _ _ (h4.trans zS) (λb cm hb=>dS b cm (List.mem_flatMap.2 ⟨y4,List.mem_of_getElem? zS,hb⟩)) (hw 4 _ y4 rfl zS);refine⟨⟨a0,a1,a2,a3,a4⟩,⟨_,_,_,_,_,?_,q0,q1,q2,q3,q4⟩,⟨z0,z4⟩⟩;have e0:(cs.drop 0).take (Tryz.prog.cellsOf 9)=(cs.drop 0).take 1:=by rw[show Tryz.prog.cellsOf 9=1 from by kernel_rfl]
 have e1:(cs.drop 1).take (Tryz.prog.cellsOf 23)=(cs.drop 1).take 3:=by rw[show Tryz.prog.cellsOf 23=3 from by kernel_rfl]
 have e2:(cs.drop 4).take (Tryz.prog.cellsOf 24)=(cs.drop 4).take 1:=by rw[show Tryz.prog.cellsOf 24=1 from by kernel_rfl]
 have e3:(cs.drop 5).take (Tryz.prog.cellsOf 26)=(cs.drop 5).take 15:=by rw[show Tryz.prog.cellsOf 26=15 from by kernel_rfl]
 have e4:(cs.drop 20).take (Tryz.prog.cellsOf 27)=(cs.drop 20).take 1:=by rw[show Tryz.prog.cellsOf 27=1 from by kernel_rfl]
 show cs=(cs.drop 0).take (Tryz.prog.cellsOf 9)++(cs.drop 1).take (Tryz.prog.cellsOf 23)++(cs.drop 4).take (Tryz.prog.cellsOf 24)++(cs.drop 5).take (Tryz.prog.cellsOf 26)++(cs.drop 20).take (Tryz.prog.cellsOf 27);rw[e0,e1,e2,e3,e4];have z:cs=cs.drop 0:=rfl;have t0:=aq cs 0 1;have t1:=aq cs 1 3;have t2:=aq cs 4 1;have t3:=aq cs 5 15;have t4:=aq cs 20 1;have tn:cs.drop 21=[]:=List.drop_eq_nil_of_le (by omega);simp only[Nat.reduceAdd]at t0 t1 t2 t3 t4;have r4:=t4.trans (by rw[tn,List.append_nil]);have r3:=t3.trans (congrArg (_++ ·) r4);have r2:=t2.trans (congrArg (_++ ·) r3);have r1:=t1.trans (congrArg (_++ ·) r2);have r0:=t0.trans (congrArg (_++ ·) r1);refine z.trans (r0.trans ?_);simp only[List.append_assoc]
end
end
section
open Go Go.RowKit
def mS (c:Nat):Bool:=decide (32<=c/\c<=126)
def iP (s:ByteArray):Bool:=(List.range s.size).all (λk=>mS (bat s k))&&decide (s.size<=80)
abbrev iH (x:bG):List Value:=[.int .i64 x.account,.int .i64 x.amount,.int .i64 x.partner]
def nZ (x:bG):Prop:=cx x.account/\cx x.amount/\cx x.partner
theorem bc.lit {w:World} {Q:Nat->Prop} {cs:List Value} {x:bG} (h:bc w Q cs x):cs=iH x/\nZ x:=by
 obtain⟨c0,c1,c2,rfl,⟨rfl,h0⟩,⟨rfl,h1⟩,⟨rfl,h2⟩⟩:=h;exact⟨rfl,h0,h1,h2⟩
theorem cK:(Tryz.prog.info? 60).map (·.size)=some 3:=by kernel_rfl
def iS (l:List bG):Int:=(l.map (·.amount)).sum
theorem sI {l:List bG} {k:Nat} (hk:k<l.length):iS (l.take (k+1))=iS (l.take k)+l[k].amount:=by
 unfold iS;rw[List.take_add_one,List.getElem?_eq_getElem hk,List.map_append,List.sum_append];simp
def Pw (l:List bG):Prop:=∀k,-4611686018427387904<=iS (l.take k)/\iS (l.take k)<=4611686018427387904
def Ii (l:List bG):Prop:=(∀x∈l,-1125899906842624<=x.amount/\x.amount<=1125899906842624)/\l.length<=100
theorem Cn {l:List bG} (h:∀x∈l,-1125899906842624<=x.amount/\x.amount<=1125899906842624):∀k:Nat,k<=l.length-> -1125899906842624*(k:Int)<=iS (l.take k)/\iS (l.take k)<=1125899906842624*(k:Int)
 |0,_=>by simp[iS]
 |k+1,hk=>by
  have ih:=Cn h k (by omega);have hb:=h _ (List.getElem_mem (show k<l.length by omega));rw[sI (by omega)];omega
theorem Ii.pre {l:List bG} (h:Ii l):Pw l:=λk=>by
 have h2:=h.2;rcases Nat.lt_or_ge l.length k with hk|hk
 ·have:=Cn h.1 l.length (Nat.le_refl _);rw[List.take_of_length_le (by omega)]at this |-;omega
 ·have:=Cn h.1 k hk;omega
theorem To (s:ByteArray) (w:World) (hs:s.size<=140737488355327):Calls Tryz.prog 216 #[s] w (ap w (.bool (iP s))):=by
 obtain⟨r,hr⟩:=x_ (iP s);rw[hr];have HR:=H_ hr;clear hr;go_enter Tryz.func216,Tryz.ntmps216;go_wp2_with fail
 go_loopw [6] (λi wr=>∃k:Nat,k<=s.size/\i=.int .i64 (k:Int)/\Below w.heap.size w wr/\∀j,j<k->mS (bat s j)=true) (λi _=>s.size- (intOf i).toNat)
 case atStart=>exact⟨0,by omega,rfl,Below.refl _ _,λj hj=>by omega⟩
 case round=>
  obtain⟨k,hk,rfl,hb,hall⟩:=hrel;have HA:=H_ hall;clear hall;by_cases aU:k<s.size
  ·have bq:(k:Int)< (s.size:Int):=by omega
   have HB:=H_ (pH aU);by_cases hc:mS (bat s k)=true
   ·have fP:32<=(s[k].toNat:Int)/\(s[k].toNat:Int)<=126:=by
     have:=hc;rw[HB.o]at this;simp only[mS,decide_eq_true_eq]at this;omega
    have gn:=fP.1;have ot:=fP.2;have HC:=H_ hc;clear hc;go_wp2_with fail;go_roundw
    case rel=>exact⟨k+1,by omega,by go_num,hb,λj hj=>by
     rcases Nat.lt_or_ge j k with h|h
     ·exact HA.o j h
     ·have:j=k:=by omega
      subst this;exact HC.o⟩
    case measure=>
     have e:wrap64 ((k:Int)+1)=((k+1:Nat):Int):=by unfold wrap64;omega
     simp only[intOf,e];omega
   ·have nh:=H_ (show r=false by
     rw[<-HR.o];unfold iP;rw[bt aU (by simpa using hc)];rfl)
    have fP:¬(32<=(s[k].toNat:Int)/\(s[k].toNat:Int)<=126):=by
     have:=hc;rw[HB.o]at this;simp only[mS,decide_eq_true_eq]at this;omega
    clear hc;by_cases gn:(s[k].toNat:Int)<32
    ·go_wp2_with fail;go_ret;exact⟨by rw[nh.o];first|done|rfl,hb⟩
    ·have ot:126< (s[k].toNat:Int):=by omega
     go_wp2_with fail;go_ret;exact⟨by rw[nh.o];first|done|rfl,hb⟩
  ·have bq:¬(k:Int)< (s.size:Int):=by omega
   have JP:k=s.size:=by omega
   have nh:=H_ (show r=decide (s.size<=80) by
    rw[<-HR.o];unfold iP;rw[bQ (λj hj=>HA.o j (by omega)),Bool.true_and])
   clear JP;by_cases h3:s.size<=80
   ·have zl:decide ((s.size:Int)<=80)=true:=decide_eq_true (by omega);have HH:=H_ h3;clear h3;go_wp2_with fail;go_ret;exact⟨by rw[nh.o,decide_eq_true HH.o];first|done|rfl,hb⟩
   ·have zl:decide ((s.size:Int)<=80)=false:=decide_eq_false (by omega);have HH:=H_ (show decide (s.size<=80)=false from decide_eq_false h3);clear h3;go_wp2_with fail;go_ret;exact⟨by rw[nh.o,HH.o];first|done|rfl,hb⟩
theorem EP (s:ByteArray) (w:World) (hs:s.size<=140737488355327):Calls Tryz.prog 123 #[s] w (ap w (.bool (iP s))):=by
 obtain⟨r,hr⟩:=x_ (iP s);rw[hr];have HR:=H_ hr;clear hr;go_enter Tryz.func123,Tryz.ntmps123;go_wp2_with fail
 go_loopw [3] (λi wr=>∃k:Nat,k<=s.size/\i=.int .i64 (k:Int)/\Below w.heap.size w wr/\∀j,j<k->mS (bat s j)=true) (λi _=>s.size- (intOf i).toNat)
 case atStart=>exact⟨0,by omega,rfl,Below.refl _ _,λj hj=>by omega⟩
 case round=>
  obtain⟨k,hk,rfl,hb,hall⟩:=hrel;have HA:=H_ hall;clear hall;by_cases aU:k<s.size
  ·have bq:(k:Int)< (s.size:Int):=by omega
   have HB:=H_ (pH aU);by_cases hc:mS (bat s k)=true
   ·have fP:32<=(s[k].toNat:Int)/\(s[k].toNat:Int)<=126:=by
     have:=hc;rw[HB.o]at this;simp only[mS,decide_eq_true_eq]at this;omega
    have gn:=fP.1;have ot:=fP.2;have HC:=H_ hc;clear hc;go_wp2_with fail;go_roundw
    case rel=>exact⟨k+1,by omega,by go_num,hb,λj hj=>by
     rcases Nat.lt_or_ge j k with h|h
     ·exact HA.o j h
     ·have:j=k:=by omega
      subst this;exact HC.o⟩
    case measure=>
     have e:wrap64 ((k:Int)+1)=((k+1:Nat):Int):=by unfold wrap64;omega
     simp only[intOf,e];omega
   ·have nh:=H_ (show r=false by
     rw[<-HR.o];unfold iP;rw[bt aU (by simpa using hc)];rfl)
    have fP:¬(32<=(s[k].toNat:Int)/\(s[k].toNat:Int)<=126):=by
     have:=hc;rw[HB.o]at this;simp only[mS,decide_eq_true_eq]at this;omega
    clear hc;by_cases gn:(s[k].toNat:Int)<32
    ·go_wp2_with fail;go_ret;exact⟨by rw[nh.o];first|done|rfl,hb⟩
    ·have ot:126< (s[k].toNat:Int):=by omega
     go_wp2_with fail;go_ret;exact⟨by rw[nh.o];first|done|rfl,hb⟩
  ·have bq:¬(k:Int)< (s.size:Int):=by omega
   have JP:k=s.size:=by omega
   have nh:=H_ (show r=decide (s.size<=80) by
    rw[<-HR.o];unfold iP;rw[bQ (λj hj=>HA.o j (by omega)),Bool.true_and])
   clear JP;by_cases h3:s.size<=80
   ·have zl:decide ((s.size:Int)<=80)=true:=decide_eq_true (by omega);have HH:=H_ h3;clear h3;go_wp2_with fail;go_ret;exact⟨by rw[nh.o,decide_eq_true HH.o];first|done|rfl,hb⟩
   ·have zl:decide ((s.size:Int)<=80)=false:=decide_eq_false (by omega);have HH:=H_ (show decide (s.size<=80)=false from decide_eq_false h3);clear h3;go_wp2_with fail;go_ret;exact⟨by rw[nh.o,HH.o];first|done|rfl,hb⟩
theorem ZV (l:List bG) (A:Option Addr) (c:Nat) (w:World) (hl:aj bc 3 w (·<w.heap.size) [.slice A l.length c] l) (hs:Pw l):Calls Tryz.prog 217 #[.slice A l.length c] w (ap w (.int .i64 (iS l))):=by
 obtain⟨r,hr⟩:=x_ (iS l);rw[hr];have HR:=H_ hr;have jw:=hl.cap;obtain⟨n,bj⟩:=x_ (l.length);have HL:=H_ hl;have HN:=H_ bj;have HS:=H_ hs;rw[bj]at jw |-;unfold maxLen at jw;have hn:n<=9223372036854775807:=by omega
 clear hr hl bj hs jw;go_enter Tryz.func217,Tryz.ntmps217;go_wp2_with fail
 go_loopw [3,8] (λs i wr=>∃k:Nat,k<=n/\s=.int .i64 (iS (l.take k))/\i=.int .i64 (k:Int)/\Below w.heap.size w wr) (λ_ i _=>n- (intOf i).toNat)
 case atStart=>exact⟨0,by omega,rfl,rfl,Below.refl _ _⟩
 case round=>
  obtain⟨k,hk,rfl,rfl,hb⟩:=hrel;by_cases aU:k<n
  case pos=>
   have bq:(k:Int)< (n:Int):=by omega
   have bI:k<l.length:=by rw[HN.o];exact aU
   obtain⟨b,o,es,dj,ed,bL,aS⟩:=aj.get HL.o k bI;subst dj;have bE:=(bc.lit bL).1;rw[bE]at aS;have oZ:=H_ (sI bI);have yI:=HS.o k;have yH:=HS.o (k+1);rw[oZ.o]at yH;obtain⟨x,hx⟩:=x_ (l[k]);rw[hx]at aS yH;have HX:=H_ hx;obtain⟨la,lm,lp⟩:=x;simp only at aS yH;obtain⟨S,hS⟩:=x_ (iS (l.take k));rw[hS]at yI yH |-;have CB:=H_ hS;obtain⟨MS,MI⟩:=yI;obtain⟨hB5,hB6⟩:=yH;have lY:=aS.fr (Fr.ofBelow hb);have eZ:=H_ lY.range;clear bL bE aS lY hx hS;go_upto_region 5 with(refine w_ 11 60 10 b (o+k*3) [la,lm,lp] eZ.o cK Tryz.underlying60 ?_);obtain⟨W6,mC,H6,dK,my,ewx⟩:=B_ wr (.cells #[la,lm,lp] 60);rw[mC];clear ewx;clear mC;have c6:=ab H6 1;have dd:=hb.trans (dK.mono hb.size);clear H6;go_wp2_with fail;go_roundw
   case rel=>exact⟨k+1,by omega,by rw[oZ.o,HX.o,CB.o];first|done|go_num,by go_num,dd⟩
   case measure=>first|exact aQ aU|(simp only[intOf];omega)
  case neg=>
   have bq:¬(k:Int)< (n:Int):=by omega
   obtain⟨S,hS⟩:=x_ (iS (l.take k));rw[hS];have hf:=H_ (show r=S by rw[<-HR.o,<-hS,show k=n from by omega,<-HN.o,List.take_length]);clear hS;go_wp2_with fail;go_ret;exact⟨hf.o.symm▸rfl,hb⟩
theorem Tt (l:List bG) (A:Option Addr) (c:Nat) (w:World) (hl:aj bc 3 w (·<w.heap.size) [.slice A l.length c] l) (hs:Pw l):Calls Tryz.prog 89 #[.slice A l.length c] w (ap w (.int .i64 (iS l))):=by
 obtain⟨r,hr⟩:=x_ (iS l);rw[hr];have HR:=H_ hr;have jw:=hl.cap;obtain⟨n,bj⟩:=x_ (l.length);have HL:=H_ hl;have HN:=H_ bj;have HS:=H_ hs;rw[bj]at jw |-;unfold maxLen at jw;have hn:n<=9223372036854775807:=by omega
 clear hr hl bj hs jw;go_enter Tryz.func89,Tryz.ntmps89;go_wp2_with fail
 go_loopw [3,4] (λs i wr=>∃k:Nat,k<=n/\s=.int .i64 (iS (l.take k))/\i=.int .i64 (k:Int)/\Below w.heap.size w wr) (λ_ i _=>n- (intOf i).toNat)
 case atStart=>exact⟨0,by omega,rfl,rfl,Below.refl _ _⟩
 case round=>
  obtain⟨k,hk,rfl,rfl,hb⟩:=hrel;by_cases aU:k<n
  case pos=>
   have bq:(k:Int)< (n:Int):=by omega
   have bI:k<l.length:=by rw[HN.o];exact aU
   obtain⟨b,o,es,dj,ed,bL,aS⟩:=aj.get HL.o k bI;subst dj;have bE:=(bc.lit bL).1;rw[bE]at aS;have oZ:=H_ (sI bI);have yI:=HS.o k;have yH:=HS.o (k+1);rw[oZ.o]at yH;obtain⟨x,hx⟩:=x_ (l[k]);rw[hx]at aS yH;have HX:=H_ hx;obtain⟨la,lm,lp⟩:=x;simp only at aS yH;obtain⟨S,hS⟩:=x_ (iS (l.take k));rw[hS]at yI yH |-;have CB:=H_ hS;obtain⟨MS,MI⟩:=yI;obtain⟨hB5,hB6⟩:=yH;have lY:=aS.fr (Fr.ofBelow hb);have c6:=lY.c (j:=1) rfl;clear bL bE aS lY hx hS;go_wp2_with fail;go_roundw
   case rel=>exact⟨k+1,by omega,by rw[oZ.o,HX.o,CB.o];first|done|go_num,by go_num,hb⟩
   case measure=>first|exact aQ aU|(simp only[intOf];omega)
  case neg=>
   have bq:¬(k:Int)< (n:Int):=by omega
   obtain⟨S,hS⟩:=x_ (iS (l.take k));rw[hS];have hf:=H_ (show r=S by rw[<-HR.o,<-hS,show k=n from by omega,<-HN.o,List.take_length]);clear hS;go_wp2_with fail;go_ret;exact⟨hf.o.symm▸rfl,hb⟩
theorem Ex {n:Int} (hy:inY (n/ 12)):ff n+1=da (n+1):=by
 unfold ff da;obtain⟨k,hk⟩:∃k:Nat,n%12=(k:Int):=⟨(n%12).toNat,by omega⟩;rcases Int.lt_or_le (n%12) 11 with h|h
 ·rw[show(n+1) / 12=n/ 12 by omega,show((n+1) %12).toNat=k+1 by omega,show(n%12).toNat=k by omega,cH,hk];omega
 ·rw[show(n+1) / 12=n/ 12+1 by omega,show((n+1) %12).toNat=0 by omega,show(n%12).toNat=11 by omega,show n%12+1=12 by omega];have h1:=sH hy;have h2:=jj (n/ 12);have h3:cH (n/ 12) 12=cH (n/ 12) 11+ck (n/ 12) 12:=by rw[cH];rfl
  have h4:cH (n/ 12+1) 0=0:=rfl;omega
theorem Pf {a b:Int} (ha:inY (a/ 12)) (hb:inY (b/ 12)) (h:a<=b):da a<=da b:=by
 by_cases e:a/ 12=b/ 12
 ·unfold da;rw[e];have:=oM (y:=b/ 12) (show(a%12).toNat<=(b%12).toNat by omega);omega
 ·have h1:=(im ha).year;have h2:=(im hb).year;have h3:=gN (show a/ 12+1<=b/ 12 by omega);omega
theorem Hh {a b:Int} (ha:inY (a/ 12)) (hb:inY (b/ 12)) (h:a<b):ff a<da b:=by
 have h1:=Ex ha;have h2:=Pf (a:=a+1) (b:=b) (by unfold inY at*;omega) hb (by omega);omega
theorem Jl {a:Int} (ha:inY (a/ 12)):da a<=ff a:=by
 have h1:=(im ha).2.2.2.2.1;unfold ff;omega
theorem SF {d y m k:Int} (h:qP d y m k):da (12*y+m- 1)<=d/\d<=ff (12*y+m- 1)/\(12*y+m- 1) / 12=y:=by
 obtain⟨hy,h1,h2,h3,h4,h5⟩:=h;have e1:(12*y+m- 1) / 12=y:=by omega
 have e2:(12*y+m- 1) %12=m- 1:=by omega
 unfold ff da;rw[e1,e2,show m- 1+1=m by omega];exact⟨by omega,by omega,rfl⟩
def rm (y m n d:Int):Option Nat:=(List.range n.toNat).find? (λp=>decide (da (bw y m p)<=d/\d<=ff (bw y m p)))
def cT (y m n d:Int):Int × Int:=match rm y m n d with
 |some p=>((p:Int),0)
 |none=>(0,2)
def jL (y m n d:Int):Bool:=decide (da (bw y m 0)<=d/\d<=ff (bw y m (n- 1)))
section
variable {y m n d:Int}
theorem ox (hc:du y m n=true) {p:Nat} (hp:p<n.toNat):inY (bw y m p/ 12):=(ig hc (q:=(p:Int)) (by omega) (by omega)).2.2.2.2.2
theorem rn (hc:du y m n=true) {p:Nat} (h:rm y m n d=some p):p<n.toNat/\da (bw y m p)<=d/\d<=ff (bw y m p):=by
 unfold rm at h;have h1:=List.find?_some h;have h2:=List.mem_of_find?_eq_some h;exact⟨List.mem_range.1 h2,by simpa using h1⟩
theorem Pv (hc:du y m n=true) {N:Int} (hN:inY (N/ 12)) (h1:da N<=d) (h2:d<=ff N) {p:Nat} (hp:p<n.toNat) (h3:da (bw y m p)<=d) (h4:d<=ff (bw y m p)):bw y m p=N:=by
 have hq:=ox hc hp;rcases Int.lt_trichotomy (bw y m p) N with h|h|h
 ·have:=Hh hq hN h;omega
 ·exact h
 ·have:=Hh hN hq h;omega
theorem Tl (hc:du y m n=true) {y' m' k:Int} (h:qP d y' m' k):cT y m n d=if 12*y'+m'- 12*y- m<0\/n<=12*y'+m'- 12*y- m then(0,2)else(12*y'+m'- 12*y- m,0):=by
 obtain⟨h1,h2,h3⟩:=SF h;have hN:inY ((12*y'+m'- 1) / 12):=by rw[h3];exact h.1
 have hn:=(ig hc (q:=0) (by omega) (by have:=of_decide_eq_true hc;omega)).2.2.2.1;unfold cT;cases hp:rm y m n d with
 |some p=>
  obtain⟨a1,a2,a3⟩:=rn hc hp;have e:=Pv hc hN h1 h2 a1 a2 a3;unfold bw at e;rw[if_neg (by omega)];simp only[Prod.mk.injEq,and_true];omega
 |none=>
  rw[if_pos];rcases Int.lt_or_le (12*y'+m'- 12*y- m) 0 with h0|h0
  ·exact Or.inl h0
  ·right;rcases Int.lt_or_le (12*y'+m'- 12*y- m) n with h5|h5
   ·exfalso
    unfold rm at hp;rw[List.find?_eq_none]at hp;have:=hp (12*y'+m'- 12*y- m).toNat (List.mem_range.2 (by omega));apply this;have e:bw y m ((12*y'+m'- 12*y- m).toNat:Int)=12*y'+m'- 1:=by unfold bw;omega
    rw[e];exact decide_eq_true ⟨h1,h2⟩
   ·exact h5
theorem Jt (hc:du y m n=true) {p:Nat} (hp:p<n.toNat) (h3:da (bw y m p)<=d) (h4:d<=ff (bw y m p)):inD d:=by
 have hq:=ox hc hp;have a:=oE hq;have b:=(im hq).year;have hb:=gN (show bw y m p/ 12+1<=2200 by have:=hq.2;omega);rw[tZ]at hb;have h5:ff (bw y m p)<bM (bw y m p/ 12+1):=by
  have hd:=nR (y:=bw y m p/ 12) (m:=bw y m p%12+1) hq (by omega) (by omega);have hci:qP (ff (bw y m p)) (bw y m p/ 12) (bw y m p%12+1) (ck (bw y m p/ 12) (bw y m p%12+1)):=by
   refine⟨hq,by omega,by omega,by omega,Int.le_refl _,?_⟩;unfold ff da;rw[show bw y m p%12+1- 1=bw y m p%12 from by omega]
  exact hci.year.2
 unfold inD at*;have:=hq.2;omega
theorem Tn (hc:du y m n=true) (h:¬inD d):cT y m n d=(0,2):=by
 unfold cT;cases hp:rm y m n d with
 |none=>rfl
 |some p=>
  obtain⟨a1,a2,a3⟩:=rn hc hp;exact absurd (Jt hc a1 a2 a3) h
theorem Pu (hc:du y m n=true):(cT y m n d).2=if jL y m n d=true then 0 else 2:=by
 have hn:=of_decide_eq_true hc;have h0:=ox hc (p:=0) (by omega);have h9:=ox hc (p:=(n- 1).toNat) (by omega);have e9:bw y m ((n- 1).toNat:Int)=bw y m (n- 1):=by unfold bw;omega
 rw[e9]at h9;have h0':inY (bw y m 0/ 12):=h0;unfold cT;cases hp:rm y m n d with
 |some p=>
  obtain⟨a1,a2,a3⟩:=rn hc hp;have hq:=ox hc a1;rw[if_pos];refine decide_eq_true ⟨Int.le_trans (Pf h0' hq (by unfold bw;omega)) a2,?_⟩;rcases Int.lt_or_le (bw y m p) (bw y m (n- 1))with h|h
  ·have:=Hh hq h9 h;have:=Jl h9;omega
  ·have:bw y m p=bw y m (n- 1):=by unfold bw at h |-;omega
   rw[<-this];exact a3
 |none=>
  rw[if_neg];intro lN;obtain⟨b1,b2⟩:=of_decide_eq_true lN;have ir:∀j:Nat,j<n.toNat->da (bw y m j)<=d:=by
   intro j
   induction j with
   |zero=>exact λ_=>b1
   |succ j ih=>
    intro hj;have hq:=ox hc (p:=j) (by omega);have h1:=ih (by omega);have h2:=Ex hq;have e:bw y m j+1=bw y m ((j+1:Nat):Int):=by unfold bw;omega
    rw[e]at h2;unfold rm at hp;rw[List.find?_eq_none]at hp;have h3:=hp j (List.mem_range.2 (by omega));have h4:¬(da (bw y m j)<=d/\d<=ff (bw y m j)):=by simpa using h3
    omega
  have h1:=ir (n- 1).toNat (by omega);unfold rm at hp;rw[List.find?_eq_none]at hp;have h3:=hp (n- 1).toNat (List.mem_range.2 (by omega));apply h3;rw[e9]at h1 |-;exact decide_eq_true ⟨h1,b2⟩
end
theorem bV:(Tryz.prog.info? 23).map (·.size)=some 3:=by kernel_rfl
theorem xP (y m n d:Int) (w:World) (hc:du y m n=true) (hd:cx d):Calls Tryz.prog 54 #[.agg #[y,m,n],d] w (ap w (.tuple #[.int .i64 (cT y m n d).1,.int .i64 (cT y m n d).2])):=by
 obtain⟨r,hr⟩:=x_ (cT y m n d);rw[hr];have jE:=of_decide_eq_true hc;obtain⟨nx,jA,VE,oO,⟨gK,gS⟩,_⟩:=jE;have HC:=H_ hc;have HR:=H_ hr;have HD:=H_ hd;clear hc hr hd;go_enter Tryz.func54,Tryz.ntmps54;go_upto_region 1 with fail;obtain⟨W,Q5,H0,Fx,HS0,ewx⟩:=B_ w (.cells #[y,m,n] 23);rw[Q5];clear ewx;clear Q5;have HG:=H_ H0;clear H0;go_wp2_with (refine W_ 11 23 2 w.heap.size HG.o bV Tryz.underlying23 ?_);refine(mJ y m n W).mono ?_;rintro e w2 ⟨rfl,aH⟩;rw[HC.o];have aF:=Fx.trans (aH.mono Fx.size);have CD:=k_ aH HG;go_wp2_with fail;refine(I9 d w2 HD.o).mono ?_;rintro e w3 ⟨y',m',k',er,rfl,aZ,hp⟩;have aR:=aF.trans (aZ.mono aF.size);have H3:=(aZ.block _ (Nat.lt_of_lt_of_le HS0 aH.size)).trans CD.o;have c0:=ab H3 0;have c1:=ab H3 1;have c2:=ab H3 2;clear H3;rcases hp with⟨_,rfl,hp⟩|⟨hp,rfl,rfl,rfl,rfl⟩
 case inr=>
  have hf:=H_ (show r=(0,2)from HR.o.symm.trans (Tn HC.o hp));clear hp;go_wp2_with fail;go_ret2;exact⟨hf.o.symm▸rfl,aR⟩
 case inl=>
 obtain⟨⟨pg,zS⟩,hm3,hm4,_⟩:=id hp;have HP:=H_ (Tl HC.o hp);clear hp;rw[HR.o]at HP;have bU: -9000000000<=12*y'+m'- 12*y- m/\12*y'+m'- 12*y- m<=9000000000:=by omega
 obtain⟨cP,dd⟩:=bU;by_cases h1:12*y'+m'- 12*y- m<0
 case pos=>
  have hf:=H_ (show r=(0,2) by rw[HP.o,if_pos (Or.inl h1)]);go_wp2_with fail;go_ret2;exact⟨hf.o.symm▸rfl,aR⟩
 case neg=>
 by_cases h2:n<=12*y'+m'- 12*y- m
 case pos=>
  have hf:=H_ (show r=(0,2) by rw[HP.o,if_pos (Or.inr h2)]);go_wp2_with fail;go_ret2;exact⟨hf.o.symm▸rfl,aR⟩
 case neg=>
  have hf:=H_ (show r=(12*y'+m'- 12*y- m,0) by rw[HP.o,if_neg (by omega)]);go_wp2_with fail;go_ret2;exact⟨hf.o.symm▸rfl,aR⟩
theorem GD {y m n:Int} (hc:du y m n=true):aX y m n 0=(da (bw y m 0),0):=by
 have hn:=of_decide_eq_true hc;unfold aX bo;rw[if_pos (by rw[if_pos hc,if_pos (by omega)])]
theorem KV {y m n:Int} (hc:du y m n=true):bH y m n (n- 1)=(ff (bw y m (n- 1)),0):=by
 have hn:=of_decide_eq_true hc;unfold bH bo;rw[if_pos (by rw[if_pos hc,if_pos (by omega)])]
theorem SX (y m n d:Int) (w:World) (hc:du y m n=true):Calls Tryz.prog 88 #[.agg #[y,m,n],d] w (ap w (.bool (jL y m n d))):=by
 obtain⟨r,hr⟩:=x_ (jL y m n d);rw[hr];have jE:=of_decide_eq_true hc;obtain⟨nx,jA,VE,oO,_⟩:=jE;have HC:=H_ hc;have HR:=H_ hr;have h0:=H_ (GD hc);have h9:=H_ (KV hc);obtain⟨A,hA⟩:=x_ (da (bw y m 0));obtain⟨B,hB⟩:=x_ (ff (bw y m (n- 1)));rw[hA]at h0;rw[hB]at h9;have V8:=H_ (show r=decide (A<=d/\d<=B) by rw[<-hr,<-hA,<-hB];rfl);clear hc hr hA hB;go_enter Tryz.func88,Tryz.ntmps88;go_upto_region 1 with fail;obtain⟨W,Q5,H0,Fx,HS0,ewx⟩:=B_ w (.cells #[y,m,n] 23);rw[Q5];clear ewx;clear Q5;have HG:=H_ H0;clear H0;go_wp2_with (refine W_ 10 23 2 w.heap.size HG.o bV Tryz.underlying23 ?_);refine(ju y m n 0 W).mono ?_;rintro e w2 ⟨rfl,aH⟩;rw[h0.o];have aF:=Fx.trans (aH.mono Fx.size);have CD:=k_ aH HG;have c2:=ab CD.o 2;go_wp2_with (refine W_ 15 23 2 w.heap.size CD.o bV Tryz.underlying23 ?_);refine(eS y m n (n- 1) w2).mono ?_;rintro e w3 ⟨rfl,aZ⟩;rw[h9.o];have aR:=aF.trans (aZ.mono aF.size);by_cases h1:A<=d
 case neg=>
  have hf:=H_ (show r=false by rw[V8.o];exact decide_eq_false (λh=>h1 h.1));have h1':¬d≥A:=h1;go_wp2_with fail;go_ret;exact⟨hf.o.symm▸rfl,aR⟩
 case pos=>
 have h1':d≥A:=h1;by_cases h2:d<=B
 case neg=>
  have hf:=H_ (show r=false by rw[V8.o];exact decide_eq_false (λh=>h2 h.2));have tt:decide (d<=B)=false:=decide_eq_false h2;go_wp2_with fail;go_ret;exact⟨hf.o.symm▸rfl,aR⟩
 case pos=>
  have hf:=H_ (show r=true by rw[V8.o];exact decide_eq_true ⟨h1,h2⟩);go_wp2_with fail;go_ret;exact⟨hf.o.symm▸rfl,aR⟩
def lu (ne ent:Int) (l:bG):Bool:=decide (l.amount≠0)&&sw l.amount&&decide (-1<=l.partner)&&decide (l.partner<ne)&&decide (l.partner≠ent)
def agS (gv:Bool) (ne:Int) (x:ak):Bool:=gv&&decide (1<=x.id)&&decide (0<=x.entity)&&decide (x.entity<ne)&&decide (1<=x.kind)&&decide (x.kind<=3)&&decide (x.kind=3->1<=x.of_)&&decide (x.kind≠3->x.of_=0)&&iP x.text&&decide (2<=x.lines.length)&&decide (x.lines.length<=40)&&x.lines.all (lu ne x.entity)
def mI (gv:Bool) (ne:Int) (x:ak):Prop:=gv=true/\1<=x.id/\0<=x.entity/\x.entity<ne/\1<=x.kind/\x.kind<=3/\(x.kind=3->1<=x.of_)/\(x.kind≠3->x.of_=0)/\iP x.text=true/\2<=x.lines.length/\x.lines.length<=40/\∀l∈x.lines,lu ne x.entity l=true
theorem en (gv:Bool) (ne:Int) (x:ak):agS gv ne x=true↔mI gv ne x:=by
 unfold agS mI;simp only[Bool.and_eq_true,decide_eq_true_eq,List.all_eq_true,and_assoc]
theorem kj (ne ent:Int) (l:bG):lu ne ent l=true↔l.amount≠0/\sw l.amount=true/\ -1<=l.partner/\l.partner<ne/\l.partner≠ent:=by
 unfold lu;simp only[Bool.and_eq_true,decide_eq_true_eq,and_assoc]
theorem aY:(Tryz.prog.info? 51).map (·.size)=some 7:=by kernel_rfl
theorem O4 (G:Array Value) (Ae:Option Addr) (ne ce:Nat) (gv:Bool) (xi xe xd xk xo:Int) (xt:ByteArray) (ls:List bG) (Al:Option Addr) (cl:Nat) (w:World) (Yo:G.size=21) (CM:G[20]? =some (.slice Ae ne ce)) (bT:ne<=1000)
 (hv:∀w2:World,Below w.heap.size w w2->Calls Tryz.prog 103 #[.agg G] w2 (ap w2 (.bool gv))) (hx:cx xi/\cx xe/\cx xd/\cx xk/\cx xo) (ry:xt.size<=140737488355327) (hl:aj bc 3 w (·<w.heap.size) [.slice Al ls.length cl] ls):Calls Tryz.prog 191 #[.agg G,.agg #[xi,xe,xd,xk,xo,xt,.slice Al ls.length cl]] w (ap w (.int .i64 (if agS gv ne ⟨xi,xe,xd,xk,xo,xt,ls⟩=true then 0 else 1))):=by
 obtain⟨r,hr⟩:=x_ (agS gv ne ⟨xi,xe,xd,xk,xo,xt,ls⟩);have Rp:r=true->mI gv ne ⟨xi,xe,xd,xk,xo,xt,ls⟩:=λh=>(en _ _ _).1 (hr.trans h)
 have Rf:mI gv ne ⟨xi,xe,xd,xk,xo,xt,ls⟩->r=true:=λh=>hr.symm.trans ((en _ _ _).2 h)
 rw[hr];unfold mI at Rp Rf;simp only at Rp Rf;have oN:=H_ Rp;have HFT:=H_ Rf;have jw:=hl.cap;obtain⟨nl,bj⟩:∃n,ls.length=n:=⟨_,rfl⟩;have HL:=H_ hl;have HN:=H_ bj;have rU:=H_ CM;have fu:=H_ Yo;have HV:=H_ hv;rw[bj]at jw |-;unfold maxLen at jw;have Sb:nl<=9223372036854775807:=by omega
 obtain⟨⟨R4,aem⟩,⟨rQ,acV⟩,_,⟨hxk,adb⟩,⟨hxo,adi⟩⟩:=hx;clear hr Rp Rf hl bj Yo CM hv jw;obtain⟨R,hR⟩:=x_ ((if r=true then(0:Int)else 1));rw[hR];have HE:=H_ hR.symm;clear hR;go_enter Tryz.func191,Tryz.ntmps191;go_upto_region 1 with fail;obtain⟨W,hW,H,HB,HS,ewx⟩:=B_ w (.cells G 29);rw[hW];clear ewx;obtain⟨W2,fR,H2,dz,jK,ewx⟩:=B_ W (.cells #[xi,xe,xd,xk,xo,xt,.slice Al nl cl] 51);rw[fR];replace H:=(dz.block _ (ag H)).trans H;clear ewx;clear fR;have eW:W.heap.size=w.heap.size+1:=by rw[<-hW];simp
 rw[eW]at H2;clear hW;have aH:=HB.trans (dz.mono HB.size);have dW:=dz.size;have lV:=ag H2;have nf:w.heap.size<W2.heap.size:=by omega
 have HH:=H_ H;have HZ:=H_ H2;have EW:=H_ eW;clear H H2 eW;have aF:=aH;have ku:=nf;have kt:=lV;have dn:=HH;have qN:=HZ;have iJ:=(ab dn.o 20).trans rU.o;go_wp2_with (refine W_ 12 29 2 (w.heap.size) dn.o (by rw[ay];exact congrArg some fu.o.symm) Tryz.underlying29 ?_);refine(HV.o W2 aH).mono ?_;rintro e w3 ⟨rfl,aZ⟩;have aR:=aF.trans (aZ.mono aF.size);have lE:=aZ.size;have nD:=Nat.lt_of_lt_of_le ku lE;have nK:=Nat.lt_of_lt_of_le kt lE;have kS:=k_ aZ dn;have l7:=k_ aZ qN;have e0:=ab l7.o 0;have e1:=ab l7.o 1;have e3:=ab l7.o 3;have e4:=ab l7.o 4;have e5:=ab l7.o 5;cases gv with
 |false=>
  have hf:=H_ (show r=false by exact Bool.eq_false_iff.2 (λh0=>absurd (oN.o h0).1 (by decide)));go_wp2_with fail;go_ret;exact⟨by rw[HE.o,hf.o];first|done|rfl,aR⟩
 |true=>
 by_cases mA:1<=xi
 case neg=>
  have hf:=H_ (show r=false by exact Bool.eq_false_iff.2 (λh0=>absurd (oN.o h0).2.1 mA));go_wp2_with fail;go_ret;exact⟨by rw[HE.o,hf.o];first|done|rfl,aR⟩
 case pos=>
 by_cases TU:0<=xe
 case neg=>
  have hf:=H_ (show r=false by exact Bool.eq_false_iff.2 (λh0=>absurd (oN.o h0).2.2.1 TU));go_wp2_with fail;go_ret;exact⟨by rw[HE.o,hf.o];first|done|rfl,aR⟩
 case pos=>
 have hen':True:=trivial;by_cases iu:xe< (ne:Int)
 case neg=>
  have aap:(ne:Int)<=xe:=by omega
  have ae4:xe≥(ne:Int):=aap;have hf:=H_ (show r=false by exact Bool.eq_false_iff.2 (λh0=>absurd (oN.o h0).2.2.2.1 iu));go_wp2_with fail;go_ret;exact⟨by rw[HE.o,hf.o];first|done|rfl,aR⟩
 case pos=>
 have aap:¬xe≥(ne:Int):=by omega
 by_cases Dm:1<=xk
 case neg=>
  have hf:=H_ (show r=false by exact Bool.eq_false_iff.2 (λh0=>absurd (oN.o h0).2.2.2.2.1 Dm));go_wp2_with fail;go_ret;exact⟨by rw[HE.o,hf.o];first|done|rfl,aR⟩
 case pos=>
 by_cases lO:xk<=3
 case neg=>
  have hk4:xk>3:=by omega
  have hf:=H_ (show r=false by exact Bool.eq_false_iff.2 (λh0=>absurd (oN.o h0).2.2.2.2.2.1 lO));go_wp2_with fail;go_ret;exact⟨by rw[HE.o,hf.o];first|done|rfl,aR⟩
 case pos=>
 have hk4:¬xk>3:=by omega
 have ir:∀(K:Prop),((xk=3->1<=xo)/\(xk≠3->xo=0)->K)->((¬((xk=3->1<=xo)/\(xk≠3->xo=0)))->K)->K:=λK a b=>by
  by_cases h:(xk=3->1<=xo)/\(xk≠3->xo=0)
  ·exact a h
  ·exact b h
 have KEY:=H_ ir;clear ir;refine KEY.o _ (λQL=>?_) (λQL=>?_)
 case refine_2=>
  clear KEY;have hf:=H_ (show r=false from Bool.eq_false_iff.2 (λh0=>QL ⟨(oN.o h0).2.2.2.2.2.2.1,(oN.o h0).2.2.2.2.2.2.2.1⟩));by_cases hk:xk=3
  case pos=>
   have ho:xo<1:=by
    rcases Int.lt_or_le xo 1 with h|h
    ·exact h
    ·exact absurd ⟨λ_=>h,λh=>absurd hk h⟩ QL
   clear QL;subst hk;go_wp2_with fail;go_ret;exact⟨by rw[HE.o,hf.o];first|done|rfl,aR⟩
  case neg=>
   have ho:¬xo=0:=λh=>QL ⟨λh=>absurd h hk,λ_=>h⟩
   clear QL;have Dm:(xk==3)=false:=by simpa using hk
   have Iv:(xk !=3)=true:=by simpa using hk
   have Mt:(xo !=0)=true:=by simpa using ho
   go_wp2_with fail;go_ret;exact⟨by rw[HE.o,hf.o];first|done|rfl,aR⟩
 case refine_1=>
 clear KEY;have IS:=H_ QL
 -- the tests of the kind are passed
 have aav:(xk=3/\1<=xo)\/(¬xk=3/\xo=0):=by
  by_cases hk:xk=3
  ·exact Or.inl ⟨hk,QL.1 hk⟩
  ·exact Or.inr ⟨hk,QL.2 hk⟩
 clear QL;obtain⟨pt,N6⟩:∃v,iP xt=v:=⟨_,rfl⟩;have rD:=H_ (λw2:World=>To xt w2 ry);rw[N6]at rD;have Vz:=H_ N6;clear N6;rcases aav with⟨hk,ho⟩|⟨hk,ho⟩
 case' inl=>
  have Iv:(xk==3)=true:=by simpa using hk
  have CC:¬xo<1:=by omega
  have HK:=H_ hk;clear hk
 case' inr=>
  have Iv:(xk==3)=false:=by simpa using hk
  have CC:(xo !=0)=false:=by simpa using ho
  have HK:=H_ hk;clear hk
 case' inl=>have Sc:(xk !=3)=false:=by simp[HK.o]
 case' inr=>have Sc:(xk !=3)=true:=by simpa using HK.o
 case' inl=>clear ho
 case' inr=>clear ho
 all_goals
  go_wp2_with fail;refine(rD.o w3).mono ?_;rintro e w4 ⟨rfl,bU⟩;clear Iv Sc CC HK;have bD:=aR.trans (bU.mono aR.size);have yJ:=bU.size;have tx:=Nat.lt_of_lt_of_le nD yJ;have rR:=Nat.lt_of_lt_of_le nK yJ;have oW:=k_ bU kS;have kX:=k_ bU l7;have e6:=ab kX.o 6;cases pt with
  |false=>
   have hf:=H_ (show r=false by exact Bool.eq_false_iff.2 (λh0=>absurd (oN.o h0).2.2.2.2.2.2.2.2.1 (by rw[Vz.o];decide)));go_wp2_with fail;go_ret;exact⟨by rw[HE.o,hf.o];first|done|rfl,bD⟩
  |true=>
  by_cases vl:2<=nl
  case neg=>
   have Gh:(nl:Int)<2:=by omega
   have hf:=H_ (show r=false by exact Bool.eq_false_iff.2 (λh0=>vl (by rw[<-HN.o];exact(oN.o h0).2.2.2.2.2.2.2.2.2.1)));go_wp2_with fail;go_ret;exact⟨by rw[HE.o,hf.o];first|done|rfl,bD⟩
  case pos=>
  have Gh:¬(nl:Int)<2:=by omega
  by_cases Fg:nl<=40
  case neg=>
   have ael:(nl:Int)>40:=by omega
   have hf:=H_ (show r=false by exact Bool.eq_false_iff.2 (λh0=>Fg (by rw[<-HN.o];exact(oN.o h0).2.2.2.2.2.2.2.2.2.2.1)));go_wp2_with fail;go_ret;exact⟨by rw[HE.o,hf.o];first|done|rfl,bD⟩
  case pos=>
  have ael:¬(nl:Int)>40:=by omega
  go_wp2_with fail;clear e6
  go_loopw [64] (λi wr=>∃k:Nat,k<=nl/\i=.int .i64 (k:Int)/\Below w4.heap.size w4 wr/\∀j (hj:j<ls.length),j<k->lu ne xe ls[j]=true) (λi _=>nl- (intOf i).toNat)
  case atStart=>exact⟨0,by omega,rfl,Below.refl _ _,λj hj h=>by omega⟩
  case round=>
   obtain⟨k,Fi,rfl,hb,hall⟩:=hrel;have HA:=H_ hall;clear hall;by_cases aU:k<nl
   case pos=>
    have bq:(k:Int)< (nl:Int):=by omega
    have bI:k<ls.length:=by rw[HN.o];exact aU
    obtain⟨b,o,es,dj,ed,bL,aS⟩:=aj.get HL.o k bI;subst dj;have bE:=(bc.lit bL).1;have jE:=(bc.lit bL).2;rw[bE]at aS;have ld:=H_ (List.getElem_mem bI);obtain⟨x,hx⟩:=x_ (ls[k]);rw[hx]at aS jE ld;have HX:=H_ hx;obtain⟨la,lm,lp⟩:=x;have jD:=H_ (λh=>(kj ne xe ⟨la,lm,lp⟩).1 h);have Bp:=H_ (λh=>(kj ne xe ⟨la,lm,lp⟩).2 h)
    try simp only at aS
    obtain⟨_,⟨nx,jA⟩,⟨QQ,hp2⟩⟩:=jE;simp only at nx jA QQ hp2;have lY:=(aS.fr (Fr.ofBelow bD)).fr (Fr.ofBelow (hb.mono bD.size));have eZ:=H_ lY.range;have ae8:=Nat.lt_of_lt_of_le tx hb.size;have abu:=Nat.lt_of_lt_of_le rR hb.size;have HZr:=k_ hb kX;clear bL bE aS lY hx;go_upto_region 19 with(refine w_ 67 60 66 b (o+k*3) [la,lm,lp] eZ.o cK Tryz.underlying60 ?_);obtain⟨W6,mC,H6,dK,my,ewx⟩:=B_ wr (.cells #[la,lm,lp] 60);rw[mC];clear ewx;clear mC;have QP:=H_ H6;have c1:=ab QP.o 1;have c2:=ab QP.o 2;clear H6;have dd:=hb.trans (dK.mono hb.size);have fi:=bD.trans (dd.mono bD.size);by_cases ha:lm=0
    case pos=>
     have ha1:(lm==0)=true:=by simpa using ha
     have hf:=H_ (show r=false from Bool.eq_false_iff.2 (λh0=>absurd ((jD.o ((oN.o h0).2.2.2.2.2.2.2.2.2.2.2 _ ld.o)).1) (λh=>h ha)));go_wp2_with fail;go_ret;exact⟨by rw[HE.o,hf.o];first|done|rfl,fi⟩
    case neg=>
    have ha1:(lm==0)=false:=by simpa using ha
    obtain⟨mv,Yb⟩:∃v,sw lm=v:=⟨_,rfl⟩;have aM:=S8 lm W6;rw[Yb]at aM;have Fj:=H_ Yb;have eE:=H_ aM;clear Yb aM;go_wp2_with fail;refine eE.o.mono ?_;rintro e w7 ⟨rfl,fC⟩;have aat:=dd.trans (fC.mono dd.size);have gb:=bD.trans (aat.mono bD.size);clear c1 c2;have c2:=ab ((fC.block _ my).trans QP.o) 2;have e1:=ab ((fC.block _ (Nat.lt_of_lt_of_le abu dK.size)).trans ((dK.block _ abu).trans HZr.o)) 1;cases mv with
    |false=>
     have hf:=H_ (show r=false from Bool.eq_false_iff.2 (λh0=>absurd ((jD.o ((oN.o h0).2.2.2.2.2.2.2.2.2.2.2 _ ld.o)).2.1) (by rw[Fj.o];decide)));go_wp2_with fail;go_ret;exact⟨by rw[HE.o,hf.o];first|done|rfl,gb⟩
    |true=>
    by_cases mF: -1<=lp
    case neg=>
     have hq1':lp< -1:=by omega
     have hf:=H_ (show r=false from Bool.eq_false_iff.2 (λh0=>absurd ((jD.o ((oN.o h0).2.2.2.2.2.2.2.2.2.2.2 _ ld.o)).2.2.1) mF));go_wp2_with fail;go_ret;exact⟨by rw[HE.o,hf.o];first|done|rfl,gb⟩
    case pos=>
    have hq1':¬lp< -1:=by omega
    by_cases lc:lp< (ne:Int)
    case neg=>
     have hq2':lp≥(ne:Int):=by omega
     have hf:=H_ (show r=false from Bool.eq_false_iff.2 (λh0=>absurd ((jD.o ((oN.o h0).2.2.2.2.2.2.2.2.2.2.2 _ ld.o)).2.2.2.1) lc));go_wp2_with fail;go_ret;exact⟨by rw[HE.o,hf.o];first|done|rfl,gb⟩
    case pos=>
    have hq2':¬lp≥(ne:Int):=by omega
    by_cases Dj:lp=xe
    case pos=>
     have hq3':(lp==xe)=true:=by simpa using Dj
     have HQ3:=H_ Dj;clear Dj;have hf:=H_ (show r=false from Bool.eq_false_iff.2 (λh0=>absurd ((jD.o ((oN.o h0).2.2.2.2.2.2.2.2.2.2.2 _ ld.o)).2.2.2.2) (λh=>h HQ3.o)));go_wp2_with fail;go_ret;exact⟨by rw[HE.o,hf.o];first|done|rfl,gb⟩
    case neg=>
     have hq3':(lp==xe)=false:=by simpa using Dj
     have gc:=H_ (Bp.o ⟨ha,Fj.o,mF,lc,Dj⟩);go_wp2_with fail;go_roundw
     case rel=>exact⟨k+1,by omega,by go_num,aat,λj hj m7=>by
      rcases Nat.lt_or_ge j k with h|h
      ·exact HA.o j hj h
      ·have:j=k:=by omega
       subst this;rw[HX.o];exact gc.o⟩
     case measure=>first|exact aQ aU|(simp only[intOf];omega)
   case neg=>
    have bq:¬(k:Int)< (nl:Int):=by omega
    have eY:=H_ (show ∀l∈ls,lu ne xe l=true from λx hx=>by
     obtain⟨j,hj,rfl⟩:=List.getElem_of_mem hx;exact HA.o j hj (by have:=HN.o;omega))
    have hf:=H_ (show r=true from HFT.o ⟨by first|trivial|rfl,mA,TU,iu,Dm,lO,IS.o.1,IS.o.2,Vz.o,by rw[HN.o];exact vl,by rw[HN.o];exact Fg,eY.o⟩);go_wp2_with fail;go_ret;exact⟨by rw[HE.o,hf.o];first|done|rfl,bD.trans (hb.mono bD.size)⟩
end
end Go.Proofs.YtibiddakakgakaaGreat
