/- slices.SortFunc at entries. Written by gen_y13.py. -/
import Derived.Test.YtibiddakakgakaaGreatQeY8Y11
set_option linter.unusedVariables false
set_option linter.unusedSimpArgs false
set_option maxRecDepth 4000
attribute [local go_sem ↓] Go.wp_at_zero Go.wp_at_succ
set_option maxHeartbeats 16000000
namespace Go.Proofs.YtibiddakakgakaaGreat
section
open Go Go.RowKit Go.Shelf Go.Lib
open Go.Sort hiding Below
def Mg:Go.Shelf.Ren:=⟨λ|6=>58|15=>99|14=>98|28=>141|29=>142|20=>133|21=>134|22=>135|23=>136|24=>137|25=>138|26=>139|27=>140|46=>174|47=>175|48=>176|49=>177|50=>178|57=>211|n=>n,λ|22=>30|24=>51|25=>115|3=>3|39=>147|0=>0|53=>187|55=>189|4=>4|46=>180|45=>179|50=>184|5=>5|9=>9|66=>210|70=>214|76=>248|77=>249|n=>n,λ|n=>n⟩
theorem acl:Go.Proofs.SlLaysF0.n6 Tryz.prog Mg:={
 mixed:=by kernel_rfl,
 f6:=⟨Tryz.f58.name,by decide,Tryz.func58.trans (congrArg some K_)⟩,
 f14:=⟨Tryz.f98.name,by decide,Tryz.func98.trans (congrArg some K_)⟩,
 f15:=Tryz.func99.trans (congrArg some K_),
 f20:=⟨Tryz.f133.name,by decide,Tryz.func133.trans (congrArg some K_)⟩,
 f21:=⟨Tryz.f134.name,by decide,Tryz.func134.trans (congrArg some K_)⟩,
 f22:=⟨Tryz.f135.name,by decide,Tryz.func135.trans (congrArg some K_)⟩,
 f23:=⟨Tryz.f136.name,by decide,Tryz.func136.trans (congrArg some K_)⟩,
 f24:=⟨Tryz.f137.name,by decide,Tryz.func137.trans (congrArg some K_)⟩,
 f25:=⟨Tryz.f138.name,by decide,Tryz.func138.trans (congrArg some K_)⟩,
 f26:=⟨Tryz.f139.name,by decide,Tryz.func139.trans (congrArg some K_)⟩,
 f27:=⟨Tryz.f140.name,by decide,Tryz.func140.trans (congrArg some K_)⟩,
 f28:=Tryz.func141.trans (congrArg some K_),
 f29:=Tryz.func142.trans (congrArg some K_),
 f46:=⟨Tryz.f174.name,by decide,Tryz.func174.trans (congrArg some K_)⟩,
 f47:=Tryz.func175.trans (congrArg some K_),
 f48:=Tryz.func176.trans (congrArg some K_),
 f49:=⟨Tryz.f177.name,by decide,Tryz.func177.trans (congrArg some K_)⟩,
 f50:=⟨Tryz.f178.name,by decide,Tryz.func178.trans (congrArg some K_)⟩,
 f57:=⟨Tryz.f211.name,by decide,Tryz.func211.trans (congrArg some K_)⟩,
 t0:=Tryz.underlying0,
 a0:=Tryz.isAgg0,
 z0:=Tryz.sizeOf0,
 v0:=Tryz.zeroValue0,
 t3:=Tryz.underlying3,
 a3:=Tryz.isAgg3,
 z3:=Tryz.sizeOf3,
 v3:=Tryz.zeroValue3,
 t4:=Tryz.underlying4,
 a4:=Tryz.isAgg4,
 z4:=Tryz.sizeOf4,
 v4:=Tryz.zeroValue4,
 t5:=Tryz.underlying5,
 a5:=Tryz.isAgg5,
 z5:=Tryz.sizeOf5,
 v5:=Tryz.zeroValue5,
 t9:=Tryz.underlying9,
 a9:=Tryz.isAgg9,
 z9:=Tryz.sizeOf9,
 v9:=Tryz.zeroValue9,
 t22:=Tryz.underlying30,
 a22:=Tryz.isAgg30,
 z22:=Tryz.sizeOf30,
 v22:=Tryz.zeroValue30,
 t25:=Tryz.underlying115,
 a25:=Tryz.isAgg115,
 z25:=Tryz.sizeOf115,
 v25:=Tryz.zeroValue115,
 t39:=Tryz.underlying147,
 a39:=Tryz.isAgg147,
 z39:=Tryz.sizeOf147,
 v39:=Tryz.zeroValue147,
 t45:=Tryz.underlying179,
 a45:=Tryz.isAgg179,
 z45:=Tryz.sizeOf179,
 v45:=Tryz.zeroValue179,
 t46:=Tryz.underlying180,
 a46:=Tryz.isAgg180,
 z46:=Tryz.sizeOf180,
 v46:=Tryz.zeroValue180,
 t50:=Tryz.underlying184,
 a50:=Tryz.isAgg184,
 z50:=Tryz.sizeOf184,
 v50:=Tryz.zeroValue184,
 t53:=Tryz.underlying187,
 a53:=Tryz.isAgg187,
 z53:=Tryz.sizeOf187,
 v53:=Tryz.zeroValue187,
 t55:=Tryz.underlying189,
 a55:=Tryz.isAgg189,
 z55:=Tryz.sizeOf189,
 v55:=Tryz.zeroValue189,
 t66:=Tryz.underlying210,
 a66:=Tryz.isAgg210,
 z66:=Tryz.sizeOf210,
 v66:=Tryz.zeroValue210,
 t70:=Tryz.underlying214,
 a70:=Tryz.isAgg214,
 z70:=Tryz.sizeOf214,
 v70:=Tryz.zeroValue214,
 t76:=Tryz.underlying248,
 a76:=Tryz.isAgg248,
 z76:=Tryz.sizeOf248,
 v76:=Tryz.zeroValue248,
 t77:=Tryz.underlying249,
 a77:=Tryz.isAgg249,
 z77:=Tryz.sizeOf249,
 v77:=Tryz.zeroValue249}
theorem jt {α:Type} (f g:α->Int) (x y:α):ltOf (λx y=>orI (eG (f x) (f y)) (eG (g x) (g y))) x y=true↔f x<f y\/(f x=f y/\g x<g y):=by
 unfold ltOf orI eG;rw[decide_eq_true_iff];by_cases h1:f x<f y
 ·simp[h1]
 ·by_cases h2:f y<f x
  ·simp[h1,h2];omega
  ·have h3:f x=f y:=by omega
   by_cases h4:g x<g y
   ·simp[h3,h4]
   ·by_cases h5:g y<g x<;>simp[h3,h4,h5]
theorem Ty {α:Type} (f g:α->Int):SWO (ltOf (λx y:α=>orI (eG (f x) (f y)) (eG (g x) (g y)))) where
 irrefl x:=by
  cases h:ltOf (λx y:α=>orI (eG (f x) (f y)) (eG (g x) (g y))) x x with
  |false=>rfl
  |true=>have:=(jt f g x x).1 h;omega
 trans x y z h1 h2:=by
  have a:=(jt f g x y).1 h1;have b:=(jt f g y z).1 h2;exact(jt f g x z).2 (by omega)
 ntrans x y z h1 h2:=by
  cases h:ltOf (λx y:α=>orI (eG (f x) (f y)) (eG (g x) (g y))) x z with
  |false=>rfl
  |true=>
   have a:¬(f x<f y\/(f x=f y/\g x<g y)):=λe=>by rw[(jt f g x y).2 e]at h1;cases h1
   have b:¬(f y<f z\/(f y=f z/\g y<g z)):=λe=>by rw[(jt f g y z).2 e]at h2;cases h2
   have c:=(jt f g x z).1 h;omega
abbrev jS:=ak × Option Addr × Nat
def bY (x:jS):List Value:=[.int .i64 x.1.id,.int .i64 x.1.entity,.int .i64 x.1.date,.int .i64 x.1.kind,.int .i64 x.1.of_,.string x.1.text,.slice x.2.1 x.1.lines.length x.2.2]
def Lb (x y:jS):Int:=orI (eG x.1.date y.1.date) (eG x.1.id y.1.id)
theorem aez:SWO (ltOf Lb):=Ty (λx:jS=>x.1.date) (λx=>x.1.id)
instance:Inhabited jS:=⟨({},none,0)⟩
theorem SG (x y:jS) (w:World):Calls Tryz.prog 59 #[.agg (bY x).toArray,.agg (bY y).toArray] w (λe w'=>e=.returned (.int .i64 (Lb x y))/\gP w w'):=by
 obtain⟨⟨p1,p2,p3,p4,p5,p6,pl⟩,pA,pc⟩:=x;obtain⟨⟨q1,q2,q3,q4,q5,q6,ql⟩,qA,qc⟩:=y;obtain⟨pn,hpn⟩:∃n,pl.length=n:=⟨_,rfl⟩;obtain⟨qn,hqn⟩:∃n,ql.length=n:=⟨_,rfl⟩;show Calls Tryz.prog 59 #[.agg #[p1,p2,p3,p4,p5,p6,.slice pA pl.length pc],.agg #[q1,q2,q3,q4,q5,q6,.slice qA ql.length qc]] w (λe w'=>e=.returned (.int .i64 (orI (eG p3 q3) (eG p1 q1)))/\gP w w');rw[hpn,hqn];clear hpn hqn;go_enter Tryz.func59,Tryz.ntmps59;go_upto_region 1 with fail;have H:=heap_alloc_new w (.cells #[p1,p2,p3,p4,p5,p6,.slice pA pn pc] 51);have HB:=ai w (.cells #[p1,p2,p3,p4,p5,p6,.slice pA pn pc] 51);have HS:=ag H;have Vw:gP w (w.alloc (.cells #[p1,p2,p3,p4,p5,p6,.slice pA pn pc] 51)):=(gP.refl w).alloc _;generalize hW:w.alloc (Obj.cells #[p1,p2,p3,p4,p5,p6,.slice pA pn pc] 51)=W at*;have H2:=heap_alloc_new W (.cells #[q1,q2,q3,q4,q5,q6,.slice qA qn qc] 51);have dz:=ai W (.cells #[q1,q2,q3,q4,q5,q6,.slice qA qn qc] 51);have jK:=ag H2;replace H:=al H (Obj.cells #[q1,q2,q3,q4,q5,q6,.slice qA qn qc] 51);have abI:gP W (W.alloc (.cells #[q1,q2,q3,q4,q5,q6,.slice qA qn qc] 51)):=(gP.refl W).alloc _;generalize fR:W.alloc (Obj.cells #[q1,q2,q3,q4,q5,q6,.slice qA qn qc] 51)=W2 at*;clear fR;have eW:W.heap.size=w.heap.size+1:=by rw[<-hW];simp
 rw[eW]at H2;clear hW;have aH:=HB.trans (dz.mono HB.size);have dW:=dz.size;have lV:=ag H2;have nf:w.heap.size<W2.heap.size:=by omega
 have HH:=H_ H;have HZ:=H_ H2;have EW:=H_ eW;clear H H2 eW;have RL:=H_ (Vw.trans abI);have X0:=H_ (ab HH.o 0);have X2:=H_ (ab HH.o 2);have Y0:=H_ (ab HZ.o 0);have Y2:=H_ (ab HZ.o 2);have nf:=H_ nf;have lV:=H_ lV;clear Vw abI;refine bk (Ks W2 [.val (.pointer (some ⟨w.heap.size,2,none⟩)),p3,.val (.pointer (some ⟨(w.heap.size+1),2,none⟩)),q3,(eG p3 q3),.val (.pointer (some ⟨w.heap.size,0,none⟩)),p1,.val (.pointer (some ⟨(w.heap.size+1),0,none⟩)),q1,(eG p1 q1),.own (Dz (eG p3 q3) (eG p1 q1)) (Dz.keep _ _),(orI (eG p3 q3) (eG p1 q1)),(orI (eG p3 q3) (eG p1 q1))])
  (λw'=>gP W2 w') K_ K_ K_ (gP.refl _).drew ?_ ?_
 ·refine⟨b_ (q_ 2),?_,b_ (q_ 3),?_,?_,b_ (q_ 2),?_,b_ (q_ 3),?_,?_,?_,?_,b_ (p_ 11 16),trivial⟩
  ·intro _ A0 w2 hI hd hnd K hK;have e0:=hI.p hd 0 5;have hS:=hI.world;have cI:w2.cell? ⟨w.heap.size,2,none⟩=_:=((gP.below hS).cell (p:=⟨w.heap.size,2,none⟩) nf.o).trans X2.o;exact hI.z hK
  ·intro _ A0 w2 hI hd hnd K hK;have e0:=hI.p hd 2 7;have hS:=hI.world;have cI:w2.cell? ⟨(w.heap.size+1),2,none⟩=_:=((gP.below hS).cell (p:=⟨(w.heap.size+1),2,none⟩) lV.o).trans Y2.o;exact hI.z hK
  ·refine O2_ (p_ 1 6) (p_ 3 8) λA0 w2 K e0 e1 hS hK=>?_;go_simp
   go_at_call 61
   refine(sf p3 q3 w2).mono ?_;rintro e w3 ⟨rfl,rfl⟩;exact kq hK hS rfl
  ·intro _ A0 w2 hI hd hnd K hK;have e0:=hI.p hd 5 10;have hS:=hI.world;have cI:w2.cell? ⟨w.heap.size,0,none⟩=_:=((gP.below hS).cell (p:=⟨w.heap.size,0,none⟩) nf.o).trans X0.o;exact hI.z hK
  ·intro _ A0 w2 hI hd hnd K hK;have e0:=hI.p hd 7 12;have hS:=hI.world;have cI:w2.cell? ⟨(w.heap.size+1),0,none⟩=_:=((gP.below hS).cell (p:=⟨(w.heap.size+1),0,none⟩) lV.o).trans Y0.o;exact hI.z hK
  ·refine O2_ (p_ 6 11) (p_ 8 13) λA0 w2 K e0 e1 hS hK=>?_;go_simp
   go_at_call 61
   refine(sf p1 q1 w2).mono ?_;rintro e w3 ⟨rfl,rfl⟩;exact kq hK hS rfl
  ·refine O2_ (p_ 4 9) (p_ 9 14) λA0 w2 K e0 e1 hS hK=>?_;go_simp;exact hK.out _ _ (hS.alloc _) (Ks.of rfl (Dz.made _ _ _ _)) (Ks.keep (ai w2 _))
  ·intro _ A0 w2 hI hd hnd K hK;obtain⟨x0,e0,h0⟩:=hI.dep hd 10 15 rfl rfl rfl K_;have hS:=hI.world;obtain⟨gs,T0,rfl,kC⟩:=h0;refine aa rfl ?_;clear hI hd hnd;go_simp
   go_at_call 60
   refine(aew gs _ _ T0 w2 kC).mono ?_;rintro e w3 ⟨rfl,rfl⟩;exact kq hK hS rfl
 ·intro _ A0 w2 hI hall;have hS:=hI.world;have c9:=hI.ch hall [5,6,7,8,9,10,11,12,13,14,15,16,4];obtain⟨x0,x1,x2,x3,x4,x5,x6,x7,x8,x9,dN,ef,fh,hA,hV⟩:=c9;obtain rfl:fh=.int .i64 (orI (eG p3 q3) (eG p1 q1)):=hV 12 _ _ rfl _ rfl;clear hV hI hall;simp only[ba,List.foldl,List.setIfInBounds_toArray,List.set_cons_zero,List.set_cons_succ]at hA;rw[hA];clear hA;go_wp2_with fail;go_ret;exact⟨rfl,RL.o.trans hS⟩
theorem Tw (fj:List jS) (v:Value) (base:Nat) (w:World) (bv:w.ownsRow base 51 7 v fj.length (fj.flatMap bY)) (hn:fj.length<=100000) (jR:base<=w.heap.size):
 Calls Tryz.prog 58 #[v,.func (.func 59) #[] #[]] w (λe w'=>e=.returned (.tuple #[])/\∃lZ:List jS,lZ.Perm fj/\lZ.Pairwise (λx y=>ltOf Lb y x=false)/\aj (OB bY) 7 w' (λq=>base<=q/\q<w'.heap.size) [v] lZ/\Below base w w'/\w.heap.size<=w'.heap.size):=
 E7 acl 7 (by omega) Tryz.isAgg51 Tryz.sizeOf51 bY (λ_=>rfl) (λx v hv=>by simp[bY]at hv;rcases hv with rfl|rfl|rfl|rfl|rfl|rfl|rfl<;>rfl) Lb aez 59 (enters_of Tryz.func59 K_ rfl) SG fj v base w _ bv hn jR
end
section
open Go Go.RowKit
theorem AG {α:Type} {El:World->(Nat->Prop)->List Value->α->Prop} {f:α->List Value} {sz:Nat} (hf:∀x,(f x).length=sz) {w:World} {Q:Nat->Prop} {base:Nat} {e:TypeId} {v:Value} {xs:List α} (h:w.ownsRow base e sz v xs.length (xs.flatMap f)) (hE:∀x∈xs,El w Q (f x) x) (hQ:∀g,v.ownBlock=some g->Q g):aj El sz w Q [v] xs:=
 kO (css:=xs.map f) (λcs h=>by obtain⟨x,_,rfl⟩:=List.mem_map.1 h;exact hf x) (by rw[<-List.flatMap_def];exact h) (λi x hx=>⟨f x,by rw[List.getElem?_map,hx];rfl,hE x (List.mem_of_getElem? hx)⟩) hQ
theorem pX {w:World} {Q:Nat->Prop} {A:Option Addr} {c:Nat} {es:List ak} (h:aj ax 7 w Q [.slice A es.length c] es):
 ∃xs:List jS,xs.map (·.1)=es/\∀(i:Nat) (x:jS),xs[i]? =some x->ax w Q (bY x) x.1/\∃b o,A=some ⟨b,o,none⟩/\At w Q ⟨b,o+i*7,none⟩ (bY x):=by
 have ir:∀i:Fin es.length,∃p:Option Addr × Nat,ax w Q (bY (es[i.1],p)) es[i.1]/\∃b o,A=some ⟨b,o,none⟩/\At w Q ⟨b,o+i.1*7,none⟩ (bY (es[i.1],p)):=λi=>by
  obtain⟨b,o,cs,hA,_,hC,aS⟩:=aj.get h i.1 i.2;obtain⟨Al,cl,ft,_⟩:=hC.lit;subst ft;exact⟨(Al,cl),hC,b,o,hA,aS⟩
 obtain⟨f,hf⟩:=Classical.axiomOfChoice ir;refine⟨List.ofFn (λi:Fin es.length=>((es[i.1],f i):jS)),?_,λi x hx=>?_⟩
 ·apply List.ext_getElem
  ·simp
  ·intro i h1 h2;simp
 ·obtain⟨hi,e⟩:=List.getElem?_eq_some_iff.1 hx;rw[List.length_ofFn]at hi;rw[List.getElem_ofFn]at e;subst e;exact hf ⟨i,hi⟩
theorem xr:(Tryz.prog.info? 42).map (λi=>(i.zero,i.size,i.bytes))=some (some (.agg #[(),(),(),(),(),(),()]),7,56):=by kernel_rfl
theorem GI {α:Type} {f:α->List Value} {w:World} {Q:Nat->Prop} {cs:List Value} {c:α} (h:OB f w Q cs c):cs=f c:=h
abbrev ItV (w:World) (Q:Nat->Prop) (v:Value) (l:List bW):Prop:=aj (OB lq) 7 w Q [v] l
theorem ItV.fr {w w':World} {Q:Nat->Prop} {v:Value} {l:List bW} (h:ItV w Q v l) (hf:Fr Q w w'):ItV w' Q v l:=aj.fr h (λh=>h) hf
theorem ItV.mono {w:World} {Q Q':Nat->Prop} {v:Value} {l:List bW} (h:ItV w Q v l) (hq:∀k,Q k->Q' k):ItV w Q' v l:=aj.mono h (λh=>h) hq
theorem ItV.keep {w w':World} {v:Value} {l:List bW} (h:ItV w (·<w.heap.size) v l) (hb:Below w.heap.size w w'):ItV w' (·<w'.heap.size) v l:=(h.fr (Fr.ofBelow hb)).mono (λ_ hk=>Nat.lt_of_lt_of_le hk hb.size)
def rX (R:List bW × Int) (w:World) (e:Ending) (w':World):Prop:=∃(A:Option Addr) (c:Nat),e=.returned (.tuple #[.slice A R.1.length c,R.2])/\ItV w' (·<w'.heap.size) (.slice A R.1.length c) R.1/\Below w.heap.size w w'
end
section
open Go Go.RowKit Go.ChangeShapes Go.WideShapes Go.Deep
structure BF where
 entity:Int:=0
 account:Int:=0
 date:Int:=0
 p:Int:=0
def tX (w:World) (Q:Nat->Prop) (cs:List Value) (x:BF):Prop:=∃c0 c1 c2 c3:List Value,cs=c0++c1++c2++c3/\av c0 x.entity/\av c1 x.account/\av c2 x.date/\av c3 x.p
theorem tX.lit {w:World} {Q:Nat->Prop} {cs:List Value} {x:BF} (h:tX w Q cs x):cs=[.int .i64 x.entity,.int .i64 x.account,.int .i64 x.date,.int .i64 x.p]/\cx x.entity/\cx x.account/\cx x.date/\cx x.p:=by
 obtain⟨c0,c1,c2,c3,rfl,⟨rfl,h0⟩,⟨rfl,h1⟩,⟨rfl,h2⟩,⟨rfl,h3⟩⟩:=h;exact⟨rfl,h0,h1,h2,h3⟩
section
variable {H:Type} {enc:TypeId × Value->H} {W:World}
def Io (x:aC):Prop:=x.currency.size<=140737488355327
theorem ZJ:fx enc W 70 (bN W (·<W.heap.size)) Io:=λbZ cs x h dS hz=>by
 obtain⟨xs,n,_,rfl,mH,eV,hf⟩:=DataW.trod_struct Tryz.underlying70 h;have akw:cs.length=4:=mH.trans K_;have hw:∀(j:Nat) (t:TypeId) (y:DataW H × List MemPlace),([9,3,3,3]:List TypeId)[j]? =some t->xs[j]? =some y->∀n∈y.1.weights Tryz.prog t,n<=reachBytes:=λj t y ht hy n hn=>hz n (by
  simp only[DataW.weights,Tryz.underlying70];exact DataW.weights_mem_each (j:=j) (t:=t) (d:=y.1) ht (by rw[List.getElem?_map,hy];rfl) n hn)
 have h0:=hf 0 _ rfl;obtain⟨y0,kz⟩:∃y,xs[0]? =some y:=⟨_,List.getElem?_eq_getElem (by rw[eV];decide)⟩;obtain⟨a0,q0,z0⟩:=AD _ _ _ (h0.trans kz) (λb cm hb=>dS b cm (List.mem_flatMap.2 ⟨y0,List.mem_of_getElem? kz,hb⟩)) (hw 0 _ y0 rfl kz);have h1:=hf 1 _ rfl;obtain⟨y1,gK⟩:∃y,xs[1]? =some y:=⟨_,List.getElem?_eq_getElem (by rw[eV];decide)⟩;obtain⟨a1,q1,z1⟩:=cL _ _ _ (h1.trans gK) (λb cm hb=>dS b cm (List.mem_flatMap.2 ⟨y1,List.mem_of_getElem? gK,hb⟩)) (hw 1 _ y1 rfl gK);have h2:=hf 2 _ rfl;obtain⟨y2,gS⟩:∃y,xs[2]? =some y:=⟨_,List.getElem?_eq_getElem (by rw[eV];decide)⟩;obtain⟨a2,q2,z2⟩:=cL _ _ _ (h2.trans gS) (λb cm hb=>dS b cm (List.mem_flatMap.2 ⟨y2,List.mem_of_getElem? gS,hb⟩)) (hw 2 _ y2 rfl gS);have h3:=hf 3 _ rfl;obtain⟨y3,pg⟩:∃y,xs[3]? =some y:=⟨_,List.getElem?_eq_getElem (by rw[eV];decide)⟩;obtain⟨a3,q3,z3⟩:=cL _ _ _ (h3.trans pg) (λb cm hb=>dS b cm (List.mem_flatMap.2 ⟨y3,List.mem_of_getElem? pg,hb⟩)) (hw 3 _ y3 rfl pg);refine⟨⟨a0,a1,a2,a3⟩,⟨_,_,_,_,?_,q0,q1,q2,q3⟩,z0⟩;have e0:(cs.drop 0).take (Tryz.prog.cellsOf 9)=(cs.drop 0).take 1:=by rw[show Tryz.prog.cellsOf 9=1 from by kernel_rfl]
 have e1:(cs.drop 1).take (Tryz.prog.cellsOf 3)=(cs.drop 1).take 1:=by rw[show Tryz.prog.cellsOf 3=1 from by kernel_rfl]
 have e2:(cs.drop 2).take (Tryz.prog.cellsOf 3)=(cs.drop 2).take 1:=by rw[show Tryz.prog.cellsOf 3=1 from by kernel_rfl]
 have e3:(cs.drop 3).take (Tryz.prog.cellsOf 3)=(cs.drop 3).take 1:=by rw[show Tryz.prog.cellsOf 3=1 from by kernel_rfl]
 show cs=(cs.drop 0).take (Tryz.prog.cellsOf 9)++(cs.drop 1).take (Tryz.prog.cellsOf 3)++(cs.drop 2).take (Tryz.prog.cellsOf 3)++(cs.drop 3).take (Tryz.prog.cellsOf 3);rw[e0,e1,e2,e3];have z:cs=cs.drop 0:=rfl;have t0:=aq cs 0 1;have t1:=aq cs 1 1;have t2:=aq cs 2 1;have t3:=aq cs 3 1;have tn:cs.drop 4=[]:=List.drop_eq_nil_of_le (by omega);simp only[Nat.reduceAdd]at t0 t1 t2 t3;have r3:=t3.trans (by rw[tn,List.append_nil]);have r2:=t2.trans (congrArg (_++ ·) r3);have r1:=t1.trans (congrArg (_++ ·) r2);have r0:=t0.trans (congrArg (_++ ·) r1);refine z.trans (r0.trans ?_);simp only[List.append_assoc]
theorem Te:fx enc W 31 (aj bN 4 W (·<W.heap.size)) (yF Io):=sy Tryz.underlying31 K_ (by decide) ZJ
theorem xK {T E:TypeId} (ht:Tryz.prog.underlying T=some (.slice E)):fx enc W T (λcs (_:Unit)=>∃v,cs=[v]/\v.oneCell'=true) Qx:=λbZ cs x h dS hz=>by
 rcases open_slice ht h with⟨rfl,rfl⟩|⟨a,len,cap,m,n,Df,Pl,rfl,_,hl,hm,Iz,rfl,hi⟩
 ·exact⟨(),⟨_,rfl,rfl⟩,trivial⟩
 ·exact⟨(),⟨_,rfl,rfl⟩,trivial⟩
def Bz (w:World) (cs:List Value) (b:XBk):Prop:=∃gl Ae ce Ar cr tl,BkC w (·<w.heap.size) cs b gl Ae ce Ar cr tl
def Fb (b:XBk):Prop:=szG b.g/\(∀x∈b.es,Co x)/\∀r∈b.rs,Io r
theorem Cb:fx enc W 36 (Bz W) Fb:=λbZ cs x h dS hz=>by
 obtain⟨xs,n,_,rfl,mH,eV,hf⟩:=DataW.trod_struct Tryz.underlying36 h;have akw:cs.length=27:=mH.trans K_;have hw:∀(j:Nat) (t:TypeId) (y:DataW H × List MemPlace),([29,30,31,32,33,34,9]:List TypeId)[j]? =some t->xs[j]? =some y->∀n∈y.1.weights Tryz.prog t,n<=reachBytes:=λj t y ht hy n hn=>hz n (by
  simp only[DataW.weights,Tryz.underlying36];exact DataW.weights_mem_each (j:=j) (t:=t) (d:=y.1) ht (by rw[List.getElem?_map,hy];rfl) n hn)
 have h0:=hf 0 _ rfl;obtain⟨y0,kz⟩:∃y,xs[0]? =some y:=⟨_,List.getElem?_eq_getElem (by rw[eV];decide)⟩;obtain⟨a0,q0,z0⟩:=Tb _ _ _ (h0.trans kz) (λb cm hb=>dS b cm (List.mem_flatMap.2 ⟨y0,List.mem_of_getElem? kz,hb⟩)) (hw 0 _ y0 rfl kz);have h1:=hf 1 _ rfl;obtain⟨y1,gK⟩:∃y,xs[1]? =some y:=⟨_,List.getElem?_eq_getElem (by rw[eV];decide)⟩;obtain⟨a1,q1,z1⟩:=Pn _ _ _ (h1.trans gK) (λb cm hb=>dS b cm (List.mem_flatMap.2 ⟨y1,List.mem_of_getElem? gK,hb⟩)) (hw 1 _ y1 rfl gK);have h2:=hf 2 _ rfl;obtain⟨y2,gS⟩:∃y,xs[2]? =some y:=⟨_,List.getElem?_eq_getElem (by rw[eV];decide)⟩;obtain⟨a2,q2,z2⟩:=Te _ _ _ (h2.trans gS) (λb cm hb=>dS b cm (List.mem_flatMap.2 ⟨y2,List.mem_of_getElem? gS,hb⟩)) (hw 2 _ y2 rfl gS);have h3:=hf 3 _ rfl;obtain⟨y3,pg⟩:∃y,xs[3]? =some y:=⟨_,List.getElem?_eq_getElem (by rw[eV];decide)⟩;obtain⟨a3,q3,z3⟩:=(xK Tryz.underlying32) _ _ _ (h3.trans pg) (λb cm hb=>dS b cm (List.mem_flatMap.2 ⟨y3,List.mem_of_getElem? pg,hb⟩)) (hw 3 _ y3 rfl pg);have h4:=hf 4 _ rfl;obtain⟨y4,zS⟩:∃y,xs[4]? =some y:=⟨_,List.getElem?_eq_getElem (by rw[eV];decide)⟩;obtain⟨a4,q4,z4⟩:=(xK Tryz.underlying33) _ _ _ (h4.trans zS) (λb cm hb=>dS b cm (List.mem_flatMap.2 ⟨y4,List.mem_of_getElem? zS,hb⟩)) (hw 4 _ y4 rfl zS);have h5:=hf 5 _ rfl;obtain⟨y5,Ni⟩:∃y,xs[5]? =some y:=⟨_,List.getElem?_eq_getElem (by rw[eV];decide)⟩;obtain⟨a5,q5,z5⟩:=(xK Tryz.underlying34) _ _ _ (h5.trans Ni) (λb cm hb=>dS b cm (List.mem_flatMap.2 ⟨y5,List.mem_of_getElem? Ni,hb⟩)) (hw 5 _ y5 rfl Ni);have h6:=hf 6 _ rfl;obtain⟨y6,Of⟩:∃y,xs[6]? =some y:=⟨_,List.getElem?_eq_getElem (by rw[eV];decide)⟩;obtain⟨a6,q6,z6⟩:=AD _ _ _ (h6.trans Of) (λb cm hb=>dS b cm (List.mem_flatMap.2 ⟨y6,List.mem_of_getElem? Of,hb⟩)) (hw 6 _ y6 rfl Of);have e0:(cs.drop 0).take (Tryz.prog.cellsOf 29)=(cs.drop 0).take 21:=by rw[show Tryz.prog.cellsOf 29=21 from by kernel_rfl]
 have e1:(cs.drop 21).take (Tryz.prog.cellsOf 30)=(cs.drop 21).take 1:=by rw[show Tryz.prog.cellsOf 30=1 from by kernel_rfl]
 have e2:(cs.drop 22).take (Tryz.prog.cellsOf 31)=(cs.drop 22).take 1:=by rw[show Tryz.prog.cellsOf 31=1 from by kernel_rfl]
 have e3:(cs.drop 23).take (Tryz.prog.cellsOf 32)=(cs.drop 23).take 1:=by rw[show Tryz.prog.cellsOf 32=1 from by kernel_rfl]
 have e4:(cs.drop 24).take (Tryz.prog.cellsOf 33)=(cs.drop 24).take 1:=by rw[show Tryz.prog.cellsOf 33=1 from by kernel_rfl]
 have e5:(cs.drop 25).take (Tryz.prog.cellsOf 34)=(cs.drop 25).take 1:=by rw[show Tryz.prog.cellsOf 34=1 from by kernel_rfl]
 have e6:(cs.drop 26).take (Tryz.prog.cellsOf 9)=(cs.drop 26).take 1:=by rw[show Tryz.prog.cellsOf 9=1 from by kernel_rfl]
 have r0:=e0;have r1:=e1;have r2:=e2;have r3:=e3;have r4:=e4;have r5:=e5;have r6:=e6;have q0':aL W (·<W.heap.size) ((cs.drop 0).take 21) a0:=by rw[<-e0];exact q0
 have q1':aj ax 7 W (·<W.heap.size) ((cs.drop 21).take 1) a1:=by rw[<-e1];exact q1
 have q2':aj bN 4 W (·<W.heap.size) ((cs.drop 22).take 1) a2:=by rw[<-e2];exact q2
 have q3':∃v,(cs.drop 23).take 1=[v]/\v.oneCell'=true:=by rw[<-e3];exact q3
 have q4':∃v,(cs.drop 24).take 1=[v]/\v.oneCell'=true:=by rw[<-e4];exact q4
 have q5':∃v,(cs.drop 25).take 1=[v]/\v.oneCell'=true:=by rw[<-e5];exact q5
 have q6':(cs.drop 26).take 1=[.string a6]:=by rw[<-e6];exact q6
 clear e0 e1 e2 e3 e4 e5 e6 r0 r1 r2 r3 r4 r5 r6 q0 q1 q2 q3 q4 q5 q6 hw hf h0 h1 h2 h3 h4 h5 h6;have t0:=aq cs 0 21;have t1:=aq cs 21 1;have t2:=aq cs 22 1;have t3:=aq cs 23 1;have t4:=aq cs 24 1;have t5:=aq cs 25 1;have t6:=aq cs 26 1;have tn:cs.drop 27=[]:=List.drop_eq_nil_of_le (by omega);simp only[Nat.reduceAdd,List.drop_zero]at t0 t1 t2 t3 t4 t5 t6;obtain⟨Ae,ce,k1,k2⟩:=q1'.form;obtain⟨Ar,cr,k3,k4⟩:=q2'.form;obtain⟨v3,k5,o3⟩:=q3';obtain⟨v4,k6,o4⟩:=q4';obtain⟨v5,k7,o5⟩:=q5';refine⟨⟨a0,a1,a2⟩,⟨(cs.drop 0).take 21,Ae,ce,Ar,cr,[v3,v4,v5,.string a6],?_,rfl,?_,q0',?_,?_⟩,⟨z0,z1,z2⟩⟩
 ·rw[List.drop_zero];refine t0.trans (congrArg _ ?_);rw[t1,k1,t2,k3,t3,k5,t4,k6,t5,k7,t6,q6',tn];rfl
 ·intro v hv;simp only[List.mem_cons,List.not_mem_nil,or_false]at hv;rcases hv with rfl|rfl|rfl|rfl
  ·exact o3
  ·exact o4
  ·exact o5
  ·rfl
 ·rw[<-k1];exact q1'
 ·rw[<-k3];exact q2'
end
end
section
open Go Go.RowKit
def aks (l:List bW):Prop:=(∀x∈l,-1000000000000<=x.amount/\x.amount<=1000000000000)/\l.length<=1000000
theorem KG {l:List bW} (h:aks l):∀k:Nat,k<=l.length-> -1000000000000*(k:Int)<=f9 (l.take k)/\f9 (l.take k)<=1000000000000*(k:Int)
 |0,_=>by simp[f9]
 |k+1,hk=>by
  obtain⟨h1,h2⟩:=KG h k (by omega);have:=h.1 _ (List.getElem_mem (show k<l.length by omega));rw[ake (show k<l.length by omega)];omega
theorem amU (l:List bW) (A:Option Addr) (c:Nat) (w:World) (hl:aj (OB lq) 7 w (·<w.heap.size) [.slice A l.length c] l) (hs:aks l):Calls Tryz.prog 107 #[.slice A l.length c] w (ap w (.int .i64 (f9 l))):=by
 obtain⟨r,hr⟩:=x_ (f9 l);rw[hr];have HR:=H_ hr;obtain⟨n,bj⟩:=x_ (l.length);have HL:=H_ hl;have HN:=H_ bj;have HS:=H_ hs;have hn:n<=1000000:=by rw[<-bj];exact hs.2
 rw[bj];clear hr hl bj hs;go_enter Tryz.func107,Tryz.ntmps107;go_wp2_with fail
 go_loopw [3,4] (λs i wr=>∃k:Nat,k<=n/\s=.int .i64 (f9 (l.take k))/\i=.int .i64 (k:Int)/\Below w.heap.size w wr) (λ_ i _=>n- (intOf i).toNat)
 case atStart=>exact⟨0,by omega,rfl,rfl,Below.refl _ _⟩
 case round=>
  obtain⟨k,hk,rfl,rfl,hb⟩:=hrel;by_cases aU:k<n
  case pos=>
   have bq:(k:Int)< (n:Int):=by omega
   have bI:k<l.length:=by rw[HN.o];exact aU
   obtain⟨b,o,es,dj,ed,bL,aS⟩:=aj.get HL.o k bI;subst dj;have bE:es=lq l[k]:=bL;rw[bE]at aS;have jE:=HS.o.1 _ (List.getElem_mem bI);have oZ:=H_ (ake bI);have hBk:=KG HS.o k (by omega);obtain⟨x,hx⟩:=x_ (l[k]);rw[hx]at aS jE;have HX:=H_ hx;obtain⟨⟨i1,i2⟩,i3,i4,i5,i6,am⟩:=x;simp only at jE;obtain⟨S,hS⟩:=x_ (f9 (l.take k));rw[hS]at hBk |-;have CB:=H_ hS;have HBK:=H_ hBk;obtain⟨yI,yH⟩:=hBk;obtain⟨eL,aH⟩:=jE;have lY:=aS.fr (Fr.ofBelow hb);have c6:=lY.c (j:=6) rfl;clear bL bE aS lY hx hS;go_wp2_with fail;go_roundw
   case rel=>exact⟨k+1,by omega,by rw[oZ.o,HX.o,CB.o];first|done|go_num,by go_num,hb⟩
   case measure=>first|exact aQ aU|(simp only[intOf];omega)
  case neg=>
   have bq:¬(k:Int)< (n:Int):=by omega
   obtain⟨S,hS⟩:=x_ (f9 (l.take k));rw[hS];have hf:=H_ (show r=S by rw[<-HR.o,<-hS,show k=n from by omega,<-HN.o,List.take_length]);clear hS;go_wp2_with fail;go_ret;exact⟨hf.o.symm▸rfl,hb⟩
theorem amP (l:List bW) (A:Option Addr) (c:Nat) (w:World) (hl:aj (OB lq) 7 w (·<w.heap.size) [.slice A l.length c] l) (hs:aks l):Calls Tryz.prog 73 #[.slice A l.length c] w (ap w (.int .i64 (-f9 l))):=by
 have aM:=amU l A c w hl hs;have hBk:=KG hs l.length (Nat.le_refl _);rw[List.take_length]at hBk;have amG:=hs.2;obtain⟨n,bj⟩:=x_ (l.length);rw[bj]at aM hBk amG |-;obtain⟨S,hS⟩:=x_ (f9 l);rw[hS]at aM hBk |-;obtain⟨yI,yH⟩:=hBk;have HC:=H_ aM;clear aM hS hl hs bj;go_enter Tryz.func73,Tryz.ntmps73;go_wp2_with fail;refine HC.o.mono ?_;rintro e w2 ⟨rfl,aH⟩;go_wp2_with fail;go_ret;exact⟨by first|rfl|go_num,aH⟩
theorem ala (l:List bW) (A:Option Addr) (c:Nat) (w:World) (hl:aj (OB lq) 7 w (·<w.heap.size) [.slice A l.length c] l) (hs:aks l):Calls Tryz.prog 38 #[.slice A l.length c] w (ap w (.int .i64 (-f9 l))):=by
 obtain⟨r,hr⟩:=x_ (-f9 l);rw[hr];have HR:=H_ hr;obtain⟨n,bj⟩:=x_ (l.length);have HL:=H_ hl;have HN:=H_ bj;have HS:=H_ hs;have hn:n<=1000000:=by rw[<-bj];exact hs.2
 rw[bj];clear hr hl bj hs;go_enter Tryz.func38,Tryz.ntmps38;go_wp2_with fail
 go_loopw [3,8] (λs i wr=>∃k:Nat,k<=n/\s=.int .i64 (-f9 (l.take k))/\i=.int .i64 (k:Int)/\Below w.heap.size w wr) (λ_ i _=>n- (intOf i).toNat)
 case atStart=>exact⟨0,by omega,rfl,rfl,Below.refl _ _⟩
 case round=>
  obtain⟨k,hk,rfl,rfl,hb⟩:=hrel;by_cases aU:k<n
  case pos=>
   have bq:(k:Int)< (n:Int):=by omega
   have bI:k<l.length:=by rw[HN.o];exact aU
   obtain⟨b,o,es,dj,ed,bL,aS⟩:=aj.get HL.o k bI;subst dj;have bE:es=lq l[k]:=bL;rw[bE]at aS;have jE:=HS.o.1 _ (List.getElem_mem bI);have oZ:=H_ (ake bI);have hBk:=KG HS.o k (by omega);obtain⟨x,hx⟩:=x_ (l[k]);rw[hx]at aS jE;have HX:=H_ hx;obtain⟨⟨i1,i2⟩,i3,i4,i5,i6,am⟩:=x;simp only at jE;obtain⟨S,hS⟩:=x_ (f9 (l.take k));rw[hS]at hBk |-;have CB:=H_ hS;have HBK:=H_ hBk;obtain⟨yI,yH⟩:=hBk;obtain⟨eL,aH⟩:=jE;have lY:=aS.fr (Fr.ofBelow hb);have eZ:=H_ lY.range;clear bL bE aS lY hx hS;go_upto_region 5 with(refine w_ 11 42 10 b (o+k*7) [i1,i2,i3,i4,i5,i6,am] eZ.o aP Tryz.underlying42 ?_);obtain⟨W6,mC,H6,dK,my,ewx⟩:=B_ wr (.cells #[i1,i2,i3,i4,i5,i6,am] 42);rw[mC];clear ewx;clear mC;have c6:=ab H6 6;have dd:=hb.trans (dK.mono hb.size);clear H6;go_wp2_with fail;go_roundw
   case rel=>exact⟨k+1,by omega,by rw[oZ.o,HX.o,CB.o];first|done|go_num|(congr 1;omega),by go_num,dd⟩
   case measure=>first|exact aQ aU|(simp only[intOf];omega)
  case neg=>
   have bq:¬(k:Int)< (n:Int):=by omega
   obtain⟨S,hS⟩:=x_ (f9 (l.take k));rw[hS];have hf:=H_ (show r= -S by rw[<-HR.o,<-hS,show k=n from by omega,<-HN.o,List.take_length]);clear hS;go_wp2_with fail;go_ret;exact⟨hf.o.symm▸rfl,hb⟩
theorem Mm (b:XBk) (bl gl tl:List Value) (Ae Ar:Option Addr) (ce cr:Nat) (w:World) (hk:BkC w (·<w.heap.size) bl b gl Ae ce Ar cr tl) (ci:okB b):Calls Tryz.prog 20 #[.agg bl.toArray] w (ap w (.bool (decide (cE b)))):=by
 have iw:=H_ (λ(w2:World) (hb:Below w.heap.size w w2)=>L3 b.g b.es gl Ae ce w2 (hk.keep hb).g (hk.keep hb).es ci.1 ci.2.1);have ME:=H_ (λ(w2:World) (hb:Below w.heap.size w w2)=>yq b.g.currency b.rs Ar cr w2 (hk.keep hb).rs ci.2.2.1 (by have:=ci.1.2.2.1;omega) ci.2.2.2);obtain⟨kY,yO,lF,CA,HE,m8,jG,jv,kB,Ac,cc,Iy,Ds,nF,zF⟩:=agt hk;obtain⟨R,hR⟩:=x_ (decide (cE b));rw[hR];obtain⟨v2,CJ⟩:∃v,decide (dJ b.g.currency b.rs)=v:=⟨_,rfl⟩;have HF:=H_ (λ(v1:Bool) (h:v1=true↔kQ b.g b.es)=>show R=(v1&&v2) by
  rw[<-hR,<-CJ];cases v1 with
  |false=>
   rw[Bool.false_and];exact decide_eq_false (λk=>by have:=h.2 ⟨k.1,k.2.1⟩;cases this)
  |true=>
   rw[Bool.true_and];have hj:=h.1 rfl;by_cases k2:dJ b.g.currency b.rs
   ·rw[decide_eq_true k2];exact decide_eq_true ⟨hj.1,hj.2,k2⟩
   ·rw[decide_eq_false k2];exact decide_eq_false (λk=>k2 k.2.2))
 unfold DB at iw;rw[CJ]at ME;clear hk ci hR CJ;go_enter Tryz.func20,Tryz.ntmps20;go_upto_region 1 with fail;obtain⟨W1,cS,H1,bC,dr,ewx⟩:=B_ w (.cells bl.toArray 36);rw[cS];clear ewx;clear cS;have fB:=H_ H1;have Bx:=H_ (lF.o W1 _ H1);have qx:=(ab H1 21).trans HE.o.1;clear H1;go_wp2_with (refine w_ 4 29 3 w.heap.size (0) gl Bx.o (by rw[ay];exact congrArg some yO.o.symm) Tryz.underlying29 ?_);refine(iw.o W1 bC).mono ?_;rintro e w2 ⟨v1,rfl,RW,aH⟩;have kU:=H_ (HF.o v1 RW);clear RW;have aF:=bC.trans (aH.mono bC.size);have dn:=k_ aH fB;clear qx;cases v1 with
 |false=>
  have hf:=H_ (show R=false from kU.o);go_wp2_with fail;go_ret;exact⟨hf.o.symm▸rfl,aF⟩
 |true=>
  have c0:=(ab dn.o 0).trans m8.o;have c22:=(ab dn.o 22).trans HE.o.2;have hf:=H_ (show R=v2 from kU.o.trans (Bool.true_and _));go_wp2_with fail;refine(ME.o w2 aF).mono ?_;rintro e w3 ⟨rfl,aZ⟩;go_wp2_with fail;go_ret;exact⟨hf.o.symm▸rfl,aF.trans (aZ.mono aF.size)⟩
theorem se (b:XBk) (bl gl tl:List Value) (Ae Ar:Option Addr) (ce cr:Nat) (ent p:Int) (w:World) (hk:BkC w (·<w.heap.size) bl b gl Ae ce Ar cr tl) (ci:okB b):Calls Tryz.prog 48 #[.agg bl.toArray,ent,p] w (ap w (.int .i64 (fH b ent p))):=by
 have HV:=H_ (λ(w2:World) (hb:Below w.heap.size w w2)=>Mm b bl gl tl Ae Ar ce cr w2 (hk.keep hb) ci);obtain⟨kY,yO,lF,CA,HE,m8,jG,jv,kB,Ac,cc,Iy,Ds,nF,zF⟩:=agt hk;obtain⟨R,hR⟩:=x_ (fH b ent p);rw[hR];have HR:=H_ hR;obtain⟨v1,RW⟩:∃v,decide (cE b)=v:=⟨_,rfl⟩;have vo:=H_ RW;rw[RW]at HV;clear hk ci hR RW;go_enter Tryz.func48,Tryz.ntmps48;go_upto_region 1 with fail;obtain⟨W1,cS,H1,bC,dr,ewx⟩:=B_ w (.cells bl.toArray 36);rw[cS];clear ewx;clear cS;have fB:=H_ H1;clear H1;go_wp2_with (refine W_ 8 36 3 (w.heap.size) fB.o (by rw[bF];exact congrArg some kY.o.symm) Tryz.underlying36 ?_);refine(HV.o W1 bC).mono ?_;rintro e w2 ⟨rfl,aH⟩;have aF:=bC.trans (aH.mono bC.size);have dn:=k_ aH fB;cases v1 with
 |false=>
  have hf:=H_ (show R=1 by rw[<-HR.o];exact SB (of_decide_eq_false vo.o));go_wp2_with fail;go_ret;exact⟨hf.o.symm▸rfl,aF⟩
 |true=>
  have hh:=dn.o;have Mp:=(ab hh 20).trans nF.o;have c3:=(ab hh 3).trans kB.o;have jI:=H_ (of_decide_eq_true vo.o);have HN:=H_ (λ(h:¬(dZ b ent/\eN b p))=>show R=2 by rw[<-HR.o];exact SC jI.o h);clear hh;obtain⟨ne,bT⟩:∃n,b.g.entities.length=n:=⟨_,rfl⟩;obtain⟨np,hnp⟩:∃n,b.g.calendar.periods=n:=⟨_,rfl⟩;have eP:=H_ bT;have Yl:=H_ hnp;rw[bT]at Mp;rw[hnp]at c3;clear bT hnp;by_cases k0:ent<0
  case pos=>
   have hf:=H_ (show R=2 from HN.o (λh=>by have:=h.1.1;have:=eP.o;have:=Yl.o;omega));have KR:decide (ent<0)=true:=decide_eq_true k0;clear k0;go_wp2_with fail;go_ret;exact⟨hf.o.symm▸rfl,aF⟩
  case neg=>
  have KR:decide (ent<0)=false:=decide_eq_false k0;by_cases k1:ent≥(ne:Int)
  case pos=>
   have hf:=H_ (show R=2 from HN.o (λh=>by have:=h.1.2;have:=eP.o;have:=Yl.o;omega));have Fq:decide (ent≥(ne:Int))=true:=decide_eq_true k1;clear k1;go_wp2_with fail;go_ret;exact⟨hf.o.symm▸rfl,aF⟩
  case neg=>
  have Fq:decide (ent≥(ne:Int))=false:=decide_eq_false k1;by_cases k2:p<0
  case pos=>
   have hf:=H_ (show R=2 from HN.o (λh=>by have:=h.2.1;have:=eP.o;have:=Yl.o;omega));have Re:decide (p<0)=true:=decide_eq_true k2;clear k2;go_wp2_with fail;go_ret;exact⟨hf.o.symm▸rfl,aF⟩
  case neg=>
  have Re:decide (p<0)=false:=decide_eq_false k2;by_cases k3:p≥np
  case pos=>
   have hf:=H_ (show R=2 from HN.o (λh=>by have:=h.2.2;have:=eP.o;have:=Yl.o;omega));have hd3:decide (p≥np)=true:=decide_eq_true k3;clear k3;go_wp2_with fail;go_ret;exact⟨hf.o.symm▸rfl,aF⟩
  case neg=>
  have hd3:decide (p≥np)=false:=decide_eq_false k3;have hf:=H_ (show R=0 by rw[<-HR.o];exact SA jI.o ⟨by omega,by have:=eP.o;omega⟩ ⟨by omega,by have:=Yl.o;omega⟩);clear k0 k1 k2 k3;go_wp2_with fail;go_ret;exact⟨hf.o.symm▸rfl,aF⟩
theorem PI (b:XBk) (aw:ByteArray) (basis date p:Int):kP b aw basis date p=if basis=1 then fO b.rs b.g.currency aw (bA b.g p)else if basis=2 then oS b.rs b.g.currency aw (lJ b.g (iC b.g date)) (bA b.g (iC b.g date)) (iC b.g date)else fO b.rs b.g.currency aw date:=by
 unfold kP oS fO;by_cases h:aw=b.g.currency
 ·rw[if_pos h];simp only[if_pos h];split
  ·rfl
  ·split<;>rfl
 ·rw[if_neg h];simp only[if_neg h];by_cases h1:basis=1
  ·subst h1;rfl
  ·rw[if_neg h1,if_neg h1]
theorem PH (b:XBk) (bl gl tl:List Value) (Ae Ar:Option Addr) (ce cr:Nat) (aw:ByteArray) (basis date p:Int) (w:World) (hk:BkC w (·<w.heap.size) bl b gl Ae ce Ar cr tl) (ci:okB b) (eU:cE b) (eh:cQ aw=true) (iA:eN b p) (sQ:(cT b.g.calendar.year b.g.calendar.month b.g.calendar.periods date).2=0):Calls Tryz.prog 97 #[.agg bl.toArray,aw,basis,date,p] w (ap w (.tuple #[.int .i64 (kP b aw basis date p).1,.int .i64 (kP b aw basis date p).2])):=by
 obtain⟨Kd,hpf,hpl,Ke⟩:=Js eU.1 sQ;have rD:=H_ (λ(w2:World)=>show Calls Tryz.prog 56 #[.agg #[b.g.calendar.year,b.g.calendar.month,b.g.calendar.periods],date] w2 (ap w2 (.tuple #[(iC b.g date),()])) by
  have h:=yl b.g.calendar.year b.g.calendar.month b.g.calendar.periods date w2 (fy eU.1)
  rwa[sQ]at h)
 have pb:=H_ (λ(w2:World)=>show Calls Tryz.prog 30 #[.agg #[b.g.calendar.year,b.g.calendar.month,b.g.calendar.periods],p] w2 (ap w2 (.tuple #[(bA b.g p),()])) by
  have h:=eS b.g.calendar.year b.g.calendar.month b.g.calendar.periods p w2
  rwa[(mj eU.1 p).2 iA]at h)
 have ft:aw.size<=140737488355328:=by have:=VM eh;omega
 have kC:b.g.currency.size<=140737488355328:=by have:=ci.1.2.2.1;omega
 have fZ:gl.toArray.size=21:=by have:=hk.g.len;simpa using this
 have kY:=H_ (show bl.toArray.size=27 by have:=hk.len;simpa using this);have yO:=H_ (show gl.length=21 from hk.g.len);have lF:=H_ (λ(W2:World) (B:Nat) (h:W2.heap[B]? =some (.cells bl.toArray 36 (0,0)))=>nQ h (λi hi=>by rw[List.getElem?_toArray];exact hk.at_g hi) hk.g.len);have CA:=H_ (λ(i:Nat) (hi:i<21)=>(show bl.toArray[i]? =gl.toArray[i]? by rw[List.getElem?_toArray,List.getElem?_toArray];exact hk.at_g hi));have HE:=H_ (show bl.toArray[21]? =some (.slice Ae b.es.length ce)/\bl.toArray[22]? =some (.slice Ar b.rs.length cr) by rw[List.getElem?_toArray,List.getElem?_toArray];exact hk.at_e);obtain⟨h0,h1,h2,h3,_⟩:=hk.g.cellsA;have m8:=H_ ((CA.o 0 (by omega)).trans h0);have jG:=H_ ((CA.o 1 (by omega)).trans h1);have jv:=H_ ((CA.o 2 (by omega)).trans h2);have kB:=H_ ((CA.o 3 (by omega)).trans h3);obtain⟨Ac,cc,Iy,Ds,_,LE,h4,_⟩:=hk.g.view;have nF:=H_ ((CA.o 20 (by omega)).trans (show gl.toArray[20]? =some (.slice Iy b.g.entities.length Ds) by rw[List.getElem?_toArray];exact LE));have zF:=H_ ((CA.o 4 (by omega)).trans (show gl.toArray[4]? =some (.slice Ac b.g.chart.length cc) by rw[List.getElem?_toArray];exact h4));have HSP:=H_ (λ(w2:World) (hb:Below w.heap.size w w2) (d:Int) (hd:inD d)=>Ts gl b.g.currency aw b.rs Ar cr d w2 fZ h0 (hk.keep hb).rs ci.2.2.1 kC ci.2.2.2 eU.2.2 eh hd);have HAV:=H_ (λ(w2:World) (hb:Below w.heap.size w w2)=>Hr gl b.g.currency aw b.rs Ar cr b.g.calendar.year b.g.calendar.month b.g.calendar.periods (iC b.g date) w2 fZ h0 h1 h2 h3 (hk.keep hb).rs ci.2.2.1 kC ft ci.2.2.2 eU.2.2 eh (fy eU.1) Kd);have HLD:=H_ (nX eU.1 iA);have HID:=H_ Ke;rw[PI];obtain⟨R,hR⟩:=x_ ((if basis=1 then fO b.rs b.g.currency aw (bA b.g p)else if basis=2 then oS b.rs b.g.currency aw (lJ b.g (iC b.g date)) (bA b.g (iC b.g date)) (iC b.g date)else fO b.rs b.g.currency aw date));rw[hR];have HR:=H_ hR;obtain⟨r1,r2⟩:=R;simp only;clear hk ci hR Kd hpf hpl Ke ft kC fZ h0 h1 h2 h3 LE h4 eU eh iA sQ;go_enter Tryz.func97,Tryz.ntmps97;go_upto_region 1 with fail;obtain⟨W1,cS,H1,bC,dr,ewx⟩:=B_ w (.cells bl.toArray 36);rw[cS];clear ewx;clear cS;have fB:=H_ H1;have YA:=H_ (lF.o W1 _ H1);have lT:=H_ (dg H1 jG.o jv.o kB.o);clear H1;by_cases eL:basis=1
 case pos=>
  have hf:=H_ (show fO b.rs b.g.currency aw (bA b.g p)=(r1,r2) by have h:=HR.o;rwa[if_pos eL]at h);replace eL:(basis==1)=true:=by simpa using eL
  go_wp2_with (refine w_ 22 23 21 w.heap.size (1) _ lT.o bV Tryz.underlying23 ?_);refine(pb.o _).mono ?_;rintro e w2 ⟨rfl,aH⟩;have aF:=bC.trans (aH.mono bC.size);have dn:=k_ aH fB;have vq:=H_ (lF.o w2 _ dn.o);have c22:=(ab dn.o 22).trans HE.o.2;have eE:=H_ (HSP.o w2 aF _ HLD.o);rw[hf.o]at eE;go_wp2_with (refine w_ 28 29 27 w.heap.size (0) gl vq.o (by rw[ay];exact congrArg some yO.o.symm) Tryz.underlying29 ?_);refine eE.o.mono ?_;rintro e w3 ⟨rfl,aZ⟩;go_wp2_with fail;go_ret2;exact⟨rfl,aF.trans (aZ.mono aF.size)⟩
 case neg=>
 by_cases hb2':basis=2
 case pos=>
  have hf:=H_ (show oS b.rs b.g.currency aw (lJ b.g (iC b.g date)) (bA b.g (iC b.g date)) (iC b.g date)=(r1,r2) by have h:=HR.o;rwa[if_neg eL,if_pos hb2']at h);replace eL:(basis==1)=false:=by simpa using eL
  replace hb2':(basis==2)=true:=by simpa using hb2'
  go_wp2_with (refine w_ 41 23 40 w.heap.size (1) _ lT.o bV Tryz.underlying23 ?_);refine(rD.o _).mono ?_;rintro e w2 ⟨rfl,aH⟩;have aF:=bC.trans (aH.mono bC.size);have dn:=k_ aH fB;have vq:=H_ (lF.o w2 _ dn.o);have c22:=(ab dn.o 22).trans HE.o.2;have aM:=HAV.o w2 aF;have eE:=H_ (show Calls Tryz.prog 132 #[.agg gl.toArray,.slice Ar b.rs.length cr,aw,(iC b.g date)] w2 (ap w2 (.tuple #[r1,r2])) by
   have e:=hf.o;unfold lJ bA at e;rw[e]at aM;exact aM)
  clear aM;go_wp2_with (refine w_ 47 29 46 w.heap.size (0) gl vq.o (by rw[ay];exact congrArg some yO.o.symm) Tryz.underlying29 ?_);refine eE.o.mono ?_;rintro e w3 ⟨rfl,aZ⟩;go_wp2_with fail;go_ret2;exact⟨rfl,aF.trans (aZ.mono aF.size)⟩
 case neg=>
  have hf:=H_ (show fO b.rs b.g.currency aw date=(r1,r2) by have h:=HR.o;rwa[if_neg eL,if_neg hb2']at h);replace eL:(basis==1)=false:=by simpa using eL
  replace hb2':(basis==2)=false:=by simpa using hb2'
  have c22:=(ab fB.o 22).trans HE.o.2;have eE:=H_ (HSP.o W1 bC _ HID.o);rw[hf.o]at eE;go_wp2_with (refine w_ 56 29 55 w.heap.size (0) gl YA.o (by rw[ay];exact congrArg some yO.o.symm) Tryz.underlying29 ?_);refine eE.o.mono ?_;rintro e w3 ⟨rfl,aZ⟩;go_wp2_with fail;go_ret2;exact⟨rfl,bC.trans (aZ.mono bC.size)⟩
theorem qZ (b:XBk) (bl gl tl:List Value) (Ae Ar:Option Addr) (ce cr:Nat) (ent code date p:Int) (w:World) (hk:BkC w (·<w.heap.size) bl b gl Ae ce Ar cr tl) (ci:okB b) (eU:cE b) (ep:dZ b ent) (lS:cx code) (iA:eN b p) (sQ:(cT b.g.calendar.year b.g.calendar.month b.g.calendar.periods date).2=0):Calls Tryz.prog 57 #[.agg bl.toArray,ent,code,date,p] w (ap w (.tuple #[.int .i64 (dM b ent code date p).2.1,.int .i64 (dM b ent code date p).2.2])):=by
 have J8:=λ(h:(gz (cZ b ent) code (bA b.g p)).2≠0)=>Ej (b:=b) (ent:=ent) (date:=date) h
 have rS:=λ(h:(gz (cZ b ent) code (bA b.g p)).2=0)=>(show ∃a,aK b.g.chart (gz (cZ b ent) code (bA b.g p)).1=some a/\dM b ent code date p=((gz (cZ b ent) code (bA b.g p)).1,kP b (cZ b ent).currency a.basis date p)from(AA eU ep (code:=code) (date:=date) (p:=p) h).acc)
 have pb:=H_ (λ(w2:World)=>show Calls Tryz.prog 30 #[.agg #[b.g.calendar.year,b.g.calendar.month,b.g.calendar.periods],p] w2 (ap w2 (.tuple #[(bA b.g p),()])) by
  have h:=eS b.g.calendar.year b.g.calendar.month b.g.calendar.periods p w2
  rwa[(mj eU.1 p).2 iA]at h)
 have RO:=H_ (λ(w2:World) (hb:Below w.heap.size w w2) (basis:Int)=>PH b bl gl tl Ae Ar ce cr (cZ b ent).currency basis date p w2 (hk.keep hb) ci eU (akJ eU ep) iA sQ);have kY:=H_ (show bl.toArray.size=27 by have:=hk.len;simpa using this);have yO:=H_ (show gl.length=21 from hk.g.len);have lF:=H_ (λ(W2:World) (B:Nat) (h:W2.heap[B]? =some (.cells bl.toArray 36 (0,0)))=>nQ h (λi hi=>by rw[List.getElem?_toArray];exact hk.at_g hi) hk.g.len);have CA:=H_ (λ(i:Nat) (hi:i<21)=>(show bl.toArray[i]? =gl.toArray[i]? by rw[List.getElem?_toArray,List.getElem?_toArray];exact hk.at_g hi));have HE:=H_ (show bl.toArray[21]? =some (.slice Ae b.es.length ce)/\bl.toArray[22]? =some (.slice Ar b.rs.length cr) by rw[List.getElem?_toArray,List.getElem?_toArray];exact hk.at_e);obtain⟨h0,h1,h2,h3,_⟩:=hk.g.cellsA;have m8:=H_ ((CA.o 0 (by omega)).trans h0);have jG:=H_ ((CA.o 1 (by omega)).trans h1);have jv:=H_ ((CA.o 2 (by omega)).trans h2);have kB:=H_ ((CA.o 3 (by omega)).trans h3);obtain⟨Ac,cc,Iy,Ds,_,LE,h4,_⟩:=hk.g.view;have nF:=H_ ((CA.o 20 (by omega)).trans (show gl.toArray[20]? =some (.slice Iy b.g.entities.length Ds) by rw[List.getElem?_toArray];exact LE));have zF:=H_ ((CA.o 4 (by omega)).trans (show gl.toArray[4]? =some (.slice Ac b.g.chart.length cc) by rw[List.getElem?_toArray];exact h4));obtain⟨_,_,_,_,_,_,_,_,_,_,aee,abe⟩:=hk.g.view;obtain⟨A1,k1,A2,k2,_,iJ,g4,_,_,_,ee,vD⟩:=hk.g.view;rw[LE]at iJ;rw[h4]at g4;simp only[Option.some.injEq,Value.slice.injEq,true_and]at iJ g4;obtain⟨rfl,rfl⟩:=iJ;obtain⟨rfl,rfl⟩:=g4;obtain⟨q,hq,rfl,zT⟩:=me ep;have CK:cZ b (q:Int)=b.g.entities[q]:=zT;obtain⟨be,oe,es,dj,oQ,bL,aS⟩:=aj.get vD q hq;subst dj;have yG:=ci.1.2.2.2 _ (List.getElem_mem hq);rw[CK]at J8 rS RO;obtain⟨x,hx⟩:=x_ (b.g.entities[q]);rw[hx]at bL yG J8 rS RO;have zg:=H_ (λ(w2:World) (hb:Below w.heap.size w w2)=>Jw x es code (bA b.g p) w2 (aN.mono (aN.fr bL (Fr.ofBelow hb)) (λq h=>Nat.lt_of_lt_of_le h hb.size)) yG lS (nX eU.1 iA));have Kj:=H_ (λ(w2:World) (hb:Below w.heap.size w w2)=>gC aS (Fr.ofBelow hb));have tW:=H_ (λ(w2:World) (hb:Below w.heap.size w w2) (m:Int) (hm:cx m)=>mU b.g.chart _ _ m w2 (az ee hb) hm ci.1.1);have Ou:=H_ (λ(a:ah) (m:Int) (h:aK b.g.chart m=some a)=>(show pG a/\a.code=m from⟨ee.accB a (cJ h).1,(cJ h).2⟩));obtain⟨Acx,ccx,Alx,clx,mE,_⟩:=bL.lit;generalize m5:bA b.g p=la at*;obtain⟨m,hm⟩:=x_ (gz x code la);rw[hm]at zg J8 rS;obtain⟨L,hL⟩:=x_ (dM b (q:Int) code date p);rw[hL]at J8 rS |-;have F6:=H_ rS;have Ka:=H_ J8;obtain⟨m1,m2⟩:=m;obtain⟨l1,l2,l3⟩:=L;simp only at F6 Ka zg |-;obtain⟨ne,bT⟩:∃n,b.g.entities.length=n:=⟨_,rfl⟩;rw[bT]at nF hq;have IR:(q:Int)< (ne:Int):=by omega
 obtain⟨na,Ix⟩:∃n,b.g.chart.length=n:=⟨_,rfl⟩;rw[Ix]at tW zF;obtain⟨xn,xcu,xch,xls,xj⟩:=x;simp only at mE;obtain⟨n1,VE⟩:∃n,xch.length=n:=⟨_,rfl⟩;obtain⟨n2,oO⟩:∃n,xls.length=n:=⟨_,rfl⟩;rw[VE,oO]at mE;unfold lH at mE;have ae9:=H_ mE;rw[mE]at zg Kj;have Z3:=H_ (λ(w2:World) (hb:Below w.heap.size w w2) (basis:Int)=>RO.o w2 hb basis);clear RO J8 rS ee vD aee abe bL aS oQ yG hx hm hL bT Ix zT CK h0 h1 h2 h3 LE h4 lS sQ iA ep ci eU hk m5 mE VE oO;go_enter Tryz.func57,Tryz.ntmps57;go_upto_region 1 with fail;obtain⟨W1,cS,H1,bC,dr,ewx⟩:=B_ w (.cells bl.toArray 36);rw[cS];clear ewx;clear cS;have fB:=H_ H1;have lT:=H_ (dg H1 jG.o jv.o kB.o);clear H1;go_wp2_with (refine w_ 22 23 21 w.heap.size (1) _ lT.o bV Tryz.underlying23 ?_);refine(pb.o _).mono ?_;rintro e w2 ⟨rfl,aH⟩;have aF:=bC.trans (aH.mono bC.size);have dn:=k_ aH fB;have dW:=Nat.lt_of_lt_of_le dr aH.size;have Mp:=(ab dn.o 20).trans nF.o;have vq:=H_ (Kj.o w2 aF);go_upto_region 3 with(first|(refine w_ 32 74 31 be (oe+q*5) _ vq.o cD Tryz.underlying74 ?_)|(show wpList _ _ _ (Oper.mk none (Op.store _ (Operand.tmp 14) _) _ _ _ _::_) _ _;refine aO rfl 74 (.tmp 14) (.tmp 32) rfl rfl w2 #[.string ⟨#[]⟩,.string ⟨#[]⟩,.slice none 0 0,.slice none 0 0,false] 74 #[xn,xcu,.slice Acx n1 ccx,.slice Alx n2 clx,xj] rfl rfl rfl cD rfl (by simp[Value.oneCell']) ?_;intro w3 H3 eA rE))
 clear Mp IR;have aR:=aF.trans (eA.mono aF.size);have kS:=k_ eA dn;have TQ:=H_ H3;have LX3:=H_ (ag H3);clear H3;go_wp2_with (refine W_ 34 74 14 (w2.heap.size) TQ.o cD Tryz.underlying74 ?_);refine(zg.o w3 aR).mono ?_;rintro e w4 ⟨rfl,bU⟩;have bD:=aR.trans (bU.mono aR.size);have oW:=k_ bU kS;have HX4:=H_ ((bU.block _ LX3.o).trans TQ.o);by_cases jA:m2=0
 case neg=>
  have hl:=Ka.o jA;have hmb:(m2 !=0)=true:=by simpa using jA
  obtain⟨rfl,rfl,rfl⟩:l1=0/\l2=0/\l3=15:=by simpa using hl
  clear hl jA;go_wp2_with fail;go_ret2;exact⟨rfl,bD⟩
 case pos=>
 subst jA;obtain⟨a,MQ,hl⟩:=F6.o rfl;have ni:=Ou.o a m1 MQ;have ny:=H_ (tW.o w4 bD m1 (by rw[<-ni.2];exact ni.1.1));unfold cF at ny;rw[MQ]at ny;have HL:=H_ hl;clear hl ni MQ;obtain⟨a1,a2,a3,a4⟩:=a;simp only[gH,Option.getD_some,bn,Option.isSome_some]at ny HL;have Cz:=H_ (λ(w6:World) (hb:Below w.heap.size w w6)=>Z3.o w6 hb a3);clear Z3;generalize kP b xcu a3 date p=R at*;obtain⟨r1,r2⟩:=R;obtain⟨rfl,rfl,rfl⟩:l1=m1/\l2=r1/\l3=r2:=by simpa using HL.o
 clear HL Ka F6 Ou;have c4:=(ab oW.o 4).trans zF.o;go_wp2_with fail;refine ny.o.mono ?_;rintro e w5 ⟨rfl,cP⟩;have fG:=bD.trans (cP.mono bD.size);have QZ:=k_ cP oW;have HX5:=k_ cP HX4;clear c4;go_upto_region 7 with(show wpList _ _ _ (Oper.mk none (Op.store _ (Operand.tmp 17) _) _ _ _ _::_) _ _;refine aO rfl 78 (.tmp 17) (.tmp 48) rfl rfl w5 #[(),(),(),()] 78 #[a1,a2,a3,a4] rfl rfl rfl gy rfl (by simp[Value.oneCell']) ?_;intro w6 H6 dK my)
 have sS:=k_ dK QZ;have x1:=ab ((dK.block _ (ag HX5.o)).trans HX5.o) 1;have c2:=ab H6 2;have fi:=fG.trans (dK.mono fG.size);clear H6;go_wp2_with (refine W_ 50 36 5 (w.heap.size) sS.o (by rw[bF];exact congrArg some kY.o.symm) Tryz.underlying36 ?_);refine(Cz.o w6 fi).mono ?_;rintro e w7 ⟨rfl,fC⟩;go_wp2_with fail;go_ret2;exact⟨rfl,fi.trans (fC.mono fi.size)⟩
theorem LA {b:XBk} {ent code date p:Int} (h:(dM b ent code date p).2.2=0):(gz (cZ b ent) code (bA b.g p)).1=(dM b ent code date p).1:=by
 unfold dM at h |-;simp only at h |-;split at h
 ·exact absurd h (by decide)
 ·rename_i h1;rw[if_neg h1];split at h
  ·exact absurd h (by decide)
  ·rfl
theorem AO (b:XBk) (bl gl tl:List Value) (Ae Ar:Option Addr) (ce cr:Nat) (ent p:Int) (w:World) (hk:BkC w (·<w.heap.size) bl b gl Ae ce Ar cr tl) (ci:okB b) (eU:cE b) (iA:eN b p) (ep:dZ b ent) (lX:cx p) (x:ak) (xs:List Value) (j:Nat) (hx:ax w (·<w.heap.size) xs x) (rQ:x.entity=ent) (hj:j<x.lines.length) (sQ:(cT b.g.calendar.year b.g.calendar.month b.g.calendar.periods x.date).2=0):
 Calls Tryz.prog 49 #[.agg bl.toArray,.agg xs.toArray,(j:Int),p] w (ap w (.tuple #[.agg (lq (jr b x j p).1).toArray,.int .i64 (jr b x j p).2])):=by
 have kY:=H_ (show bl.toArray.size=27 by have:=hk.len;simpa using this);have yO:=H_ (show gl.length=21 from hk.g.len);have lF:=H_ (λ(W2:World) (B:Nat) (h:W2.heap[B]? =some (.cells bl.toArray 36 (0,0)))=>nQ h (λi hi=>by rw[List.getElem?_toArray];exact hk.at_g hi) hk.g.len);have CA:=H_ (λ(i:Nat) (hi:i<21)=>(show bl.toArray[i]? =gl.toArray[i]? by rw[List.getElem?_toArray,List.getElem?_toArray];exact hk.at_g hi));have HE:=H_ (show bl.toArray[21]? =some (.slice Ae b.es.length ce)/\bl.toArray[22]? =some (.slice Ar b.rs.length cr) by rw[List.getElem?_toArray,List.getElem?_toArray];exact hk.at_e);obtain⟨h0,h1,h2,h3,_⟩:=hk.g.cellsA;have m8:=H_ ((CA.o 0 (by omega)).trans h0);have jG:=H_ ((CA.o 1 (by omega)).trans h1);have jv:=H_ ((CA.o 2 (by omega)).trans h2);have kB:=H_ ((CA.o 3 (by omega)).trans h3);obtain⟨Ac,cc,Iy,Ds,_,LE,h4,_⟩:=hk.g.view;have nF:=H_ ((CA.o 20 (by omega)).trans (show gl.toArray[20]? =some (.slice Iy b.g.entities.length Ds) by rw[List.getElem?_toArray];exact LE));have zF:=H_ ((CA.o 4 (by omega)).trans (show gl.toArray[4]? =some (.slice Ac b.g.chart.length cc) by rw[List.getElem?_toArray];exact h4));obtain⟨q,hq,rfl,zT⟩:=me ep;have CK:cZ b (q:Int)=b.g.entities[q]:=zT;obtain⟨_,_,aeQ,afe,_,iJ,_,_,_,_,ee,vD⟩:=hk.g.view;rw[LE]at iJ;simp only[Option.some.injEq,Value.slice.injEq,true_and]at iJ;obtain⟨rfl,rfl⟩:=iJ;obtain⟨be,oe,es,dj,oQ,bL,aaD⟩:=aj.get vD q hq;subst dj;obtain⟨Al,cl,YJ,oY,lP⟩:=hx.lit;have gm:=lP.cap;obtain⟨b0,o0,ys,hAl,el,Xj,aS⟩:=aj.get lP j hj;subst hAl;obtain⟨rfl,Sk⟩:=Xj.lit;have hln:x.lines.getD j {}=x.lines[j]:=by rw[List.getD_eq_getElem?_getD,List.getElem?_eq_getElem hj];rfl
 obtain⟨I,hI⟩:=x_ (jr b x j p);have vu:=hI;unfold jr at vu;simp only[hln]at vu;have lQ:=λ(w2:World) (hb:Below w.heap.size w w2)=>qZ b bl gl tl Ae Ar ce cr (q:Int) x.lines[j].account x.date p w2 (hk.keep hb) ci eU ep Sk.1 iA sQ
 have JQ:=λ(w2:World) (hb:Below w.heap.size w w2) (h:(dM b (q:Int) x.lines[j].account x.date p).2.2=0)=>PZ b.g gl (dM b (q:Int) x.lines[j].account x.date p).1 x.date p w2 (hk.keep hb).g ci.1 eU.1 iA lX (by
  obtain⟨a,ha⟩:=Option.isSome_iff_exists.1 (pU h);rw[<-(cJ ha).2];exact(ee.accB a (cJ ha).1).1) (pU h)
 have yG:=ci.1.2.2.2 _ (List.getElem_mem hq);have hAT:=λ(w2:World) (hb:Below w.heap.size w w2)=>Jw b.g.entities[q] es x.lines[j].account (bA b.g p) w2 (aN.mono (aN.fr bL (Fr.ofBelow hb)) (λq h=>Nat.lt_of_lt_of_le h hb.size)) yG Sk.1 (nX eU.1 iA)
 have Z2:=λ(h:(dM b (q:Int) x.lines[j].account x.date p).2.2=0)=>LA h
 rw[CK]at Z2;have aaJ:=H_ (λ(w2:World) (hb:Below w.heap.size w w2)=>gC aaD (Fr.ofBelow hb));have Db:=H_ (show(Tryz.prog.info? 74).map (·.size)=some es.length by
  obtain⟨_,_,_,_,e,_⟩:=bL.lit;rw[e];exact cD)
 have pb:=H_ (λ(w2:World)=>show Calls Tryz.prog 30 #[.agg #[b.g.calendar.year,b.g.calendar.month,b.g.calendar.periods],p] w2 (ap w2 (.tuple #[(bA b.g p),()])) by
  have h:=eS b.g.calendar.year b.g.calendar.month b.g.calendar.periods p w2
  rwa[(mj eU.1 p).2 iA]at h)
 rw[rQ]at vu;obtain⟨L,hL⟩:=x_ (dM b (q:Int) x.lines[j].account x.date p);rw[hL]at vu;simp only[hL]at lQ JQ Z2;generalize m5:bA b.g p=la at*;obtain⟨m2,jA⟩:∃m,(gz b.g.entities[q] x.lines[j].account la).2=m:=⟨_,rfl⟩;simp only[jA]at hAT;obtain⟨m1,nx⟩:∃m,(gz b.g.entities[q] x.lines[j].account la).1=m:=⟨_,rfl⟩;simp only[nx]at hAT Z2;rw[hI];obtain⟨l1,l2,l3⟩:=L;simp only at vu JQ lQ Z2;obtain⟨sh,hsh⟩:∃s,lK b.g l1 x.date p=s:=⟨_,rfl⟩;simp only[hsh]at JQ vu;obtain⟨y1,y2,y3,On⟩:∃y1 y2 y3,x.lines[j]=⟨y1,y2,y3⟩:=⟨_,_,_,rfl⟩;rw[On]at vu;simp only[On]at lQ hAT;obtain⟨c1,c2,jY⟩:∃c1 c2,cN y2 l2=(c1,c2):=⟨_,_,rfl⟩;have Fl:=H_ (λ(w2:World)=>show Calls Tryz.prog 83 #[y2,l2] w2 (ap w2 (.tuple #[c1,c2])) by
  have h:=Ht y2 l2 w2
  rwa[jY]at h)
 simp only[jY]at vu;have HY:=H_ (λ(w2:World) (hb:Below w.heap.size w w2)=>show w2.rangeAt b0 (o0+j*3) [y1,y2,y3]from by
  have h:=gC aS (Fr.ofBelow hb)
  rwa[On]at h)
 obtain⟨xi,xe,xd,xk,xo,xt,ls⟩:=x;simp only at YJ oY gm vu lQ JQ rQ hj |-;subst rQ;obtain⟨nl,bj⟩:∃n,ls.length=n:=⟨_,rfl⟩;rw[bj]at YJ hj gm;subst YJ;obtain⟨ne,bT⟩:∃n,b.g.entities.length=n:=⟨_,rfl⟩;rw[bT]at nF hq;have Om:=H_ lQ;have Oq:=H_ JQ;have zg:=H_ hAT;have HME:=H_ Z2;have HI:=H_ vu;have IR:(j:Int)< (nl:Int):=by omega
 have HQE:=H_ (show(q:Int)< (ne:Int) by omega);unfold maxLen at gm;clear hk sQ oY lP Sk Xj aS aaD hln hI JQ hsh On ep hL lQ vu hx bj hj eU ci iA lX el jY hAT Z2 m5 nx jA yG ee vD bL oQ bT hq zT CK h0 h1 h2 h3 LE h4;go_enter Tryz.func49,Tryz.ntmps49;go_upto_region 1 with fail;obtain⟨W1,cS,H1,bC,dr,ewx⟩:=B_ w (.cells bl.toArray 36);rw[cS];clear ewx;have yN:=H_ (show W1.heap.size=w.heap.size+1 by rw[<-cS];simp);clear cS;obtain⟨W2,fR,H2,dz,jK,ewx⟩:=B_ W1 (.cells #[xi,(q:Int),xd,xk,xo,xt,.slice (some ⟨b0,o0,none⟩) nl cl] 51);rw[fR];clear ewx;have Xo:=H_ (show W2.heap.size=W1.heap.size+1 by rw[<-fR];simp);clear fR;obtain⟨W3,hW3,H3,eA,rE,ewx⟩:=B_ W2 (.cells #[(),(),(),(),(),(),()] 42);rw[hW3];clear ewx;clear hW3;have Fz:=H_ (bC.trans ((dz.trans (eA.mono dz.size)).mono bC.size));have E2:=H_ (show W2.heap.size=w.heap.size+2 by rw[Xo.o,yN.o]);have HSX:=H_ (show w.heap.size+2<W3.heap.size by rw[<-E2.o];exact rE);have iY:=H_ (show W3.heap[w.heap.size]? =some (.cells bl.toArray 36 (0,0))from(eA.block _ (by rw[E2.o];omega)).trans ((dz.block _ dr).trans H1));have hE3:W3.heap[w.heap.size+1]? =some (.cells #[xi,(q:Int),xd,xk,xo,xt,.slice (some ⟨b0,o0,none⟩) nl cl] 51 (0,0)):=(eA.block _ (by rw[E2.o];omega)).trans (by rw[<-yN.o];exact H2);have zA:=H_ hE3;have l7:=H_ (show W3.heap[w.heap.size+2]? =some (.cells #[(),(),(),(),(),(),()] 42 (0,0)) by rw[<-E2.o];exact H3);have HYR:=H_ (HY.o W3 Fz.o);have x6:=ab hE3 6;clear hE3 H1 H2 H3 bC dz eA dr jK rE;go_upto_region 2 with(first|(refine w_ 25 60 24 b0 (o0+j*3) [y1,y2,y3] HYR.o cK Tryz.underlying60 ?_)|(show wpList _ _ _ (Oper.mk none (Op.store _ (Operand.tmp 10) _) _ _ _ _::_) _ _;refine aO rfl 60 (.tmp 10) (.tmp 25) rfl rfl W3 #[(),(),()] 60 #[y1,y2,y3] rfl rfl rfl cK rfl (by simp[Value.oneCell']) ?_;intro W4 H4 gw Bo))
 clear x6 IR;have oP:=t_ Fz gw;have i9:=k_ gw iY;have Fo:=k_ gw zA;have kX:=k_ gw l7;have Z5:=H_ H4;have y0:=ab H4 0;have x1:=ab Fo.o 1;have x2:=ab Fo.o 2;clear H4 gw Bo;go_wp2_with (refine W_ 27 36 4 (w.heap.size) i9.o (by rw[bF];exact congrArg some kY.o.symm) Tryz.underlying36 ?_);refine(Om.o W4 oP.o).mono ?_;rintro e w5 ⟨rfl,cP⟩;have lW:=k_ cP i9;have rW:=k_ cP Fo;have vv:=k_ cP kX;have R8:=k_ cP Z5;have l5:=t_ oP cP;clear cP y0 x1 x2;by_cases za:l3=0
 case neg=>
  have hf:=H_ (show I=(({}:bW),l3) by rw[<-HI.o,if_pos za]);have ad3:(l3 !=0)=true:=by simpa using za
  clear za;go_wp2_with (show wpList _ _ _ (Oper.mk none (Op.store _ (Operand.tmp 8) _) _ _ _ _::_) _ _;go_loud (refine wpList_store_row rfl 42 (.tmp 8) (.tmp 40) rfl (w.heap.size+2) #[(),(),(),(),(),(),()] rfl rfl 42 #[(),(),(),(),(),(),()] vv.o aP rfl (by simp[Value.oneCell']) ?_));refine bodyPost_ret (v:=.tuple #[.agg #[(),(),(),(),(),(),()],l3]) (aA rfl _ _ (w.heap.size+2) 42 #[(),(),(),(),(),(),()] (0,0) _ rfl (aB vv.o _) Tryz.underlying42 rfl aP _ rfl) rfl ?_;exact⟨hf.o.symm▸rfl,aD l5.o (by omega) _⟩
 case pos=>
 subst za;have aa5:=HME.o rfl;have acC:=H_ (λ(w2:World) (hb:Below w.heap.size w w2)=>Oq.o w2 hb rfl);rw[aa5]at zg;clear Oq HME aa5;have y1c:=ab R8.o 1;go_wp2_with fail;refine(Fl.o w5).mono ?_;rintro e w6 ⟨rfl,dd⟩;have px:=k_ dd lW;have yK:=k_ dd rW;have pz:=k_ dd vv;have Mq:=k_ dd R8;have nG:=t_ l5 dd;clear dd y1c;by_cases gn:c2=0
 case neg=>
  have hf:=H_ (show I=(({}:bW),2) by rw[<-HI.o,if_neg (by simp),if_pos gn]);have adk:(c2 !=0)=true:=by simpa using gn
  clear gn;go_wp2_with (show wpList _ _ _ (Oper.mk none (Op.store _ (Operand.tmp 8) _) _ _ _ _::_) _ _;go_loud (refine wpList_store_row rfl 42 (.tmp 8) (.tmp 51) rfl (w.heap.size+2) #[(),(),(),(),(),(),()] rfl rfl 42 #[(),(),(),(),(),(),()] pz.o aP rfl (by simp[Value.oneCell']) ?_));refine bodyPost_ret (v:=.tuple #[.agg #[(),(),(),(),(),(),()],(2:Int)]) (aA rfl _ _ (w.heap.size+2) 42 #[(),(),(),(),(),(),()] (0,0) _ rfl (aB pz.o _) Tryz.underlying42 rfl aP _ rfl) rfl ?_;exact⟨hf.o.symm▸rfl,aD nG.o (by omega) _⟩
 case pos=>
 subst gn;have hf:=H_ (show I=(⟨⟨xi,(j:Int)⟩,(q:Int),sh,y3,xd,c1⟩,0) by rw[<-HI.o,if_neg (by simp),if_neg (by simp)]);have lT:=H_ (dg px.o jG.o jv.o kB.o);go_wp2_with (refine w_ 55 23 54 w.heap.size (1) _ lT.o bV Tryz.underlying23 ?_);refine(pb.o _).mono ?_;rintro e W7 ⟨rfl,fC⟩;have pB:=k_ fC px;have QM:=k_ fC yK;have nw:=k_ fC pz;have TT:=k_ fC Mq;have fE:=t_ nG fC;have LTB:=H_ (ag pB.o);have LTE:=H_ (ag QM.o);have LTL:=H_ (ag TT.o);have B20:=H_ ((ab pB.o 20).trans nF.o);have E1:=H_ (ab QM.o 1);have L0:=H_ (ab TT.o 0);have yM:=H_ (λ(w2:World) (hb:Below W7.heap.size W7 w2)=>zg.o w2 (fE.o.trans (hb.mono fE.o.size)));have Kj:=H_ (λ(w2:World) (hb:Below W7.heap.size W7 w2)=>aaJ.o w2 (fE.o.trans (hb.mono fE.o.size)));clear fC;go_upto_region 9 with fail;have IR:=HQE.o;refine bp (Ks W7 [.val (.pointer (some ⟨w.heap.size,0,none⟩)),.val (.pointer (some ⟨w.heap.size,20,none⟩)),.val (.slice (some ⟨be,oe,none⟩) ne Ds),.val (.pointer (some ⟨(w.heap.size+1),1,none⟩)),(q:Int),.val (.pointer (some ⟨be,oe+q*5,none⟩)),.val (.agg es.toArray),.val (.pointer (some ⟨W3.heap.size,0,none⟩)),y1,la,.val (.tuple #[l1,m2]),.val (.tuple #[l1,m2]),l1,m2,l1,m2])
  (λw'=>Below W7.heap.size W7 w') K_ K_ K_ (Below.refl _ _).drew ?_ ?_
 ·refine⟨b_ (q_ 4),b_ (p_ 0 61),e_ (p_ 1 62) λ_ h=>l_ h LTB.o B20.o,b_ (q_ 5),e_ (p_ 3 64) λ_ h=>l_ h LTE.o E1.o,c_ (p_ 2 63) (p_ 4 65),?_,b_ (q_ 10),e_ (p_ 7 68) (p:=⟨W3.heap.size,0,none⟩) λ_ h=>l_ h LTL.o L0.o,b_ (q_ 15),?_,b_ (p_ 10 71),b_ (p_ 11 60),b_ (p_ 11 60),b_ (p_ 12 72),b_ (p_ 13 73),trivial⟩
  ·refine O1_ (p_ 5 66) λA0 w2 K e0 hS hK=>?_;have aJ:w2.rangeAt be (oe+q*5) es:=Kj.o _ hS;have aI:=Db.o;refine wp_load_mid 74 (.tmp 66) rfl _ _ (v_ e0) _ _ aJ Tryz.underlying74 rfl aI ?_;exact kq hK hS rfl
  ·refine O3_ (p_ 6 67) (p_ 8 69) (p_ 9 70) λA0 w2 K e0 e1 e2 hS hK=>?_;go_simp
   go_at_call 84
   refine(yM.o _ hS).mono ?_;rintro e w3 ⟨rfl,h3⟩;exact hK.out _ _ (hS.trans (h3.mono hS.size)) (Ks.of rfl rfl) (Ks.keep h3)
 ·intro _ A0 w2 hI hall;have hS:=hI.world;have c9:=hI.ch hall [61,62,63,64,65,66,67,68,69,70,71,60,72,73,17,18];obtain⟨x0,x1,x2,x3,x4,x5,x6,x7,x8,x9,dN,ef,fh,gU,LR,jH,hA,hV⟩:=c9;obtain rfl:LR=.int .i64 l1:=hV 14 _ _ rfl _ rfl;obtain rfl:jH=.int .i64 m2:=hV 15 _ _ rfl _ rfl;clear hV hI hall;simp only[ba,List.foldl,List.setIfInBounds_toArray,List.set_cons_zero,List.set_cons_succ]at hA;rw[hA];clear hA;have jX:=hS;have NJ:=k_ jX pB;have VF:=k_ jX QM;have Nv:=k_ jX nw;have HL8:=k_ jX TT;have qL:=t_ fE jX;have YA:=H_ (lF.o _ _ NJ.o);have e2:=ab VF.o 2;clear jX hS IR;go_wp2_with (refine w_ 76 29 75 w.heap.size (0) gl YA.o (by rw[ay];exact congrArg some yO.o.symm) Tryz.underlying29 ?_);refine(acC.o _ qL.o).mono ?_;rintro e w9 ⟨rfl,kT⟩;have hE9:=(kT.block _ (ag VF.o)).trans VF.o;have hL9:=(kT.block _ (ag HL8.o)).trans HL8.o;have HZ9:=k_ kT Nv;have XN:=t_ qL kT;have e00:=ab hE9 0;have e01:=ab hE9 1;have e02:=ab hE9 2;have l02:=ab hL9 2;clear kT hE9 hL9 e2;go_wp2_with (show wpList _ _ _ (Oper.mk none (Op.store _ (Operand.tmp 8) _) _ _ _ _::_) _ _;go_loud (refine wpList_store_row rfl 42 (.tmp 8) (.tmp 96) rfl (w.heap.size+2) #[xi,(j:Int),(q:Int),sh,y3,xd,c1] rfl rfl 42 #[(),(),(),(),(),(),()] HZ9.o aP rfl (by simp[Value.oneCell']) ?_));refine bodyPost_ret (v:=.tuple #[.agg #[xi,(j:Int),(q:Int),sh,y3,xd,c1],()]) (aA rfl _ _ (w.heap.size+2) 42 #[xi,(j:Int),(q:Int),sh,y3,xd,c1] (0,0) _ rfl (aB HZ9.o _) Tryz.underlying42 rfl aP _ rfl) rfl ?_;exact⟨hf.o.symm▸rfl,aD XN.o (by omega) _⟩
def pI (b:XBk):Prop:=GK b.g b.es/\b.rs.length<=300
theorem BQ (b:XBk) (bl gl tl:List Value) (Ae Ar:Option Addr) (ce cr:Nat) (w:World) (hk:BkC w (·<w.heap.size) bl b gl Ae ce Ar cr tl) (bP:szG b.g) (ry:∀x∈b.es,x.text.size<=140737488355327):Calls Tryz.prog 17 #[.agg bl.toArray] w (If (pI b) w):=by
 have IK:=H_ (λ(w2:World) (hb:Below w.heap.size w w2)=>SR b.g b.es gl Ae ce w2 (hk.keep hb).g bP (hk.keep hb).es ry);obtain⟨kY,yO,lF,CA,HE,m8,jG,jv,kB,Ac,cc,Iy,Ds,nF,zF⟩:=agt hk;have gr:=hk.rs.cap;unfold maxLen at gr;obtain⟨nr,Za⟩:∃n,b.rs.length=n:=⟨_,rfl⟩;have HNR:=H_ Za;rw[Za]at HE gr;clear hk bP ry Za;go_enter Tryz.func17,Tryz.ntmps17;go_upto_region 1 with fail;obtain⟨W1,cS,H1,bC,dr,ewx⟩:=B_ w (.cells bl.toArray 36);rw[cS];clear ewx;clear cS;have fB:=H_ H1;have Bx:=H_ (lF.o W1 _ H1);have qx:=(ab H1 21).trans HE.o.1;clear H1;go_wp2_with (refine w_ 4 29 3 w.heap.size (0) gl Bx.o (by rw[ay];exact congrArg some yO.o.symm) Tryz.underlying29 ?_);refine(IK.o W1 bC).mono ?_;rintro e w2 ⟨v,rfl,hv,aH⟩;have aF:=bC.trans (aH.mono bC.size);have dn:=k_ aH fB;have HV:=H_ hv;clear hv qx;cases v with
 |false=>
  go_wp2_with fail;go_ret;exact If.no aF
 |true=>
  have c22:=(ab dn.o 22).trans HE.o.2;by_cases h3:(nr:Int)<=300
  case pos=>
   have hd:decide ((nr:Int)<=300)=true:=decide_eq_true h3;have HP:=H_ (show pI b from⟨HV.o rfl,by rw[HNR.o];omega⟩);clear h3;go_wp2_with fail;go_ret;exact If.yes HP.o aF
  case neg=>
   have hd:decide ((nr:Int)<=300)=false:=decide_eq_false h3;clear h3;go_wp2_with fail;go_ret;exact If.no aF
end
end Go.Proofs.YtibiddakakgakaaGreat
