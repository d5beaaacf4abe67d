/- slices.SortFunc at entries. Written by gen_y13.py. -/
import Derived.Test.YtibiddakakgakaaGreatQdY4P9
set_option linter.unusedVariables false
set_option linter.unusedSimpArgs false
set_option maxRecDepth 4000
attribute [local go_sem ↓] Go.wp_at_zero Go.wp_at_succ
set_option maxHeartbeats 16000000
namespace Go.Proofs.YtibiddakakgakaaGreat
section
open Go Go.RowKit Go.Shelf Go.Lib
open Go.Sort hiding Below
def Mg:Go.Shelf.Ren:=⟨λ|6=>58|15=>99|14=>98|28=>141|29=>142|20=>133|21=>134|22=>135|23=>136|24=>137|25=>138|26=>139|27=>140|46=>174|47=>175|48=>176|49=>177|50=>178|57=>211|n=>n,λ|22=>30|24=>51|25=>115|3=>3|39=>147|0=>0|53=>187|55=>189|4=>4|46=>180|45=>179|50=>184|5=>5|9=>9|66=>210|70=>214|76=>248|77=>249|n=>n,λ|n=>n⟩
theorem acl:Go.Proofs.SlLaysF0.n6 Tryz.prog Mg:={
 mixed:=by kernel_rfl,
 f6:=⟨Tryz.f58.name,by decide,Tryz.func58.trans (congrArg some K_)⟩,
 f14:=⟨Tryz.f98.name,by decide,Tryz.func98.trans (congrArg some K_)⟩,
 f15:=Tryz.func99.trans (congrArg some K_),
 f20:=⟨Tryz.f133.name,by decide,Tryz.func133.trans (congrArg some K_)⟩,
 f21:=⟨Tryz.f134.name,by decide,Tryz.func134.trans (congrArg some K_)⟩,
 f22:=⟨Tryz.f135.name,by decide,Tryz.func135.trans (congrArg some K_)⟩,
 f23:=⟨Tryz.f136.name,by decide,Tryz.func136.trans (congrArg some K_)⟩,
 f24:=⟨Tryz.f137.name,by decide,Tryz.func137.trans (congrArg some K_)⟩,
 f25:=⟨Tryz.f138.name,by decide,Tryz.func138.trans (congrArg some K_)⟩,
 f26:=⟨Tryz.f139.name,by decide,Tryz.func139.trans (congrArg some K_)⟩,
 f27:=⟨Tryz.f140.name,by decide,Tryz.func140.trans (congrArg some K_)⟩,
 f28:=Tryz.func141.trans (congrArg some K_),
 f29:=Tryz.func142.trans (congrArg some K_),
 f46:=⟨Tryz.f174.name,by decide,Tryz.func174.trans (congrArg some K_)⟩,
 f47:=Tryz.func175.trans (congrArg some K_),
 f48:=Tryz.func176.trans (congrArg some K_),
 f49:=⟨Tryz.f177.name,by decide,Tryz.func177.trans (congrArg some K_)⟩,
 f50:=⟨Tryz.f178.name,by decide,Tryz.func178.trans (congrArg some K_)⟩,
 f57:=⟨Tryz.f211.name,by decide,Tryz.func211.trans (congrArg some K_)⟩,
 t0:=Tryz.underlying0,
 a0:=Tryz.isAgg0,
 z0:=Tryz.sizeOf0,
 v0:=Tryz.zeroValue0,
 t3:=Tryz.underlying3,
 a3:=Tryz.isAgg3,
 z3:=Tryz.sizeOf3,
 v3:=Tryz.zeroValue3,
 t4:=Tryz.underlying4,
 a4:=Tryz.isAgg4,
 z4:=Tryz.sizeOf4,
 v4:=Tryz.zeroValue4,
 t5:=Tryz.underlying5,
 a5:=Tryz.isAgg5,
 z5:=Tryz.sizeOf5,
 v5:=Tryz.zeroValue5,
 t9:=Tryz.underlying9,
 a9:=Tryz.isAgg9,
 z9:=Tryz.sizeOf9,
 v9:=Tryz.zeroValue9,
 t22:=Tryz.underlying30,
 a22:=Tryz.isAgg30,
 z22:=Tryz.sizeOf30,
 v22:=Tryz.zeroValue30,
 t25:=Tryz.underlying115,
 a25:=Tryz.isAgg115,
 z25:=Tryz.sizeOf115,
 v25:=Tryz.zeroValue115,
 t39:=Tryz.underlying147,
 a39:=Tryz.isAgg147,
 z39:=Tryz.sizeOf147,
 v39:=Tryz.zeroValue147,
 t45:=Tryz.underlying179,
 a45:=Tryz.isAgg179,
 z45:=Tryz.sizeOf179,
 v45:=Tryz.zeroValue179,
 t46:=Tryz.underlying180,
 a46:=Tryz.isAgg180,
 z46:=Tryz.sizeOf180,
 v46:=Tryz.zeroValue180,
 t50:=Tryz.underlying184,
 a50:=Tryz.isAgg184,
 z50:=Tryz.sizeOf184,
 v50:=Tryz.zeroValue184,
 t53:=Tryz.underlying187,
 a53:=Tryz.isAgg187,
 z53:=Tryz.sizeOf187,
 v53:=Tryz.zeroValue187,
 t55:=Tryz.underlying189,
 a55:=Tryz.isAgg189,
 z55:=Tryz.sizeOf189,
 v55:=Tryz.zeroValue189,
 t66:=Tryz.underlying210,
 a66:=Tryz.isAgg210,
 z66:=Tryz.sizeOf210,
 v66:=Tryz.zeroValue210,
 t70:=Tryz.underlying214,
 a70:=Tryz.isAgg214,
 z70:=Tryz.sizeOf214,
 v70:=Tryz.zeroValue214,
 t76:=Tryz.underlying248,
 a76:=Tryz.isAgg248,
 z76:=Tryz.sizeOf248,
 v76:=Tryz.zeroValue248,
 t77:=Tryz.underlying249,
 a77:=Tryz.isAgg249,
 z77:=Tryz.sizeOf249,
 v77:=Tryz.zeroValue249}
theorem jt {α:Type} (f g:α->Int) (x y:α):ltOf (λx y=>orI (eG (f x) (f y)) (eG (g x) (g y))) x y=true↔f x<f y\/(f x=f y/\g x<g y):=by
 unfold ltOf orI eG;rw[decide_eq_true_iff];by_cases h1:f x<f y
 ·simp[h1]
 ·by_cases h2:f y<f x
  ·simp[h1,h2];omega
  ·have h3:f x=f y:=by omega
   by_cases h4:g x<g y
   ·simp[h3,h4]
   ·by_cases h5:g y<g x<;>simp[h3,h4,h5]
theorem Ty {α:Type} (f g:α->Int):SWO (ltOf (λx y:α=>orI (eG (f x) (f y)) (eG (g x) (g y)))) where
 irrefl x:=by
  cases h:ltOf (λx y:α=>orI (eG (f x) (f y)) (eG (g x) (g y))) x x with
  |false=>rfl
  |true=>have:=(jt f g x x).1 h;omega
 trans x y z h1 h2:=by
  have a:=(jt f g x y).1 h1;have b:=(jt f g y z).1 h2;exact(jt f g x z).2 (by omega)
 ntrans x y z h1 h2:=by
  cases h:ltOf (λx y:α=>orI (eG (f x) (f y)) (eG (g x) (g y))) x z with
  |false=>rfl
  |true=>
   have a:¬(f x<f y\/(f x=f y/\g x<g y)):=λe=>by rw[(jt f g x y).2 e]at h1;cases h1
   have b:¬(f y<f z\/(f y=f z/\g y<g z)):=λe=>by rw[(jt f g y z).2 e]at h2;cases h2
   have c:=(jt f g x z).1 h;omega
abbrev jS:=ak × Option Addr × Nat
def bY (x:jS):List Value:=[.int .i64 x.1.id,.int .i64 x.1.entity,.int .i64 x.1.date,.int .i64 x.1.kind,.int .i64 x.1.of_,.string x.1.text,.slice x.2.1 x.1.lines.length x.2.2]
def Lb (x y:jS):Int:=orI (eG x.1.date y.1.date) (eG x.1.id y.1.id)
theorem aez:SWO (ltOf Lb):=Ty (λx:jS=>x.1.date) (λx=>x.1.id)
instance:Inhabited jS:=⟨({},none,0)⟩
theorem SG (x y:jS) (w:World):Calls Tryz.prog 59 #[.agg (bY x).toArray,.agg (bY y).toArray] w (λe w'=>e=.returned (.int .i64 (Lb x y))/\gP w w'):=by
 obtain⟨⟨p1,p2,p3,p4,p5,p6,pl⟩,pA,pc⟩:=x;obtain⟨⟨q1,q2,q3,q4,q5,q6,ql⟩,qA,qc⟩:=y;obtain⟨pn,hpn⟩:∃n,pl.length=n:=⟨_,rfl⟩;obtain⟨qn,hqn⟩:∃n,ql.length=n:=⟨_,rfl⟩;show Calls Tryz.prog 59 #[.agg #[p1,p2,p3,p4,p5,p6,.slice pA pl.length pc],.agg #[q1,q2,q3,q4,q5,q6,.slice qA ql.length qc]] w (λe w'=>e=.returned (.int .i64 (orI (eG p3 q3) (eG p1 q1)))/\gP w w');rw[hpn,hqn];clear hpn hqn;go_enter Tryz.func59,Tryz.ntmps59;go_upto_region 1 with fail;have H:=heap_alloc_new w (.cells #[p1,p2,p3,p4,p5,p6,.slice pA pn pc] 51);have HB:=ai w (.cells #[p1,p2,p3,p4,p5,p6,.slice pA pn pc] 51);have HS:=ag H;have Vw:gP w (w.alloc (.cells #[p1,p2,p3,p4,p5,p6,.slice pA pn pc] 51)):=(gP.refl w).alloc _;generalize hW:w.alloc (Obj.cells #[p1,p2,p3,p4,p5,p6,.slice pA pn pc] 51)=W at*;have H2:=heap_alloc_new W (.cells #[q1,q2,q3,q4,q5,q6,.slice qA qn qc] 51);have dz:=ai W (.cells #[q1,q2,q3,q4,q5,q6,.slice qA qn qc] 51);have jK:=ag H2;replace H:=al H (Obj.cells #[q1,q2,q3,q4,q5,q6,.slice qA qn qc] 51);have abI:gP W (W.alloc (.cells #[q1,q2,q3,q4,q5,q6,.slice qA qn qc] 51)):=(gP.refl W).alloc _;generalize fR:W.alloc (Obj.cells #[q1,q2,q3,q4,q5,q6,.slice qA qn qc] 51)=W2 at*;clear fR;have eW:W.heap.size=w.heap.size+1:=by rw[<-hW];simp
 rw[eW]at H2;clear hW;have aH:=HB.trans (dz.mono HB.size);have dW:=dz.size;have lV:=ag H2;have nf:w.heap.size<W2.heap.size:=by omega
 have HH:=H_ H;have HZ:=H_ H2;have EW:=H_ eW;clear H H2 eW;have RL:=H_ (Vw.trans abI);have X0:=H_ (ab HH.o 0);have X2:=H_ (ab HH.o 2);have Y0:=H_ (ab HZ.o 0);have Y2:=H_ (ab HZ.o 2);have nf:=H_ nf;have lV:=H_ lV;clear Vw abI;refine bk (Ks W2 [.val (.pointer (some ⟨w.heap.size,2,none⟩)),p3,.val (.pointer (some ⟨(w.heap.size+1),2,none⟩)),q3,(eG p3 q3),.val (.pointer (some ⟨w.heap.size,0,none⟩)),p1,.val (.pointer (some ⟨(w.heap.size+1),0,none⟩)),q1,(eG p1 q1),.own (Dz (eG p3 q3) (eG p1 q1)) (Dz.keep _ _),(orI (eG p3 q3) (eG p1 q1)),(orI (eG p3 q3) (eG p1 q1))])
  (λw'=>gP W2 w') K_ K_ K_ (gP.refl _).drew ?_ ?_
 ·refine⟨b_ (q_ 2),?_,b_ (q_ 3),?_,?_,b_ (q_ 2),?_,b_ (q_ 3),?_,?_,?_,?_,b_ (p_ 11 16),trivial⟩
  ·intro _ A0 w2 hI hd hnd K hK;have e0:=hI.p hd 0 5;have hS:=hI.world;have cI:w2.cell? ⟨w.heap.size,2,none⟩=_:=((gP.below hS).cell (p:=⟨w.heap.size,2,none⟩) nf.o).trans X2.o;exact hI.z hK
  ·intro _ A0 w2 hI hd hnd K hK;have e0:=hI.p hd 2 7;have hS:=hI.world;have cI:w2.cell? ⟨(w.heap.size+1),2,none⟩=_:=((gP.below hS).cell (p:=⟨(w.heap.size+1),2,none⟩) lV.o).trans Y2.o;exact hI.z hK
  ·refine O2_ (p_ 1 6) (p_ 3 8) λA0 w2 K e0 e1 hS hK=>?_;go_simp
   go_at_call 61
   refine(sf p3 q3 w2).mono ?_;rintro e w3 ⟨rfl,rfl⟩;exact kq hK hS rfl
  ·intro _ A0 w2 hI hd hnd K hK;have e0:=hI.p hd 5 10;have hS:=hI.world;have cI:w2.cell? ⟨w.heap.size,0,none⟩=_:=((gP.below hS).cell (p:=⟨w.heap.size,0,none⟩) nf.o).trans X0.o;exact hI.z hK
  ·intro _ A0 w2 hI hd hnd K hK;have e0:=hI.p hd 7 12;have hS:=hI.world;have cI:w2.cell? ⟨(w.heap.size+1),0,none⟩=_:=((gP.below hS).cell (p:=⟨(w.heap.size+1),0,none⟩) lV.o).trans Y0.o;exact hI.z hK
  ·refine O2_ (p_ 6 11) (p_ 8 13) λA0 w2 K e0 e1 hS hK=>?_;go_simp
   go_at_call 61
   refine(sf p1 q1 w2).mono ?_;rintro e w3 ⟨rfl,rfl⟩;exact kq hK hS rfl
  ·refine O2_ (p_ 4 9) (p_ 9 14) λA0 w2 K e0 e1 hS hK=>?_;go_simp;exact hK.out _ _ (hS.alloc _) (Ks.of rfl (Dz.made _ _ _ _)) (Ks.keep (ai w2 _))
  ·intro _ A0 w2 hI hd hnd K hK;obtain⟨x0,e0,h0⟩:=hI.dep hd 10 15 rfl rfl rfl K_;have hS:=hI.world;obtain⟨gs,T0,rfl,kC⟩:=h0;refine aa rfl ?_;clear hI hd hnd;go_simp
   go_at_call 60
   refine(aew gs _ _ T0 w2 kC).mono ?_;rintro e w3 ⟨rfl,rfl⟩;exact kq hK hS rfl
 ·intro _ A0 w2 hI hall;have hS:=hI.world;have c9:=hI.ch hall [5,6,7,8,9,10,11,12,13,14,15,16,4];obtain⟨x0,x1,x2,x3,x4,x5,x6,x7,x8,x9,dN,ef,fh,hA,hV⟩:=c9;obtain rfl:fh=.int .i64 (orI (eG p3 q3) (eG p1 q1)):=hV 12 _ _ rfl _ rfl;clear hV hI hall;simp only[ba,List.foldl,List.setIfInBounds_toArray,List.set_cons_zero,List.set_cons_succ]at hA;rw[hA];clear hA;go_wp2_with fail;go_ret;exact⟨rfl,RL.o.trans hS⟩
theorem Tw (fj:List jS) (v:Value) (base:Nat) (w:World) (bv:w.ownsRow base 51 7 v fj.length (fj.flatMap bY)) (hn:fj.length<=100000) (jR:base<=w.heap.size):
 Calls Tryz.prog 58 #[v,.func (.func 59) #[] #[]] w (λe w'=>e=.returned (.tuple #[])/\∃lZ:List jS,lZ.Perm fj/\lZ.Pairwise (λx y=>ltOf Lb y x=false)/\aj (OB bY) 7 w' (λq=>base<=q/\q<w'.heap.size) [v] lZ/\Below base w w'/\w.heap.size<=w'.heap.size):=
 E7 acl 7 (by omega) Tryz.isAgg51 Tryz.sizeOf51 bY (λ_=>rfl) (λx v hv=>by simp[bY]at hv;rcases hv with rfl|rfl|rfl|rfl|rfl|rfl|rfl<;>rfl) Lb aez 59 (enters_of Tryz.func59 K_ rfl) SG fj v base w _ bv hn jR
end
section
open Go Go.RowKit
theorem AG {α:Type} {El:World->(Nat->Prop)->List Value->α->Prop} {f:α->List Value} {sz:Nat} (hf:∀x,(f x).length=sz) {w:World} {Q:Nat->Prop} {base:Nat} {e:TypeId} {v:Value} {xs:List α} (h:w.ownsRow base e sz v xs.length (xs.flatMap f)) (hE:∀x∈xs,El w Q (f x) x) (hQ:∀g,v.ownBlock=some g->Q g):aj El sz w Q [v] xs:=
 kO (css:=xs.map f) (λcs h=>by obtain⟨x,_,rfl⟩:=List.mem_map.1 h;exact hf x) (by rw[<-List.flatMap_def];exact h) (λi x hx=>⟨f x,by rw[List.getElem?_map,hx];rfl,hE x (List.mem_of_getElem? hx)⟩) hQ
theorem pX {w:World} {Q:Nat->Prop} {A:Option Addr} {c:Nat} {es:List ak} (h:aj ax 7 w Q [.slice A es.length c] es):
 ∃xs:List jS,xs.map (·.1)=es/\∀(i:Nat) (x:jS),xs[i]? =some x->ax w Q (bY x) x.1/\∃b o,A=some ⟨b,o,none⟩/\At w Q ⟨b,o+i*7,none⟩ (bY x):=by
 have ir:∀i:Fin es.length,∃p:Option Addr × Nat,ax w Q (bY (es[i.1],p)) es[i.1]/\∃b o,A=some ⟨b,o,none⟩/\At w Q ⟨b,o+i.1*7,none⟩ (bY (es[i.1],p)):=λi=>by
  obtain⟨b,o,cs,hA,_,hC,aS⟩:=aj.get h i.1 i.2;obtain⟨Al,cl,ft,_⟩:=hC.lit;subst ft;exact⟨(Al,cl),hC,b,o,hA,aS⟩
 obtain⟨f,hf⟩:=Classical.axiomOfChoice ir;refine⟨List.ofFn (λi:Fin es.length=>((es[i.1],f i):jS)),?_,λi x hx=>?_⟩
 ·apply List.ext_getElem
  ·simp
  ·intro i h1 h2;simp
 ·obtain⟨hi,e⟩:=List.getElem?_eq_some_iff.1 hx;rw[List.length_ofFn]at hi;rw[List.getElem_ofFn]at e;subst e;exact hf ⟨i,hi⟩
theorem xr:(Tryz.prog.info? 42).map (λi=>(i.zero,i.size,i.bytes))=some (some (.agg #[(),(),(),(),(),(),()]),7,56):=by kernel_rfl
theorem GI {α:Type} {f:α->List Value} {w:World} {Q:Nat->Prop} {cs:List Value} {c:α} (h:OB f w Q cs c):cs=f c:=h
abbrev ItV (w:World) (Q:Nat->Prop) (v:Value) (l:List bW):Prop:=aj (OB lq) 7 w Q [v] l
theorem ItV.fr {w w':World} {Q:Nat->Prop} {v:Value} {l:List bW} (h:ItV w Q v l) (hf:Fr Q w w'):ItV w' Q v l:=aj.fr h (λh=>h) hf
theorem ItV.mono {w:World} {Q Q':Nat->Prop} {v:Value} {l:List bW} (h:ItV w Q v l) (hq:∀k,Q k->Q' k):ItV w Q' v l:=aj.mono h (λh=>h) hq
theorem ItV.keep {w w':World} {v:Value} {l:List bW} (h:ItV w (·<w.heap.size) v l) (hb:Below w.heap.size w w'):ItV w' (·<w'.heap.size) v l:=(h.fr (Fr.ofBelow hb)).mono (λ_ hk=>Nat.lt_of_lt_of_le hk hb.size)
def rX (R:List bW × Int) (w:World) (e:Ending) (w':World):Prop:=∃(A:Option Addr) (c:Nat),e=.returned (.tuple #[.slice A R.1.length c,R.2])/\ItV w' (·<w'.heap.size) (.slice A R.1.length c) R.1/\Below w.heap.size w w'
end
section
open Go Go.RowKit Go.ChangeShapes Go.WideShapes Go.Deep
structure BF where
 entity:Int:=0
 account:Int:=0
 date:Int:=0
 p:Int:=0
def tX (w:World) (Q:Nat->Prop) (cs:List Value) (x:BF):Prop:=∃c0 c1 c2 c3:List Value,cs=c0++c1++c2++c3/\av c0 x.entity/\av c1 x.account/\av c2 x.date/\av c3 x.p
theorem tX.lit {w:World} {Q:Nat->Prop} {cs:List Value} {x:BF} (h:tX w Q cs x):cs=[.int .i64 x.entity,.int .i64 x.account,.int .i64 x.date,.int .i64 x.p]/\cx x.entity/\cx x.account/\cx x.date/\cx x.p:=by
 obtain⟨c0,c1,c2,c3,rfl,⟨rfl,h0⟩,⟨rfl,h1⟩,⟨rfl,h2⟩,⟨rfl,h3⟩⟩:=h;exact⟨rfl,h0,h1,h2,h3⟩
section
variable {H:Type} {enc:TypeId × Value->H} {W:World}
def Io (x:aC):Prop:=x.currency.size<=140737488355327
theorem ZJ:fx enc W 70 (bN W (·<W.heap.size)) Io:=λbZ cs x h dS hz=>by
 obtain⟨xs,n,_,rfl,mH,eV,hf⟩:=DataW.trod_struct Tryz.underlying70 h;have akw:cs.length=4:=mH.trans K_;have hw:∀(j:Nat) (t:TypeId) (y:DataW H × List MemPlace),([9,3,3,3]:List TypeId)[j]? =some t->xs[j]? =some y->∀n∈y.1.weights Tryz.prog t,n<=reachBytes:=λj t y ht hy n hn=>hz n (by
  simp only[DataW.weights,Tryz.underlying70];exact DataW.weights_mem_each (j:=j) (t:=t) (d:=y.1) ht (by rw[List.getElem?_map,hy];rfl) n hn)
 have h0:=hf 0 _ rfl;obtain⟨y0,kz⟩:∃y,xs[0]? =some y:=⟨_,List.getElem?_eq_getElem (by rw[eV];decide)⟩;obtain⟨a0,q0,z0⟩:=AD _ _ _ (h0.trans kz) (λb cm hb=>dS b cm (List.mem_flatMap.2 ⟨y0,List.mem_of_getElem? kz,hb⟩)) (hw 0 _ y0 rfl kz);have h1:=hf 1 _ rfl;obtain⟨y1,gK⟩:∃y,xs[1]? =some y:=⟨_,List.getElem?_eq_getElem (by rw[eV];decide)⟩;obtain⟨a1,q1,z1⟩:=cL _ _ _ (h1.trans gK) (λb cm hb=>dS b cm (List.mem_flatMap.2 ⟨y1,List.mem_of_getElem? gK,hb⟩)) (hw 1 _ y1 rfl gK);have h2:=hf 2 _ rfl;obtain⟨y2,gS⟩:∃y,xs[2]? =some y:=⟨_,List.getElem?_eq_getElem (by rw[eV];decide)⟩;obtain⟨a2,q2,z2⟩:=cL _ _ _ (h2.trans gS) (λb cm hb=>dS b cm (List.mem_flatMap.2 ⟨y2,List.mem_of_getElem? gS,hb⟩)) (hw 2 _ y2 rfl gS);have h3:=hf 3 _ rfl;obtain⟨y3,pg⟩:∃y,xs[3]? =some y:=⟨_,List.getElem?_eq_getElem (by rw[eV];decide)⟩;obtain⟨a3,q3,z3⟩:=cL _ _ _ (h3.trans pg) (λb cm hb=>dS b cm (List.mem_flatMap.2 ⟨y3,List.mem_of_getElem? pg,hb⟩)) (hw 3 _ y3 rfl pg);refine⟨⟨a0,a1,a2,a3⟩,⟨_,_,_,_,?_,q0,q1,q2,q3⟩,z0⟩;have e0:(cs.drop 0).take (Tryz.prog.cellsOf 9)=(cs.drop 0).take 1:=by rw[show Tryz.prog.cellsOf 9=1 from by kernel_rfl]
 have e1:(cs.drop 1).take (Tryz.prog.cellsOf 3)=(cs.drop 1).take 1:=by rw[show Tryz.prog.cellsOf 3=1 from by kernel_rfl]
 have e2:(cs.drop 2).take (Tryz.prog.cellsOf 3)=(cs.drop 2).take 1:=by rw[show Tryz.prog.cellsOf 3=1 from by kernel_rfl]
 have e3:(cs.drop 3).take (Tryz.prog.cellsOf 3)=(cs.drop 3).take 1:=by rw[show Tryz.prog.cellsOf 3=1 from by kernel_rfl]
 show cs=(cs.drop 0).take (Tryz.prog.cellsOf 9)++(cs.drop 1).take (Tryz.prog.cellsOf 3)++(cs.drop 2).take (Tryz.prog.cellsOf 3)++(cs.drop 3).take (Tryz.prog.cellsOf 3);rw[e0,e1,e2,e3];have z:cs=cs.drop 0:=rfl;have t0:=aq cs 0 1;have t1:=aq cs 1 1;have t2:=aq cs 2 1;have t3:=aq cs 3 1;have tn:cs.drop 4=[]:=List.drop_eq_nil_of_le (by omega);simp only[Nat.reduceAdd]at t0 t1 t2 t3;have r3:=t3.trans (by rw[tn,List.append_nil]);have r2:=t2.trans (congrArg (_++ ·) r3);have r1:=t1.trans (congrArg (_++ ·) r2);have r0:=t0.trans (congrArg (_++ ·) r1);refine z.trans (r0.trans ?_);simp only[List.append_assoc]
theorem Te:fx enc W 31 (aj bN 4 W (·<W.heap.size)) (yF Io):=sy Tryz.underlying31 K_ (by decide) ZJ
theorem xK {T E:TypeId} (ht:Tryz.prog.underlying T=some (.slice E)):fx enc W T (λcs (_:Unit)=>∃v,cs=[v]/\v.oneCell'=true) Qx:=λbZ cs x h dS hz=>by
 rcases open_slice ht h with⟨rfl,rfl⟩|⟨a,len,cap,m,n,Df,Pl,rfl,_,hl,hm,Iz,rfl,hi⟩
 ·exact⟨(),⟨_,rfl,rfl⟩,trivial⟩
 ·exact⟨(),⟨_,rfl,rfl⟩,trivial⟩
def Bz (w:World) (cs:List Value) (b:XBk):Prop:=∃gl Ae ce Ar cr tl,BkC w (·<w.heap.size) cs b gl Ae ce Ar cr tl
def Fb (b:XBk):Prop:=szG b.g/\(∀x∈b.es,Co x)/\∀r∈b.rs,Io r
theorem Cb:fx enc W 36 (Bz W) Fb:=λbZ cs x h dS hz=>by
 obtain⟨xs,n,_,rfl,mH,eV,hf⟩:=DataW.trod_struct Tryz.underlying36 h;have akw:cs.length=27:=mH.trans K_;have hw:∀(j:Nat) (t:TypeId) (y:DataW H × List MemPlace),([29,30,31,32,33,34,9]:List TypeId)[j]? =some t->xs[j]? =some y->∀n∈y.1.weights Tryz.prog t,n<=reachBytes:=λj t y ht hy n hn=>hz n (by
  simp only[DataW.weights,Tryz.underlying36];exact DataW.weights_mem_each (j:=j) (t:=t) (d:=y.1) ht (by rw[List.getElem?_map,hy];rfl) n hn)
 have h0:=hf 0 _ rfl;obtain⟨y0,kz⟩:∃y,xs[0]? =some y:=⟨_,List.getElem?_eq_getElem (by rw[eV];decide)⟩;obtain⟨a0,q0,z0⟩:=Tb _ _ _ (h0.trans kz) (λb cm hb=>dS b cm (List.mem_flatMap.2 ⟨y0,List.mem_of_getElem? kz,hb⟩)) (hw 0 _ y0 rfl kz);have h1:=hf 1 _ rfl;obtain⟨y1,gK⟩:∃y,xs[1]? =some y:=⟨_,List.getElem?_eq_getElem (by rw[eV];decide)⟩;obtain⟨a1,q1,z1⟩:=Pn _ _ _ (h1.trans gK) (λb cm hb=>dS b cm (List.mem_flatMap.2 ⟨y1,List.mem_of_getElem? gK,hb⟩)) (hw 1 _ y1 rfl gK);have h2:=hf 2 _ rfl;obtain⟨y2,gS⟩:∃y,xs[2]? =some y:=⟨_,List.getElem?_eq_getElem (by rw[eV];decide)⟩;obtain⟨a2,q2,z2⟩:=Te _ _ _ (h2.trans gS) (λb cm hb=>dS b cm (List.mem_flatMap.2 ⟨y2,List.mem_of_getElem? gS,hb⟩)) (hw 2 _ y2 rfl gS);have h3:=hf 3 _ rfl;obtain⟨y3,pg⟩:∃y,xs[3]? =some y:=⟨_,List.getElem?_eq_getElem (by rw[eV];decide)⟩;obtain⟨a3,q3,z3⟩:=(xK Tryz.underlying32) _ _ _ (h3.trans pg) (λb cm hb=>dS b cm (List.mem_flatMap.2 ⟨y3,List.mem_of_getElem? pg,hb⟩)) (hw 3 _ y3 rfl pg);have h4:=hf 4 _ rfl;obtain⟨y4,zS⟩:∃y,xs[4]? =some y:=⟨_,List.getElem?_eq_getElem (by rw[eV];decide)⟩;obtain⟨a4,q4,z4⟩:=(xK Tryz.underlying33) _ _ _ (h4.trans zS) (λb cm hb=>dS b cm (List.mem_flatMap.2 ⟨y4,List.mem_of_getElem? zS,hb⟩)) (hw 4 _ y4 rfl zS);have h5:=hf 5 _ rfl;obtain⟨y5,Ni⟩:∃y,xs[5]? =some y:=⟨_,List.getElem?_eq_getElem (by rw[eV];decide)⟩;obtain⟨a5,q5,z5⟩:=(xK Tryz.underlying34) _ _ _ (h5.trans Ni) (λb cm hb=>dS b cm (List.mem_flatMap.2 ⟨y5,List.mem_of_getElem? Ni,hb⟩)) (hw 5 _ y5 rfl Ni);have h6:=hf 6 _ rfl;obtain⟨y6,Of⟩:∃y,xs[6]? =some y:=⟨_,List.getElem?_eq_getElem (by rw[eV];decide)⟩;obtain⟨a6,q6,z6⟩:=AD _ _ _ (h6.trans Of) (λb cm hb=>dS b cm (List.mem_flatMap.2 ⟨y6,List.mem_of_getElem? Of,hb⟩)) (hw 6 _ y6 rfl Of);have e0:(cs.drop 0).take (Tryz.prog.cellsOf 29)=(cs.drop 0).take 21:=by rw[show Tryz.prog.cellsOf 29=21 from by kernel_rfl]
 have e1:(cs.drop 21).take (Tryz.prog.cellsOf 30)=(cs.drop 21).take 1:=by rw[show Tryz.prog.cellsOf 30=1 from by kernel_rfl]
 have e2:(cs.drop 22).take (Tryz.prog.cellsOf 31)=(cs.drop 22).take 1:=by rw[show Tryz.prog.cellsOf 31=1 from by kernel_rfl]
 have e3:(cs.drop 23).take (Tryz.prog.cellsOf 32)=(cs.drop 23).take 1:=by rw[show Tryz.prog.cellsOf 32=1 from by kernel_rfl]
 have e4:(cs.drop 24).take (Tryz.prog.cellsOf 33)=(cs.drop 24).take 1:=by rw[show Tryz.prog.cellsOf 33=1 from by kernel_rfl]
 have e5:(cs.drop 25).take (Tryz.prog.cellsOf 34)=(cs.drop 25).take 1:=by rw[show Tryz.prog.cellsOf 34=1 from by kernel_rfl]
 have e6:(cs.drop 26).take (Tryz.prog.cellsOf 9)=(cs.drop 26).take 1:=by rw[show Tryz.prog.cellsOf 9=1 from by kernel_rfl]
 have r0:=e0;have r1:=e1;have r2:=e2;have r3:=e3;have r4:=e4;have r5:=e5;have r6:=e6;have q0':aL W (·<W.heap.size) ((cs.drop 0).take 21) a0:=by rw[<-e0];exact q0
 have q1':aj ax 7 W (·<W.heap.size) ((cs.drop 21).take 1) a1:=by rw[<-e1];exact q1
 have q2':aj bN 4 W (·<W.heap.size) ((cs.drop 22).take 1) a2:=by rw[<-e2];exact q2
 have q3':∃v,(cs.drop 23).take 1=[v]/\v.oneCell'=true:=by rw[<-e3];exact q3
 have q4':∃v,(cs.drop 24).take 1=[v]/\v.oneCell'=true:=by rw[<-e4];exact q4
 have q5':∃v,(cs.drop 25).take 1=[v]/\v.oneCell'=true:=by rw[<-e5];exact q5
 have q6':(cs.drop 26).take 1=[.string a6]:=by rw[<-e6];exact q6
 clear e0 e1 e2 e3 e4 e5 e6 r0 r1 r2 r3 r4 r5 r6 q0 q1 q2 q3 q4 q5 q6 hw hf h0 h1 h2 h3 h4 h5 h6;have t0:=aq cs 0 21;have t1:=aq cs 21 1;have t2:=aq cs 22 1;have t3:=aq cs 23 1;have t4:=aq cs 24 1;have t5:=aq cs 25 1;have t6:=aq cs 26 1;have tn:cs.drop 27=[]:=List.drop_eq_nil_of_le (by omega);simp only[Nat.reduceAdd,List.drop_zero]at t0 t1 t2 t3 t4 t5 t6;obtain⟨Ae,ce,k1,k2⟩:=q1'.form;obtain⟨Ar,cr,k3,k4⟩:=q2'.form;obtain⟨v3,k5,o3⟩:=q3';obtain⟨v4,k6,o4⟩:=q4';obtain⟨v5,k7,o5⟩:=q5';refine⟨⟨a0,a1,a2⟩,⟨(cs.drop 0).take 21,Ae,ce,Ar,cr,[v3,v4,v5,.string a6],?_,rfl,?_,q0',?_,?_⟩,⟨z0,z1,z2⟩⟩
 ·rw[List.drop_zero];refine t0.trans (congrArg _ ?_);rw[t1,k1,t2,k3,t3,k5,t4,k6,t5,k7,t6,q6',tn];rfl
 ·intro v hv;simp only[List.mem_cons,List.not_mem_nil,or_false]at hv;rcases hv with rfl|rfl|rfl|rfl
  ·exact o3
  ·exact o4
  ·exact o5
  ·rfl
 ·rw[<-k1];exact q1'
 ·rw[<-k3];exact q2'
end
end
section
open Go Go.RowKit
def aks (l:List bW):Prop:=(∀x∈l,-1000000000000<=x.amount/\x.amount<=1000000000000)/\l.length<=1000000
theorem KG {l:List bW} (h:aks l):∀k:Nat,k<=l.length-> -1000000000000*(k:Int)<=f9 (l.take k)/\f9 (l.take k)<=1000000000000*(k:Int)
 |0,_=>by simp[f9]
 |k+1,hk=>by
  obtain⟨h1,h2⟩:=KG h k (by omega);have:=h.1 _ (List.getElem_mem (show k<l.length by omega));rw[ake (show k<l.length by omega)];omega
theorem ala (l:List bW) (A:Option Addr) (c:Nat) (w:World) (hl:aj (OB lq) 7 w (·<w.heap.size) [.slice A l.length c] l) (hs:aks l):Calls Tryz.prog 38 #[.slice A l.length c] w (ap w (.int .i64 (-f9 l))):=by
 obtain⟨r,hr⟩:=x_ (-f9 l);rw[hr];have HR:=H_ hr;obtain⟨n,bj⟩:=x_ (l.length);have HL:=H_ hl;have HN:=H_ bj;have HS:=H_ hs;have hn:n<=1000000:=by rw[<-bj];exact hs.2
 rw[bj];clear hr hl bj hs;go_enter Tryz.func38,Tryz.ntmps38;go_wp2_with fail
 go_loopw [3,8] (λs i wr=>∃k:Nat,k<=n/\s=.int .i64 (-f9 (l.take k))/\i=.int .i64 (k:Int)/\Below w.heap.size w wr) (λ_ i _=>n- (intOf i).toNat)
 case atStart=>exact⟨0,by omega,rfl,rfl,Below.refl _ _⟩
 case round=>
  obtain⟨k,hk,rfl,rfl,hb⟩:=hrel;by_cases aU:k<n
  case pos=>
   have bq:(k:Int)< (n:Int):=by omega
   have bI:k<l.length:=by rw[HN.o];exact aU
   obtain⟨b,o,es,dj,ed,bL,aS⟩:=aj.get HL.o k bI;subst dj;have bE:es=lq l[k]:=bL;rw[bE]at aS;have jE:=HS.o.1 _ (List.getElem_mem bI);have oZ:=H_ (ake bI);have hBk:=KG HS.o k (by omega);obtain⟨x,hx⟩:=x_ (l[k]);rw[hx]at aS jE;have HX:=H_ hx;obtain⟨⟨i1,i2⟩,i3,i4,i5,i6,am⟩:=x;simp only at jE;obtain⟨S,hS⟩:=x_ (f9 (l.take k));rw[hS]at hBk |-;have CB:=H_ hS;have HBK:=H_ hBk;obtain⟨yI,yH⟩:=hBk;obtain⟨eL,aH⟩:=jE;have lY:=aS.fr (Fr.ofBelow hb);have eZ:=H_ lY.range;clear bL bE aS lY hx hS;go_upto_region 5 with(refine w_ 11 42 10 b (o+k*7) [i1,i2,i3,i4,i5,i6,am] eZ.o aP Tryz.underlying42 ?_);obtain⟨W6,mC,H6,dK,my,ewx⟩:=B_ wr (.cells #[i1,i2,i3,i4,i5,i6,am] 42);rw[mC];clear ewx;clear mC;have c6:=ab H6 6;have dd:=hb.trans (dK.mono hb.size);clear H6;go_wp2_with fail;go_roundw
   case rel=>exact⟨k+1,by omega,by rw[oZ.o,HX.o,CB.o];first|done|go_num|(congr 1;omega),by go_num,dd⟩
   case measure=>first|exact aQ aU|(simp only[intOf];omega)
  case neg=>
   have bq:¬(k:Int)< (n:Int):=by omega
   obtain⟨S,hS⟩:=x_ (f9 (l.take k));rw[hS];have hf:=H_ (show r= -S by rw[<-HR.o,<-hS,show k=n from by omega,<-HN.o,List.take_length]);clear hS;go_wp2_with fail;go_ret;exact⟨hf.o.symm▸rfl,hb⟩
def pI (b:XBk):Prop:=GK b.g b.es/\b.rs.length<=300
theorem BQ (b:XBk) (bl gl tl:List Value) (Ae Ar:Option Addr) (ce cr:Nat) (w:World) (hk:BkC w (·<w.heap.size) bl b gl Ae ce Ar cr tl) (bP:szG b.g) (ry:∀x∈b.es,x.text.size<=140737488355327):Calls Tryz.prog 17 #[.agg bl.toArray] w (If (pI b) w):=by
 have IK:=H_ (λ(w2:World) (hb:Below w.heap.size w w2)=>SR b.g b.es gl Ae ce w2 (hk.keep hb).g bP (hk.keep hb).es ry);obtain⟨kY,yO,lF,CA,HE,m8,jG,jv,kB,Ac,cc,Iy,Ds,nF,zF⟩:=agt hk;have gr:=hk.rs.cap;unfold maxLen at gr;obtain⟨nr,Za⟩:∃n,b.rs.length=n:=⟨_,rfl⟩;have HNR:=H_ Za;rw[Za]at HE gr;clear hk bP ry Za;go_enter Tryz.func17,Tryz.ntmps17;go_upto_region 1 with fail;obtain⟨W1,cS,H1,bC,dr,ewx⟩:=B_ w (.cells bl.toArray 36);rw[cS];clear ewx;clear cS;have fB:=H_ H1;have Bx:=H_ (lF.o W1 _ H1);have qx:=(ab H1 21).trans HE.o.1;clear H1;go_wp2_with (refine w_ 4 29 3 w.heap.size (0) gl Bx.o (by rw[ay];exact congrArg some yO.o.symm) Tryz.underlying29 ?_);refine(IK.o W1 bC).mono ?_;rintro e w2 ⟨v,rfl,hv,aH⟩;have aF:=bC.trans (aH.mono bC.size);have dn:=k_ aH fB;have HV:=H_ hv;clear hv qx;cases v with
 |false=>
  go_wp2_with fail;go_ret;exact If.no aF
 |true=>
  have c22:=(ab dn.o 22).trans HE.o.2;by_cases h3:(nr:Int)<=300
  case pos=>
   have hd:decide ((nr:Int)<=300)=true:=decide_eq_true h3;have HP:=H_ (show pI b from⟨HV.o rfl,by rw[HNR.o];omega⟩);clear h3;go_wp2_with fail;go_ret;exact If.yes HP.o aF
  case neg=>
   have hd:decide ((nr:Int)<=300)=false:=decide_eq_false h3;clear h3;go_wp2_with fail;go_ret;exact If.no aF
end
end Go.Proofs.YtibiddakakgakaaGreat
