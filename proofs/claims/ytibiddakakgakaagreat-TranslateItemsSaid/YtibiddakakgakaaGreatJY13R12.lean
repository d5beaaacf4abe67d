/- slices.SortFunc at entries. Written by gen_y13.py. -/
import Derived.Test.YtibiddakakgakaaGreatJY10C8
set_option linter.unusedVariables false
set_option linter.unusedSimpArgs false
set_option maxRecDepth 4000
attribute [local go_sem ↓] Go.wp_at_zero Go.wp_at_succ
set_option maxHeartbeats 16000000
namespace Go.Proofs.YtibiddakakgakaaGreat
section
open Go Go.RowKit Go.Shelf Go.Lib
open Go.Sort hiding Below
def Mg:Go.Shelf.Ren:=⟨λ|6=>58|15=>99|14=>98|28=>141|29=>142|20=>133|21=>134|22=>135|23=>136|24=>137|25=>138|26=>139|27=>140|46=>174|47=>175|48=>176|49=>177|50=>178|57=>211|n=>n,λ|22=>30|24=>51|25=>115|3=>3|39=>147|0=>0|53=>187|55=>189|4=>4|46=>180|45=>179|50=>184|5=>5|9=>9|66=>210|70=>214|76=>248|77=>249|n=>n,λ|n=>n⟩
theorem acl:Go.Proofs.SlLaysF0.n6 Tryz.prog Mg:={
 mixed:=by kernel_rfl,
 f6:=⟨Tryz.f58.name,by decide,Tryz.func58.trans (congrArg some K_)⟩,
 f14:=⟨Tryz.f98.name,by decide,Tryz.func98.trans (congrArg some K_)⟩,
 f15:=Tryz.func99.trans (congrArg some K_),
 f20:=⟨Tryz.f133.name,by decide,Tryz.func133.trans (congrArg some K_)⟩,
 f21:=⟨Tryz.f134.name,by decide,Tryz.func134.trans (congrArg some K_)⟩,
 f22:=⟨Tryz.f135.name,by decide,Tryz.func135.trans (congrArg some K_)⟩,
 f23:=⟨Tryz.f136.name,by decide,Tryz.func136.trans (congrArg some K_)⟩,
 f24:=⟨Tryz.f137.name,by decide,Tryz.func137.trans (congrArg some K_)⟩,
 f25:=⟨Tryz.f138.name,by decide,Tryz.func138.trans (congrArg some K_)⟩,
 f26:=⟨Tryz.f139.name,by decide,Tryz.func139.trans (congrArg some K_)⟩,
 f27:=⟨Tryz.f140.name,by decide,Tryz.func140.trans (congrArg some K_)⟩,
 f28:=Tryz.func141.trans (congrArg some K_),
 f29:=Tryz.func142.trans (congrArg some K_),
 f46:=⟨Tryz.f174.name,by decide,Tryz.func174.trans (congrArg some K_)⟩,
 f47:=Tryz.func175.trans (congrArg some K_),
 f48:=Tryz.func176.trans (congrArg some K_),
 f49:=⟨Tryz.f177.name,by decide,Tryz.func177.trans (congrArg some K_)⟩,
 f50:=⟨Tryz.f178.name,by decide,Tryz.func178.trans (congrArg some K_)⟩,
 f57:=⟨Tryz.f211.name,by decide,Tryz.func211.trans (congrArg some K_)⟩,
 t0:=Tryz.underlying0,
 a0:=Tryz.isAgg0,
 z0:=Tryz.sizeOf0,
 v0:=Tryz.zeroValue0,
 t3:=Tryz.underlying3,
 a3:=Tryz.isAgg3,
 z3:=Tryz.sizeOf3,
 v3:=Tryz.zeroValue3,
 t4:=Tryz.underlying4,
 a4:=Tryz.isAgg4,
 z4:=Tryz.sizeOf4,
 v4:=Tryz.zeroValue4,
 t5:=Tryz.underlying5,
 a5:=Tryz.isAgg5,
 z5:=Tryz.sizeOf5,
 v5:=Tryz.zeroValue5,
 t9:=Tryz.underlying9,
 a9:=Tryz.isAgg9,
 z9:=Tryz.sizeOf9,
 v9:=Tryz.zeroValue9,
 t22:=Tryz.underlying30,
 a22:=Tryz.isAgg30,
 z22:=Tryz.sizeOf30,
 v22:=Tryz.zeroValue30,
 t25:=Tryz.underlying115,
 a25:=Tryz.isAgg115,
 z25:=Tryz.sizeOf115,
 v25:=Tryz.zeroValue115,
 t39:=Tryz.underlying147,
 a39:=Tryz.isAgg147,
 z39:=Tryz.sizeOf147,
 v39:=Tryz.zeroValue147,
 t45:=Tryz.underlying179,
 a45:=Tryz.isAgg179,
 z45:=Tryz.sizeOf179,
 v45:=Tryz.zeroValue179,
 t46:=Tryz.underlying180,
 a46:=Tryz.isAgg180,
 z46:=Tryz.sizeOf180,
 v46:=Tryz.zeroValue180,
 t50:=Tryz.underlying184,
 a50:=Tryz.isAgg184,
 z50:=Tryz.sizeOf184,
 v50:=Tryz.zeroValue184,
 t53:=Tryz.underlying187,
 a53:=Tryz.isAgg187,
 z53:=Tryz.sizeOf187,
 v53:=Tryz.zeroValue187,
 t55:=Tryz.underlying189,
 a55:=Tryz.isAgg189,
 z55:=Tryz.sizeOf189,
 v55:=Tryz.zeroValue189,
 t66:=Tryz.underlying210,
 a66:=Tryz.isAgg210,
 z66:=Tryz.sizeOf210,
 v66:=Tryz.zeroValue210,
 t70:=Tryz.underlying214,
 a70:=Tryz.isAgg214,
 z70:=Tryz.sizeOf214,
 v70:=Tryz.zeroValue214,
 t76:=Tryz.underlying248,
 a76:=Tryz.isAgg248,
 z76:=Tryz.sizeOf248,
 v76:=Tryz.zeroValue248,
 t77:=Tryz.underlying249,
 a77:=Tryz.isAgg249,
 z77:=Tryz.sizeOf249,
 v77:=Tryz.zeroValue249}
theorem jt {α:Type} (f g:α->Int) (x y:α):ltOf (λx y=>orI (eG (f x) (f y)) (eG (g x) (g y))) x y=true↔f x<f y\/(f x=f y/\g x<g y):=by
 unfold ltOf orI eG;rw[decide_eq_true_iff];by_cases h1:f x<f y
 ·simp[h1]
 ·by_cases h2:f y<f x
  ·simp[h1,h2];omega
  ·have h3:f x=f y:=by omega
   by_cases h4:g x<g y
   ·simp[h3,h4]
   ·by_cases h5:g y<g x<;>simp[h3,h4,h5]
theorem Ty {α:Type} (f g:α->Int):SWO (ltOf (λx y:α=>orI (eG (f x) (f y)) (eG (g x) (g y)))) where
 irrefl x:=by
  cases h:ltOf (λx y:α=>orI (eG (f x) (f y)) (eG (g x) (g y))) x x with
  |false=>rfl
  |true=>have:=(jt f g x x).1 h;omega
 trans x y z h1 h2:=by
  have a:=(jt f g x y).1 h1;have b:=(jt f g y z).1 h2;exact(jt f g x z).2 (by omega)
 ntrans x y z h1 h2:=by
  cases h:ltOf (λx y:α=>orI (eG (f x) (f y)) (eG (g x) (g y))) x z with
  |false=>rfl
  |true=>
   have a:¬(f x<f y\/(f x=f y/\g x<g y)):=λe=>by rw[(jt f g x y).2 e]at h1;cases h1
   have b:¬(f y<f z\/(f y=f z/\g y<g z)):=λe=>by rw[(jt f g y z).2 e]at h2;cases h2
   have c:=(jt f g x z).1 h;omega
abbrev jS:=ak × Option Addr × Nat
def bY (x:jS):List Value:=[.int .i64 x.1.id,.int .i64 x.1.entity,.int .i64 x.1.date,.int .i64 x.1.kind,.int .i64 x.1.of_,.string x.1.text,.slice x.2.1 x.1.lines.length x.2.2]
def Lb (x y:jS):Int:=orI (eG x.1.date y.1.date) (eG x.1.id y.1.id)
theorem aez:SWO (ltOf Lb):=Ty (λx:jS=>x.1.date) (λx=>x.1.id)
instance:Inhabited jS:=⟨({},none,0)⟩
theorem SG (x y:jS) (w:World):Calls Tryz.prog 59 #[.agg (bY x).toArray,.agg (bY y).toArray] w (λe w'=>e=.returned (.int .i64 (Lb x y))/\gP w w'):=by
 obtain⟨⟨p1,p2,p3,p4,p5,p6,pl⟩,pA,pc⟩:=x;obtain⟨⟨q1,q2,q3,q4,q5,q6,ql⟩,qA,qc⟩:=y;obtain⟨pn,hpn⟩:∃n,pl.length=n:=⟨_,rfl⟩;obtain⟨qn,hqn⟩:∃n,ql.length=n:=⟨_,rfl⟩;show Calls Tryz.prog 59 #[.agg #[p1,p2,p3,p4,p5,p6,.slice pA pl.length pc],.agg #[q1,q2,q3,q4,q5,q6,.slice qA ql.length qc]] w (λe w'=>e=.returned (.int .i64 (orI (eG p3 q3) (eG p1 q1)))/\gP w w');rw[hpn,hqn];clear hpn hqn;go_enter Tryz.func59,Tryz.ntmps59;go_upto_region 1 with fail;have H:=heap_alloc_new w (.cells #[p1,p2,p3,p4,p5,p6,.slice pA pn pc] 51);have HB:=ai w (.cells #[p1,p2,p3,p4,p5,p6,.slice pA pn pc] 51);have HS:=ag H;have Vw:gP w (w.alloc (.cells #[p1,p2,p3,p4,p5,p6,.slice pA pn pc] 51)):=(gP.refl w).alloc _;generalize hW:w.alloc (Obj.cells #[p1,p2,p3,p4,p5,p6,.slice pA pn pc] 51)=W at*;have H2:=heap_alloc_new W (.cells #[q1,q2,q3,q4,q5,q6,.slice qA qn qc] 51);have dz:=ai W (.cells #[q1,q2,q3,q4,q5,q6,.slice qA qn qc] 51);have jK:=ag H2;replace H:=al H (Obj.cells #[q1,q2,q3,q4,q5,q6,.slice qA qn qc] 51);have abI:gP W (W.alloc (.cells #[q1,q2,q3,q4,q5,q6,.slice qA qn qc] 51)):=(gP.refl W).alloc _;generalize fR:W.alloc (Obj.cells #[q1,q2,q3,q4,q5,q6,.slice qA qn qc] 51)=W2 at*;clear fR;have eW:W.heap.size=w.heap.size+1:=by rw[<-hW];simp
 rw[eW]at H2;clear hW;have aH:=HB.trans (dz.mono HB.size);have dW:=dz.size;have lV:=ag H2;have nf:w.heap.size<W2.heap.size:=by omega
 have HH:=H_ H;have HZ:=H_ H2;have EW:=H_ eW;clear H H2 eW;have RL:=H_ (Vw.trans abI);have X0:=H_ (ab HH.o 0);have X2:=H_ (ab HH.o 2);have Y0:=H_ (ab HZ.o 0);have Y2:=H_ (ab HZ.o 2);have nf:=H_ nf;have lV:=H_ lV;clear Vw abI;refine bk (Ks W2 [.val (.pointer (some ⟨w.heap.size,2,none⟩)),p3,.val (.pointer (some ⟨(w.heap.size+1),2,none⟩)),q3,(eG p3 q3),.val (.pointer (some ⟨w.heap.size,0,none⟩)),p1,.val (.pointer (some ⟨(w.heap.size+1),0,none⟩)),q1,(eG p1 q1),.own (Dz (eG p3 q3) (eG p1 q1)) (Dz.keep _ _),(orI (eG p3 q3) (eG p1 q1)),(orI (eG p3 q3) (eG p1 q1))])
  (λw'=>gP W2 w') K_ K_ K_ (gP.refl _).drew ?_ ?_
 ·refine⟨b_ (q_ 2),?_,b_ (q_ 3),?_,?_,b_ (q_ 2),?_,b_ (q_ 3),?_,?_,?_,?_,b_ (p_ 11 16),trivial⟩
  ·intro _ A0 w2 hI hd hnd K hK;have e0:=hI.p hd 0 5;have hS:=hI.world;have cI:w2.cell? ⟨w.heap.size,2,none⟩=_:=((gP.below hS).cell (p:=⟨w.heap.size,2,none⟩) nf.o).trans X2.o;exact hI.z hK
  ·intro _ A0 w2 hI hd hnd K hK;have e0:=hI.p hd 2 7;have hS:=hI.world;have cI:w2.cell? ⟨(w.heap.size+1),2,none⟩=_:=((gP.below hS).cell (p:=⟨(w.heap.size+1),2,none⟩) lV.o).trans Y2.o;exact hI.z hK
  ·refine O2_ (p_ 1 6) (p_ 3 8) λA0 w2 K e0 e1 hS hK=>?_;go_simp
   go_at_call 61
   refine(sf p3 q3 w2).mono ?_;rintro e w3 ⟨rfl,rfl⟩;exact kq hK hS rfl
  ·intro _ A0 w2 hI hd hnd K hK;have e0:=hI.p hd 5 10;have hS:=hI.world;have cI:w2.cell? ⟨w.heap.size,0,none⟩=_:=((gP.below hS).cell (p:=⟨w.heap.size,0,none⟩) nf.o).trans X0.o;exact hI.z hK
  ·intro _ A0 w2 hI hd hnd K hK;have e0:=hI.p hd 7 12;have hS:=hI.world;have cI:w2.cell? ⟨(w.heap.size+1),0,none⟩=_:=((gP.below hS).cell (p:=⟨(w.heap.size+1),0,none⟩) lV.o).trans Y0.o;exact hI.z hK
  ·refine O2_ (p_ 6 11) (p_ 8 13) λA0 w2 K e0 e1 hS hK=>?_;go_simp
   go_at_call 61
   refine(sf p1 q1 w2).mono ?_;rintro e w3 ⟨rfl,rfl⟩;exact kq hK hS rfl
  ·refine O2_ (p_ 4 9) (p_ 9 14) λA0 w2 K e0 e1 hS hK=>?_;go_simp;exact hK.out _ _ (hS.alloc _) (Ks.of rfl (Dz.made _ _ _ _)) (Ks.keep (ai w2 _))
  ·intro _ A0 w2 hI hd hnd K hK;obtain⟨x0,e0,h0⟩:=hI.dep hd 10 15 rfl rfl rfl K_;have hS:=hI.world;obtain⟨gs,T0,rfl,kC⟩:=h0;refine aa rfl ?_;clear hI hd hnd;go_simp
   go_at_call 60
   refine(aew gs _ _ T0 w2 kC).mono ?_;rintro e w3 ⟨rfl,rfl⟩;exact kq hK hS rfl
 ·intro _ A0 w2 hI hall;have hS:=hI.world;have c9:=hI.ch hall [5,6,7,8,9,10,11,12,13,14,15,16,4];obtain⟨x0,x1,x2,x3,x4,x5,x6,x7,x8,x9,dN,ef,fh,hA,hV⟩:=c9;obtain rfl:fh=.int .i64 (orI (eG p3 q3) (eG p1 q1)):=hV 12 _ _ rfl _ rfl;clear hV hI hall;simp only[ba,List.foldl,List.setIfInBounds_toArray,List.set_cons_zero,List.set_cons_succ]at hA;rw[hA];clear hA;go_wp2_with fail;go_ret;exact⟨rfl,RL.o.trans hS⟩
theorem Tw (fj:List jS) (v:Value) (base:Nat) (w:World) (bv:w.ownsRow base 51 7 v fj.length (fj.flatMap bY)) (hn:fj.length<=100000) (jR:base<=w.heap.size):
 Calls Tryz.prog 58 #[v,.func (.func 59) #[] #[]] w (λe w'=>e=.returned (.tuple #[])/\∃lZ:List jS,lZ.Perm fj/\lZ.Pairwise (λx y=>ltOf Lb y x=false)/\aj (OB bY) 7 w' (λq=>base<=q/\q<w'.heap.size) [v] lZ/\Below base w w'/\w.heap.size<=w'.heap.size):=
 E7 acl 7 (by omega) Tryz.isAgg51 Tryz.sizeOf51 bY (λ_=>rfl) (λx v hv=>by simp[bY]at hv;rcases hv with rfl|rfl|rfl|rfl|rfl|rfl|rfl<;>rfl) Lb aez 59 (enters_of Tryz.func59 K_ rfl) SG fj v base w _ bv hn jR
end
section
open Go Go.RowKit
theorem AG {α:Type} {El:World->(Nat->Prop)->List Value->α->Prop} {f:α->List Value} {sz:Nat} (hf:∀x,(f x).length=sz) {w:World} {Q:Nat->Prop} {base:Nat} {e:TypeId} {v:Value} {xs:List α} (h:w.ownsRow base e sz v xs.length (xs.flatMap f)) (hE:∀x∈xs,El w Q (f x) x) (hQ:∀g,v.ownBlock=some g->Q g):aj El sz w Q [v] xs:=
 kO (css:=xs.map f) (λcs h=>by obtain⟨x,_,rfl⟩:=List.mem_map.1 h;exact hf x) (by rw[<-List.flatMap_def];exact h) (λi x hx=>⟨f x,by rw[List.getElem?_map,hx];rfl,hE x (List.mem_of_getElem? hx)⟩) hQ
theorem pX {w:World} {Q:Nat->Prop} {A:Option Addr} {c:Nat} {es:List ak} (h:aj ax 7 w Q [.slice A es.length c] es):
 ∃xs:List jS,xs.map (·.1)=es/\∀(i:Nat) (x:jS),xs[i]? =some x->ax w Q (bY x) x.1/\∃b o,A=some ⟨b,o,none⟩/\At w Q ⟨b,o+i*7,none⟩ (bY x):=by
 have ir:∀i:Fin es.length,∃p:Option Addr × Nat,ax w Q (bY (es[i.1],p)) es[i.1]/\∃b o,A=some ⟨b,o,none⟩/\At w Q ⟨b,o+i.1*7,none⟩ (bY (es[i.1],p)):=λi=>by
  obtain⟨b,o,cs,hA,_,hC,aS⟩:=aj.get h i.1 i.2;obtain⟨Al,cl,ft,_⟩:=hC.lit;subst ft;exact⟨(Al,cl),hC,b,o,hA,aS⟩
 obtain⟨f,hf⟩:=Classical.axiomOfChoice ir;refine⟨List.ofFn (λi:Fin es.length=>((es[i.1],f i):jS)),?_,λi x hx=>?_⟩
 ·apply List.ext_getElem
  ·simp
  ·intro i h1 h2;simp
 ·obtain⟨hi,e⟩:=List.getElem?_eq_some_iff.1 hx;rw[List.length_ofFn]at hi;rw[List.getElem_ofFn]at e;subst e;exact hf ⟨i,hi⟩
theorem xr:(Tryz.prog.info? 42).map (λi=>(i.zero,i.size,i.bytes))=some (some (.agg #[(),(),(),(),(),(),()]),7,56):=by kernel_rfl
theorem GI {α:Type} {f:α->List Value} {w:World} {Q:Nat->Prop} {cs:List Value} {c:α} (h:OB f w Q cs c):cs=f c:=h
abbrev ItV (w:World) (Q:Nat->Prop) (v:Value) (l:List bW):Prop:=aj (OB lq) 7 w Q [v] l
theorem ItV.fr {w w':World} {Q:Nat->Prop} {v:Value} {l:List bW} (h:ItV w Q v l) (hf:Fr Q w w'):ItV w' Q v l:=aj.fr h (λh=>h) hf
theorem ItV.mono {w:World} {Q Q':Nat->Prop} {v:Value} {l:List bW} (h:ItV w Q v l) (hq:∀k,Q k->Q' k):ItV w Q' v l:=aj.mono h (λh=>h) hq
theorem ItV.keep {w w':World} {v:Value} {l:List bW} (h:ItV w (·<w.heap.size) v l) (hb:Below w.heap.size w w'):ItV w' (·<w'.heap.size) v l:=(h.fr (Fr.ofBelow hb)).mono (λ_ hk=>Nat.lt_of_lt_of_le hk hb.size)
def rX (R:List bW × Int) (w:World) (e:Ending) (w':World):Prop:=∃(A:Option Addr) (c:Nat),e=.returned (.tuple #[.slice A R.1.length c,R.2])/\ItV w' (·<w'.heap.size) (.slice A R.1.length c) R.1/\Below w.heap.size w w'
theorem GO {α:Type} {f:α->List Value} {sz:Nat} (hf:∀x,(f x).length=sz) (l:List α) (k:Nat):(l.flatMap f).take (k*sz)=(l.take k).flatMap f:=by
 induction l generalizing k with
 |nil=>simp
 |cons x l ih=>
  cases k with
  |zero=>simp
  |succ k=>
   rw[List.flatMap_cons,List.take_succ_cons,List.flatMap_cons,Nat.succ_mul,Nat.add_comm,<-hf x,List.take_length_add_append,hf x,ih]
theorem GN {α:Type} {f:α->List Value} {sz:Nat} (hf:∀x,(f x).length=sz) (l:List α) (k:Nat):(l.flatMap f).drop (k*sz)=(l.drop k).flatMap f:=by
 induction l generalizing k with
 |nil=>simp
 |cons x l ih=>
  cases k with
  |zero=>simp
  |succ k=>
   rw[List.flatMap_cons,List.drop_succ_cons,Nat.succ_mul,Nat.add_comm,<-hf x,List.drop_length_add_append,hf x,ih]
theorem aev (l:List jS):∀u∈l.flatMap bY,u.oneCell'=true:=λu hu=>by
 obtain⟨x,_,hx⟩:=List.mem_flatMap.1 hu;simp[bY]at hx;rcases hx with rfl|rfl|rfl|rfl|rfl|rfl|rfl<;>rfl
def BB (W:World) (cells:List Value) (v:Value) (w:World):Prop:=∃g,v=.slice (some ⟨g,0,none⟩) 1 1/\W.heap.size<=g/\w.heap[g]? =some (.cells cells.toArray 51 (0,0))
theorem BB.keep (W:World) (cells:List Value):∀v w w',Below w.heap.size w w'->BB W cells v w->BB W cells v w':=λv w w' hb ⟨g,e,h1,h2⟩=>⟨g,e,h1,(hb.block g (ag h2)).trans h2⟩
theorem BB.grow {W w w':World} {cells:List Value} {v:Value} {row:Option Nat} (h:BB W cells v w) (hg:w.grownBy w' row) (hr:∀q,row=some q->q<W.heap.size):BB W cells v w':=by
 obtain⟨g,e,h1,h2⟩:=h;exact⟨g,e,h1,(hg.block g (ag h2) (λe=>by have:=hr g e.symm;omega)).trans h2⟩
def PE (V:World) (base:Nat) (v0:Value) (n:Nat) (cf:List Value) (v:Value) (w:World):Prop:=∃W3,Fr (λq=>q<V.heap.size/\v0.ownBlock≠some q) V W3/\w.ownsRow base 51 7 v n cf/\W3.grownBy w v0.ownBlock/\(v.ownBlock=v0.ownBlock\/v.ownBlock=some W3.heap.size)
theorem PE.keep (V:World) (base:Nat) (v0:Value) (n:Nat) (cf:List Value):∀v w w',Below w.heap.size w w'->PE V base v0 n cf v w->PE V base v0 n cf v w':=λv w w' hb ⟨W3,h1,h3,h4,h5⟩=>⟨W3,h1,bb h3 hb,h4.andThen ((fL hb).but _) (λj hj=> .inr hj),h5⟩
theorem Zl {w:World} {base g n c:Nat} {T:TypeId} {AL:List jS} (h:w.ownsRow base T 7 (.slice (some ⟨g,0,none⟩) n c) n (AL.flatMap bY)) (j:Nat) (hj:j<AL.length):At w (·<w.heap.size) ⟨g,j*7,none⟩ (bY AL[j]):=by
 have h1:=qU (Q:=(·<w.heap.size)) (sz:=7) bY (λ_=>rfl) AL 0 (xN h (h.lt g rfl).2) j AL[j] (List.getElem?_eq_getElem hj);rw[Nat.zero_add]at h1;exact h1
theorem Ji {x:ak}:∀{L:List ak} {k:Nat},k<=L.length->(∀j (hj:j<L.length),j<k->ltX L[j] x)->(∀h:k<L.length,¬ltX L[k] x)->oT x L=L.take k++x::L.drop k
 |[],k,hk,_,_=>by
  have:k=0:=by simpa using hk
  subst this;rfl
 |y::L,0,_,_,h2=>by
  rw[sj,if_neg (show ¬ltX y x from h2 (by simp))];rfl
 |y::L,k+1,hk,h1,h2=>by
  rw[sj,if_pos (show ltX y x from h1 0 (by simp) (by omega)),Ji (k:=k) (by simpa using hk) (λj hj m7=>h1 (j+1) (by simpa using hj) (by omega)) (λh=>h2 (by simpa using h))];rfl
def Dx (R:List ak) (w:World) (e:Ending) (w':World):Prop:=∃(A:Option Addr) (c:Nat),e=.returned (.slice A R.length c)/\aj ax 7 w' (·<w'.heap.size) [.slice A R.length c] R/\Below w.heap.size w w'
theorem Mc (l:List ak) (A:Option Addr) (c:Nat) (w:World) (hl:aj ax 7 w (·<w.heap.size) [.slice A l.length c] l) (hn:l.length<=100000):Calls Tryz.prog 62 #[.slice A l.length c] w (Dx (jV l) w):=by
 obtain⟨ia,oR,ge,gg,gh⟩:=info_parts ll;obtain⟨zC,Bq,TW⟩:=pX hl;have TQ:=H_ Bq;have Xi:=H_ TW;obtain⟨n,bj⟩:=x_ (l.length);have HN:=H_ bj;have Bc:=H_ (show zC.length=n by rw[<-bj,<-Bq,List.length_map]);rw[bj]at hn |-;clear hl Bq TW bj;go_enter Tryz.func62,Tryz.ntmps62;go_wp2_with fail
 go_loopw [3,4] (λv i wr=>∃k:Nat,k<=n/\i=.int .i64 (k:Int)/\Below w.heap.size w wr/\∃fj:List jS,fj.map (·.1)=jV (l.take k)/\(∀x∈fj,x∈zC)/\wr.ownsRow w.heap.size 51 7 v fj.length (fj.flatMap bY)) (λ_ i _=>n- (intOf i).toNat)
 case atStart=>exact⟨0,by omega,rfl,Below.refl _ _,[],rfl,by simp,World.ownsRow_nil _ _ _ _⟩
 case round=>
  obtain⟨k,hk,rfl,QA,AL,Gr,hox,bv⟩:=hrel;have Vp:=H_ Gr;have MH:=H_ hox;have HB:=H_ QA;obtain⟨Aa,na,ca,rfl⟩:=bS bv;obtain rfl:na=AL.length:=fV bv;obtain⟨na,Ix⟩:=x_ (AL.length);rw[Ix]at bv |-;have Rm:=H_ Ix;have aeO:na<=100000:=by
   have h1:=congrArg List.length Gr;rw[List.length_map,Ix]at h1;have h2:∀L:List ak,(jV L).length<=L.length:=λL=>by
    have h3:∀(L O:List ak),(L.foldl (λo x=>oT x o) O).length=O.length+L.length:=by
     intro L
     induction L with
     |nil=>intro O;rfl
     |cons y L ih=>
      intro O;rw[List.foldl_cons,ih,(sl y O).length_eq,List.length_cons,List.length_cons];omega
    unfold jV;rw[h3];simp
   have h4:=h2 (l.take k);rw[List.length_take]at h4;omega
  have tz:=H_ bv;have CO:=QA.size;clear Gr hox bv QA Ix;by_cases aU:k<n
  case pos=>
   have bq:(k:Int)< (n:Int):=by omega
   have lO:k<zC.length:=by rw[Bc.o];exact aU
   have bI:k<l.length:=by rw[HN.o];exact aU
   obtain⟨Be,b,o,Ms,aS⟩:=Xi.o k zC[k] (List.getElem?_eq_getElem lO);have jB:=List.getElem_mem lO;have rQ:l[k]=zC[k].1:=by
    have h:=TQ.o;subst h;simp
   have kW:jV (l.take (k+1))=oT zC[k].1 (AL.map (·.1)):=by
    rw[List.take_add_one,List.getElem?_eq_getElem bI,Option.toList_some,Ij,Vp.o,rQ]
   obtain⟨x,hx⟩:=x_ (zC[k]);rw[hx]at Be aS jB kW;subst Ms;have⟨xi,xe,xd,xk,xo,xt,Al,nl,cl,FV,hei,VG⟩:∃xi xe xd xk xo xt Al nl cl,bY x=[.int .i64 xi,.int .i64 xe,.int .i64 xd,.int .i64 xk,.int .i64 xo,.string xt,.slice Al nl cl]/\x.1.id=xi/\x.1.date=xd:=⟨_,_,_,_,_,_,_,_,_,rfl,rfl,rfl⟩;rw[FV]at aS;have Rv:=H_ FV;have ld:=H_ jB;have tA:=H_ kW;have HED:=H_ (And.intro hei VG);have zg:=H_ aS;clear Be aS jB kW FV hx rQ hei VG bI lO;rename World=>U;go_wp2_with fail
   go_loopw [5] (λi wr2=>∃at_:Nat,at_<=na/\i=.int .i64 (at_:Int)/\Below U.heap.size U wr2/\∀j (hj:j<AL.length),j<at_->ltX AL[j].1 x.1) (λi _=>na- (intOf i).toNat)
   case atStart=>exact⟨0,by omega,rfl,Below.refl _ _,λj hj h=>by omega⟩
   case round=>
    obtain⟨at_,Rq,rfl,hbV,hall⟩:=hrel;have TY:=H_ hall;rename World=>V;have Xf:=H_ hbV;have X4:=H_ (bb tz.o hbV);have aaC:=t_ HB hbV;obtain⟨G,hG⟩:=x_ (decide (at_<na/\∀h:at_<AL.length,ltX AL[at_].1 x.1));have HG:=H_ hG;have YP:=(zg.o.fr (Fr.ofBelow aaC.o));have l0:V.cell? ⟨b,o+k*7,none⟩=some (.int .i64 xi):=by have h:=YP.c (j:=0) rfl;simpa using h
    have l2:V.cell? ⟨b,o+k*7+2,none⟩=some (.int .i64 xd):=YP.c (j:=2) rfl;clear hbV hall hG YP;go_upto_region 6 with fail
    go_cut [55]from 13 to 55 (λv wx=>v=.bool G/\Below V.heap.size V wx)
    case first=>
     by_cases iZ:at_<na
     case pos=>
      obtain⟨gA,ca',aa9,hgA,ad0⟩:=X4.o.form (by omega);simp only[Value.slice.injEq,true_and]at aa9;obtain⟨rfl,rfl⟩:=aa9;have vn:at_<AL.length:=by rw[Rm.o];exact iZ
      have RS:=Zl X4.o at_ vn;have hgx:G=decide (ltX AL[at_].1 x.1):=by rw[<-HG.o];exact decide_eq_decide.2 ⟨λh=>h.2 vn,λh=>⟨iZ,λ_=>h⟩⟩
      obtain⟨y,hy⟩:=x_ (AL[at_]);rw[hy]at RS hgx;obtain⟨⟨yi,ye,yd,yk,yo,yt,ys⟩,Ay,cy⟩:=y;have HGY:=H_ (show G=decide (yd<xd\/yd=xd/\yi<xi) by rw[hgx,<-HED.o.1,<-HED.o.2];rfl);have y0:V.cell? ⟨gA,at_*7,none⟩=some (.int .i64 yi):=by have h:=RS.c (j:=0) rfl;simpa using h
      have y2:V.cell? ⟨gA,at_*7+2,none⟩=some (.int .i64 yd):=RS.c (j:=2) rfl;have gW:(at_:Int)< (na:Int):=by omega
      have aec:decide ((at_:Int)< (na:Int))=true:=decide_eq_true gW;clear RS hgx hy hgA ad0 vn;by_cases q1:yd<xd
      case pos=>
       have q1d:decide (yd<xd)=true:=decide_eq_true q1;have hf:=H_ (show G=true by rw[HGY.o];simp[q1]);clear q1;go_quiet (fail)
       first|go_meet|(go_wp2_with fail;go_meet)
       exact⟨by rw[hf.o],((Fr.refl _ _).drewN nq).below⟩
      case neg=>
      have q1d:decide (yd<xd)=false:=decide_eq_false q1;by_cases q2:yd=xd
      case neg=>
       have q2d:(yd==xd)=false:=by simp[q2]
       have hf:=H_ (show G=false by rw[HGY.o];simp[q1,q2]);clear q1 q2;go_quiet (fail)
       first|go_meet|(go_wp2_with fail;go_meet)
       exact⟨by rw[hf.o],((Fr.refl _ _).drewN nq).below⟩
      case pos=>
      have q2d:(yd==xd)=true:=by simp[q2]
      by_cases q3:yi<xi
      case pos=>
       have q3d:decide (yi<xi)=true:=decide_eq_true q3;have hf:=H_ (show G=true by rw[HGY.o];simp[q2,q3]);clear q1 q2 q3;go_quiet (fail)
       first|go_meet|(go_wp2_with fail;go_meet)
       exact⟨by rw[hf.o],((Fr.refl _ _).drewN nq).below⟩
      case neg=>
       have q3d:decide (yi<xi)=false:=decide_eq_false q3;have hf:=H_ (show G=false by rw[HGY.o];simp[q2,q3]);clear q1 q2 q3;go_quiet (fail)
       first|go_meet|(go_wp2_with fail;go_meet)
       exact⟨by rw[hf.o],((Fr.refl _ _).drewN nq).below⟩
     case neg=>
      have gW:¬(at_:Int)< (na:Int):=by omega
      have aec:decide ((at_:Int)< (na:Int))=false:=decide_eq_false gW;have hf:=H_ (show G=false by rw[<-HG.o];simp[iZ]);clear l0 l2;go_quiet (fail)
      first|go_meet|(go_wp2_with fail;go_meet)
      exact⟨by rw[hf.o],((Fr.refl _ _).drewN nq).below⟩
    case rest=>
    obtain⟨hv,NB⟩:=hcut;subst hv;have Kn:=t_ Xf NB;rename World=>V2;clear NB l0 l2 X4 Xf aaC;cases G with
    |true=>
     have hg:at_<na/\∀h:at_<AL.length,ltX AL[at_].1 x.1:=by simpa using HG.o
     have R1:=H_ hg;have iZ:=hg.1;clear hg;go_wp2_with fail;go_roundw
     case rel=>exact⟨at_+1,by omega,congrArg (Value.int .i64) (by omega),Kn.o,λj hj h=>by
      rcases Nat.lt_or_ge j at_ with h3|h3
      ·exact TY.o j hj h3
      ·obtain rfl:j=at_:=by omega
       exact R1.o.2 hj⟩
     case measure=>exact aQ iZ
    |false=>
     have adW:=H_ (show(AL.take at_++x::AL.drop at_).map (·.1)=jV (l.take (k+1)) by
      rw[tA.o,Ji (k:=at_) (by rw[List.length_map,Rm.o];exact Rq) (λj hj hja=>by rw[List.getElem_map];exact TY.o j (by simpa using hj) hja) (λh hx=>by
       rw[List.getElem_map]at hx;have hg:¬(at_<na/\∀h:at_<AL.length,ltX AL[at_].1 x.1):=by simpa using HG.o
       rw[List.length_map]at h;exact hg ⟨by rw[<-Rm.o];exact h,λ_=>hx⟩)]
      simp)
     have J9:=H_ (bb tz.o Kn.o);have aad:=t_ HB Kn.o;clear HG;generalize V2=V at*;have aeI:at_<=ca:=by have:=Jo J9.o;omega
     obtain⟨A1,YU⟩:=x_ ((if ca=at_ then(Aa:Option Addr)else Option.map (λx:Addr=>x.add (at_*7)) Aa));have adg:(at_:Int)<=(ca:Int):=by omega
     have acF:(at_:Int)<=(na:Int):=by omega
     have Yq:=(Rd.own J9.o (Q:=(·<V.heap.size)) (λq hq=>(J9.o.lt q hq).2)).cut Rq (Jo J9.o);rw[YU,GN (f:=bY) (λ_=>rfl)]at Yq;have Yx:=H_ Yq;obtain⟨F0,hF0⟩:=x_ ((AL.take at_).flatMap bY);have HF0:=H_ hF0;obtain⟨F1,hF1⟩:=x_ ((AL.drop at_).flatMap bY);rw[hF1]at Yx;have kU:=H_ hF1;have F4:=H_ (show ∀u∈F1,u.oneCell'=true from hF1▸aev _);obtain⟨m6,hm6⟩:=x_ (na- at_);rw[hm6]at Yx;have HA1:=H_ YU;have HM6:=H_ (show at_+m6=na by omega);have aeY:m6<=na:=by omega
     clear Yq hF0 hF1;go_upto_region 9 with(at_builtin;go_loud (refine cq _ rfl (.tmp 58) (.tmp 61) 30 rfl V.heap.size 51 ia _ 7 80 jp oR ge gg gh rfl (by decide) (.slice (some ⟨V.heap.size,0,none⟩) 0 0) 0 [] rfl (mp (Nat.le_refl _) (heap_alloc_new _ _)) (·<V.heap.size) A1 m6 (ca- at_) F1 rfl (Yx.o.fr (Fr.ofBelow (ai V _))) F4.o (by simp only[maxLen];omega) (by omega) (by simp) ?_);intro v9 V9 cj gk _)
     rw[Nat.zero_add,List.nil_append]at cj;have adK:=gk.size;have aak:=H_ (show Below V.heap.size V V9 from bK (ai V _) gk (λq hq=>by simp[Value.ownBlock]at hq;omega) (Nat.le_refl _));have ND:=t_ aad aak.o;have FT:=H_ (show V9.ownsRow w.heap.size 51 7 (.slice Aa at_ ca) at_ F0 by
      have h:=EC (bb J9.o aak.o) Rq;rw[GO (f:=bY) (λ_=>rfl),HF0.o]at h;exact h)
     have acD:=H_ (show ∀q,Value.ownBlock (.slice Aa at_ ca)=some q->q<V9.heap.size from λq hq=>(FT.o.lt q hq).2);have ac1:=H_ (show ∀q,Value.ownBlock (.slice Aa at_ ca)=some q->q<V.heap.size from λq hq=>((EC J9.o Rq).lt q hq).2);have aai:=H_ (show At V9 (λq=>q<V9.heap.size/\Value.ownBlock (.slice Aa at_ ca)≠some q) ⟨b,o+k*7,none⟩ [.int .i64 xi,.int .i64 xe,.int .i64 xd,.int .i64 xk,.int .i64 xo,.string xt,.slice Al nl cl]from((zg.o.fr (Fr.ofBelow ND.o)).mono (λq hq=>⟨Nat.lt_of_lt_of_le hq ND.o.size,λe=>absurd (FT.o.lt q e).1 (by omega)⟩)));obtain⟨A6,m6',c6,rfl⟩:=bS cj;obtain rfl:m6=m6':=(fV cj).symm;have NI:=H_ cj;clear cj gk adK YU;refine kR 10 (Ks V9 [.val (.slice Aa na ca),(at_:Int),.val (.slice Aa at_ ca),.val (.slice (some ⟨b,o,none⟩) n c),(k:Int),.val (.pointer (some ⟨b,o+k*7,none⟩)),.val (.agg #[xi,xe,xd,xk,xo,xt,.slice Al nl cl]),.own (BB V9 [.int .i64 xi,.int .i64 xe,.int .i64 xd,.int .i64 xk,.int .i64 xo,.string xt,.slice Al nl cl]) (BB.keep _ _),.own (PE V9 w.heap.size (.slice Aa at_ ca) (at_+1) (F0++[.int .i64 xi,.int .i64 xe,.int .i64 xd,.int .i64 xk,.int .i64 xo,.string xt,.slice Al nl cl])) (PE.keep _ _ _ _ _),.val (.slice A6 m6 c6)])
      (λw'=>Fr (λq=>q<V9.heap.size/\Value.ownBlock (.slice Aa at_ ca)≠some q) V9 w'/\w'.ownsRow w.heap.size 51 7 (.slice Aa at_ ca) at_ F0) K_ K_ K_ (by decide) K_ K_ K_ ⟨(Fr.ofBelow ((Below.refl V9.heap.size V9).drew)).mono (λq hq=>hq.1),FT.o.drew⟩ ?_ ?_
     ·refine⟨?_,?_,?_,?_,?_,?_,?_,?_,?_,?_,trivial⟩
      ·intro _ A0 w2 hI hd hnd K hK;have e0:=hI.q hnd 3;have hS:=hI.world;refine aa rfl ?_;clear hI hd hnd;go_simp;exact hK.out _ _ hS (Ks.of rfl rfl) (λ_ _ _ h=>h)
      ·intro _ A0 w2 hI hd hnd K hK;have e0:=hI.q hnd 5;have hS:=hI.world;refine aa rfl ?_;clear hI hd hnd;go_simp;exact hK.out _ _ hS (Ks.of rfl rfl) (λ_ _ _ h=>h)
      ·intro _ A0 w2 hI hd hnd K hK;have e0:=hI.p hd 0 63;have e1:=hI.p hd 1 64;have hS:=hI.world;refine aa rfl ?_;clear hI hd hnd;go_simp;exact hK.out _ _ hS (Ks.of rfl rfl) (λ_ _ _ h=>h)
      ·intro _ A0 w2 hI hd hnd K hK;have e0:=hI.q hnd 0;have hS:=hI.world;refine aa rfl ?_;clear hI hd hnd;go_simp;exact hK.out _ _ hS (Ks.of rfl rfl) (λ_ _ _ h=>h)
      ·intro _ A0 w2 hI hd hnd K hK;have e0:=hI.q hnd 4;have hS:=hI.world;refine aa rfl ?_;clear hI hd hnd;go_simp;exact hK.out _ _ hS (Ks.of rfl rfl) (λ_ _ _ h=>h)
      ·intro _ A0 w2 hI hd hnd K hK;have e0:=hI.p hd 3 66;have e1:=hI.p hd 4 67;have hS:=hI.world;refine aa rfl ?_;clear hI hd hnd;go_simp;exact hK.out _ _ hS (Ks.of rfl rfl) (λ_ _ _ h=>h)
      ·intro _ A0 w2 hI hd hnd K hK;have e0:=hI.p hd 5 68;have hS:=hI.world;have aJ:w2.rangeAt b (o+k*7) [xi,xe,xd,xk,xo,xt,.slice Al nl cl]:=(aai.o.fr hS.1).range;have aI:=aY;refine aa rfl ?_;clear hI hd hnd;refine wp_load_mid 51 (.tmp 68) rfl _ _ (v_ e0) _ _ aJ Tryz.underlying51 rfl aI ?_;exact hK.out _ _ hS (Ks.of rfl rfl) (λ_ _ _ h=>h)
      ·intro _ A0 w2 hI hd hnd K hK;have e0:=hI.p hd 6 69;have hS:=hI.world;refine aa rfl ?_;clear hI hd hnd;go_simp;exact hK.out _ _ ⟨hS.1.alloc (λk hk=>hk.1) _,bb hS.2 (ai w2 _)⟩ (Ks.of rfl ⟨w2.heap.size,rfl,hS.1.size,heap_alloc_new _ _⟩) (Ks.keepW (ai w2 _))
      ·intro _ A0 w2 hI hd hnd K hK;have e0:=hI.p hd 2 65;obtain⟨x1,e1,h1⟩:=hI.dep hd 7 70 rfl rfl rfl K_;have hS:=hI.world;obtain⟨gq,rfl,hgq,hbk⟩:=h1;refine aa rfl ?_;clear hI hd hnd;refine Cr (w:=w2) (.tmp 65) (.tmp 70) 30 rfl w.heap.size 51 ia _ 7 80 jp oR ge gg gh rfl (by decide) (.slice Aa at_ ca) at_ F0 (v_ e0) hS.2 (λ_=>True) (some ⟨gq,0,none⟩) 1 1 [xi,xe,xd,xk,xo,xt,.slice Al nl cl] (v_ e1) (fq hbk rfl) (by simp[Value.oneCell']) (by simp only[maxLen];omega) (by omega) (Nat.le_trans ND.o.size hS.1.size) (by omega) ?_;intro v9 w9 cj CT gk qw;exact hK.out _ _ ⟨hS.1.grown gk (λk hk=>hk.1) (λk hk hq=>hq.2 hk),CT⟩ (Ks.of rfl ⟨w2,hS.1,cj,gk,qw⟩) (by
        intro j u hj hV k hk;rcases j with _|_|_|_|_|_|_|_|_|_|j
        all_goals first|(exact absurd rfl hj)|(cases hk;done)|(cases hk;first|exact hV _ rfl|exact BB.grow (hV _ rfl) gk acD.o))
      ·intro _ A0 w2 hI hd hnd K hK;have e0:=hI.q hnd 6;have hS:=hI.world;refine aa rfl ?_;clear hI hd hnd;go_simp;exact hK.out _ _ hS (Ks.of rfl rfl) (λ_ _ _ h=>h)
     ·intro A0 w2 hI;have hS:=hI.world;have c9:=hI.cg [(0,63),(1,64),(2,65),(3,66),(4,67),(5,68),(6,69),(7,70),(8,71),(9,72)] [73,3] j_;obtain⟨x0,x1,x2,x3,x4,x5,x6,x7,x8,x9,y73,y3,hA,hV⟩:=c9;have k8:(PE V9 w.heap.size (.slice Aa at_ ca) (at_+1) (F0++[.int .i64 xi,.int .i64 xe,.int .i64 xd,.int .i64 xk,.int .i64 xo,.string xt,.slice Al nl cl])) x8 w2:=hV 8 _ _ _ rfl rfl _ rfl;obtain rfl:x9=.slice A6 m6 c6:=hV 9 _ _ _ rfl rfl _ rfl;clear hV hI;simp only[ba,List.foldl,List.setIfInBounds_toArray,List.set_cons_zero,List.set_cons_succ]at hA;rw[hA];clear hA;simp only[List.drop_succ_cons,List.drop_zero];obtain⟨W3,l6,II,Z7,adA⟩:=k8;have Vv:=H_ II;have dz:=H_ (OI ND.o hS.1 (λq hq=>⟨Nat.lt_of_lt_of_le hq ND.o.size,λe=>absurd (FT.o.lt q e).1 (by omega)⟩));have HR6:=H_ ((Rd.own NI.o (Q:=(λq=>q<V9.heap.size/\Value.ownBlock (.slice Aa at_ ca)≠some q)) (λq hq=>⟨(NI.o.lt q hq).2,λe=>absurd (ac1.o q e) (by have:=(NI.o.lt q hq).1;omega)⟩)).fr hS.1);clear l6 II Z7 adA hS;refine cq _ rfl (.tmp 71) (.tmp 72) 30 rfl w.heap.size 51 ia _ 7 80 jp oR ge gg gh rfl (by decide) x8 (at_+1) (F0++[.int .i64 xi,.int .i64 xe,.int .i64 xd,.int .i64 xk,.int .i64 xo,.string xt,.slice Al nl cl]) rfl Vv.o (λq=>q<V9.heap.size/\Value.ownBlock (.slice Aa at_ ca)≠some q) A6 m6 c6 F1 rfl HR6.o F4.o (by simp only[maxLen];omega) (by omega) dz.o.size ?_;intro v10 w10 NP aba _;have Ox:=H_ (bK dz.o aba (λq hq=>(Vv.o.lt q hq).1) (Nat.le_refl _));have V5:=H_ NP;clear NP aba;go_wp2_with fail;go_roundw
      case rel=>
       refine⟨k+1,by omega,congrArg (Value.int .i64) (by omega),Ox.o,AL.take at_++x::AL.drop at_,adW.o,λy hy=>?_,?_⟩
       ·rcases List.mem_append.1 hy with hy|hy
        ·exact MH.o y (List.mem_of_mem_take hy)
        ·rcases List.mem_cons.1 hy with hy|hy
         ·rw[hy];exact ld.o
         ·exact MH.o y (List.mem_of_mem_drop hy)
       ·have h:=V5.o;have e1:(AL.take at_++x::AL.drop at_).length=at_+1+m6:=by
         have h1:=HM6.o;have h2:=Rm.o;simp;omega
        have e2:(AL.take at_++x::AL.drop at_).flatMap bY=F0++[.int .i64 xi,.int .i64 xe,.int .i64 xd,.int .i64 xk,.int .i64 xo,.string xt,.slice Al nl cl]++F1:=by
         rw[List.flatMap_append,List.flatMap_cons,HF0.o,kU.o,Rv.o];simp
        rw[e1,e2];exact h
      case measure=>exact aQ aU
  case neg=>
   have bq:¬(k:Int)< (n:Int):=by omega
   have Kz:k=l.length:=by have:=HN.o;omega
   have IV:=Vp.o;rw[Kz,List.take_length]at IV;have hL:aj ax 7 wr (·<wr.heap.size) [.slice Aa AL.length ca] (AL.map (·.1)):=by
    have bv:=tz.o;rw[<-Rm.o]at bv;refine kO (css:=AL.map bY) (λcs h=>by obtain⟨x,_,rfl⟩:=List.mem_map.1 h;rfl) (by rw[List.length_map,<-List.flatMap_def];exact bv) (λi y hy=>?_) (λq hq=>(bv.lt q hq).2);rw[List.getElem?_map]at hy;obtain⟨x,hx,rfl⟩:=Option.map_eq_some_iff.1 hy;refine⟨bY x,by rw[List.getElem?_map,hx];rfl,?_⟩;obtain⟨i3,Ky⟩:=List.mem_iff_getElem?.1 (MH.o x (List.mem_of_getElem? hx));exact ax.mono (ax.fr (Xi.o i3 x Ky).1 (Fr.ofBelow HB.o)) (λq hq=>Nat.lt_of_lt_of_le hq CO)
   rw[IV]at hL;have Rh:=H_ hL;have HNX:=H_ (show na=(jV l).length by rw[<-Rm.o,<-IV,List.length_map]);have ad7:=Rm;clear hL IV Kz;go_wp2_with fail;go_ret;refine⟨Aa,ca,by rw[<-HNX.o];rfl,?_,HB.o⟩;have h:=Rh.o;rw[ad7.o,HNX.o]at h;exact h
end
end Go.Proofs.YtibiddakakgakaaGreat
