/- journal.Check; Check and Valid of the reference. Written by gen_a3.py. -/
import Derived.Test.YtibiddakakgakaaGreatQdQ2
import Derived.RangeFuncNested
import Derived.RangeFuncBound
import Derived.RangeFuncCalls
import Derived.RangeFuncLeaves
import Derived.Shelf.Abstract
import Derived.Shelf.RegionOpen
import Derived.OwnWalkIn
import Derived.TacticsInMore
import Derived.LoopNIn
import Derived.LoopIn
import Derived.RangeFuncWrites
import Derived.Sort.CutIn
import Derived.Great.BuildSlice
set_option linter.unusedVariables false
set_option linter.unusedSimpArgs false
set_option maxRecDepth 4000
attribute [local go_sem ↓] Go.wp_at_zero Go.wp_at_succ
set_option maxHeartbeats 16000000
namespace Go.Proofs.YtibiddakakgakaaGreat
section
open Go Go.RowKit
def kQ (g:au) (l:List ak):Prop:=bh g=true/\okJ g l
def xI (l:List ak):Prop:=(∀x∈l,x.text.size<=140737488355327/\x.lines.length<=100000)/\l.length<=100000
def DA (g:au) (l:List ak) (w:World) (e:Ending) (w':World):Prop:=∃i c:Int,e=.returned (.tuple #[i,c])/\(c=0↔kQ g l)/\Below w.heap.size w w'
theorem Jm {g:au} {l:List ak} {k:Nat} (hk:k<l.length) (h:eF g (l.take k) l[k]≠0):¬kQ g l:=λhv=>h (hv.2 k hk)
theorem EB {g:au} {l:List ak} {k:Nat} (hk:k<l.length) (h:okJ g (l.take k)) (hp:eF g (l.take k) l[k]=0):okJ g (l.take (k+1)):=by
 rw[List.take_add_one,List.getElem?_eq_getElem hk];exact EA h hp
theorem O7 (g:au) (l:List ak) (gl:List Value) (A:Option Addr) (c:Nat) (w:World) (hg:aL w (·<w.heap.size) gl g) (hl:aj ax 7 w (·<w.heap.size) [.slice A l.length c] l) (ci:dQ g) (VB:xI l):
 Calls Tryz.prog 78 #[.agg gl.toArray,.slice A l.length c] w (DA g l w):=by
 have Dg:=H_ (λ(w2:World) (hb:Below w.heap.size w w2)=>acd g gl w2 (hg.keep hb) ci);have fu:=H_ (show gl.toArray.size=21 by have:=hg.len;simpa using this);have HL:=H_ hl;have HMO:=H_ VB;have sW:=H_ ci;have jw:=hl.cap;unfold maxLen at jw;obtain⟨n,bj⟩:=x_ (l.length);have HN:=H_ bj;rw[bj]at jw |-;have Sb:n<=9223372036854775807:=by omega
 clear hg hl bj jw VB ci;go_enter Tryz.func78,Tryz.ntmps78;go_upto_region 1 with fail;obtain⟨W,cS,H1,bC,dr,ewx⟩:=B_ w (.cells gl.toArray 29);rw[cS];clear ewx;clear cS;have HK:=H_ H1;have gT:=H_ bC;clear H1;go_wp2_with (refine W_ 12 29 2 (w.heap.size) HK.o (by rw[ay];exact congrArg some fu.o.symm) Tryz.underlying29 ?_);refine(Dg.o W bC).mono ?_;rintro e w2 ⟨aH,oX⟩;have aF:=gT.o.trans (aH.mono gT.o.size);rcases oX with⟨hF,rfl⟩|⟨hT,J,D0,O0,rfl,hJC,YB⟩
 case inl=>
  have HF:=H_ hF;clear hF;go_wp2_with fail;go_ret2;exact⟨0,1,rfl,⟨o_,λh=>by have:=h.1;rw[HF.o]at this;cases this⟩,aF⟩
 case inr=>
 have HT:=H_ hT;have Vo:=H_ hJC;have HDO:=H_ YB;have adT:=H_ aF;clear hT hJC YB Dg;go_wp2_with fail
 go_loopw [21] (λi wr=>∃(k:Nat) (D O:Nat->Prop),k<=n/\i=.int .i64 (k:Int)/\Below W.heap.size W wr/\JC wr D O J g (l.take k)/\(∀q,D q\/O q->W.heap.size<=q)) (λi _=>n- (intOf i).toNat)
 case atStart=>exact⟨0,D0,O0,by omega,rfl,aH,Vo.o,HDO.o⟩
 case round=>
  obtain⟨k,D,O,hk,rfl,tQ,hJC,YB⟩:=hrel;generalize wr=w3 at*;have hb:=gT.o.trans (tQ.mono gT.o.size);have go:=H_ tQ;have zI:=H_ hb;have Vo:=H_ hJC;have HDO:=H_ YB;clear hJC YB;by_cases aU:k<n
  case pos=>
   have bq:(k:Int)< (n:Int):=by omega
   have bI:k<l.length:=by rw[HN.o];exact aU
   obtain⟨b,o,cs,dj,ed,bL,aS⟩:=aj.get HL.o k bI;subst dj;obtain⟨Al,cl,ft,oY,lP⟩:=ax.lit bL;have hfx:=HMO.o.1 _ (List.getElem_mem bI);have RQ:=H_ Vo.o.ok;have mG:=RQ.o;have py:=H_ (Jm (g:=g) bI);have Dr:=H_ (EB bI mG);have Nl:=H_ (show l.take (k+1)=l.take k++[l[k]] by rw[List.take_add_one,List.getElem?_eq_getElem bI];rfl);obtain⟨x,hx⟩:=x_ (l[k]);rw[hx]at ft oY lP hfx bL py Dr Nl;subst ft;obtain⟨ES,hES⟩:=x_ (l.take k);have hEL:ES.length<=100000:=by
    have h1:=HMO.o.2;rw[<-hES,List.length_take];omega
   have Db:=H_ hES;rw[hES]at Vo py Dr Nl;have tM:=H_ hEL;have HFX:=H_ hfx;have MB:=H_ bL;obtain⟨R,hR⟩:=x_ (eF g ES x);rw[hR]at py Dr;have rD:=H_ (λ(w2:World) (hS:Below w3.heap.size w3 w2)=>show Calls Tryz.prog 109 #[.pointer (some ⟨J,0,none⟩),.agg #[x.id,x.entity,x.date,x.kind,x.of_,x.text,.slice Al x.lines.length cl]] w2 (λe w'=>e=.returned (.int .i64 R)/\sX D O J g ES (if R=0 then ES++[x]else ES) w2 w') by
    have kT:=zI.o.trans (hS.mono zI.o.size);obtain⟨J0,acT,v2,bi2,br2,hJ2⟩:=Vo.o.below hS;have h:=ZL D O J g ES J0 acT v2 bi2 br2 x _ w2 hJ2 sW.o (ax.mono (ax.fr MB.o (Fr.ofBelow kT)) (λq hq=>⟨Nat.lt_of_lt_of_le hq kT.size,λho=>by have h1:=HDO.o q (.inr ho);have h2:=dr;omega⟩)) (by have:=HFX.o.1;omega) (by have:=HFX.o.2;omega) (by have:=tM.o;omega);rw[hR]at h;exact h)
   have dt:=aS.fr (Fr.ofBelow hb);obtain⟨xi,xe,xd,xk,xo,xt,ls⟩:=x;simp only at dt rD;obtain⟨nl,bj⟩:∃n,ls.length=n:=⟨_,rfl⟩;rw[bj]at dt rD;have eZ:=H_ dt.range;have TN:0<n:=by omega
   clear aS dt bL lP oY hfx hEL bj tQ hb hES hx mG;go_upto_region 7 with(first|(refine w_ 25 51 24 b (o+k*7) [xi,xe,xd,xk,xo,xt,.slice Al nl cl] eZ.o aY Tryz.underlying51 ?_)|(show wpList _ _ _ (Oper.mk none (Op.store _ (Operand.tmp 9) _) _ _ _ _::_) _ _;refine aO rfl 51 (.tmp 9) (.tmp 25) rfl rfl w3 #[(),(),(),(),(),.string ⟨#[]⟩,.slice none 0 0] 51 #[xi,xe,xd,xk,xo,xt,.slice Al nl cl] rfl rfl rfl aY rfl (by simp[Value.oneCell']) ?_;intro w4 H4 gw Bo))
   have HX4:=H_ H4;have acU:=H_ (rD.o w4 gw);have YZ:=H_ gw;clear H4 gw Bo rD;go_wp2_with (refine W_ 27 51 9 w3.heap.size HX4.o aY Tryz.underlying51 ?_);refine acU.o.mono ?_;rintro e w5 ⟨rfl,m,nx,jA,hJ5,Du⟩;have HJ5:=H_ hJ5;have HF5:=H_ Du;have HM:=H_ (And.intro nx jA);have abz:Below W.heap.size W w5:=((Fr.ofBelow go.o).trans (((Fr.ofBelow YZ.o).mono (λq (hq:q<W.heap.size)=>Nat.lt_of_lt_of_le hq go.o.size)).trans (Du.mono (λq (hq:q<W.heap.size)=>⟨Nat.lt_of_lt_of_le (Nat.lt_of_lt_of_le hq go.o.size) YZ.o.size,λho=>by have:=HDO.o q (.inr ho);omega⟩)))).below;have l5:=H_ abz;have acM:=H_ (show ∀q,(D q\/(w4.heap.size<=q/\q<m))\/(O q\/(m<=q/\q<w5.heap.size))->W.heap.size<=q from λq hq=>by
    have h1:=go.o.size;have h2:=YZ.o.size;have h3:=HM.o.1;rcases hq with(hq|hq)|(hq|hq)
    ·exact HDO.o q (.inl hq)
    ·omega
    ·exact HDO.o q (.inr hq)
    ·omega)
   clear hJ5 Du nx jA abz;by_cases pD:R=0
   case neg=>
    have hRb:(R !=0)=true:=by simpa using pD
    have HNV:=H_ (py.o pD);have C9:=H_ pD;clear pD;go_wp2_with fail;go_ret2;exact⟨(k:Int),R,rfl,⟨λh=>absurd h C9.o,λh=>absurd h HNV.o⟩,gT.o.trans (l5.o.mono gT.o.size)⟩
   case pos=>
    have hRb:(R !=0)=false:=by simpa using pD
    have HJ6:=H_ (show JC w5 _ _ J g (ES++[⟨xi,xe,xd,xk,xo,xt,ls⟩])from by have h:=HJ5.o;rw[if_pos pD]at h;exact h);clear pD;go_wp2_with fail;go_roundw
    case rel=>exact⟨k+1,_,_,by omega,by go_num,l5.o,by rw[Nl.o];exact HJ6.o,acM.o⟩
    case measure=>first|exact aQ aU|(simp only[intOf];omega)
  case neg=>
   have bq:¬(k:Int)< (n:Int):=by omega
   have hta:l.take k=l:=List.take_of_length_le (by rw[HN.o];omega);have HV:=H_ (show kQ g l from⟨HT.o,by have:=Vo.o.ok;rwa[hta]at this⟩);clear hta tQ hb;go_wp2_with fail;go_ret2;exact⟨0,0,rfl,⟨λ_=>HV.o,λ_=>rfl⟩,zI.o⟩
end
section
open Go Go.RowKit Go.Shelf
attribute [local go_sem] Oper.semAt_some
section
variable {F:Fence} {n:Nat} {P:Program} {ops:Array Oper} {rest:List Oper} {o:Oper} {a:Act} {Q:Exit->Act->World->Prop}
theorem n7 {w:World} (qE:o.guard=none) (ty:TypeId) (x:Operand) (ho:o.op=.load ty x)
 (b k:Nat) (hx:a.eval x=.pointer (some ⟨b,k,none⟩)) (cs:List Value) (d:TypeDesc) (hc:w.rangeAt b k cs)
 (hu:P.underlying ty=some d) (hd:d.isRow=true) (hi:(P.info? ty).map (·.size)=some cs.length)
 (h:wpListIn F n P ops Q rest (a.put o.dst (.agg cs.toArray)) w):wpListIn F n P ops Q (o::rest) a w:=by
 refine wpListIn_plain qE λK hK=>?_
 unfold Oper.wpIn;refine⟨by simp[Oper.about,ho],?_⟩;rw[Oper.semAt_plain F _ _ (by rw[ho];intro c hc';cases hc')];have eC:=run_loadVar_mid (P:=P) w b k ty cs d hc hu hd hi;unfold execOp;simp only[ho,hx,Instr.loadAt,Instr.sureAddr,Sem.run_bind,Sem.run_pure,Result.andThen_ok];rw[eC];simp only[Result.andThen_ok];exact hK _ _ h
theorem cX {w0:World} (qE:o.guard=none) (ty:TypeId) (x y:Operand) (ho:o.op=.store ty x y) (hd:o.dst=none)
 (w1:World) (old:Array Value) (t:TypeId) (cells:Array Value) (hw:w0=w1.alloc (.cells old t)) (hx:a.eval x=.pointer (some ⟨w1.heap.size,0,none⟩)) (hy:a.eval y=.agg cells)
 (hi:(P.info? ty).map (·.size)=some cells.size) (mB:old.size=cells.size) (h1:cells.all (·.oneCell')=true)
 (h:∀w2:World,w2.heap[w1.heap.size]? =some (.cells cells t (0,0))->w1.grownBy w2 none->w2.heap.size=w1.heap.size+1->wpListIn F n P ops Q rest a w2):
 wpListIn F n P ops Q (o::rest) a w0:=by
 subst hw;have hg:(w1.alloc (.cells old t)).heap[w1.heap.size]? =some (.cells old t (0,0)):=heap_alloc_new w1 _;have f:=((Fr.refl (·<w1.heap.size) w1).alloc (λ_ h=>h) (.cells old t)).trans ((cC (w1.alloc (.cells old t)) w1.heap.size cells).mono (λk (hk:k<w1.heap.size)=>by show k≠w1.heap.size;omega));have bP:((w1.alloc (.cells old t)).setRow w1.heap.size cells).heap.size=w1.heap.size+1:=by simp[World.setRow]
 have Xk:=h _ (aB hg cells) ⟨f.os,f.tape,f.output,f.size,λk hk _=>f.block k hk⟩ bP;refine wpListIn_plain qE λK hK=>?_
 unfold Oper.wpIn;refine⟨by simp[Oper.about,ho],?_⟩;rw[Oper.semAt_plain F _ _ (by rw[ho];intro c hc';cases hc')];have eC:=run_storeVar_row (P:=P) (w1.alloc (.cells old t)) w1.heap.size t ty old cells hg hi mB h1;unfold execOp;simp only[ho,hx,hy,Instr.storeAt,Instr.sureAddr,Sem.run_bind,Sem.run_pure,Result.andThen_ok];rw[eC];simp only[Sem.run_pure,Result.andThen_ok];refine hK _ _ ?_;rw[hd];exact Xk
end
def lh (n₀:Nat) (T:Nat->Prop) (w w':World):Prop:=Below n₀ w w'/\∀k o,¬T k->w.heap[k]? =some o->o.isCells=true->w'.heap[k]? =some o
theorem lh.refl {n₀:Nat} {T:Nat->Prop} (w:World):lh n₀ T w w:=⟨Below.refl _ _,λ_ _ _ h _=>h⟩
theorem lh.trans {n₀:Nat} {T:Nat->Prop} {a b c:World} (h:lh n₀ T a b) (k:lh n₀ T b c):lh n₀ T a c:=⟨h.1.trans k.1,λq o h1 h2 h3=>k.2 q o h1 (h.2 q o h1 h2 h3) h3⟩
theorem lh.putObj {n₀:Nat} {T:Nat->Prop} {w:World} (hn:n₀<=w.heap.size) (W:World) (l:Nat) (o o':Obj) (hl:w.heap.size<=l) (h:W.heap[l]? =some o) (hc:o.isCells=false) (hw:o.isWalk=false):lh n₀ T W (W.putObj l o'):=
 ⟨belowK_b hn W l o o' hl h hc hw,λk q _ h2 h3=>by
  have bT:k≠l:=λe=>by subst e;rw[h]at h2;cases h2;rw[hc]at h3;cases h3
  exact(World.putObj_heap_other bT).trans h2⟩
theorem lh.grown {n₀:Nat} {T:Nat->Prop} {w w':World} (h:w.grownBy w' none) (hn:n₀<=w.heap.size):lh n₀ T w w':=
 ⟨(Below.refl n₀ w).grown h hn (λk e=>by cases e),λk o _ h2 _=>(h.block k (Array.getElem?_eq_some_iff.1 h2).1 (by simp)).trans h2⟩
theorem lh.cells {n₀:Nat} {T:Nat->Prop} {w w':World} (h:lh n₀ T w w') {k:Nat} {cs:Array Value} {t:TypeId} {fr:Nat × Nat} (hk:¬T k) (hc:w.heap[k]? =some (.cells cs t fr)):w'.heap[k]? =some (.cells cs t fr):=h.2 k _ hk hc rfl
abbrev DL (p:Int->bG->Prop):={z:Int × bG // p z.1 z.2}
theorem zy {F:Fence} {n:Nat} {P:Program} {α:Type} {g:Operand} {ps:Array Tmp} {assign body:Code} {Q:Exit->Act->World->Prop} {a:Act} {w:World}
 (mD:F.round=none) (h1:1<=n) {gf:Nat} {lb:Array Value} (hg:a.eval g=.func (.func gf) #[] lb) (hFg:F.fn gf) (eg:∀args w,(callFunc gf args).run P w=.ok (.enter gf args) w)
 {Sl:α->Array Value} {Kp:World->World->Prop} {S:List α->Prop} {Sp:List α->Prop} {N:Nat} {w0:World} (CS:SeqStopsK F (n- 1) P gf lb Sl Kp S Sp N w0)
 (hKt:∀{A B C:World},Kp A B->Kp B C->Kp A C) (hKb:∀(W:World) (l:Nat) (o o':Obj),w.heap.size<=l->W.heap[l]? =some o->o.isCells=false->o.isWalk=false->Kp W (W.putObj l o')) (hKg:∀W W':World,w.heap.size<=W.heap.size->W.grownBy W' none->Kp W W') (el:Below w0.heap.size w0 w) (hps:∀x,(Sl x).size=ps.size)
 (I:List α->World->Prop) (hI:OwnFrom w.heap.size I) (h0:I [] w) (bx:α->Array Value) (T:TypeId) (a₁:α->Nat->Act)
 (Rs:∀(l:Nat) (x:α) (W:World) (K:Act->World->Prop),(∀W':World,W.grownBy W' none->W'.heap[W.heap.size]? =some (.cells (bx x) T (0,0))->K (a₁ x W.heap.size) W')->
  assign.wpIn (F.inRound l) (n- 1- 1) P (Exit.then K (λ_ _ _=>False)) {tmps:=(ps.zip (Sl x)).foldl (λt (p,v)=>t.setIfInBounds p v) a.tmps,defers:=[]} W)
 (abl:∀(l:Nat) (pre:List α) (x:α) (b:Nat) (W:World),I pre W->pre.length<N->w.heap.size<=b->W.heap[b]? =some (.cells (bx x) T (0,0))->body.wpIn (F.inRound l) (n- 1- 1) P (ownPostG w.heap.size Kp I (λ_ _ _=>False) (pre++[x]) W) (a₁ x b) W)
 (abT:∀(D:Nat) (xs:List α) (W:World),w.heap.size<=D->S xs->I xs W->W.heap[D]? =some (.deferred (some []))->Q .normal {a with defers:={target:=.collected D,args:=#[]}::a.defers} W):
 (Code.rangeFunc g ps assign body).wpIn F n P Q a w:=by
 refine wpIn_rangeFunc ?_;intro fn Rt;rw[mD];obtain⟨IF,C5⟩:∃IF:LoopState->Option Code->Loop,IF=λst pe=>{state:=st,pending:=pe,fn,tmps:=a.tmps,params:=ps,assign,body,defers:=w.heap.size}:=⟨_,rfl⟩
 obtain⟨W1,cS⟩:=x_ ((w.alloc (.deferred (some []))).alloc (.loop (IF .ready none)));have aeK:W1.heap.size=w.heap.size+2:=by rw[<-cS];simp
 have hL1:W1.heap[w.heap.size+1]? =some (.loop (IF .ready none)):=by
  rw[<-cS];have:=World.alloc_heap_new (w.alloc (.deferred (some []))) (.loop (IF .ready none));rwa[World.size_alloc]at this
 have TL:W1.heap[w.heap.size]? =some (.deferred (some [])):=by
  rw[<-cS];exact(Below.heap_alloc _ _ _ (by simp)).trans (World.alloc_heap_new w _)
 have hI1:I [] W1:=by rw[<-cS];exact hI.alloc _ (hI.alloc _ h0)
 have eL:Below w0.heap.size w0 W1:=by
  rw[<-cS];exact el.trans ((((Below.refl _ w).alloc (Nat.le_refl _) _).alloc (by simp) _).mono el.size)
 refine⟨w.heap.size+1,[{target:=.collected w.heap.size,args:=#[]}],W1,{target:=.fn (.func gf) lb,args:=#[.func (.yield (w.heap.size+1)) #[] #[]]},W1,gf,
  #[.func (.yield (w.heap.size+1)) #[] #[]]++lb,W1,?_,?_,?_,?_,λ_=>h1,?_⟩
 ·rw[<-cS,C5];exact run_enterLoop_outer _ _ _ _ _
 ·simp only[resolve,hg];simp[go_sem]
 ·intro f' hf';simp[Target.leads]at hf';subst hf';exact hFg
 ·simp[invoke,go_sem,eg]
 have hnw:∀{A:World} {row:Option Nat},(∀r,row=some r->W1.heap.size<=r/\∃o:Obj,A.heap[r]? =some o/\o.isWalk=true)->(∀r,row=some r->w.heap.size<=r/\∃o:Obj,A.heap[r]? =some o/\o.isCells=false):=
  λhr r e=>by obtain⟨hB,o,ho,hw⟩:=hr r e;exact⟨by omega,o,ho,Obj.not_cells_of_walk hw⟩
 refine(CS (w.heap.size+1) (λpre W=>I pre W/\W.heap[w.heap.size+1]? =some (.loop (IF .ready none))/\W.heap[w.heap.size]? =some (.deferred (some []))) (λ_ _=>False) W1 eL
  (λs A B row hs rG hr=>⟨hI s A B row hs.1 rG (hnw hr),(grownBy_keeps rG (λr e=>(hr r e).2) hs.2.1 rfl).trans hs.2.1,(grownBy_keeps rG (λr e=>(hr r e).2) hs.2.2 rfl).trans hs.2.2⟩)
  (λ_ _ _ _ hs _ _=>hs) ?_ ⟨hI1,hL1,TL⟩).mono ?_
 ·rintro pre x W ⟨hi,hl,hk⟩ eX;have aU:w.heap.size+1<W.heap.size:=(Array.getElem?_eq_some_iff.1 hl).1;have hy:=run_yield (P:=P) (args:=Sl x) hl (by rw[C5];exact hps x);rw[C5]at hy;refine⟨fn,_,assign,body,hy,roundIn_of_wpIn Rt (Rs _ x W _ (λW' hgr NB=>?_))⟩;have Vh:W'.heap[w.heap.size+1]? =some (.loop (IF .ready none)):=(hgr.block _ aU (by simp)).trans hl;have Fi:W'.heap[w.heap.size]? =some (.deferred (some [])):=(hgr.block _ (by omega) (by simp)).trans hk;have hi':I pre W':=hI pre W W' none hi hgr (λr e=>by cases e);have aej:w.heap.size+1<W'.heap.size:=(Array.getElem?_eq_some_iff.1 Vh).1;have ir:Kp W W':=hKg W W' (by omega) hgr;refine⟨_,run_beginRound Vh (by rw[C5]),?_⟩;have vl:(W'.putObj (w.heap.size+1) (.loop {IF .ready none with state:=.busy})).heap[w.heap.size+1]? =some (.loop {IF .ready none with state:=.busy}):=World.putObj_heap_same aej;have Iv:(W'.putObj (w.heap.size+1) (.loop {IF .ready none with state:=.busy})).heap[w.heap.size]? =some (.deferred (some [])):=(World.putObj_heap_other (by omega)).trans Fi;have CQ:(W'.putObj (w.heap.size+1) (.loop {IF .ready none with state:=.busy})).heap[W.heap.size]? =some (.cells (bx x) T (0,0)):=(World.putObj_heap_other (by omega)).trans NB;have Vn:Kp W (W'.putObj (w.heap.size+1) (.loop {IF .ready none with state:=.busy})):=hKt ir (hKb _ _ _ _ (by omega) Vh rfl rfl);refine wpIn_mono (abl _ pre x W.heap.size _ (hI.putObj _ hi' (by omega) Vh rfl) eX (by omega) CQ) ?_;rintro e a3 W3 hp;cases e with
  |normal=>
   obtain⟨lO,acE,Ky⟩:=hp;have hl3:=lO.same _ _ (by omega) vl rfl;have hr:=run_endRound (P:=P) none hl3;rw[C5]at hr hl3;have Fg:(W3.putObj (w.heap.size+1) (.loop (IF .ready none))).heap[w.heap.size+1]? =some (.loop (IF .ready none)):=World.putObj_heap_same (Array.getElem?_eq_some_iff.1 hl3).1;rw[C5]at Fg |-;exact⟨_,_,hr,.inl ⟨rfl,⟨hI.putObj _ Ky (by omega) hl3 rfl,Fg,(World.putObj_heap_other (by omega)).trans (lO.same _ _ (Nat.le_refl _) Iv rfl)⟩,hKt (hKt Vn acE) (hKb _ _ _ _ (by omega) hl3 rfl rfl)⟩⟩
  |ret=>exact hp.2.elim
  |exit id=>exact hp.2.elim
  |goto t=>exact hp.2.elim
  |panic ch=>exact hp.elim
  |outgrown=>exact hp.elim
 ·rintro e W2 ⟨⟨v,rfl⟩,(⟨xs,hS,hi,hl,hk⟩|⟨pre,hSp,hf⟩)⟩
  ·exact⟨none,_,by have:=run_endLoop (P:=P) hl (by rw[C5];simp);rw[C5]at this;exact this,abT _ xs _ (Nat.le_refl _) hS (hI.putObj _ hi (by omega) hl rfl) ((World.putObj_heap_other (by omega)).trans hk)⟩
  ·exact hf.elim
attribute [local go_sem] Oper.semAt_some
def B7 (_:Int) (y:bG):Prop:=y.amount.natAbs<=1125899906842624/\1<=y.account/\y.account<=99999
theorem lh.set {n₀:Nat} {W:World} {b:Nat} {cs:Array Value} {t:TypeId} {fr:Nat × Nat} {j:Nat} {v:Value} (h:W.heap[b]? =some (.cells cs t fr)) {b':Nat} (hb:b'=b) (hn:n₀<=b):lh n₀ (λq=>q=b) W (W.setCell ⟨b',j,none⟩ v):=by
 subst hb;exact⟨(Below.refl _ _).setCell (p:=⟨b',j,none⟩) hn _,λk o hk ho _=>(Below.heap_setCell W ⟨b',j,none⟩ _ k hk).trans ho⟩
end
section
open Go Go.RowKit
def GE (g:au) (ent:Int):List ah:=(g.entities.getD ent.toNat {}).chart
def aes (g:au) (ent period acc:Int) (ch:Bool):Int:=
 if ent<0\/(g.entities.length:Int)<=ent then 2 else if period≠ -4611686018427387904/\(aX g.calendar.year g.calendar.month g.calendar.periods period).2≠0 then 2 else if ch=true/\(aK (GE g ent) acc).isSome=false then 17 else 0
def Zc (g:au) (l:List ak) (ent period acc:Int) (ch:Bool) (r:Int):Prop:=(¬kQ g l/\r=1)\/(kQ g l/\r=aes g ent period acc ch)
theorem Zj {gl r:List Value} {i:Nat} {v:Value} (h:gl[i]? =some v):(gl++r)[i]? =some v:=by
 rw[List.getElem?_append_left (List.getElem?_eq_some_iff.1 h).1];exact h
theorem ma {w:World} {b:Nat} {gl r:List Value} {T:TypeId} (h:w.heap[b]? =some (.cells (gl++r).toArray T (0,0))):w.rangeAt b 0 gl:=λj v hj=>by
 have:=ab h (0+j);rw[this,Nat.zero_add,List.getElem?_toArray];exact Zj hj
theorem Ad {p:Nat->Bool} {n k:Nat} (h:(List.range n).all p=true) (hk:k<n):p k=true:=List.all_eq_true.1 h k (List.mem_range.2 hk)
theorem rx {g:au} {l:List ak} (h:kQ g l) {x:ak} (hx:x∈l):mI (bh g) g.entities.length x:=(en _ _ _).1 (li (mn h.2 hx))
theorem zx {g:au} {l:List ak} (h:kQ g l) {x:ak} (hx:x∈l):dY (GE g x.entity) x.lines=true/\jL g.calendar.year g.calendar.month g.calendar.periods x.date=true/\iS x.lines=0:=by
 have h1:=mn h.2 hx;unfold dh at h1;unfold GE;split at h1
 ·split at h1
  ·split at h1
   ·split at h1
    ·exact⟨‹_›,‹_›,‹_›⟩
    ·cases h1
   ·cases h1
  ·cases h1
 ·cases h1
theorem aL.ones {w:World} {Q:Nat->Prop} {cs:List Value} {g:au} (h:aL w Q cs g):cs.all (·.oneCell')=true:=by
 obtain⟨Ac,cc,Ae,ce,e,_⟩:=h.lit;subst e;simp[fT,Value.oneCell']
theorem Zc.uniq {g:au} {l:List ak} {ent period acc:Int} {ch:Bool} {r s:Int} (h:Zc g l ent period acc ch r) (k:Zc g l ent period acc ch s):r=s:=by
 rcases h with⟨h1,rfl⟩|⟨h1,rfl⟩<;>rcases k with⟨k1,rfl⟩|⟨k1,rfl⟩
 ·rfl
 ·exact absurd k1 h1
 ·exact absurd h1 k1
 ·rfl
theorem GL {g:au} {l:List ak} (h:GK g l):xI l:=⟨λx hx=>by have h1:=h.1 x hx;have h2:=h1.1;have h3:=h1.2.1;omega,by have:=h.2.1;omega⟩
end
section
open Go Go.RowKit Go.Shelf
attribute [local go_sem] Oper.semAt_some
section
variable {F:Fence} {n:Nat} {ops:Array Oper} {rest:List Oper} {o:Oper} {a:Act} {Q:Exit->Act->World->Prop} {w:World}
end
def Ss (pre:List (DL B7)) (lo hi:Int):Prop:=(pre=[]/\lo=0/\hi= -1)\/(1<=lo/\lo<=hi/\hi<=99999/\∀z∈pre,lo<=z.1.2.account/\z.1.2.account<=hi)
theorem Ss.next {pre:List (DL B7)} {lo hi:Int} (h:1<=lo/\lo<=hi/\hi<=99999/\∀z∈pre,lo<=z.1.2.account/\z.1.2.account<=hi) (z:DL B7):Ss (pre++[z]) (min lo z.1.2.account) (max hi z.1.2.account):=by
 have h1:=z.2.2;obtain⟨a,b,c,e⟩:=h;refine .inr ⟨by omega,by omega,by omega,λy hy=>?_⟩;rcases List.mem_append.1 hy with hy|hy
 ·have:=e y hy;omega
 ·simp at hy;subst hy;omega
theorem Ss.first (z:DL B7):Ss ([]++[z]) (min z.1.2.account z.1.2.account) (max z.1.2.account z.1.2.account):=by
 have h1:=z.2.2;refine .inr ⟨by omega,by omega,by omega,λy hy=>?_⟩;simp at hy;subst hy;omega
def aer (y:fb):List Value:=[.int .i64 y.account,.int .i64 y.amount]
def pi (bm:Nat) (lo hi la:Int) (w0:World) (listed:Array Bool) (w:World):Prop:=Fr (λq=>q≠bm+2/\q≠bm+3) w0 w/\w.heap[bm+2]? =some (.cells #[.int .i64 (if listed.getD 8 false=true then min lo la else lo)] 3 (0,0))/\w.heap[bm+3]? =some (.cells #[.int .i64 (if listed.getD 9 false=true then max hi la else hi)] 3 (0,0))
section
variable {bm:Nat} {lo hi la:Int} {w0 w:World} {listed:Array Bool}
theorem fK {i j:Nat} (h:i≠j):(listed.setIfInBounds i true).getD j false=listed.getD j false:=by simp[Array.getD_eq_getD_getElem?,Array.getElem?_setIfInBounds,h]
theorem Ap {i:Nat} (h:i<listed.size):(listed.setIfInBounds i true).getD i false=true:=by simp[Array.getD_eq_getD_getElem?,h]
theorem pi.other (h:pi bm lo hi la w0 listed w) (i:Nat) (h8:i≠8) (h9:i≠9):pi bm lo hi la w0 (listed.setIfInBounds i true) w:=by
 unfold pi;rw[fK h8,fK h9];exact h
theorem pi.c13 (h:pi bm lo hi la w0 listed w):w.cell? ⟨bm+1+1,0,none⟩=some (.int .i64 (if listed.getD 8 false=true then min lo la else lo)):=ab h.2.1 0
theorem pi.c14 (h:pi bm lo hi la w0 listed w):w.cell? ⟨bm+1+1+1,0,none⟩=some (.int .i64 (if listed.getD 9 false=true then max hi la else hi)):=ab h.2.2 0
theorem pi.f13 (h:pi bm lo hi la w0 listed w):w.frozen? ⟨bm+1+1,0,none⟩=false:=bB h.2.1 0
theorem pi.f14 (h:pi bm lo hi la w0 listed w):w.frozen? ⟨bm+1+1+1,0,none⟩=false:=bB h.2.2 0
end
theorem Ks.vals {W w w':World} {ks:List VV} {j:Nat} {u:Value} (hv:∀k∈ks,∃x,k=.val x) (h:Ks W ks j u w):Ks W ks j u w':=λk hk=>by
 obtain⟨x,rfl⟩:=hv k (List.mem_of_getElem? hk);exact h _ hk
end
section
open Go Go.RowKit
theorem dB.lit {w:World} {Q:Nat->Prop} {cs:List Value} {x:fb} (h:dB w Q cs x):cs=aer x/\cx x.account/\cx x.amount:=by
 obtain⟨c0,c1,rfl,⟨rfl,h0⟩,⟨rfl,h1⟩⟩:=h;exact⟨rfl,h0,h1⟩
end
end Go.Proofs.YtibiddakakgakaaGreat
