/- The example of the document for translation: awake. Written by gen_z2.py. -/
import Derived.Test.YtibiddakakgakaaGreatQcY16R15
set_option linter.unusedVariables false
set_option linter.unusedSimpArgs false
set_option maxRecDepth 4000
attribute [local go_sem ↓] Go.wp_at_zero Go.wp_at_succ
set_option maxHeartbeats 16000000
namespace Go.Proofs.YtibiddakakgakaaGreat
open Go Go.RowKit
def ab2:ak:=⟨1,2,20484,1,0,⟨#[]⟩,I5⟩
def ab3:aC:=⟨⟨#[85,83,68]⟩,1,20484,900000⟩
def sZ:XBk:=⟨oK,[ab2],[ab3]⟩
theorem aib:bH 2026 1 36 0=(20484,0):=by decide+kernel
theorem KQ:pm sZ 1 0 0=(⟨⟨1,0⟩,2,1010,-1,20484,90⟩,0):=by decide+kernel
theorem Sx:okB sZ:=⟨Cm,⟨by intro x hx;simp[sZ]at hx;subst hx;decide,by simp[sZ]⟩,by intro x hx;simp[sZ]at hx;subst hx;decide,by simp[sZ]⟩
theorem DI (gl:List Value) (hl:gl.length=21) (Ae Ar:Option Addr) (ne ce nr cr:Nat):Tryz.prog.built 36 [(0,.agg gl.toArray),(1,.slice Ae ne ce),(2,.slice Ar nr cr)]=some (gl++(([.slice Ae ne ce,.slice Ar nr cr]:List Value)++([.slice none 0 0,.slice none 0 0,.slice none 0 0,.string ⟨#[]⟩]:List Value))).toArray:=
 match gl,hl with
 |[x0,x1,x2,x3,x4,x5,x6,x7,x8,x9,dN,ef,fh,gU,j4,jH,jZ,kv,lR,kh,rB],_=>by kernel_rfl
theorem PM {g:Nat} {W:World} {T:TypeId} {x:aC} {cs:List Value} (hW:W.heap[g]? =some (.cells cs.toArray T (0,0))) (hx:bN W (·<W.heap.size) cs x) (hs:cs.length=4):aj bN 4 W (·<W.heap.size) [.slice (some ⟨g,0,none⟩) 1 1] [x]:=
 ⟨_,_,rfl,Nat.le_refl _,by unfold maxLen;decide,λ_=>⟨g,0,rfl,ag hW,λi y hi=>by
  have Y5:i=0:=by
   have:=(List.getElem?_eq_some_iff.1 hi).1;simp at this;exact this
  subst Y5;simp at hi;subst hi;exact⟨cs,hx,by simpa using dO hW⟩⟩⟩
theorem sa (w:World):Calls Tryz.prog 16 #[] w (ap w (.bool true)):=by
 go_enter Tryz.func16,Tryz.ntmps16;go_wp2_with fail;refine(Qb w).mono ?_;rintro e w2 ⟨vs,rfl,hg,aH⟩;have J4:vs.toArray.all (·.oneCell')=true:=by rw[List.all_toArray,List.all_eq_true];exact Jg hg
 have fu:=H_ (show vs.toArray.size=21 by simpa using hg.len);have F4:=H_ J4;have HG:=H_ hg;obtain⟨_,_,_,_,_,_,_,k1,k2,k3,_,_⟩:=hg.view;have K1:=H_ (show vs[1]? =some (.int .i64 2026)from k1);have K2:=H_ (show vs[2]? =some (.int .i64 1)from k2);have K3:=H_ (show vs[3]? =some (.int .i64 36)from k3);clear hg J4 k1 k2 k3;go_upto_region 2 with(show wpList _ _ _ (Oper.mk none (Op.store _ (Operand.tmp 1) _) _ _ _ _::_) _ _;refine aO rfl 29 (.tmp 1) (.tmp 8) rfl rfl w2 #[.string ⟨#[]⟩,(),(),(),.slice none 0 0,(),(),(),(),(),(),(),(),(),(),(),(),(),(),(),.slice none 0 0] 29 vs.toArray rfl rfl rfl (by rw[ay];exact congrArg some fu.o.symm) fu.o.symm F4.o ?_;intro w3 H3 eA rE)
 have zH:=H_ H3;have abK:=H_ (aH.trans (eA.mono aH.size));have Cv:=H_ (sd H3 K1.o K2.o K3.o);have IG:=H_ (HG.o.keep eA);clear H3 eA aH;go_wp2_with (refine w_ 11 23 10 w2.heap.size 1 [(2026:Int),(1:Int),(36:Int)] Cv.o bV Tryz.underlying23 ?_);refine(eS 2026 1 36 0 w3).mono ?_;rintro e w5 ⟨rfl,cP⟩;rw[aib];have abk:=t_ abK cP;have Q7:=k_ cP zH;have YG:=H_ (IG.o.keep cP);clear cP;go_upto_region 4 with fail;have H6:=heap_alloc_new w5 (.cells #[(10:Int),(100:Int),(-1:Int),(100:Int),(-100:Int),(-1:Int)] 60);have dK:=ai w5 (.cells #[(10:Int),(100:Int),(-1:Int),(100:Int),(-100:Int),(-1:Int)] 60);have es6:(w5.alloc (.cells #[(10:Int),(100:Int),(-1:Int),(100:Int),(-100:Int),(-1:Int)] 60)).heap.size=w5.heap.size+1:=by simp
 generalize w5.alloc (.cells #[(10:Int),(100:Int),(-1:Int),(100:Int),(-100:Int),(-1:Int)] 60)=w6 at*;have Mq:=H_ (LC I5 Sw (by decide) w5 w6 _ _ rfl H6);have H7:=heap_alloc_new w6 (.cells #[(1:Int),(2:Int),(20484:Int),(1:Int),(),.string ⟨#[]⟩,.slice (some ⟨w5.heap.size,0,none⟩) 2 2] 51);have em:=ai w6 (.cells #[(1:Int),(2:Int),(20484:Int),(1:Int),(),.string ⟨#[]⟩,.slice (some ⟨w5.heap.size,0,none⟩) 2 2] 51);rw[es6]at H7;generalize w6.alloc (.cells #[(1:Int),(2:Int),(20484:Int),(1:Int),(),.string ⟨#[]⟩,.slice (some ⟨w5.heap.size,0,none⟩) 2 2] 51)=w7 at*;have Sd:=dK.trans (em.mono dK.size);have RR:=t_ abk Sd;have R7:=H_ (YG.o.keep Sd);have Mo:=k_ Sd Q7;have XP:=H_ H7;have TT:=H_ (eR Mq.o em);have HVL:=H_ (show vs.length=21 from HG.o.len);clear H6 dK es6 H7 em Sd Mq;obtain⟨BA,hBA⟩:=x_ (vs++(([.slice (some ⟨w7.heap.size,0,none⟩) 1 1,.slice (some ⟨w7.heap.size+1,0,none⟩) 1 1]:List Value)++([.slice none 0 0,.slice none 0 0,.slice none 0 0,.string ⟨#[]⟩]:List Value)));have HBU:=H_ (show Tryz.prog.built 36 [(0,.agg vs.toArray),(1,.slice (some ⟨w7.heap.size,0,none⟩) 1 1),(2,.slice (some ⟨w7.heap.size+1,0,none⟩) 1 1)]=some BA.toArray by rw[<-hBA];exact DI vs HVL.o _ _ _ _ _ _);have ac6:=H_ hBA.symm;have Xc:=H_ (show BA.toArray.size=27 by rw[<-hBA];simp[HVL.o]);have acr:=H_ (show BA.toArray.all (·.oneCell')=true by
  have h:=F4.o;rw[List.all_toArray]at h |-;rw[<-hBA,List.all_append,h];rfl)
 clear hBA;go_upto_region 5 with(first|(refine W_ 20 29 1 (w2.heap.size) Mo.o (by rw[ay];exact congrArg some fu.o.symm) Tryz.underlying29 ?_)|(refine W_ 21 51 4 (w5.heap.size+1) XP.o aY Tryz.underlying51 ?_)|(show wpList _ _ _ (Oper.mk (some 26) _ _ _ _ _::_) _ _;obtain⟨w8,hw8⟩:=x_ ((w7.alloc (.cells #[(1:Int),(2:Int),(20484:Int),(1:Int),(),.string ⟨#[]⟩,.slice (some ⟨w5.heap.size,0,none⟩) 2 2] 51)).alloc (.cells #[.string ⟨#[85,83,68]⟩,(1:Int),(20484:Int),(900000:Int)] 70));rw[hw8];replace hw8:=H_ hw8;go_loud (refine iq rfl 36 _ rfl [(0,.agg vs.toArray),(1,.slice (some ⟨w7.heap.size,0,none⟩) 1 1),(2,.slice (some ⟨w7.heap.size+1,0,none⟩) 1 1)] (by simp[Act.eval]) BA.toArray HBU.o ?_))|(show wpList _ _ _ (Oper.mk none (Op.store _ (Operand.tmp 5) _) _ _ _ _::_) _ _;go_loud (refine aO rfl 36 (.tmp 5) (.tmp 26) rfl rfl w8 #[.string ⟨#[]⟩,(),(),(),.slice none 0 0,(),(),(),(),(),(),(),(),(),(),(),(),(),(),(),.slice none 0 0,.slice none 0 0,.slice none 0 0,.slice none 0 0,.slice none 0 0,.slice none 0 0,.string ⟨#[]⟩] 36 BA.toArray rfl rfl rfl (by rw[bF];exact congrArg some Xc.o.symm) Xc.o.symm acr.o ?_);intro w9 H9 CG HS9))
 obtain⟨h1,h2,QC,CE⟩:=ab8 w7 (.cells #[(1:Int),(2:Int),(20484:Int),(1:Int),(),.string ⟨#[]⟩,.slice (some ⟨w5.heap.size,0,none⟩) 2 2] 51) (.cells #[.string ⟨#[85,83,68]⟩,(1:Int),(20484:Int),(900000:Int)] 70);rw[hw8.o]at h1 h2 QC CE;have RP:Below w7.heap.size w7 w9:=CE.below.trans (CG.mono (by rw[QC];omega));have he9:=(CG.block _ (ag h1)).trans h1;have hr9:=(CG.block _ (ag h2)).trans h2;have hk:BkC w9 (·<w9.heap.size) BA sZ vs (some ⟨w7.heap.size,0,none⟩) 1 (some ⟨w7.heap.size+1,0,none⟩) 1 [.slice none 0 0,.slice none 0 0,.slice none 0 0,.string ⟨#[]⟩]:={
  eq:=ac6.o
  tlen:=rfl
  one:=by
   intro v hv;simp only[List.mem_cons,List.not_mem_nil,or_false]at hv;rcases hv with rfl|rfl|rfl|rfl<;>rfl
  g:=R7.o.keep RP
  es:=Li he9 (ax.mk (w:=w9) (Q:=(·<w9.heap.size)) (x:=ab2) (A:=some ⟨w5.heap.size,0,none⟩) (c:=2) (by show am 1/\am 2/\am 20484/\am 1/\am 0;unfold am;omega) (eR TT.o RP)) rfl
  rs:=PM hr9 ⟨[_],[_],[_],[_],rfl,rfl,⟨rfl,(show am 1 by unfold am;omega)⟩,⟨rfl,(show am 20484 by unfold am;omega)⟩,⟨rfl,(show am 900000 by unfold am;omega)⟩⟩ rfl}
 have RN:=JK sZ BA vs [.slice none 0 0,.slice none 0 0,.slice none 0 0,.string ⟨#[]⟩] (some ⟨w7.heap.size,0,none⟩) (some ⟨w7.heap.size+1,0,none⟩) 1 1 1 0 0 w9 hk Sx (by unfold am;omega) (by unfold am;omega);rw[KQ]at RN;have HIT:=H_ RN;have ad2:=H_ H9;have Rr:=t_ RR RP;clear h1 h2 QC CE RP he9 hr9 hk RN H9 CG HS9;go_wp2_with (refine W_ 28 36 5 (w8.heap.size) ad2.o (by rw[bF];exact congrArg some Xc.o.symm) Tryz.underlying36 ?_);refine HIT.o.mono ?_;rintro e w10 ⟨rfl,abV⟩;have Vg:=t_ Rr abV;clear abV;go_upto_region 6 with(show wpList _ _ _ (Oper.mk none (Op.store _ (Operand.tmp 6) _) _ _ _ _::_) _ _;refine aO rfl 42 (.tmp 6) (.tmp 31) rfl rfl w10 #[(),(),(),(),(),(),()] 42 #[(1:Int),(),(2:Int),(1010:Int),(-1:Int),(20484:Int),(90:Int)] rfl rfl rfl aP rfl (by simp[Value.oneCell']) ?_;intro W11 H11 abE acO)
 have aam:=t_ Vg abE;have c3:=ab H11 3;have c6:=ab H11 6;clear H11 abE acO;go_wp2_with fail;go_ret;exact⟨rfl,aam.o⟩
theorem j9 {b:XBk} (hf:pI b) (bP:Fb b):okB b:=⟨hf.1.2.2.small,GL hf.1,λr hr=>by have h:r.currency.size<=140737488355327:=bP.2.2 r hr;omega,by have:=hf.2;omega⟩
def ahI (T B:Nat) (v:Value) (w:World):Prop:=∃g,v=.slice (some ⟨g,0,none⟩) 0 0/\B<=g/\w.heap[g]? =some (.cells #[] T (0,0))
theorem ahM {T B:Nat}:∀v w w',Below w.heap.size w w'->ahI T B v w->ahI T B v w':=λv w w' hb ⟨g,e,h1,h2⟩=>⟨g,e,h1,(hb.block g (ag h2)).trans h2⟩
theorem ahN {T B:Nat} {w:World} (h:B<=w.heap.size):ahI T B (.slice (some ⟨w.heap.size,0,none⟩) 0 0) (w.alloc (.cells #[] T)):=⟨_,rfl,h,heap_alloc_new _ _⟩
def ahe (T B:Nat) (cs:List Value) (v:Value) (w:World):Prop:=∃g,v=.slice (some ⟨g,0,none⟩) 1 1/\B<=g/\w.heap[g]? =some (.cells cs.toArray T (0,0))
theorem ahv {T B:Nat} {cs:List Value}:∀v w w',Below w.heap.size w w'->ahe T B cs v w->ahe T B cs v w':=λv w w' hb ⟨g,e,h1,h2⟩=>⟨g,e,h1,(hb.block g (ag h2)).trans h2⟩
theorem ahD {T K:Nat} {cs:List Value} {g:Nat} {w:World} (hc:cs.length=K) (h:w.heap[g]? =some (.cells cs.toArray T (0,0))) {Q:Nat->Prop} (hQ:Q g):Rd w Q (some ⟨g,0,none⟩) 1 K cs:=⟨by omega,λ_=>⟨_,rfl,hQ,(dO (cs:=cs) h).2⟩⟩
def ahu (T K B n:Nat) (F:List Value) (v:Value) (w:World):Prop:=w.ownsRow B T K v n F
theorem ahQ {T K B n:Nat} {F:List Value}:∀v w w',Below w.heap.size w w'->ahu T K B n F v w->ahu T K B n F v w':=λv w w' hb h=>bb h hb
theorem ahq {α:Type} {El:World->(Nat->Prop)->List Value->α->Prop} {size:Nat} {w w':World} {Q Q':Nat->Prop} {base T:Nat} {v:Value} {l:List α} {x:α} {css:List (List Value)} {cx:List Value}
 (h1:css.length=l.length) (h2:∀cs∈css,cs.length=size) (h3:∀(i:Nat) y,l[i]? =some y->∃cs,css[i]? =some cs/\El w Q cs y) (hx:El w Q cx x) (hcx:cx.length=size)
 (aiW:∀cs y,El w Q cs y->El w' Q' cs y) (bv:w'.ownsRow base T size v (l.length+1) (css.flatten++cx)) (hQ:∀g,v.ownBlock=some g->Q' g):aj El size w' Q' [v] (l++[x]):=by
 refine kO (css:=css++[cx]) (base:=base) (e:=T) (λcs hc=>?_) ?_ (λi y hy=>?_) hQ
 ·rcases List.mem_append.1 hc with hc|hc
  ·exact h2 cs hc
  ·rw[List.mem_singleton]at hc;subst hc;exact hcx
 ·rw[List.length_append,List.length_singleton,List.flatten_append];simpa using bv
 ·rcases Nat.lt_or_ge i l.length with hi|hi
  ·rw[List.getElem?_append_left hi]at hy;obtain⟨cs,k1,k2⟩:=h3 i y hy;exact⟨cs,by rw[List.getElem?_append_left (by omega)];exact k1,aiW _ _ k2⟩
  ·rw[List.getElem?_append_right hi]at hy;have Y5:i- l.length=0:=by
    rcases Nat.eq_zero_or_pos (i- l.length)with h|h
    ·exact h
    ·rw[List.getElem?_eq_none (by simp;omega)]at hy;simp at hy
   rw[Y5]at hy;simp only[List.getElem?_cons_zero,Option.some.injEq]at hy;subst hy;exact⟨cx,by rw[List.getElem?_append_right (by omega),h1,Y5];rfl,aiW _ _ hx⟩
theorem aiu {w:World} {Q:Nat->Prop} {bl gl tl:List Value} {b:XBk} {Ae Ar A2:Option Addr} {ce cr c2:Nat} {x:aC} (h:BkC w Q bl b gl Ae ce Ar cr tl) (hl:aj bN 4 w Q [.slice A2 (b.rs.length+1) c2] (b.rs++[x])):
 BkC w Q (bl.set 22 (.slice A2 (b.rs.length+1) c2)) ⟨b.g,b.es,b.rs++[x]⟩ gl Ae ce A2 c2 tl:=by
 have hg:=h.g.len;refine⟨?_,h.tlen,h.one,h.g,h.es,?_⟩
 ·rw[h.eq,List.set_append_right _ _ (by omega),hg];simp
 ·simpa using hl
theorem ahJ {w:World} {Q:Nat->Prop} {bl gl tl:List Value} {b:XBk} {Ae Ar A2:Option Addr} {ce cr c2:Nat} {es:List ak} (h:BkC w Q bl b gl Ae ce Ar cr tl) (hl:aj ax 7 w Q [.slice A2 es.length c2] es):
 BkC w Q (bl.set 21 (.slice A2 es.length c2)) ⟨b.g,es,b.rs⟩ gl A2 c2 Ar cr tl:=by
 have hg:=h.g.len;refine⟨?_,h.tlen,h.one,h.g,?_,h.rs⟩
 ·rw[h.eq,List.set_append_right _ _ (by omega),hg];simp
 ·exact hl
end Go.Proofs.YtibiddakakgakaaGreat
