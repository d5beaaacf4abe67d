/- Valid and check of the reference. Written by gen_r5.py. -/
import Derived.Test.YtibiddakakgakaaGreatQdR1
import Derived.Test.YtibiddakakgakaaGreatQdY13R9
set_option linter.unusedVariables false
set_option linter.unusedSimpArgs false
set_option maxRecDepth 4000
attribute [local go_sem ↓] Go.wp_at_zero Go.wp_at_succ
set_option maxHeartbeats 16000000
namespace Go.Proofs.YtibiddakakgakaaGreat
open Go Go.RowKit
theorem Mm (b:XBk) (bl gl tl:List Value) (Ae Ar:Option Addr) (ce cr:Nat) (w:World) (hk:BkC w (·<w.heap.size) bl b gl Ae ce Ar cr tl) (ci:okB b):Calls Tryz.prog 20 #[.agg bl.toArray] w (ap w (.bool (decide (cE b)))):=by
 have iw:=H_ (λ(w2:World) (hb:Below w.heap.size w w2)=>L3 b.g b.es gl Ae ce w2 (hk.keep hb).g (hk.keep hb).es ci.1 ci.2.1);have ME:=H_ (λ(w2:World) (hb:Below w.heap.size w w2)=>yq b.g.currency b.rs Ar cr w2 (hk.keep hb).rs ci.2.2.1 (by have:=ci.1.2.2.1;omega) ci.2.2.2);obtain⟨kY,yO,lF,CA,HE,m8,jG,jv,kB,Ac,cc,Iy,Ds,nF,zF⟩:=agt hk;obtain⟨R,hR⟩:=x_ (decide (cE b));rw[hR];obtain⟨v2,CJ⟩:∃v,decide (dJ b.g.currency b.rs)=v:=⟨_,rfl⟩;have HF:=H_ (λ(v1:Bool) (h:v1=true↔kQ b.g b.es)=>show R=(v1&&v2) by
  rw[<-hR,<-CJ];cases v1 with
  |false=>
   rw[Bool.false_and];exact decide_eq_false (λk=>by have:=h.2 ⟨k.1,k.2.1⟩;cases this)
  |true=>
   rw[Bool.true_and];have hj:=h.1 rfl;by_cases k2:dJ b.g.currency b.rs
   ·rw[decide_eq_true k2];exact decide_eq_true ⟨hj.1,hj.2,k2⟩
   ·rw[decide_eq_false k2];exact decide_eq_false (λk=>k2 k.2.2))
 unfold DB at iw;rw[CJ]at ME;clear hk ci hR CJ;go_enter Tryz.func20,Tryz.ntmps20;go_upto_region 1 with fail;obtain⟨W1,cS,H1,bC,dr,ewx⟩:=B_ w (.cells bl.toArray 36);rw[cS];clear ewx;clear cS;have fB:=H_ H1;have Bx:=H_ (lF.o W1 _ H1);have qx:=(ab H1 21).trans HE.o.1;clear H1;go_wp2_with (refine w_ 4 29 3 w.heap.size (0) gl Bx.o (by rw[ay];exact congrArg some yO.o.symm) Tryz.underlying29 ?_);refine(iw.o W1 bC).mono ?_;rintro e w2 ⟨v1,rfl,RW,aH⟩;have kU:=H_ (HF.o v1 RW);clear RW;have aF:=bC.trans (aH.mono bC.size);have dn:=k_ aH fB;clear qx;cases v1 with
 |false=>
  have hf:=H_ (show R=false from kU.o);go_wp2_with fail;go_ret;exact⟨hf.o.symm▸rfl,aF⟩
 |true=>
  have c0:=(ab dn.o 0).trans m8.o;have c22:=(ab dn.o 22).trans HE.o.2;have hf:=H_ (show R=v2 from kU.o.trans (Bool.true_and _));go_wp2_with fail;refine(ME.o w2 aF).mono ?_;rintro e w3 ⟨rfl,aZ⟩;go_wp2_with fail;go_ret;exact⟨hf.o.symm▸rfl,aF.trans (aZ.mono aF.size)⟩
def ahI (T B:Nat) (v:Value) (w:World):Prop:=∃g,v=.slice (some ⟨g,0,none⟩) 0 0/\B<=g/\w.heap[g]? =some (.cells #[] T (0,0))
theorem ahM {T B:Nat}:∀v w w',Below w.heap.size w w'->ahI T B v w->ahI T B v w':=λv w w' hb ⟨g,e,h1,h2⟩=>⟨g,e,h1,(hb.block g (ag h2)).trans h2⟩
theorem ahN {T B:Nat} {w:World} (h:B<=w.heap.size):ahI T B (.slice (some ⟨w.heap.size,0,none⟩) 0 0) (w.alloc (.cells #[] T)):=⟨_,rfl,h,heap_alloc_new _ _⟩
def ahe (T B:Nat) (cs:List Value) (v:Value) (w:World):Prop:=∃g,v=.slice (some ⟨g,0,none⟩) 1 1/\B<=g/\w.heap[g]? =some (.cells cs.toArray T (0,0))
theorem ahv {T B:Nat} {cs:List Value}:∀v w w',Below w.heap.size w w'->ahe T B cs v w->ahe T B cs v w':=λv w w' hb ⟨g,e,h1,h2⟩=>⟨g,e,h1,(hb.block g (ag h2)).trans h2⟩
theorem ahD {T K:Nat} {cs:List Value} {g:Nat} {w:World} (hc:cs.length=K) (h:w.heap[g]? =some (.cells cs.toArray T (0,0))) {Q:Nat->Prop} (hQ:Q g):Rd w Q (some ⟨g,0,none⟩) 1 K cs:=⟨by omega,λ_=>⟨_,rfl,hQ,(dO (cs:=cs) h).2⟩⟩
def ahu (T K B n:Nat) (F:List Value) (v:Value) (w:World):Prop:=w.ownsRow B T K v n F
theorem ahQ {T K B n:Nat} {F:List Value}:∀v w w',Below w.heap.size w w'->ahu T K B n F v w->ahu T K B n F v w':=λv w w' hb h=>bb h hb
theorem ahJ {w:World} {Q:Nat->Prop} {bl gl tl:List Value} {b:XBk} {Ae Ar A2:Option Addr} {ce cr c2:Nat} {es:List ak} (h:BkC w Q bl b gl Ae ce Ar cr tl) (hl:aj ax 7 w Q [.slice A2 es.length c2] es):
 BkC w Q (bl.set 21 (.slice A2 es.length c2)) ⟨b.g,es,b.rs⟩ gl A2 c2 Ar cr tl:=by
 have hg:=h.g.len;refine⟨?_,h.tlen,h.one,h.g,?_,h.rs⟩
 ·rw[h.eq,List.set_append_right _ _ (by omega),hg];simp
 ·exact hl
end Go.Proofs.YtibiddakakgakaaGreat
