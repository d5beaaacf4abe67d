/- Words on memory, and the data of package api; no program in sight. Written by gen_b0.py. -/
import Derived.WalkKit
import Derived.Laws.OwnMore
import Derived.Deep.AppendLies
import Derived.Deep.Draws
import Derived.Maps.AppendAt
import Derived.Deep.MidRow
import Derived.Lib.Hide
import Derived.KernelRfl
import Derived.WalkLawsBesides
import Derived.WalkSpells
import Derived.Deep.CutRange
import Derived.Deep.CutBlock
import Derived.BigQuiet
import Derived.Deep.QuietTactic
import Derived.Deep.DrawnRows
import Derived.Deep.RegionLaw
import Derived.Maps.OwnOps
import Derived.Maps.OwnSet
import Derived.Maps.Own
import Derived.Test.YtibiddakakgakaaGreatProg
set_option linter.unusedVariables false
set_option linter.unusedSimpArgs false
attribute [local go_sem ↓] Go.wp_at_zero Go.wp_at_succ
set_option maxHeartbeats 16000000
namespace Go.Proofs.YtibiddakakgakaaGreat
open Go Go.RowKit
structure Hd (p:Prop):Prop where
 o:p
theorem H_ {p:Prop} (h:p):Hd p:=⟨h⟩
theorem K_ {α:Sort _} {a b:α} (h:a=b:=by kernel_rfl):a=b:=h
theorem t_ {w w1 w2:World} (h:Hd (Below w.heap.size w w1)) (k:Below w1.heap.size w1 w2):Hd (Below w.heap.size w w2):=H_ (h.o.trans (k.mono h.o.size))
theorem k_ {w w':World} {g:Nat} {o:Obj} (k:Below w.heap.size w w') (h:Hd (w.heap[g]? =some o)):Hd (w'.heap[g]? =some o):=H_ ((k.block _ (by
 rcases Nat.lt_or_ge g w.heap.size with l|l
 ·exact l
 ·rw[Array.getElem?_eq_none l]at h;cases h.o)).trans h.o)
theorem x_ {α:Sort _} (a:α):∃r,a=r:=⟨a,rfl⟩
instance:Coe Int Value:=⟨λx=> .int .i64 x⟩
instance:Coe Nat Value:=⟨λx=> .int .i64 (x:Int)⟩
instance:Coe Bool Value:=⟨λx=> .bool x⟩
instance:Coe ByteArray Value:=⟨λx=> .string x⟩
instance:Coe Unit Value:=⟨λ_=> .int .i64 0⟩
structure Fr (Q:Nat->Prop) (w w':World):Prop where
 os:w'.os=w.os
 tape:w'.tape=w.tape
 output:w'.output=w.output
 size:w.heap.size<=w'.heap.size
 block:∀k,Q k->w'.heap[k]? =w.heap[k]?
section
variable {Q Q':Nat->Prop} {w w' a b c:World}
theorem Fr.refl (Q:Nat->Prop) (w:World):Fr Q w w:=⟨rfl,rfl,rfl,Nat.le_refl _,λ_ _=>rfl⟩
theorem Fr.trans (h:Fr Q a b) (k:Fr Q b c):Fr Q a c:=
 ⟨k.os.trans h.os,k.tape.trans h.tape,k.output.trans h.output,Nat.le_trans h.size k.size,λi hi=>(k.block i hi).trans (h.block i hi)⟩
theorem Fr.mono (h:Fr Q w w') (hq:∀k,Q' k->Q k):Fr Q' w w':=⟨h.os,h.tape,h.output,h.size,λk hk=>h.block k (hq k hk)⟩
theorem Fr.drew (h:Fr Q a w):Fr Q a w.drew:=⟨h.os,h.tape,h.output,h.size,h.block⟩
theorem Fr.drewN (h:Fr Q a w) (n:Nat):Fr Q a (w.drewN n):=⟨h.os,h.tape,h.output,h.size,h.block⟩
theorem Fr.alloc (h:Fr Q a w) (hq:∀k,Q k->k<a.heap.size) (o:Obj):Fr Q a (w.alloc o):=
 ⟨h.os,h.tape,h.output,Nat.le_trans h.size (by simp),λk hk=>(Below.heap_alloc w o k (Nat.lt_of_lt_of_le (hq k hk) h.size)).trans (h.block k hk)⟩
theorem Fr.setCell (h:Fr Q a w) {p:Addr} (hp:¬Q p.block) (u:Value):Fr Q a (w.setCell p u):=
 ⟨h.os,h.tape,h.output,by simpa[World.setCell]using h.size,λk hk=>(Below.heap_setCell w p u k (by rintro rfl;exact hp hk)).trans (h.block k hk)⟩
theorem Fr.grown {row:Option Nat} (h:Fr Q a w) (hg:w.grownBy w' row) (hq:∀k,Q k->k<a.heap.size) (hr:∀k,row=some k->¬Q k):Fr Q a w':=
 ⟨hg.os.trans h.os,hg.tape.trans h.tape,hg.output.trans h.output,Nat.le_trans h.size hg.size,
  λk hk=>(hg.block k (Nat.lt_of_lt_of_le (hq k hk) h.size) (λe=>hr k e.symm hk)).trans (h.block k hk)⟩
theorem Fr.below {B:Nat} (h:Fr (·<B) w w'):Below B w w':=⟨h.os,h.tape,h.output,h.size,h.block⟩
theorem Fr.ofBelow {B:Nat} (h:Below B w w'):Fr (·<B) w w':=⟨h.os,h.tape,h.output,h.size,h.block⟩
theorem Fr.cell (h:Fr Q w w') {p:Addr} (hp:Q p.block):w'.cell? p=w.cell? p:=World.cell?_of_block (w:=w) (h.block _ hp)
theorem Fr.frozen (h:Fr Q w w') {p:Addr} (hp:Q p.block):w'.frozen? p=w.frozen? p:=World.frozen?_of_block (w:=w) (h.block _ hp)
theorem Fr.cells (h:Fr Q w w') {b:Nat} (hp:Q b):∀o,w'.cell? ⟨b,o,none⟩=w.cell? ⟨b,o,none⟩:=λo=>h.cell (p:=⟨b,o,none⟩) hp
end
def At (w:World) (Q:Nat->Prop) (a:Addr) (vs:List Value):Prop:=Q a.block/\∀j u,vs[j]? =some u->w.cell? (a.add j)=some u/\w.frozen? (a.add j)=false
def Rd (w:World) (Q:Nat->Prop) (A:Option Addr) (n size:Nat) (vs:List Value):Prop:=
 vs.length=n*size/\(0<n->∃a,A=some a/\At w Q a vs)
theorem kc {w:World} {base:Nat} {e:TypeId} {size n:Nat} {v:Value} {xs:List Value} (h:w.ownsRow base e size v n xs) {g:Nat} (hg:v.ownBlock=some g) (j:Nat):w.frozen? ((⟨g,0,none⟩:Addr).add j)=false:=by
 rcases h.2 with⟨rfl,_⟩|⟨g',cap,aw,rfl,_,hgg,_⟩
 ·simp[Value.ownBlock]at hg
 ·simp[Value.ownBlock]at hg;subst hg;have hb:((⟨g',0,none⟩:Addr).add j).block=g':=by unfold Addr.add;split<;>rfl
  simp[World.frozen?,hb,hgg]
theorem sb (a:Addr) (n:Nat):(a.add n).block=a.block:=by unfold Addr.add;split<;>rfl
theorem DF (a:Addr) (i j:Nat):(a.add i).add j=a.add (i+j):=by
 unfold Addr.add;by_cases hi:i=0<;>by_cases hj:j=0<;>simp[hi,hj,Nat.add_assoc]
section
variable {Q Q':Nat->Prop} {w w':World} {a:Addr} {A:Option Addr} {vs:List Value} {n size:Nat}
theorem At.fr (h:At w Q a vs) (hf:Fr Q w w'):At w' Q a vs:=⟨h.1,λj u hu=>⟨(hf.cell (by rw[sb];exact h.1)).trans (h.2 j u hu).1,(hf.frozen (by rw[sb];exact h.1)).trans (h.2 j u hu).2⟩⟩
theorem At.mono (h:At w Q a vs) (hq:∀k,Q k->Q' k):At w Q' a vs:=⟨hq _ h.1,h.2⟩
theorem Rd.fr (h:Rd w Q A n size vs) (hf:Fr Q w w'):Rd w' Q A n size vs:=⟨h.1,λhn=>let ⟨a,e,ha⟩:=h.2 hn;⟨a,e,ha.fr hf⟩⟩
theorem Rd.mono (h:Rd w Q A n size vs) (hq:∀k,Q k->Q' k):Rd w Q' A n size vs:=⟨h.1,λhn=>let ⟨a,e,ha⟩:=h.2 hn;⟨a,e,ha.mono hq⟩⟩
theorem Rd.nil (w:World) (Q:Nat->Prop) (size:Nat):Rd w Q none 0 size []:=⟨by simp,λh=>absurd h (by omega)⟩
theorem At.drop (h:At w Q a vs) (k:Nat):At w Q (a.add k) (vs.drop k):=
 ⟨by rw[sb];exact h.1,λj u hu=>by rw[DF];exact h.2 _ u (by rw[<-hu,List.getElem?_drop])⟩
theorem At.take (h:At w Q a vs) (k:Nat):At w Q a (vs.take k):=
 ⟨h.1,λj u hu=>h.2 j u (by rw[List.getElem?_take]at hu;split at hu;exact hu;cases hu)⟩
theorem Rd.own {base:Nat} {e:TypeId} {c:Nat} (h:w.ownsRow base e size (.slice A n c) n vs) (hq:∀k,Value.ownBlock (.slice A n c)=some k->Q k):Rd w Q A n size vs:=by
 refine⟨h.1,λhn=>?_⟩;obtain⟨g,cap,hv,_,aU⟩:=h.form hn;have hA:A=some ⟨g,0,none⟩:=by injection hv
 subst hA;exact⟨_,rfl,hq g rfl,λj u hu=>⟨h.cells (g:=g) rfl j u hu,kc h (g:=g) rfl j⟩⟩
end
def cx (n:Int):Prop:= -9223372036854775808<=n/\n<=9223372036854775807
theorem ab {w:World} {g:Nat} {t:TypeId} {cs:Array Value} (h:w.heap[g]? =some (.cells cs t (0,0))) (i:Nat):w.cell? ⟨g,i,none⟩=cs[i]? :=cell_of_row w g i cs t (0,0) h
theorem bB {w:World} {g:Nat} {t:TypeId} {cs:Array Value} (h:w.heap[g]? =some (.cells cs t (0,0))) (i:Nat):w.frozen? ⟨g,i,none⟩=false:=by
 simp[World.frozen?,h]
theorem ag {w:World} {g:Nat} {o:Obj} (h:w.heap[g]? =some o):g<w.heap.size:=by
 rcases Nat.lt_or_ge g w.heap.size with aU|Fs
 ·exact aU
 ·rw[Array.getElem?_eq_none Fs]at h;cases h
def Py:List Value->Nat->List Value->List Value
 |cs,_,[]=>cs
 |cs,o,v::r=>Py (cs.set o v) (o+1) r
theorem aG {w:World} {b:Nat} {cs:Array Value} {t:TypeId} {fr:Nat × Nat} (h:w.heap[b]? =some (.cells cs t fr)) (i:Nat) (u:Value):
 (w.setCell ⟨b,i,none⟩ u).heap[b]? =some (.cells (cs.setIfInBounds i u) t fr):=by
 simp[World.setCell,Array.getElem?_modify,h]
theorem pk {b:Nat} {t:TypeId} {fr:Nat × Nat}:∀(vs:List Value) (o:Nat) (w:World) (cs:List Value),w.heap[b]? =some (.cells cs.toArray t fr)->
 (w.setCells b o vs).heap[b]? =some (.cells (Py cs o vs).toArray t fr)
 |[],_,_,_,h=>h
 |v::r,o,w,cs,h=>by
  have h1:=aG h o v;rw[show cs.toArray.setIfInBounds o v=(cs.set o v).toArray from by simp]at h1;exact pk r (o+1) _ _ h1
theorem ahg {b:Nat}:∀(vs:List Value) (o:Nat) (w:World),Fr (λk=>k≠b) w (w.setCells b o vs)
 |[],_,w=>Fr.refl _ w
 |v::r,o,w=>(Fr.setCell (p:=⟨b,o,none⟩) (Fr.refl _ w) (λh=>h rfl) v).trans (ahg r (o+1) _)
theorem aB {w:World} {g:Nat} {old:Array Value} {t:TypeId} {fr:Nat × Nat} (h:w.heap[g]? =some (.cells old t fr)) (cs:Array Value):(w.setRow g cs).heap[g]? =some (.cells cs t fr):=by
 simp[World.setRow,Array.getElem?_modify,h]
theorem cC (w:World) (g:Nat) (cs:Array Value):Fr (λk=>k≠g) w (w.setRow g cs):=
 ⟨rfl,rfl,rfl,by simp[World.setRow],λk hk=>by
  simp only[World.setRow,Array.getElem?_modify];rw[if_neg (λe=>hk e.symm)]⟩
theorem ag3 {w:World} {b:Nat} {cs:List Value} {t:TypeId} {fr:Nat × Nat} (h:w.heap[b]? =some (.cells cs.toArray t fr)) (o:Nat) (vs:List Value)
 (hv:∀j v,vs[j]? =some v->cs[o+j]? =some v):w.rangeAt b o vs:=λj v hj=>by
 simp[World.cell?,h,hv j v hj]
theorem yz {w:World} {b:Nat} {cs:Array Value} {t:TypeId} (h:w.heap[b]? =some (.cells cs t (0,0))) (o n:Nat) (hn:o+n<=cs.size):w.there b o n:=λj hj=>by
 refine⟨?_,bB h _⟩;rw[ab h];simp;omega
theorem ai (w:World) (o:Obj):Below w.heap.size w (w.alloc o):=(Below.refl _ _).alloc (Nat.le_refl _) o
theorem B_ (w:World) (o:Obj):∃W,w.alloc o=W/\W.heap[w.heap.size]? =some o/\Below w.heap.size w W/\w.heap.size<W.heap.size/\W.heap.size=w.heap.size+1:=⟨_,rfl,heap_alloc_new w o,ai w o,ag (heap_alloc_new w o),by simp⟩
theorem dO {w:World} {b:Nat} {cs:List Value} {t:TypeId} (h:w.heap[b]? =some (.cells cs.toArray t)):At w (·<w.heap.size) ⟨b,0,none⟩ cs:=by
 refine⟨ag h,λj u hu=>?_⟩;rw[Addr.add_lit,Nat.zero_add,ab h j,bB h j];exact⟨by simpa using hu,rfl⟩
theorem Lz {n:Nat} (h:n<=9223372036854775807):cx (n:Int):=by unfold cx;omega
def av (cs:List Value) (n:Int):Prop:=cs=[.int .i64 n]/\cx n
def gZ (cs:List Value) (s:ByteArray):Prop:=cs=[.string s]
def vE (cs:List Value) (b:Bool):Prop:=cs=[.bool b]
def aj {α:Type} (El:World->(Nat->Prop)->List Value->α->Prop) (size:Nat) (w:World) (Q:Nat->Prop) (cs:List Value) (xs:List α):Prop:=
 ∃A c,cs=[.slice A xs.length c]/\xs.length<=c/\c<=maxLen/\
  (0<xs.length->∃b o,A=some ⟨b,o,none⟩/\Q b/\∀i x,xs[i]? =some x->∃es,El w Q es x/\At w Q ⟨b,o+i*size,none⟩ es)
theorem av.len {cs:List Value} {n:Int} (h:av cs n):cs.length=1:=by rw[h.1];rfl
theorem gZ.len {cs:List Value} {s:ByteArray} (h:gZ cs s):cs.length=1:=by rw[h];rfl
theorem vE.len {cs:List Value} {b:Bool} (h:vE cs b):cs.length=1:=by rw[h];rfl
theorem aj.len {α:Type} {El:World->(Nat->Prop)->List Value->α->Prop} {size:Nat} {w:World} {Q:Nat->Prop} {cs:List Value} {xs:List α} (h:aj El size w Q cs xs):cs.length=1:=by
 obtain⟨A,c,e,_⟩:=h;rw[e];rfl
theorem aj.fr {α:Type} {El:World->(Nat->Prop)->List Value->α->Prop} {size:Nat} {w w':World} {Q:Nat->Prop} {cs:List Value} {xs:List α} (h:aj El size w Q cs xs)
 (hE:∀{es x},El w Q es x->El w' Q es x) (hf:Fr Q w w'):aj El size w' Q cs xs:=by
 obtain⟨A,c,e,h1,h2,h3⟩:=h;refine⟨A,c,e,h1,h2,λhn=>?_⟩;obtain⟨b,o,ha,hb,hi⟩:=h3 hn;refine⟨b,o,ha,hb,λi x hx=>?_⟩;obtain⟨es,he,aS⟩:=hi i x hx;exact⟨es,hE he,aS.fr hf⟩
theorem aj.mono {α:Type} {El:World->(Nat->Prop)->List Value->α->Prop} {size:Nat} {w:World} {Q Q':Nat->Prop} {cs:List Value} {xs:List α} (h:aj El size w Q cs xs)
 (hE:∀{es x},El w Q es x->El w Q' es x) (hq:∀k,Q k->Q' k):aj El size w Q' cs xs:=by
 obtain⟨A,c,e,h1,h2,h3⟩:=h;refine⟨A,c,e,h1,h2,λhn=>?_⟩;obtain⟨b,o,ha,hb,hi⟩:=h3 hn;refine⟨b,o,ha,hq b hb,λi x hx=>?_⟩;obtain⟨es,he,aS⟩:=hi i x hx;exact⟨es,hE he,aS.mono hq⟩
theorem At.c {w:World} {Q:Nat->Prop} {b o:Nat} {vs:List Value} (h:At w Q ⟨b,o,none⟩ vs) {j:Nat} {u:Value} (hj:vs[j]? =some u):w.cell? ⟨b,o+j,none⟩=some u:=by
 have:=(h.2 j u hj).1
 rwa[Addr.add_lit]at this
theorem At.f {w:World} {Q:Nat->Prop} {b o:Nat} {vs:List Value} (h:At w Q ⟨b,o,none⟩ vs) {j:Nat} {u:Value} (hj:vs[j]? =some u):w.frozen? ⟨b,o+j,none⟩=false:=by
 have:=(h.2 j u hj).2
 rwa[Addr.add_lit]at this
theorem At.split {w:World} {Q:Nat->Prop} {b o:Nat} {xs ys:List Value} (h:At w Q ⟨b,o,none⟩ (xs++ys)):At w Q ⟨b,o,none⟩ xs/\At w Q ⟨b,o+xs.length,none⟩ ys:=by
 refine⟨⟨h.1,λj u hj=>h.2 j u ?_⟩,⟨h.1,λj u hj=>?_⟩⟩
 ·rw[List.getElem?_append_left (List.getElem?_eq_some_iff.1 hj).1];exact hj
 ·have:=h.2 (xs.length+j) u (by rw[List.getElem?_append_right (by omega)];simpa using hj);rw[Addr.add_lit]at this |-
  rwa[Nat.add_assoc]
theorem aj.form {α:Type} {El:World->(Nat->Prop)->List Value->α->Prop} {size:Nat} {w:World} {Q:Nat->Prop} {cs:List Value} {xs:List α} (h:aj El size w Q cs xs):∃A c,cs=[.slice A xs.length c]/\xs.length<=c/\c<=maxLen:=by
 obtain⟨A,c,e,h1,h2,_⟩:=h;exact⟨A,c,e,h1,h2⟩
theorem aj.cell {α:Type} {El:World->(Nat->Prop)->List Value->α->Prop} {size:Nat} {w:World} {Q Q2:Nat->Prop} {cs:List Value} {xs:List α} {b o:Nat} (h:aj El size w Q cs xs) (ha:At w Q2 ⟨b,o,none⟩ cs):∃A c,aj El size w Q [.slice A xs.length c] xs/\w.cell? ⟨b,o,none⟩=some (.slice A xs.length c):=by
 obtain⟨A,c,e,_⟩:=h.form;subst e;exact⟨A,c,h,ha.c (j:=0) rfl⟩
theorem aj.get {α:Type} {El:World->(Nat->Prop)->List Value->α->Prop} {size:Nat} {w:World} {Q:Nat->Prop} {A:Option Addr} {n c:Nat} {xs:List α} (h:aj El size w Q [.slice A n c] xs) (i:Nat) (hi:i<xs.length):
 ∃b o es,A=some ⟨b,o,none⟩/\Q b/\El w Q es xs[i]/\At w Q ⟨b,o+i*size,none⟩ es:=by
 obtain⟨A',c',e,_,_,kZ⟩:=h;simp only[List.cons.injEq,and_true,Value.slice.injEq]at e;obtain⟨rfl,rfl,rfl⟩:=e;obtain⟨b,o,rfl,hb,hx⟩:=kZ (by omega);obtain⟨es,h1,h2⟩:=hx i xs[i] (List.getElem?_eq_getElem hi);exact⟨b,o,es,rfl,hb,h1,h2⟩
theorem aj.base {α:Type} {El:World->(Nat->Prop)->List Value->α->Prop} {size:Nat} {w:World} {Q:Nat->Prop} {A:Option Addr} {n c:Nat} {xs:List α} (h:aj El size w Q [.slice A n c] xs) (hi:0<xs.length):
 ∃b o,A=some ⟨b,o,none⟩/\Q b/\∀i (hi:i<xs.length),∃es,El w Q es xs[i]/\At w Q ⟨b,o+i*size,none⟩ es:=by
 obtain⟨A',c',e,_,_,kZ⟩:=h;simp only[List.cons.injEq,and_true,Value.slice.injEq]at e;obtain⟨rfl,rfl,rfl⟩:=e;obtain⟨b,o,rfl,hb,hx⟩:=kZ hi;exact⟨b,o,rfl,hb,λi hi=>hx i xs[i] (List.getElem?_eq_getElem hi)⟩
theorem aj.cap {α:Type} {El:World->(Nat->Prop)->List Value->α->Prop} {size:Nat} {w:World} {Q:Nat->Prop} {A:Option Addr} {n c:Nat} {xs:List α} (h:aj El size w Q [.slice A n c] xs):n=xs.length/\xs.length<=c/\c<=maxLen:=by
 obtain⟨A',c',e,h1,h2,_⟩:=h;simp only[List.cons.injEq,and_true,Value.slice.injEq]at e;obtain⟨rfl,rfl,rfl⟩:=e;exact⟨rfl,h1,h2⟩
theorem bd0:cx 0:=by unfold cx;omega
theorem sr {α:Type} (El:World->(Nat->Prop)->List Value->α->Prop) (size:Nat) (w:World) (Q:Nat->Prop):aj El size w Q [.slice none 0 0] ([]:List α):=
 ⟨none,0,rfl,by simp,by simp[maxLen],λh=>absurd h (by simp)⟩
theorem aj.bd {α:Type} {El:World->(Nat->Prop)->List Value->α->Prop} {size:Nat} {w:World} {Q:Nat->Prop} {cs:List Value} {xs:List α} (h:aj El size w Q cs xs):cx (xs.length:Int):=by
 obtain⟨A,c,_,h1,h2,_⟩:=h;unfold maxLen at h2;exact Lz (by omega)
def ap (w:World) (v:Value) (e:Ending) (w':World):Prop:=e=.returned v/\Below w.heap.size w w'
structure bG where
 account:Int:=0
 amount:Int:=0
 partner:Int:=0
deriving DecidableEq
def bc (w:World) (Q:Nat->Prop) (cs:List Value) (x:bG):Prop:=∃c0 c1 c2:List Value,cs=c0++c1++c2/\av c0 x.account/\av c1 x.amount/\av c2 x.partner
theorem bc.fr {w w':World} {Q:Nat->Prop} {cs:List Value} {x:bG} (h:bc w Q cs x) (hf:Fr Q w w'):bc w' Q cs x:=by
 obtain⟨c0,c1,c2,e,h0,h1,h2⟩:=h;exact⟨c0,c1,c2,e,h0,h1,h2⟩
theorem bc.mono {w:World} {Q Q':Nat->Prop} {cs:List Value} {x:bG} (h:bc w Q cs x) (hf:∀k,Q k->Q' k):bc w Q' cs x:=by
 obtain⟨c0,c1,c2,e,h0,h1,h2⟩:=h;exact⟨c0,c1,c2,e,h0,h1,h2⟩
theorem bc.len {w:World} {Q:Nat->Prop} {cs:List Value} {x:bG} (h:bc w Q cs x):cs.length=3:=by
 obtain⟨c0,c1,c2,e,h0,h1,h2⟩:=h;subst e;simp only[List.length_append,av.len h0,av.len h1,av.len h2]
theorem bc.keep {w w':World} {cs:List Value} {x:bG} (h:bc w (·<w.heap.size) cs x) (hb:Below w.heap.size w w'):bc w' (·<w'.heap.size) cs x:=
 (bc.mono (bc.fr h (Fr.ofBelow hb)) (λk hk=>by have:=hb.size;omega))
structure ak where
 id:Int:=0
 entity:Int:=0
 date:Int:=0
 kind:Int:=0
 of_:Int:=0
 text:ByteArray:=ByteArray.empty
 lines:List bG:=[]
def ax (w:World) (Q:Nat->Prop) (cs:List Value) (x:ak):Prop:=∃c0 c1 c2 c3 c4 c5 c6:List Value,cs=c0++c1++c2++c3++c4++c5++c6/\av c0 x.id/\av c1 x.entity/\av c2 x.date/\av c3 x.kind/\av c4 x.of_/\gZ c5 x.text/\aj bc 3 w Q c6 x.lines
theorem ax.fr {w w':World} {Q:Nat->Prop} {cs:List Value} {x:ak} (h:ax w Q cs x) (hf:Fr Q w w'):ax w' Q cs x:=by
 obtain⟨c0,c1,c2,c3,c4,c5,c6,e,h0,h1,h2,h3,h4,h5,h6⟩:=h;exact⟨c0,c1,c2,c3,c4,c5,c6,e,h0,h1,h2,h3,h4,h5,h6.fr (λh=>bc.fr h hf) hf⟩
theorem ax.mono {w:World} {Q Q':Nat->Prop} {cs:List Value} {x:ak} (h:ax w Q cs x) (hf:∀k,Q k->Q' k):ax w Q' cs x:=by
 obtain⟨c0,c1,c2,c3,c4,c5,c6,e,h0,h1,h2,h3,h4,h5,h6⟩:=h;exact⟨c0,c1,c2,c3,c4,c5,c6,e,h0,h1,h2,h3,h4,h5,h6.mono (λh=>bc.mono h hf) hf⟩
theorem ax.len {w:World} {Q:Nat->Prop} {cs:List Value} {x:ak} (h:ax w Q cs x):cs.length=7:=by
 obtain⟨c0,c1,c2,c3,c4,c5,c6,e,h0,h1,h2,h3,h4,h5,h6⟩:=h;subst e;simp only[List.length_append,av.len h0,av.len h1,av.len h2,av.len h3,av.len h4,gZ.len h5,aj.len h6]
theorem ax.keep {w w':World} {cs:List Value} {x:ak} (h:ax w (·<w.heap.size) cs x) (hb:Below w.heap.size w w'):ax w' (·<w'.heap.size) cs x:=
 (ax.mono (ax.fr h (Fr.ofBelow hb)) (λk hk=>by have:=hb.size;omega))
structure ah where
 code:Int:=0
 kind:Int:=0
 basis:Int:=0
 parent:Int:=0
deriving DecidableEq
def ar (w:World) (Q:Nat->Prop) (cs:List Value) (x:ah):Prop:=∃c0 c1 c2 c3:List Value,cs=c0++c1++c2++c3/\av c0 x.code/\av c1 x.kind/\av c2 x.basis/\av c3 x.parent
theorem ar.fr {w w':World} {Q:Nat->Prop} {cs:List Value} {x:ah} (h:ar w Q cs x) (hf:Fr Q w w'):ar w' Q cs x:=by
 obtain⟨c0,c1,c2,c3,e,h0,h1,h2,h3⟩:=h;exact⟨c0,c1,c2,c3,e,h0,h1,h2,h3⟩
theorem ar.mono {w:World} {Q Q':Nat->Prop} {cs:List Value} {x:ah} (h:ar w Q cs x) (hf:∀k,Q k->Q' k):ar w Q' cs x:=by
 obtain⟨c0,c1,c2,c3,e,h0,h1,h2,h3⟩:=h;exact⟨c0,c1,c2,c3,e,h0,h1,h2,h3⟩
theorem ar.len {w:World} {Q:Nat->Prop} {cs:List Value} {x:ah} (h:ar w Q cs x):cs.length=4:=by
 obtain⟨c0,c1,c2,c3,e,h0,h1,h2,h3⟩:=h;subst e;simp only[List.length_append,av.len h0,av.len h1,av.len h2,av.len h3]
theorem ar.keep {w w':World} {cs:List Value} {x:ah} (h:ar w (·<w.heap.size) cs x) (hb:Below w.heap.size w w'):ar w' (·<w'.heap.size) cs x:=
 (ar.mono (ar.fr h (Fr.ofBelow hb)) (λk hk=>by have:=hb.size;omega))
structure bu where
 from_:Int:=0
 to_:Int:=0
 since:Int:=0
deriving DecidableEq
def bJ (w:World) (Q:Nat->Prop) (cs:List Value) (x:bu):Prop:=∃c0 c1 c2:List Value,cs=c0++c1++c2/\av c0 x.from_/\av c1 x.to_/\av c2 x.since
theorem bJ.fr {w w':World} {Q:Nat->Prop} {cs:List Value} {x:bu} (h:bJ w Q cs x) (hf:Fr Q w w'):bJ w' Q cs x:=by
 obtain⟨c0,c1,c2,e,h0,h1,h2⟩:=h;exact⟨c0,c1,c2,e,h0,h1,h2⟩
theorem bJ.mono {w:World} {Q Q':Nat->Prop} {cs:List Value} {x:bu} (h:bJ w Q cs x) (hf:∀k,Q k->Q' k):bJ w Q' cs x:=by
 obtain⟨c0,c1,c2,e,h0,h1,h2⟩:=h;exact⟨c0,c1,c2,e,h0,h1,h2⟩
theorem bJ.len {w:World} {Q:Nat->Prop} {cs:List Value} {x:bu} (h:bJ w Q cs x):cs.length=3:=by
 obtain⟨c0,c1,c2,e,h0,h1,h2⟩:=h;subst e;simp only[List.length_append,av.len h0,av.len h1,av.len h2]
theorem bJ.keep {w w':World} {cs:List Value} {x:bu} (h:bJ w (·<w.heap.size) cs x) (hb:Below w.heap.size w w'):bJ w' (·<w'.heap.size) cs x:=
 (bJ.mono (bJ.fr h (Fr.ofBelow hb)) (λk hk=>by have:=hb.size;omega))
structure aV where
 name:ByteArray:=ByteArray.empty
 currency:ByteArray:=ByteArray.empty
 chart:List ah:=[]
 links:List bu:=[]
 joint:Bool:=false
def aN (w:World) (Q:Nat->Prop) (cs:List Value) (x:aV):Prop:=∃c0 c1 c2 c3 c4:List Value,cs=c0++c1++c2++c3++c4/\gZ c0 x.name/\gZ c1 x.currency/\aj ar 4 w Q c2 x.chart/\aj bJ 3 w Q c3 x.links/\vE c4 x.joint
theorem aN.fr {w w':World} {Q:Nat->Prop} {cs:List Value} {x:aV} (h:aN w Q cs x) (hf:Fr Q w w'):aN w' Q cs x:=by
 obtain⟨c0,c1,c2,c3,c4,e,h0,h1,h2,h3,h4⟩:=h;exact⟨c0,c1,c2,c3,c4,e,h0,h1,h2.fr (λh=>ar.fr h hf) hf,h3.fr (λh=>bJ.fr h hf) hf,h4⟩
theorem aN.mono {w:World} {Q Q':Nat->Prop} {cs:List Value} {x:aV} (h:aN w Q cs x) (hf:∀k,Q k->Q' k):aN w Q' cs x:=by
 obtain⟨c0,c1,c2,c3,c4,e,h0,h1,h2,h3,h4⟩:=h;exact⟨c0,c1,c2,c3,c4,e,h0,h1,h2.mono (λh=>ar.mono h hf) hf,h3.mono (λh=>bJ.mono h hf) hf,h4⟩
theorem aN.len {w:World} {Q:Nat->Prop} {cs:List Value} {x:aV} (h:aN w Q cs x):cs.length=5:=by
 obtain⟨c0,c1,c2,c3,c4,e,h0,h1,h2,h3,h4⟩:=h;subst e;simp only[List.length_append,gZ.len h0,gZ.len h1,aj.len h2,aj.len h3,vE.len h4]
theorem aN.keep {w w':World} {cs:List Value} {x:aV} (h:aN w (·<w.heap.size) cs x) (hb:Below w.heap.size w w'):aN w' (·<w'.heap.size) cs x:=
 (aN.mono (aN.fr h (Fr.ofBelow hb)) (λk hk=>by have:=hb.size;omega))
structure BE where
 year:Int:=0
 month:Int:=0
 periods:Int:=0
deriving DecidableEq
def iK (w:World) (Q:Nat->Prop) (cs:List Value) (x:BE):Prop:=∃c0 c1 c2:List Value,cs=c0++c1++c2/\av c0 x.year/\av c1 x.month/\av c2 x.periods
theorem iK.fr {w w':World} {Q:Nat->Prop} {cs:List Value} {x:BE} (h:iK w Q cs x) (hf:Fr Q w w'):iK w' Q cs x:=by
 obtain⟨c0,c1,c2,e,h0,h1,h2⟩:=h;exact⟨c0,c1,c2,e,h0,h1,h2⟩
theorem iK.mono {w:World} {Q Q':Nat->Prop} {cs:List Value} {x:BE} (h:iK w Q cs x) (hf:∀k,Q k->Q' k):iK w Q' cs x:=by
 obtain⟨c0,c1,c2,e,h0,h1,h2⟩:=h;exact⟨c0,c1,c2,e,h0,h1,h2⟩
theorem iK.len {w:World} {Q:Nat->Prop} {cs:List Value} {x:BE} (h:iK w Q cs x):cs.length=3:=by
 obtain⟨c0,c1,c2,e,h0,h1,h2⟩:=h;subst e;simp only[List.length_append,av.len h0,av.len h1,av.len h2]
theorem iK.keep {w w':World} {cs:List Value} {x:BE} (h:iK w (·<w.heap.size) cs x) (hb:Below w.heap.size w w'):iK w' (·<w'.heap.size) cs x:=
 (iK.mono (iK.fr h (Fr.ofBelow hb)) (λk hk=>by have:=hb.size;omega))
structure gG where
 investment:Int:=0
 goodwill:Int:=0
 associates:Int:=0
 inventory:Int:=0
 reserve:Int:=0
 minority:Int:=0
 retained:Int:=0
 acquired:Int:=0
 owners:Int:=0
 disposal:Int:=0
 associateProfit:Int:=0
 dividends:Int:=0
 minorityProfit:Int:=0
 difference:Int:=0
 margin:Int:=0
deriving DecidableEq
def dH (w:World) (Q:Nat->Prop) (cs:List Value) (x:gG):Prop:=∃c0 c1 c2 c3 c4 c5 c6 c7 c8 c9 Rz Nt RX c13 c14:List Value,cs=c0++c1++c2++c3++c4++c5++c6++c7++c8++c9++Rz++Nt++RX++c13++c14/\av c0 x.investment/\av c1 x.goodwill/\av c2 x.associates/\av c3 x.inventory/\av c4 x.reserve/\av c5 x.minority/\av c6 x.retained/\av c7 x.acquired/\av c8 x.owners/\av c9 x.disposal/\av Rz x.associateProfit/\av Nt x.dividends/\av RX x.minorityProfit/\av c13 x.difference/\av c14 x.margin
theorem dH.fr {w w':World} {Q:Nat->Prop} {cs:List Value} {x:gG} (h:dH w Q cs x) (hf:Fr Q w w'):dH w' Q cs x:=by
 obtain⟨c0,c1,c2,c3,c4,c5,c6,c7,c8,c9,Rz,Nt,RX,c13,c14,e,h0,h1,h2,h3,h4,h5,h6,h7,h8,h9,dl,dx,et,fA,gQ⟩:=h;exact⟨c0,c1,c2,c3,c4,c5,c6,c7,c8,c9,Rz,Nt,RX,c13,c14,e,h0,h1,h2,h3,h4,h5,h6,h7,h8,h9,dl,dx,et,fA,gQ⟩
theorem dH.mono {w:World} {Q Q':Nat->Prop} {cs:List Value} {x:gG} (h:dH w Q cs x) (hf:∀k,Q k->Q' k):dH w Q' cs x:=by
 obtain⟨c0,c1,c2,c3,c4,c5,c6,c7,c8,c9,Rz,Nt,RX,c13,c14,e,h0,h1,h2,h3,h4,h5,h6,h7,h8,h9,dl,dx,et,fA,gQ⟩:=h;exact⟨c0,c1,c2,c3,c4,c5,c6,c7,c8,c9,Rz,Nt,RX,c13,c14,e,h0,h1,h2,h3,h4,h5,h6,h7,h8,h9,dl,dx,et,fA,gQ⟩
theorem dH.len {w:World} {Q:Nat->Prop} {cs:List Value} {x:gG} (h:dH w Q cs x):cs.length=15:=by
 obtain⟨c0,c1,c2,c3,c4,c5,c6,c7,c8,c9,Rz,Nt,RX,c13,c14,e,h0,h1,h2,h3,h4,h5,h6,h7,h8,h9,dl,dx,et,fA,gQ⟩:=h;subst e;simp only[List.length_append,av.len h0,av.len h1,av.len h2,av.len h3,av.len h4,av.len h5,av.len h6,av.len h7,av.len h8,av.len h9,av.len dl,av.len dx,av.len et,av.len fA,av.len gQ]
theorem dH.keep {w w':World} {cs:List Value} {x:gG} (h:dH w (·<w.heap.size) cs x) (hb:Below w.heap.size w w'):dH w' (·<w'.heap.size) cs x:=
 (dH.mono (dH.fr h (Fr.ofBelow hb)) (λk hk=>by have:=hb.size;omega))
structure au where
 currency:ByteArray:=ByteArray.empty
 calendar:BE:={}
 chart:List ah:=[]
 roles:gG:={}
 entities:List aV:=[]
def aL (w:World) (Q:Nat->Prop) (cs:List Value) (x:au):Prop:=∃c0 c1 c2 c3 c4:List Value,cs=c0++c1++c2++c3++c4/\gZ c0 x.currency/\iK w Q c1 x.calendar/\aj ar 4 w Q c2 x.chart/\dH w Q c3 x.roles/\aj aN 5 w Q c4 x.entities
theorem aL.fr {w w':World} {Q:Nat->Prop} {cs:List Value} {x:au} (h:aL w Q cs x) (hf:Fr Q w w'):aL w' Q cs x:=by
 obtain⟨c0,c1,c2,c3,c4,e,h0,h1,h2,h3,h4⟩:=h;exact⟨c0,c1,c2,c3,c4,e,h0,iK.fr h1 hf,h2.fr (λh=>ar.fr h hf) hf,dH.fr h3 hf,h4.fr (λh=>aN.fr h hf) hf⟩
theorem aL.mono {w:World} {Q Q':Nat->Prop} {cs:List Value} {x:au} (h:aL w Q cs x) (hf:∀k,Q k->Q' k):aL w Q' cs x:=by
 obtain⟨c0,c1,c2,c3,c4,e,h0,h1,h2,h3,h4⟩:=h;exact⟨c0,c1,c2,c3,c4,e,h0,iK.mono h1 hf,h2.mono (λh=>ar.mono h hf) hf,dH.mono h3 hf,h4.mono (λh=>aN.mono h hf) hf⟩
theorem aL.len {w:World} {Q:Nat->Prop} {cs:List Value} {x:au} (h:aL w Q cs x):cs.length=21:=by
 obtain⟨c0,c1,c2,c3,c4,e,h0,h1,h2,h3,h4⟩:=h;subst e;simp only[List.length_append,gZ.len h0,iK.len h1,aj.len h2,dH.len h3,aj.len h4]
theorem aL.keep {w w':World} {cs:List Value} {x:au} (h:aL w (·<w.heap.size) cs x) (hb:Below w.heap.size w w'):aL w' (·<w'.heap.size) cs x:=
 (aL.mono (aL.fr h (Fr.ofBelow hb)) (λk hk=>by have:=hb.size;omega))
structure DC where
 entry:Int:=0
 line:Int:=0
deriving DecidableEq
def iM (w:World) (Q:Nat->Prop) (cs:List Value) (x:DC):Prop:=∃c0 c1:List Value,cs=c0++c1/\av c0 x.entry/\av c1 x.line
theorem iM.fr {w w':World} {Q:Nat->Prop} {cs:List Value} {x:DC} (h:iM w Q cs x) (hf:Fr Q w w'):iM w' Q cs x:=by
 obtain⟨c0,c1,e,h0,h1⟩:=h;exact⟨c0,c1,e,h0,h1⟩
theorem iM.mono {w:World} {Q Q':Nat->Prop} {cs:List Value} {x:DC} (h:iM w Q cs x) (hf:∀k,Q k->Q' k):iM w Q' cs x:=by
 obtain⟨c0,c1,e,h0,h1⟩:=h;exact⟨c0,c1,e,h0,h1⟩
theorem iM.len {w:World} {Q:Nat->Prop} {cs:List Value} {x:DC} (h:iM w Q cs x):cs.length=2:=by
 obtain⟨c0,c1,e,h0,h1⟩:=h;subst e;simp only[List.length_append,av.len h0,av.len h1]
theorem iM.keep {w w':World} {cs:List Value} {x:DC} (h:iM w (·<w.heap.size) cs x) (hb:Below w.heap.size w w'):iM w' (·<w'.heap.size) cs x:=
 (iM.mono (iM.fr h (Fr.ofBelow hb)) (λk hk=>by have:=hb.size;omega))
structure bW where
 ref:DC:={}
 entity:Int:=0
 account:Int:=0
 partner:Int:=0
 date:Int:=0
 amount:Int:=0
deriving DecidableEq
def je (w:World) (Q:Nat->Prop) (cs:List Value) (x:bW):Prop:=∃c0 c1 c2 c3 c4 c5:List Value,cs=c0++c1++c2++c3++c4++c5/\iM w Q c0 x.ref/\av c1 x.entity/\av c2 x.account/\av c3 x.partner/\av c4 x.date/\av c5 x.amount
theorem je.fr {w w':World} {Q:Nat->Prop} {cs:List Value} {x:bW} (h:je w Q cs x) (hf:Fr Q w w'):je w' Q cs x:=by
 obtain⟨c0,c1,c2,c3,c4,c5,e,h0,h1,h2,h3,h4,h5⟩:=h;exact⟨c0,c1,c2,c3,c4,c5,e,iM.fr h0 hf,h1,h2,h3,h4,h5⟩
theorem je.mono {w:World} {Q Q':Nat->Prop} {cs:List Value} {x:bW} (h:je w Q cs x) (hf:∀k,Q k->Q' k):je w Q' cs x:=by
 obtain⟨c0,c1,c2,c3,c4,c5,e,h0,h1,h2,h3,h4,h5⟩:=h;exact⟨c0,c1,c2,c3,c4,c5,e,iM.mono h0 hf,h1,h2,h3,h4,h5⟩
theorem je.len {w:World} {Q:Nat->Prop} {cs:List Value} {x:bW} (h:je w Q cs x):cs.length=7:=by
 obtain⟨c0,c1,c2,c3,c4,c5,e,h0,h1,h2,h3,h4,h5⟩:=h;subst e;simp only[List.length_append,iM.len h0,av.len h1,av.len h2,av.len h3,av.len h4,av.len h5]
theorem je.keep {w w':World} {cs:List Value} {x:bW} (h:je w (·<w.heap.size) cs x) (hb:Below w.heap.size w w'):je w' (·<w'.heap.size) cs x:=
 (je.mono (je.fr h (Fr.ofBelow hb)) (λk hk=>by have:=hb.size;omega))
structure vJ where
 account:Int:=0
 amount:Int:=0
deriving DecidableEq
def gL (w:World) (Q:Nat->Prop) (cs:List Value) (x:vJ):Prop:=∃c0 c1:List Value,cs=c0++c1/\av c0 x.account/\av c1 x.amount
theorem gL.fr {w w':World} {Q:Nat->Prop} {cs:List Value} {x:vJ} (h:gL w Q cs x) (hf:Fr Q w w'):gL w' Q cs x:=by
 obtain⟨c0,c1,e,h0,h1⟩:=h;exact⟨c0,c1,e,h0,h1⟩
theorem gL.mono {w:World} {Q Q':Nat->Prop} {cs:List Value} {x:vJ} (h:gL w Q cs x) (hf:∀k,Q k->Q' k):gL w Q' cs x:=by
 obtain⟨c0,c1,e,h0,h1⟩:=h;exact⟨c0,c1,e,h0,h1⟩
theorem gL.len {w:World} {Q:Nat->Prop} {cs:List Value} {x:vJ} (h:gL w Q cs x):cs.length=2:=by
 obtain⟨c0,c1,e,h0,h1⟩:=h;subst e;simp only[List.length_append,av.len h0,av.len h1]
theorem gL.keep {w w':World} {cs:List Value} {x:vJ} (h:gL w (·<w.heap.size) cs x) (hb:Below w.heap.size w w'):gL w' (·<w'.heap.size) cs x:=
 (gL.mono (gL.fr h (Fr.ofBelow hb)) (λk hk=>by have:=hb.size;omega))
structure kF where
 kind:Int:=0
 entity:Int:=0
 other:Int:=0
 rule:Int:=0
 parts:List vJ:=[]
def dX (w:World) (Q:Nat->Prop) (cs:List Value) (x:kF):Prop:=∃c0 c1 c2 c3 c4:List Value,cs=c0++c1++c2++c3++c4/\av c0 x.kind/\av c1 x.entity/\av c2 x.other/\av c3 x.rule/\aj gL 2 w Q c4 x.parts
theorem dX.fr {w w':World} {Q:Nat->Prop} {cs:List Value} {x:kF} (h:dX w Q cs x) (hf:Fr Q w w'):dX w' Q cs x:=by
 obtain⟨c0,c1,c2,c3,c4,e,h0,h1,h2,h3,h4⟩:=h;exact⟨c0,c1,c2,c3,c4,e,h0,h1,h2,h3,h4.fr (λh=>gL.fr h hf) hf⟩
theorem dX.mono {w:World} {Q Q':Nat->Prop} {cs:List Value} {x:kF} (h:dX w Q cs x) (hf:∀k,Q k->Q' k):dX w Q' cs x:=by
 obtain⟨c0,c1,c2,c3,c4,e,h0,h1,h2,h3,h4⟩:=h;exact⟨c0,c1,c2,c3,c4,e,h0,h1,h2,h3,h4.mono (λh=>gL.mono h hf) hf⟩
theorem dX.len {w:World} {Q:Nat->Prop} {cs:List Value} {x:kF} (h:dX w Q cs x):cs.length=5:=by
 obtain⟨c0,c1,c2,c3,c4,e,h0,h1,h2,h3,h4⟩:=h;subst e;simp only[List.length_append,av.len h0,av.len h1,av.len h2,av.len h3,aj.len h4]
theorem dX.keep {w w':World} {cs:List Value} {x:kF} (h:dX w (·<w.heap.size) cs x) (hb:Below w.heap.size w w'):dX w' (·<w'.heap.size) cs x:=
 (dX.mono (dX.fr h (Fr.ofBelow hb)) (λk hk=>by have:=hb.size;omega))
structure fb where
 account:Int:=0
 amount:Int:=0
deriving DecidableEq
def dB (w:World) (Q:Nat->Prop) (cs:List Value) (x:fb):Prop:=∃c0 c1:List Value,cs=c0++c1/\av c0 x.account/\av c1 x.amount
theorem dB.fr {w w':World} {Q:Nat->Prop} {cs:List Value} {x:fb} (h:dB w Q cs x) (hf:Fr Q w w'):dB w' Q cs x:=by
 obtain⟨c0,c1,e,h0,h1⟩:=h;exact⟨c0,c1,e,h0,h1⟩
theorem dB.mono {w:World} {Q Q':Nat->Prop} {cs:List Value} {x:fb} (h:dB w Q cs x) (hf:∀k,Q k->Q' k):dB w Q' cs x:=by
 obtain⟨c0,c1,e,h0,h1⟩:=h;exact⟨c0,c1,e,h0,h1⟩
theorem dB.len {w:World} {Q:Nat->Prop} {cs:List Value} {x:fb} (h:dB w Q cs x):cs.length=2:=by
 obtain⟨c0,c1,e,h0,h1⟩:=h;subst e;simp only[List.length_append,av.len h0,av.len h1]
theorem dB.keep {w w':World} {cs:List Value} {x:fb} (h:dB w (·<w.heap.size) cs x) (hb:Below w.heap.size w w'):dB w' (·<w'.heap.size) cs x:=
 (dB.mono (dB.fr h (Fr.ofBelow hb)) (λk hk=>by have:=hb.size;omega))
structure aC where
 currency:ByteArray:=ByteArray.empty
 kind:Int:=0
 when_:Int:=0
 value:Int:=0
deriving DecidableEq
def bN (w:World) (Q:Nat->Prop) (cs:List Value) (x:aC):Prop:=∃c0 c1 c2 c3:List Value,cs=c0++c1++c2++c3/\gZ c0 x.currency/\av c1 x.kind/\av c2 x.when_/\av c3 x.value
theorem bN.fr {w w':World} {Q:Nat->Prop} {cs:List Value} {x:aC} (h:bN w Q cs x) (hf:Fr Q w w'):bN w' Q cs x:=by
 obtain⟨c0,c1,c2,c3,e,h0,h1,h2,h3⟩:=h;exact⟨c0,c1,c2,c3,e,h0,h1,h2,h3⟩
theorem bN.mono {w:World} {Q Q':Nat->Prop} {cs:List Value} {x:aC} (h:bN w Q cs x) (hf:∀k,Q k->Q' k):bN w Q' cs x:=by
 obtain⟨c0,c1,c2,c3,e,h0,h1,h2,h3⟩:=h;exact⟨c0,c1,c2,c3,e,h0,h1,h2,h3⟩
theorem bN.len {w:World} {Q:Nat->Prop} {cs:List Value} {x:aC} (h:bN w Q cs x):cs.length=4:=by
 obtain⟨c0,c1,c2,c3,e,h0,h1,h2,h3⟩:=h;subst e;simp only[List.length_append,gZ.len h0,av.len h1,av.len h2,av.len h3]
theorem bN.keep {w w':World} {cs:List Value} {x:aC} (h:bN w (·<w.heap.size) cs x) (hb:Below w.heap.size w w'):bN w' (·<w'.heap.size) cs x:=
 (bN.mono (bN.fr h (Fr.ofBelow hb)) (λk hk=>by have:=hb.size;omega))
structure pj where
 entity:Int:=0
 period:Int:=0
 unlock:Bool:=false
deriving DecidableEq
def jh (w:World) (Q:Nat->Prop) (cs:List Value) (x:pj):Prop:=∃c0 c1 c2:List Value,cs=c0++c1++c2/\av c0 x.entity/\av c1 x.period/\vE c2 x.unlock
theorem jh.fr {w w':World} {Q:Nat->Prop} {cs:List Value} {x:pj} (h:jh w Q cs x) (hf:Fr Q w w'):jh w' Q cs x:=by
 obtain⟨c0,c1,c2,e,h0,h1,h2⟩:=h;exact⟨c0,c1,c2,e,h0,h1,h2⟩
theorem jh.mono {w:World} {Q Q':Nat->Prop} {cs:List Value} {x:pj} (h:jh w Q cs x) (hf:∀k,Q k->Q' k):jh w Q' cs x:=by
 obtain⟨c0,c1,c2,e,h0,h1,h2⟩:=h;exact⟨c0,c1,c2,e,h0,h1,h2⟩
theorem jh.len {w:World} {Q:Nat->Prop} {cs:List Value} {x:pj} (h:jh w Q cs x):cs.length=3:=by
 obtain⟨c0,c1,c2,e,h0,h1,h2⟩:=h;subst e;simp only[List.length_append,av.len h0,av.len h1,vE.len h2]
theorem jh.keep {w w':World} {cs:List Value} {x:pj} (h:jh w (·<w.heap.size) cs x) (hb:Below w.heap.size w w'):jh w' (·<w'.heap.size) cs x:=
 (jh.mono (jh.fr h (Fr.ofBelow hb)) (λk hk=>by have:=hb.size;omega))
structure zZ where
 entity:Int:=0
 period:Int:=0
deriving DecidableEq
def kE (w:World) (Q:Nat->Prop) (cs:List Value) (x:zZ):Prop:=∃c0 c1:List Value,cs=c0++c1/\av c0 x.entity/\av c1 x.period
theorem kE.fr {w w':World} {Q:Nat->Prop} {cs:List Value} {x:zZ} (h:kE w Q cs x) (hf:Fr Q w w'):kE w' Q cs x:=by
 obtain⟨c0,c1,e,h0,h1⟩:=h;exact⟨c0,c1,e,h0,h1⟩
theorem kE.mono {w:World} {Q Q':Nat->Prop} {cs:List Value} {x:zZ} (h:kE w Q cs x) (hf:∀k,Q k->Q' k):kE w Q' cs x:=by
 obtain⟨c0,c1,e,h0,h1⟩:=h;exact⟨c0,c1,e,h0,h1⟩
theorem kE.len {w:World} {Q:Nat->Prop} {cs:List Value} {x:zZ} (h:kE w Q cs x):cs.length=2:=by
 obtain⟨c0,c1,e,h0,h1⟩:=h;subst e;simp only[List.length_append,av.len h0,av.len h1]
theorem kE.keep {w w':World} {cs:List Value} {x:zZ} (h:kE w (·<w.heap.size) cs x) (hb:Below w.heap.size w w'):kE w' (·<w'.heap.size) cs x:=
 (kE.mono (kE.fr h (Fr.ofBelow hb)) (λk hk=>by have:=hb.size;omega))
theorem ae {P:Program} {ops:Array Oper} {rest:List Oper} {o:Oper} {a:Act} {w:World} {Q:Exit->Act->World->Prop} (hw:Region.wanted o (yielded ops a.tmps)=true) (ty:TypeId) (x:Operand) (ho:o.op=.load ty x)
 (g:Nat) (hx:a.eval x=.pointer (some ⟨g,0,none⟩)) (t:TypeId) (cs:Array Value) (fr:Nat × Nat) (d:TypeDesc) (hg:w.heap[g]? =some (.cells cs t fr))
 (hu:P.underlying ty=some d) (hd:(match d with| .struct _| .array _ _=>true|_=>false)=true) (hi:(P.info? ty).map (·.size)=some cs.size)
 (h:wpList P ops Q rest (a.put o.dst (.agg cs)) w):wpList P ops Q (o::rest) a w:=
 wpList_step λK hK=>by rw[if_pos hw];exact wp_load_row ty x ho g hx t cs fr d hg hu hd hi (hK _ _ h)
section
variable {ops:Array Oper} {rest:List Oper} {o:Oper} {a:Act} {w:World} {Q:Exit->Act->World->Prop}
theorem w_ (n:Nat) (ty:TypeId) (t:Tmp) (b cm:Nat) (vs:List Value) (hr:w.rangeAt b cm vs) (hi:(Tryz.prog.info? ty).map (·.size)=some vs.length) {d:TypeDesc} (hu:Tryz.prog.underlying ty=some d) (h:wpList Tryz.prog ops Q rest (a.put o.dst (.agg vs.toArray)) w)
 (hn:o.dst=some n:=by rfl) (hg:o.guard=none:=by rfl) (ho:o.op=.load ty (.tmp t):=by rfl) (hx:a.eval (.tmp t)=.pointer (some ⟨b,cm,none⟩):=by rfl) (hd:d.isRow=true:=by rfl):wpList Tryz.prog ops Q (o::rest) a w:=
 wpList_load_mid hg ty (.tmp t) ho b cm hx vs _ hr hu hd hi h
theorem W_ (n:Nat) (ty:TypeId) (t:Tmp) (g:Nat) {T:TypeId} {cs:Array Value} {fr:Nat × Nat} (hh:w.heap[g]? =some (.cells cs T fr)) (hi:(Tryz.prog.info? ty).map (·.size)=some cs.size) {d:TypeDesc} (hu:Tryz.prog.underlying ty=some d) (h:wpList Tryz.prog ops Q rest (a.put o.dst (.agg cs)) w)
 (hn:o.dst=some n:=by rfl) (hw:Region.wanted o (yielded ops a.tmps)=true:=by rfl) (ho:o.op=.load ty (.tmp t):=by rfl) (hx:a.eval (.tmp t)=.pointer (some ⟨g,0,none⟩):=by rfl) (hd:d.isRow=true:=by rfl):wpList Tryz.prog ops Q (o::rest) a w:=
 ae hw ty (.tmp t) ho g hx T cs fr d hh hu (by cases d<;>first|rfl|(simp[TypeDesc.isRow]at hd)) hi h
end
theorem gj {P:Program} {ops:Array Oper} {rest:List Oper} {o:Oper} {a:Act} {Q:Exit->Act->World->Prop} (qE:o.guard=none) (ty:TypeId) (x y:Operand) (ho:o.op=.store ty x y) (hd:o.dst=none)
 (w1:World) (old:Array Value) (t:TypeId) (cells:Array Value) (hx:a.eval x=.pointer (some ⟨w1.heap.size,0,none⟩)) (hy:a.eval y=.agg cells)
 (hi:(P.info? ty).map (·.size)=some cells.size) (mB:old.size=cells.size) (h1:cells.all (·.oneCell')=true)
 (h:∀w2:World,w2.heap[w1.heap.size]? =some (.cells cells t (0,0))->Below w1.heap.size w1 w2->w1.heap.size<w2.heap.size->wpList P ops Q rest a w2):
 wpList P ops Q (o::rest) a (w1.alloc (.cells old t)):=by
 have hg:(w1.alloc (.cells old t)).heap[w1.heap.size]? =some (.cells old t (0,0)):=heap_alloc_new w1 _;refine wpList_store_row qE ty x y ho w1.heap.size cells hx hy t old hg hi mB h1 ?_;rw[hd];have f:=((Fr.refl (·<w1.heap.size) w1).alloc (λ_ h=>h) (.cells old t)).trans ((cC (w1.alloc (.cells old t)) w1.heap.size cells).mono (λk (hk:k<w1.heap.size)=>by show k≠w1.heap.size;omega));have bP:w1.heap.size< ((w1.alloc (.cells old t)).setRow w1.heap.size cells).heap.size:=by
  have k1:=(cC (w1.alloc (.cells old t)) w1.heap.size cells).size;have k2:(w1.alloc (.cells old t)).heap.size=w1.heap.size+1:=by simp
  omega
 exact h _ (aB hg cells) f.below bP
theorem aA {P:Program} {fn:Func} {p t:Tmp} {ty:TypeId} (h:fn.results=#[.cell p ty,.tmp t]) (tmps:Array Value) (w:World) (g:Nat) (T:TypeId) (cs:Array Value) (fr:Nat × Nat) (d:TypeDesc)
 (hp:tmps.getD p undef=.pointer (some ⟨g,0,none⟩)) (hg:w.heap[g]? =some (.cells cs T fr))
 (hu:P.underlying ty=some d) (hd:(match d with| .struct _| .array _ _=>true|_=>false)=true) (hi:(P.info? ty).map (·.size)=some cs.size) (v:Value) (hv:tmps.getD t undef=v):
 (results fn tmps).run P w=.ok (.tuple #[.agg cs,v]) w:=by
 subst hv;have hp':tmps[p]?.getD undef=.pointer (some ⟨g,0,none⟩):=by simpa using hp
 simp[results,h,hp',asAddr,run_loadVar_row w g T ty cs fr d hg hu hd hi]
theorem lC {P:Program} {ops:Array Oper} {rest:List Oper} {o:Oper} {a:Act} {Q:Exit->Act->World->Prop} (qE:o.guard=none) (ty:TypeId) (x y:Operand) (ho:o.op=.store ty x y) (hd:o.dst=none)
 (w:World) (b cm:Nat) (vs row aaG:List Value) (t:TypeId) (hx:a.eval x=.pointer (some ⟨b,cm,none⟩)) (hy:a.eval y=.agg vs.toArray) (hg:w.heap[b]? =some (.cells row.toArray t (0,0)))
 (adn:Py row cm vs=aaG) (eX:cm+vs.length<=row.length) (hi:(P.info? ty).map (·.size)=some vs.toArray.size) (h1:vs.toArray.all (·.oneCell')=true)
 (h:∀w2:World,w2.heap[b]? =some (.cells aaG.toArray t (0,0))->Fr (λk=>k≠b) w w2->wpList P ops Q rest a w2):wpList P ops Q (o::rest) a w:=by
 refine wpList_store_mid qE ty x y ho b cm vs.toArray hx hy (yz hg cm _ (by simpa using eX)) hi h1 ?_;rw[hd];have g2:=pk vs cm w row hg;rw[adn]at g2;exact h _ (by simpa using g2) (by simpa using ahg (b:=b) vs cm w)
def bat (s:ByteArray) (k:Nat):Nat:=(s.data.getD k 0).toNat
theorem pH {s:ByteArray} {k:Nat} (h:k<s.size):bat s k=(s[k]).toNat:=by
 have h':k<s.data.size:=h;unfold bat
 rw[Array.getD_eq_getD_getElem?,Array.getElem?_eq_getElem h'];rfl
theorem bt {n k:Nat} {p:Nat->Bool} (hk:k<n) (hp:p k=false):(List.range n).all p=false:=by
 rw[List.all_eq_false];exact⟨k,List.mem_range.2 hk,by simp[hp]⟩
theorem bQ {n:Nat} {p:Nat->Bool} (h:∀k,k<n->p k=true):(List.range n).all p=true:=by
 rw[List.all_eq_true];exact λk hk=>h k (List.mem_range.1 hk)
def akd (c:Nat):Bool:=decide (65<=c/\c<=90)
def cQ (s:ByteArray):Bool:=(List.range s.size).all (λk=>akd (bat s k))&&s.size==3
def nY (c:Nat):Bool:=decide (97<=c/\c<=122)||decide (65<=c/\c<=90)
def gB (i c:Nat):Bool:=nY c||(i !=0&&(c==45||decide (48<=c/\c<=57)))
def lw (s:ByteArray):Bool:=(List.range s.size).all (λk=>gB k (bat s k))&&decide (1<=s.size/\s.size<=16)
theorem vX (s:ByteArray) (w:World) (hs:s.size<=1000):Calls Tryz.prog 145 #[s] w (ap w (.bool (cQ s))):=by
 obtain⟨r,hr⟩:=x_ (cQ s);rw[hr];have HR:=H_ hr;clear hr;go_enter Tryz.func145,Tryz.ntmps145;go_wp2_with fail
 go_loopw [6] (λi wr=>∃k:Nat,k<=s.size/\i=.int .i64 (k:Int)/\Below w.heap.size w wr/\∀j,j<k->akd (bat s j)=true) (λi _=>s.size- (intOf i).toNat)
 case atStart=>exact⟨0,by omega,rfl,Below.refl _ _,λj hj=>by omega⟩
 case round=>
  obtain⟨k,hk,rfl,hb,hall⟩:=hrel;have HA:=H_ hall;clear hall;by_cases aU:k<s.size
  ·have bq:(k:Int)< (s.size:Int):=by omega
   have HB:=H_ (pH aU);by_cases hc:akd (bat s k)=true
   ·have fP:65<=(s[k].toNat:Int)/\(s[k].toNat:Int)<=90:=by
     have:=hc;rw[HB.o]at this;simp only[akd,decide_eq_true_eq]at this;omega
    have gn:=fP.1;have ot:=fP.2;have HC:=H_ hc;clear hc;go_wp2_with fail;go_roundw
    case rel=>exact⟨k+1,by omega,by go_num,hb,λj hj=>by
     rcases Nat.lt_or_ge j k with h|h
     ·exact HA.o j h
     ·have:j=k:=by omega
      subst this;exact HC.o⟩
    case measure=>
     have e:wrap64 ((k:Int)+1)=((k+1:Nat):Int):=by unfold wrap64;omega
     simp only[intOf,e];omega
   ·have nh:=H_ (show r=false by
     rw[<-HR.o];unfold cQ;rw[bt aU (by simpa using hc)];rfl)
    have fP:¬(65<=(s[k].toNat:Int)/\(s[k].toNat:Int)<=90):=by
     have:=hc;rw[HB.o]at this;simp only[akd,decide_eq_true_eq]at this;omega
    clear hc;by_cases gn:(s[k].toNat:Int)<65
    ·go_wp2_with fail;go_ret;exact⟨by rw[nh.o];first|done|rfl,hb⟩
    ·have ot:90< (s[k].toNat:Int):=by omega
     go_wp2_with fail;go_ret;exact⟨by rw[nh.o];first|done|rfl,hb⟩
  ·have bq:¬(k:Int)< (s.size:Int):=by omega
   have JP:k=s.size:=by omega
   have nh:=H_ (show r=(s.size==3) by
    rw[<-HR.o];unfold cQ;rw[bQ (λj hj=>HA.o j (by omega)),Bool.true_and])
   clear JP;by_cases h3:s.size=3
   ·have zl:((s.size:Int)==3)=true:=by simp;omega
    have HH:=H_ h3;clear h3;go_wp2_with fail;go_ret;exact⟨by rw[nh.o,HH.o];rfl,hb⟩
   ·have zl:((s.size:Int)==3)=false:=by simp;omega
    have HH:=H_ (show(s.size==3)=false by simpa using h3);clear h3;go_wp2_with fail;go_ret;exact⟨by rw[nh.o,HH.o];first|done|rfl,hb⟩
theorem th (s:ByteArray) (w:World) (hs:s.size<=1000):Calls Tryz.prog 198 #[s] w (ap w (.bool (cQ s))):=by
 obtain⟨r,hr⟩:=x_ (cQ s);rw[hr];have HR:=H_ hr;clear hr;go_enter Tryz.func198,Tryz.ntmps198;go_wp2_with fail
 go_loopw [3] (λi wr=>∃k:Nat,k<=s.size/\i=.int .i64 (k:Int)/\Below w.heap.size w wr/\∀j,j<k->akd (bat s j)=true) (λi _=>s.size- (intOf i).toNat)
 case atStart=>exact⟨0,by omega,rfl,Below.refl _ _,λj hj=>by omega⟩
 case round=>
  obtain⟨k,hk,rfl,hb,hall⟩:=hrel;have HA:=H_ hall;clear hall;by_cases aU:k<s.size
  ·have bq:(k:Int)< (s.size:Int):=by omega
   have HB:=H_ (pH aU);by_cases hc:akd (bat s k)=true
   ·have fP:65<=(s[k].toNat:Int)/\(s[k].toNat:Int)<=90:=by
     have:=hc;rw[HB.o]at this;simp only[akd,decide_eq_true_eq]at this;omega
    have gn:=fP.1;have ot:=fP.2;have HC:=H_ hc;clear hc;go_wp2_with fail;go_roundw
    case rel=>exact⟨k+1,by omega,by go_num,hb,λj hj=>by
     rcases Nat.lt_or_ge j k with h|h
     ·exact HA.o j h
     ·have:j=k:=by omega
      subst this;exact HC.o⟩
    case measure=>
     have e:wrap64 ((k:Int)+1)=((k+1:Nat):Int):=by unfold wrap64;omega
     simp only[intOf,e];omega
   ·have nh:=H_ (show r=false by
     rw[<-HR.o];unfold cQ;rw[bt aU (by simpa using hc)];rfl)
    have fP:¬(65<=(s[k].toNat:Int)/\(s[k].toNat:Int)<=90):=by
     have:=hc;rw[HB.o]at this;simp only[akd,decide_eq_true_eq]at this;omega
    clear hc;by_cases gn:(s[k].toNat:Int)<65
    ·go_wp2_with fail;go_ret;exact⟨by rw[nh.o];first|done|rfl,hb⟩
    ·have ot:90< (s[k].toNat:Int):=by omega
     go_wp2_with fail;go_ret;exact⟨by rw[nh.o];first|done|rfl,hb⟩
  ·have bq:¬(k:Int)< (s.size:Int):=by omega
   have JP:k=s.size:=by omega
   have nh:=H_ (show r=(s.size==3) by
    rw[<-HR.o];unfold cQ;rw[bQ (λj hj=>HA.o j (by omega)),Bool.true_and])
   clear JP;by_cases h3:s.size=3
   ·have zl:((s.size:Int)==3)=true:=by simp;omega
    have HH:=H_ h3;clear h3;go_wp2_with fail;go_ret;exact⟨by rw[nh.o,HH.o];rfl,hb⟩
   ·have zl:((s.size:Int)==3)=false:=by simp;omega
    have HH:=H_ (show(s.size==3)=false by simpa using h3);clear h3;go_wp2_with fail;go_ret;exact⟨by rw[nh.o,HH.o];first|done|rfl,hb⟩
theorem O9 (n:Nat) (w:World):Calls Tryz.prog 213 #[.int .u8 (n:Int)] w (ap w (.bool (nY n))):=by
 obtain⟨r,hr⟩:=x_ (nY n);rw[hr];have HR:=H_ hr;clear hr;go_enter Tryz.func213,Tryz.ntmps213;by_cases h1:97<=n
 ·by_cases h2:n<=122
  ·have CV:97<=(n:Int):=by omega
   have yX:(n:Int)<=122:=by omega
   go_wp2_with fail;go_ret;exact⟨by rw[<-HR.o];simp[nY,h1,h2];try rfl,Below.refl _ _⟩
  ·have CV:97<=(n:Int):=by omega
   have yX:¬(n:Int)<=122:=by omega
   have zl:65<=(n:Int):=by omega
   have h4I:¬(n:Int)<=90:=by omega
   go_wp2_with fail;go_ret;exact⟨by rw[<-HR.o];simp[nY];omega,Below.refl _ _⟩
 ·have CV:¬97<=(n:Int):=by omega
  by_cases h3:65<=n
  ·have zl:65<=(n:Int):=by omega
   by_cases h4:n<=90
   ·have h4I:(n:Int)<=90:=by omega
    go_wp2_with fail;go_ret;exact⟨by rw[<-HR.o];simp[nY,h3,h4],Below.refl _ _⟩
   ·have h4I:¬(n:Int)<=90:=by omega
    go_wp2_with fail;go_ret;exact⟨by rw[<-HR.o];simp[nY];omega,Below.refl _ _⟩
  ·have zl:¬65<=(n:Int):=by omega
   go_wp2_with fail;go_ret;exact⟨by rw[<-HR.o];simp[nY];omega,Below.refl _ _⟩
theorem aik (n:Nat) (w:World):Calls Tryz.prog 222 #[.int .u8 (n:Int)] w (ap w (.bool (nY n))):=by
 obtain⟨r,hr⟩:=x_ (nY n);rw[hr];have HR:=H_ hr;clear hr;go_enter Tryz.func222,Tryz.ntmps222;by_cases h1:97<=n
 ·by_cases h2:n<=122
  ·have CV:97<=(n:Int):=by omega
   have yX:(n:Int)<=122:=by omega
   go_wp2_with fail;go_ret;exact⟨by rw[<-HR.o];simp[nY,h1,h2];try rfl,Below.refl _ _⟩
  ·have CV:97<=(n:Int):=by omega
   have yX:¬(n:Int)<=122:=by omega
   have zl:65<=(n:Int):=by omega
   have h4I:¬(n:Int)<=90:=by omega
   go_wp2_with fail;go_ret;exact⟨by rw[<-HR.o];simp[nY];omega,Below.refl _ _⟩
 ·have CV:¬97<=(n:Int):=by omega
  by_cases h3:65<=n
  ·have zl:65<=(n:Int):=by omega
   by_cases h4:n<=90
   ·have h4I:(n:Int)<=90:=by omega
    go_wp2_with fail;go_ret;exact⟨by rw[<-HR.o];simp[nY,h3,h4],Below.refl _ _⟩
   ·have h4I:¬(n:Int)<=90:=by omega
    go_wp2_with fail;go_ret;exact⟨by rw[<-HR.o];simp[nY];omega,Below.refl _ _⟩
  ·have zl:¬65<=(n:Int):=by omega
   go_wp2_with fail;go_ret;exact⟨by rw[<-HR.o];simp[nY];omega,Below.refl _ _⟩
theorem ZE (s:ByteArray) (w:World) (hs:s.size<=1000):Calls Tryz.prog 184 #[s] w (ap w (.bool (lw s))):=by
 obtain⟨r,hr⟩:=x_ (lw s);rw[hr];have HR:=H_ hr;clear hr;go_enter Tryz.func184,Tryz.ntmps184;go_wp2_with fail
 go_loopw [7] (λi wr=>∃k:Nat,k<=s.size/\i=.int .i64 (k:Int)/\Below w.heap.size w wr/\∀j,j<k->gB j (bat s j)=true) (λi _=>s.size- (intOf i).toNat)
 case atStart=>exact⟨0,by omega,rfl,Below.refl _ _,λj hj=>by omega⟩
 case round=>
  obtain⟨k,hk,rfl,hb,hall⟩:=hrel;have HA:=H_ hall;clear hall;by_cases aU:k<s.size
  ·have bq:(k:Int)< (s.size:Int):=by omega
   have HB:=H_ (pH aU);go_wp2_with fail;refine(O9 s[k].toNat wr).mono ?_;rintro e w2 ⟨rfl,eL⟩;have aH:=hb.trans (eL.mono hb.size);obtain⟨lb,hlb⟩:=x_ (nY s[k].toNat);rw[hlb];have jD:=H_ hlb;clear hlb hb eL;have bad:gB k (bat s k)=false->r=false:=λh=>by
    rw[<-HR.o];unfold lw;rw[bt aU h];rfl
   have py:=H_ bad;clear bad;cases lb with
   |true=>
    have HC:=H_ (show gB k (bat s k)=true by rw[HB.o];unfold gB;rw[jD.o];rfl);go_wp2_with fail;go_roundw
    case rel=>exact⟨k+1,by omega,by go_num,aH,λj hj=>by
     rcases Nat.lt_or_ge j k with h|h
     ·exact HA.o j h
     ·have:j=k:=by omega
      subst this;exact HC.o⟩
    case measure=>
     have e:wrap64 ((k:Int)+1)=((k+1:Nat):Int):=by unfold wrap64;omega
     simp only[intOf,e];omega
   |false=>
    by_cases Fm:k=0
    ·subst Fm;have HF:=H_ (py.o (by rw[HB.o];unfold gB;rw[jD.o];rfl));go_wp2_with fail;go_ret;exact⟨by rw[HF.o];first|done|rfl,aH⟩
    ·have Dm:((k:Int)==0)=false:=by simp;omega
     have Q0:=H_ (show(k !=0)=true by simpa using Fm);clear Fm;by_cases h45:s[k].toNat=45
     ·have Xq:((s[k].toNat:Int)==45)=true:=by simp;omega
      have Y3:((s[k].toNat:Int) !=45)=false:=by simp;omega
      have HC:=H_ (show gB k (bat s k)=true by rw[HB.o];unfold gB;rw[jD.o,Q0.o,h45];rfl);clear h45;go_wp2_with fail;go_roundw
      case rel=>exact⟨k+1,by omega,by go_num,aH,λj hj=>by
       rcases Nat.lt_or_ge j k with h|h
       ·exact HA.o j h
       ·have:j=k:=by omega
        subst this;exact HC.o⟩
      case measure=>
       have e:wrap64 ((k:Int)+1)=((k+1:Nat):Int):=by unfold wrap64;omega
       simp only[intOf,e];omega
     ·have Xq:((s[k].toNat:Int)==45)=false:=by simp;omega
      have Y3:((s[k].toNat:Int) !=45)=true:=by simp;omega
      by_cases RY:48<=s[k].toNat/\s[k].toNat<=57
      ·have MW:¬(s[k].toNat:Int)<48:=by omega
       have Xz:¬57< (s[k].toNat:Int):=by omega
       have HC:=H_ (show gB k (bat s k)=true by rw[HB.o];unfold gB;rw[jD.o,Q0.o];simp[RY]);clear h45 RY;go_wp2_with fail;go_roundw
       case rel=>exact⟨k+1,by omega,by go_num,aH,λj hj=>by
        rcases Nat.lt_or_ge j k with h|h
        ·exact HA.o j h
        ·have:j=k:=by omega
         subst this;exact HC.o⟩
       case measure=>
        have e:wrap64 ((k:Int)+1)=((k+1:Nat):Int):=by unfold wrap64;omega
        simp only[intOf,e];omega
      ·have HF:=H_ (py.o (by rw[HB.o];unfold gB;rw[jD.o,Q0.o];simp[h45];omega));by_cases h4:s[k].toNat<48
       ·have MW:(s[k].toNat:Int)<48:=by omega
        clear h45 RY;go_wp2_with fail;go_ret;exact⟨by rw[HF.o];first|done|rfl,aH⟩
       ·have MW:¬(s[k].toNat:Int)<48:=by omega
        have Xz:57< (s[k].toNat:Int):=by omega
        clear h45 RY;go_wp2_with fail;go_ret;exact⟨by rw[HF.o];first|done|rfl,aH⟩
  ·have bq:¬(k:Int)< (s.size:Int):=by omega
   have nh:=H_ (show r=decide (1<=s.size/\s.size<=16) by
    rw[<-HR.o];unfold lw;rw[bQ (λj hj=>HA.o j (by omega)),Bool.true_and])
   by_cases h1:1<=s.size
   ·have CV:1<=(s.size:Int):=by omega
    by_cases h2:s.size<=16
    ·have yX:(s.size:Int)<=16:=by omega
     go_wp2_with fail;go_ret;exact⟨by rw[nh.o,decide_eq_true ⟨h1,h2⟩];first|done|rfl,hb⟩
    ·have yX:¬(s.size:Int)<=16:=by omega
     go_wp2_with fail;go_ret;exact⟨by rw[nh.o,decide_eq_false (λh=>h2 h.2)];first|done|rfl,hb⟩
   ·have CV:¬1<=(s.size:Int):=by omega
    go_wp2_with fail;go_ret;exact⟨by rw[nh.o,decide_eq_false (λh=>h1 h.1)];first|done|rfl,hb⟩
theorem Tq (s:ByteArray) (w:World) (hs:s.size<=1000):Calls Tryz.prog 202 #[s] w (ap w (.bool (lw s))):=by
 obtain⟨r,hr⟩:=x_ (lw s);rw[hr];have HR:=H_ hr;clear hr;go_enter Tryz.func202,Tryz.ntmps202;go_wp2_with fail
 go_loopw [3] (λi wr=>∃k:Nat,k<=s.size/\i=.int .i64 (k:Int)/\Below w.heap.size w wr/\∀j,j<k->gB j (bat s j)=true) (λi _=>s.size- (intOf i).toNat)
 case atStart=>exact⟨0,by omega,rfl,Below.refl _ _,λj hj=>by omega⟩
 case round=>
  obtain⟨k,hk,rfl,hb,hall⟩:=hrel;have HA:=H_ hall;clear hall;by_cases aU:k<s.size
  ·have bq:(k:Int)< (s.size:Int):=by omega
   have HB:=H_ (pH aU);go_wp2_with fail;refine(aik s[k].toNat wr).mono ?_;rintro e w2 ⟨rfl,eL⟩;have aH:=hb.trans (eL.mono hb.size);obtain⟨lb,hlb⟩:=x_ (nY s[k].toNat);rw[hlb];have jD:=H_ hlb;clear hlb hb eL;have bad:gB k (bat s k)=false->r=false:=λh=>by
    rw[<-HR.o];unfold lw;rw[bt aU h];rfl
   have py:=H_ bad;clear bad;cases lb with
   |true=>
    have HC:=H_ (show gB k (bat s k)=true by rw[HB.o];unfold gB;rw[jD.o];rfl);go_wp2_with fail;go_roundw
    case rel=>exact⟨k+1,by omega,by go_num,aH,λj hj=>by
     rcases Nat.lt_or_ge j k with h|h
     ·exact HA.o j h
     ·have:j=k:=by omega
      subst this;exact HC.o⟩
    case measure=>
     have e:wrap64 ((k:Int)+1)=((k+1:Nat):Int):=by unfold wrap64;omega
     simp only[intOf,e];omega
   |false=>
    by_cases Fm:k=0
    ·subst Fm;have HF:=H_ (py.o (by rw[HB.o];unfold gB;rw[jD.o];rfl));go_wp2_with fail;go_ret;exact⟨by rw[HF.o];first|done|rfl,aH⟩
    ·have Dm:((k:Int)==0)=false:=by simp;omega
     have Q0:=H_ (show(k !=0)=true by simpa using Fm);clear Fm;by_cases h45:s[k].toNat=45
     ·have Xq:((s[k].toNat:Int)==45)=true:=by simp;omega
      have Y3:((s[k].toNat:Int) !=45)=false:=by simp;omega
      have HC:=H_ (show gB k (bat s k)=true by rw[HB.o];unfold gB;rw[jD.o,Q0.o,h45];rfl);clear h45;go_wp2_with fail;go_roundw
      case rel=>exact⟨k+1,by omega,by go_num,aH,λj hj=>by
       rcases Nat.lt_or_ge j k with h|h
       ·exact HA.o j h
       ·have:j=k:=by omega
        subst this;exact HC.o⟩
      case measure=>
       have e:wrap64 ((k:Int)+1)=((k+1:Nat):Int):=by unfold wrap64;omega
       simp only[intOf,e];omega
     ·have Xq:((s[k].toNat:Int)==45)=false:=by simp;omega
      have Y3:((s[k].toNat:Int) !=45)=true:=by simp;omega
      by_cases RY:48<=s[k].toNat/\s[k].toNat<=57
      ·have MW:¬(s[k].toNat:Int)<48:=by omega
       have Xz:¬57< (s[k].toNat:Int):=by omega
       have HC:=H_ (show gB k (bat s k)=true by rw[HB.o];unfold gB;rw[jD.o,Q0.o];simp[RY]);clear h45 RY;go_wp2_with fail;go_roundw
       case rel=>exact⟨k+1,by omega,by go_num,aH,λj hj=>by
        rcases Nat.lt_or_ge j k with h|h
        ·exact HA.o j h
        ·have:j=k:=by omega
         subst this;exact HC.o⟩
       case measure=>
        have e:wrap64 ((k:Int)+1)=((k+1:Nat):Int):=by unfold wrap64;omega
        simp only[intOf,e];omega
      ·have HF:=H_ (py.o (by rw[HB.o];unfold gB;rw[jD.o,Q0.o];simp[h45];omega));by_cases h4:s[k].toNat<48
       ·have MW:(s[k].toNat:Int)<48:=by omega
        clear h45 RY;go_wp2_with fail;go_ret;exact⟨by rw[HF.o];first|done|rfl,aH⟩
       ·have MW:¬(s[k].toNat:Int)<48:=by omega
        have Xz:57< (s[k].toNat:Int):=by omega
        clear h45 RY;go_wp2_with fail;go_ret;exact⟨by rw[HF.o];first|done|rfl,aH⟩
  ·have bq:¬(k:Int)< (s.size:Int):=by omega
   have nh:=H_ (show r=decide (1<=s.size/\s.size<=16) by
    rw[<-HR.o];unfold lw;rw[bQ (λj hj=>HA.o j (by omega)),Bool.true_and])
   by_cases h1:1<=s.size
   ·have CV:1<=(s.size:Int):=by omega
    by_cases h2:s.size<=16
    ·have yX:(s.size:Int)<=16:=by omega
     go_wp2_with fail;go_ret;exact⟨by rw[nh.o,decide_eq_true ⟨h1,h2⟩];first|done|rfl,hb⟩
    ·have yX:¬(s.size:Int)<=16:=by omega
     go_wp2_with fail;go_ret;exact⟨by rw[nh.o,decide_eq_false (λh=>h2 h.2)];first|done|rfl,hb⟩
   ·have CV:¬1<=(s.size:Int):=by omega
    go_wp2_with fail;go_ret;exact⟨by rw[nh.o,decide_eq_false (λh=>h1 h.1)];first|done|rfl,hb⟩
def ij (y:Int):Bool:=y%4==0&&(y%100 !=0||y%400==0)
def pu (m:Int):Int:=if m=2 then 28 else if m=4\/m=6\/m=9\/m=11 then 30 else 31
def inY (y:Int):Prop:=1900<=y/\y<=2199
instance (y:Int):Decidable (inY y):=by unfold inY;exact inferInstance
def ck (y m:Int):Int:=if inY y/\1<=m/\m<=12 then(if m=2/\ij y=true then 29 else pu m)else 0
theorem fI (y m:Int):0<=ck y m/\ck y m<=31:=by
 unfold ck pu
 repeat' split
 all_goals omega
theorem nR {y m:Int} (hy:inY y) (h1:1<=m) (h2:m<=12):28<=ck y m:=by
 unfold ck pu;rw[if_pos ⟨hy,h1,h2⟩]
 repeat' split
 all_goals omega
def cH (y:Int):Nat->Int
 |0=>0
 |n+1=>cH y n+ck y ((n:Int)+1)
theorem oL (y:Int) (n:Nat):0<=cH y n/\cH y n<=31*(n:Int):=by
 induction n with
 |zero=>simp[cH]
 |succ n ih=>have:=fI y ((n:Int)+1);simp only[cH];omega
def bM (y:Int):Int:=365*(y- 1)+(y- 1) / 4- (y- 1) / 100+(y- 1) / 400- 719162
theorem ki {y:Int} (h:inY y): -25567<=bM y/\bM y<=83700:=by
 unfold bM inY at*;omega
def ofI (y m d:Int):Int × Int:=if d<1\/ck y m<d then(0,2)else(bM y+d- 1+cH y (m- 1).toNat,0)
theorem iN {y:Int} (h1:y%4=0) (h2:¬y%100=0\/y%400=0):ij y=true:=by
 unfold ij;simp only[Bool.and_eq_true,beq_iff_eq,Bool.or_eq_true,bne_iff_ne];exact⟨h1,h2⟩
theorem agT {y:Int} (h:¬(y%4=0/\(¬y%100=0\/y%400=0))):ij y=false:=by
 cases hl:ij y with
 |false=>rfl
 |true=>
  unfold ij at hl;simp only[Bool.and_eq_true,beq_iff_eq,Bool.or_eq_true,bne_iff_ne]at hl;exact absurd hl h
theorem ZB (y:Int) (w:World) (h:inY y):Calls Tryz.prog 155 #[y] w (ap w (.bool (ij y))):=by
 obtain⟨r,hr⟩:=x_ (ij y);rw[hr];have HR:=H_ hr;clear hr;obtain⟨h1,h2⟩:=h;go_enter Tryz.func155,Tryz.ntmps155;by_cases c4:y%4=0
 ·by_cases c1:y%100=0
  ·by_cases c2:y%400=0
   ·have hf:=H_ (show r=true by rw[<-HR.o];exact iN c4 (.inr c2));have e4:(y%4==0)=true:=by simpa using c4
    have e1:(y%100 !=0)=false:=by simpa using c1
    have e2:(y%400==0)=true:=by simpa using c2
    clear c4 c1 c2;go_wp2_with fail;go_ret;exact⟨hf.o.symm▸rfl,Below.refl _ _⟩
   ·have hf:=H_ (show r=false by rw[<-HR.o];exact agT (λh=>h.2.elim (λk=>k c1) c2));have e4:(y%4==0)=true:=by simpa using c4
    have e1:(y%100 !=0)=false:=by simpa using c1
    have e2:(y%400==0)=false:=by simpa using c2
    clear c4 c1 c2;go_wp2_with fail;go_ret;exact⟨hf.o.symm▸rfl,Below.refl _ _⟩
  ·have hf:=H_ (show r=true by rw[<-HR.o];exact iN c4 (.inl c1));have e4:(y%4==0)=true:=by simpa using c4
   have e1:(y%100 !=0)=true:=by simpa using c1
   clear c4 c1;go_wp2_with fail;go_ret;exact⟨hf.o.symm▸rfl,Below.refl _ _⟩
 ·have hf:=H_ (show r=false by rw[<-HR.o];exact agT (λh=>c4 h.1));have e4:(y%4==0)=false:=by simpa using c4
  clear c4;go_wp2_with fail;go_ret;exact⟨hf.o.symm▸rfl,Below.refl _ _⟩
theorem mT (y:Int) (w:World) (h:inY y):Calls Tryz.prog 102 #[y] w (ap w (.bool (ij y))):=by
 obtain⟨r,hr⟩:=x_ (ij y);rw[hr];have HR:=H_ hr;clear hr;obtain⟨h1,h2⟩:=h;go_enter Tryz.func102,Tryz.ntmps102;by_cases c4:y%4=0
 ·by_cases c1:y%100=0
  ·by_cases c2:y%400=0
   ·have hf:=H_ (show r=true by rw[<-HR.o];exact iN c4 (.inr c2));have e4:(y%4==0)=true:=by simpa using c4
    have e1:(y%100 !=0)=false:=by simpa using c1
    have e2:(y%400==0)=true:=by simpa using c2
    clear c4 c1 c2;go_wp2_with fail;go_ret;exact⟨hf.o.symm▸rfl,Below.refl _ _⟩
   ·have hf:=H_ (show r=false by rw[<-HR.o];exact agT (λh=>h.2.elim (λk=>k c1) c2));have e4:(y%4==0)=true:=by simpa using c4
    have e1:(y%100 !=0)=false:=by simpa using c1
    have e2:(y%400==0)=false:=by simpa using c2
    clear c4 c1 c2;go_wp2_with fail;go_ret;exact⟨hf.o.symm▸rfl,Below.refl _ _⟩
  ·have hf:=H_ (show r=true by rw[<-HR.o];exact iN c4 (.inl c1));have e4:(y%4==0)=true:=by simpa using c4
   have e1:(y%100 !=0)=true:=by simpa using c1
   clear c4 c1;go_wp2_with fail;go_ret;exact⟨hf.o.symm▸rfl,Below.refl _ _⟩
 ·have hf:=H_ (show r=false by rw[<-HR.o];exact agT (λh=>c4 h.1));have e4:(y%4==0)=false:=by simpa using c4
  clear c4;go_wp2_with fail;go_ret;exact⟨hf.o.symm▸rfl,Below.refl _ _⟩
theorem tab (k:Nat) (h:k<12):(#[.int .i64 31,.int .i64 28,.int .i64 31,.int .i64 30,.int .i64 31,.int .i64 30,.int .i64 31,.int .i64 31,.int .i64 30,.int .i64 31,.int .i64 30,.int .i64 31]:Array Value)[k]? =some (.int .i64 (pu ((k:Int)+1))):=by
 have hk:k=0\/k=1\/k=2\/k=3\/k=4\/k=5\/k=6\/k=7\/k=8\/k=9\/k=10\/k=11:=by omega
 rcases hk with rfl|rfl|rfl|rfl|rfl|rfl|rfl|rfl|rfl|rfl|rfl|rfl<;>rfl
theorem Ed:(Tryz.prog.info? 149).map (·.size)=some 12:=by kernel_rfl
set_option maxRecDepth 100000 in
theorem vY (y m:Int) (w:World):Calls Tryz.prog 113 #[y,m] w (ap w (.int .i64 (ck y m))):=by
 obtain⟨r,hr⟩:=x_ (ck y m);rw[hr];have HR:=H_ hr;clear hr;go_enter Tryz.func113,Tryz.ntmps113;by_cases gK:1900<=y
 case neg=>
  have hf:=H_ (show r=0 by rw[<-HR.o];unfold ck;rw[if_neg (λh=>gK h.1.1)]);have k1:y<1900:=by omega
  by_cases nx:1<=m
  ·by_cases jA:m<=12
   ·go_wp2_with fail;go_ret;exact⟨hf.o.symm▸rfl,Below.refl _ _⟩
   ·have k2:12<m:=by omega
    go_wp2_with fail;go_ret;exact⟨hf.o.symm▸rfl,Below.refl _ _⟩
  ·have k2:m<1:=by omega
   go_wp2_with fail;go_ret;exact⟨hf.o.symm▸rfl,Below.refl _ _⟩
 case pos=>
 have k1:¬y<1900:=by omega
 by_cases gS:y<=2199
 case neg=>
  have hf:=H_ (show r=0 by rw[<-HR.o];unfold ck;rw[if_neg (λh=>gS h.1.2)]);have k3:2199<y:=by omega
  by_cases nx:1<=m
  ·by_cases jA:m<=12
   ·go_wp2_with fail;go_ret;exact⟨hf.o.symm▸rfl,Below.refl _ _⟩
   ·have k2:12<m:=by omega
    go_wp2_with fail;go_ret;exact⟨hf.o.symm▸rfl,Below.refl _ _⟩
  ·have k2:m<1:=by omega
   go_wp2_with fail;go_ret;exact⟨hf.o.symm▸rfl,Below.refl _ _⟩
 case pos=>
 have k3:¬2199<y:=by omega
 by_cases nx:1<=m
 case neg=>
  have hf:=H_ (show r=0 by rw[<-HR.o];unfold ck;rw[if_neg (λh=>nx h.2.1)]);have k2:m<1:=by omega
  go_wp2_with fail;go_ret;exact⟨hf.o.symm▸rfl,Below.refl _ _⟩
 case pos=>
 have k2:¬m<1:=by omega
 by_cases jA:m<=12
 case neg=>
  have hf:=H_ (show r=0 by rw[<-HR.o];unfold ck;rw[if_neg (λh=>jA h.2.2)]);have k4:12<m:=by omega
  go_wp2_with fail;go_ret;exact⟨hf.o.symm▸rfl,Below.refl _ _⟩
 case pos=>
 have k4:¬12<m:=by omega
 have hd:r=if m=2/\ij y=true then 29 else pu m:=by rw[<-HR.o];unfold ck;rw[if_pos ⟨⟨gK,gS⟩,nx,jA⟩]
 have HD:=H_ hd;clear hd HR;obtain⟨k,hk⟩:∃k:Nat,m=(k:Int)+1:=⟨(m- 1).toNat,by omega⟩;have R6:k<12:=by omega
 subst hk;have HT:=H_ (tab k R6);by_cases h2:k=1
 ·subst h2;have hy:inY y:=⟨gK,gS⟩;go_wp2_with (refine gj rfl 149 (.tmp 5) (.tmp 20) rfl rfl w _ 149 #[(31:Int),(28:Int),(31:Int),(30:Int),(31:Int),(30:Int),(31:Int),(31:Int),(30:Int),(31:Int),(30:Int),(31:Int)] rfl rfl Ed rfl (by simp only[List.all_toArray,List.all_cons,List.all_nil,Value.oneCell',Bool.and_true]) ?_;intro w2 S1 S2 S3;replace S1:=H_ S1);refine(ZB y _ hy).mono ?_;rintro e w3 ⟨rfl,hb⟩;obtain⟨lb,hlb⟩:=x_ (ij y);rw[hlb];have jD:=H_ hlb;clear hlb;cases lb with
  |true=>
   have hf:=H_ (show r=29 by rw[HD.o,if_pos (by simp[jD.o])]);clear HD;go_wp2_with fail;go_ret;exact⟨hf.o.symm▸rfl,(by exact S2.trans (hb.mono (by have:=S2.size;omega)))⟩
  |false=>
   have hf:=H_ (show r=28 by rw[HD.o,if_neg (by simp[jD.o])];rfl);clear HD;have c0:w3.cell? ⟨w.heap.size,1,none⟩=some (.int .i64 28):=ab ((hb.block _ S3).trans S1.o) 1;go_wp2_with fail;go_ret;exact⟨hf.o.symm▸rfl,(by exact S2.trans (hb.mono (by have:=S2.size;omega)))⟩
 ·have yX:((k:Int)+1==2)=false:=by simp;omega
  have hf:=H_ (show r=pu ((k:Int)+1) by rw[HD.o,if_neg (λh=>h2 (by have:=h.1;omega))]);clear HD h2;go_wp2_with (refine gj rfl 149 (.tmp 5) (.tmp 20) rfl rfl w _ 149 #[(31:Int),(28:Int),(31:Int),(30:Int),(31:Int),(30:Int),(31:Int),(31:Int),(30:Int),(31:Int),(30:Int),(31:Int)] rfl rfl Ed rfl (by simp only[List.all_toArray,List.all_cons,List.all_nil,Value.oneCell',Bool.and_true]) ?_;intro w2 S1 S2 S3;have c0:=(ab S1 k).trans HT.o;clear S1);go_ret;exact⟨hf.o.symm▸rfl,S2⟩
set_option maxRecDepth 100000 in
theorem JG (k:Nat) (h:k<12) (w:World):Sem.run Tryz.prog (Instr.index 149 (.agg #[(31:Int),(28:Int),(31:Int),(30:Int),(31:Int),(30:Int),(31:Int),(31:Int),(30:Int),(31:Int),(30:Int),(31:Int)]) (.int .i64 (k:Int))) w=.ok (.int .i64 (pu ((k:Int)+1))) w:=by
 have hk:k=0\/k=1\/k=2\/k=3\/k=4\/k=5\/k=6\/k=7\/k=8\/k=9\/k=10\/k=11:=by omega
 rcases hk with rfl|rfl|rfl|rfl|rfl|rfl|rfl|rfl|rfl|rfl|rfl|rfl<;>rfl
set_option maxRecDepth 100000 in
theorem lx (y m:Int) (w:World):Calls Tryz.prog 66 #[y,m] w (ap w (.int .i64 (ck y m))):=by
 obtain⟨r,hr⟩:=x_ (ck y m);rw[hr];have HR:=H_ hr;clear hr;go_enter Tryz.func66,Tryz.ntmps66;by_cases gK:1900<=y
 case neg=>
  have hf:=H_ (show r=0 by rw[<-HR.o];unfold ck;rw[if_neg (λh=>gK h.1.1)]);have k1:y<1900:=by omega
  by_cases nx:1<=m
  ·by_cases jA:m<=12
   ·go_wp2_with fail;go_ret;exact⟨hf.o.symm▸rfl,Below.refl _ _⟩
   ·have k2:12<m:=by omega
    go_wp2_with fail;go_ret;exact⟨hf.o.symm▸rfl,Below.refl _ _⟩
  ·have k2:m<1:=by omega
   go_wp2_with fail;go_ret;exact⟨hf.o.symm▸rfl,Below.refl _ _⟩
 case pos=>
 have k1:¬y<1900:=by omega
 by_cases gS:y<=2199
 case neg=>
  have hf:=H_ (show r=0 by rw[<-HR.o];unfold ck;rw[if_neg (λh=>gS h.1.2)]);have k3:2199<y:=by omega
  by_cases nx:1<=m
  ·by_cases jA:m<=12
   ·go_wp2_with fail;go_ret;exact⟨hf.o.symm▸rfl,Below.refl _ _⟩
   ·have k2:12<m:=by omega
    go_wp2_with fail;go_ret;exact⟨hf.o.symm▸rfl,Below.refl _ _⟩
  ·have k2:m<1:=by omega
   go_wp2_with fail;go_ret;exact⟨hf.o.symm▸rfl,Below.refl _ _⟩
 case pos=>
 have k3:¬2199<y:=by omega
 by_cases nx:1<=m
 case neg=>
  have hf:=H_ (show r=0 by rw[<-HR.o];unfold ck;rw[if_neg (λh=>nx h.2.1)]);have k2:m<1:=by omega
  go_wp2_with fail;go_ret;exact⟨hf.o.symm▸rfl,Below.refl _ _⟩
 case pos=>
 have k2:¬m<1:=by omega
 by_cases jA:m<=12
 case neg=>
  have hf:=H_ (show r=0 by rw[<-HR.o];unfold ck;rw[if_neg (λh=>jA h.2.2)]);have k4:12<m:=by omega
  go_wp2_with fail;go_ret;exact⟨hf.o.symm▸rfl,Below.refl _ _⟩
 case pos=>
 have k4:¬12<m:=by omega
 have hd:r=if m=2/\ij y=true then 29 else pu m:=by rw[<-HR.o];unfold ck;rw[if_pos ⟨⟨gK,gS⟩,nx,jA⟩]
 have HD:=H_ hd;clear hd HR;obtain⟨k,hk⟩:∃k:Nat,m=(k:Int)+1:=⟨(m- 1).toNat,by omega⟩;have R6:k<12:=by omega
 subst hk;have HT:=H_ (tab k R6);by_cases h2:k=1
 ·subst h2;have hy:inY y:=⟨gK,gS⟩;go_wp2_with fail;refine(mT y _ hy).mono ?_;rintro e w3 ⟨rfl,hb⟩;obtain⟨lb,hlb⟩:=x_ (ij y);rw[hlb];have jD:=H_ hlb;clear hlb;cases lb with
  |true=>
   have hf:=H_ (show r=29 by rw[HD.o,if_pos (by simp[jD.o])]);clear HD;go_wp2_with fail;go_ret;exact⟨hf.o.symm▸rfl,hb⟩
  |false=>
   have hf:=H_ (show r=28 by rw[HD.o,if_neg (by simp[jD.o])];rfl);clear HD;have ht:∀w,Sem.run Tryz.prog (Instr.index 149 (.agg #[(31:Int),(28:Int),(31:Int),(30:Int),(31:Int),(30:Int),(31:Int),(31:Int),(30:Int),(31:Int),(30:Int),(31:Int)]) (.int .i64 1)) w=.ok (.int .i64 28) w:=λw=>JG 1 (by omega) w
   go_wp2_with fail;go_ret;exact⟨hf.o.symm▸rfl,hb⟩
 ·have yX:((k:Int)+1==2)=false:=by simp;omega
  have hf:=H_ (show r=pu ((k:Int)+1) by rw[HD.o,if_neg (λh=>h2 (by have:=h.1;omega))]);clear HD h2;have ht:=JG k R6;go_wp2_with fail;go_ret;exact⟨hf.o.symm▸rfl,Below.refl _ _⟩
theorem ik {m j:Int} (h:j<m):(m- (j+1)).toNat< (m- j).toNat:=by omega
theorem mw {j:Nat} {m:Int} (h:(j:Int)<m) (hm:m<=12):wrap64 ((j:Int)+1)=(j:Int)+1:=by unfold wrap64;omega
theorem mZ {Y y:Int} (h1:1900<=Y) (h:Y<y) (hy:y<=2199):wrap64 (Y+1)=Y+1:=by unfold wrap64;omega
theorem jj (y:Int):bM (y+1)=bM y+365+(if ij y=true then 1 else 0):=by
 unfold bM;by_cases h4:y%4=0
 ·by_cases h1:y%100=0
  ·by_cases h2:y%400=0
   ·rw[if_pos (iN h4 (.inr h2))];omega
   ·rw[if_neg (by rw[agT (λh=>h.2.elim (λk=>k h1) h2)];simp)];omega
  ·rw[if_pos (iN h4 (.inl h1))];omega
 ·rw[if_neg (by rw[agT (λh=>h4 h.1)];simp)];omega
theorem Aj {y m d:Int} (h:d<=ck y m) (h1:1<=d):inY y/\1<=m/\m<=12:=by
 unfold ck at h;split at h
 ·assumption
 ·omega
theorem sH {y:Int} (hy:inY y):cH y 12=365+(if ij y=true then 1 else 0):=by
 unfold inY at hy;simp only[cH,ck,pu,inY];cases ij y<;>simp[hy]
theorem I8 (y:Int) (w:World) (h:inY y):Calls Tryz.prog 126 #[y] w (ap w (.int .i64 (bM y))):=by
 obtain⟨r,hr⟩:=x_ (bM y);rw[hr];have HR:=H_ hr;clear hr;obtain⟨h1,h2⟩:=h;go_enter Tryz.func126,Tryz.ntmps126;go_wp2_with fail;go_ret;exact⟨by rw[<-HR.o];rfl,Below.refl _ _⟩
set_option maxRecDepth 100000 in
theorem aeu (y m d:Int) (w:World):Calls Tryz.prog 148 #[y,m,d] w (ap w (.tuple #[.int .i64 (ofI y m d).1,.int .i64 (ofI y m d).2])):=by
 obtain⟨r,hr⟩:=x_ (ofI y m d);rw[hr];have HR:=H_ hr;clear hr;go_enter Tryz.func148,Tryz.ntmps148;by_cases Fq:d<1
 case pos=>
  have hf:=H_ (show r=(0,2) by rw[<-HR.o];unfold ofI;rw[if_pos (.inl Fq)]);go_wp2_with fail
  (try go_ret2)
  exact⟨hf.o.symm▸rfl,Below.refl _ _⟩
 case neg=>
 have Re:1<=d:=by omega
 go_wp2_with fail;refine(vY y m w).mono ?_;rintro e w1 ⟨rfl,eL⟩;obtain⟨D,hD⟩:=x_ (ck y m);rw[hD];have vh:=H_ hD;clear hD;by_cases hDd:D<d
 case pos=>
  have hf:=H_ (show r=(0,2) by rw[<-HR.o];unfold ofI;rw[vh.o,if_pos (.inr hDd)]);go_wp2_with fail
  (try go_ret2)
  exact⟨hf.o.symm▸rfl,eL⟩
 case neg=>
 have hDd':d<=D:=by omega
 have ac8:D<=31:=by rw[<-vh.o];exact(fI y m).2
 obtain⟨hy,nx,jA⟩:=Aj (by rw[vh.o];exact hDd':d<=ck y m) Re;have hyI:=hy;obtain⟨gK,gS⟩:=hyI;have hf:=H_ (show r=(bM y+d- 1+cH y (m- 1).toNat,0) by rw[<-HR.o];unfold ofI;rw[if_neg (by rw[vh.o];omega)]);have jE:=ki hy;obtain⟨B,hB⟩:=x_ (bM y);rw[hB]at hf jE;have vt:=H_ hB;clear hB HR;go_wp2_with fail;refine(I8 y w1 hy).mono ?_;rintro e w2 ⟨rfl,aH⟩;rw[vt.o];have adC:=eL.trans (aH.mono eL.size);go_wp2_with fail
 go_loopw [8,9] (λs i wr=>∃j:Nat,1<=j/\(j:Int)<=m/\i=.int .i64 (j:Int)/\s=.int .i64 (B+d- 1+cH y (j- 1))/\Below w.heap.size w wr) (λ_ i _=>(m- intOf i).toNat)
 case atStart=>exact⟨1,by omega,by omega,rfl,by simp[cH],adC⟩
 case round=>
  obtain⟨j,Fp,tP,rfl,rfl,hb⟩:=hrel;have hs:=oL y (j- 1);obtain⟨S,hS⟩:=x_ (cH y (j- 1));rw[hS]at hs |-;have HS:=H_ hS;clear hS;by_cases RD:(j:Int)<m
  ·go_wp2_with fail;refine(vY y (j:Int) wr).mono ?_;rintro e w3 ⟨rfl,aZ⟩;have Rw:=fI y (j:Int);obtain⟨E,hE⟩:=x_ (ck y (j:Int));rw[hE]at Rw |-;have HE:=H_ hE;clear hE;have bU:=hb.trans (aZ.mono hb.size);go_wp2_with fail;go_roundw
   case rel=>exact⟨j+1,by omega,by omega,by go_num,by
    have e:cH y (j+1- 1)=S+E:=by
     obtain⟨i,rfl⟩:∃i,j=i+1:=⟨j- 1,by omega⟩;rw[show i+1+1- 1=i+1 from rfl,cH,<-HS.o,<-HE.o];simp
    rw[e];go_num,bU⟩
   case measure=>
    have e:wrap64 ((j:Int)+1)=(j:Int)+1:=mw RD jA;simp only[intOf,e];exact ik RD
  ·go_wp2_with fail
   (try go_ret2)
   have e:j=(m- 1).toNat+1:=by omega
   refine⟨?_,hb⟩;rw[hf.o,<-HS.o,e];simp only[Nat.add_sub_cancel];rfl
set_option maxRecDepth 100000 in
theorem PG (y m d:Int) (w:World):Calls Tryz.prog 143 #[y,m,d] w (ap w (.tuple #[.int .i64 (ofI y m d).1,.int .i64 (ofI y m d).2])):=by
 obtain⟨r,hr⟩:=x_ (ofI y m d);rw[hr];have HR:=H_ hr;clear hr;go_enter Tryz.func143,Tryz.ntmps143;by_cases Fq:d<1
 case pos=>
  have hf:=H_ (show r=(0,2) by rw[<-HR.o];unfold ofI;rw[if_pos (.inl Fq)]);go_wp2_with fail
  (try go_ret2)
  exact⟨hf.o.symm▸rfl,Below.refl _ _⟩
 case neg=>
 have Re:1<=d:=by omega
 go_wp2_with fail;refine(lx y m w).mono ?_;rintro e w1 ⟨rfl,eL⟩;obtain⟨D,hD⟩:=x_ (ck y m);rw[hD];have vh:=H_ hD;clear hD;by_cases hDd:D<d
 case pos=>
  have hf:=H_ (show r=(0,2) by rw[<-HR.o];unfold ofI;rw[vh.o,if_pos (.inr hDd)]);go_wp2_with fail
  (try go_ret2)
  exact⟨hf.o.symm▸rfl,eL⟩
 case neg=>
 have hDd':d<=D:=by omega
 have ac8:D<=31:=by rw[<-vh.o];exact(fI y m).2
 obtain⟨hy,nx,jA⟩:=Aj (by rw[vh.o];exact hDd':d<=ck y m) Re;have hyI:=hy;obtain⟨gK,gS⟩:=hyI;have hf:=H_ (show r=(bM y+d- 1+cH y (m- 1).toNat,0) by rw[<-HR.o];unfold ofI;rw[if_neg (by rw[vh.o];omega)]);have jE:=ki hy;obtain⟨B,hB⟩:=x_ (bM y);rw[hB]at hf jE;have vt:=H_ hB;clear hB HR;go_wp2_with fail
 go_loopw [8,9] (λs i wr=>∃j:Nat,1900+(j:Int)<=y/\i=.int .i64 (1900+(j:Int))/\s=.int .i64 (bM (1900+(j:Int)))/\Below w.heap.size w wr) (λ_ i _=>(y- intOf i).toNat)
 case atStart=>exact⟨0,by omega,rfl,rfl,eL⟩
 case round=>
  obtain⟨j,hjy,rfl,rfl,hb⟩:=hrel;obtain⟨Y,hY⟩:=x_ (1900+(j:Int));rw[hY]at hjy |-;have Q3:1900<=Y:=by omega
  have HY:=H_ hY;clear hY;have hbY:=ki (y:=Y) ⟨Q3,by omega⟩;obtain⟨S,hS⟩:=x_ (bM Y);rw[hS]at hbY |-;have HS:=H_ hS;clear hS;by_cases aU:Y<y
  ·go_wp2_with fail;refine(mT Y wr ⟨Q3,by omega⟩).mono ?_;rintro e w3 ⟨rfl,aZ⟩;have bU:=hb.trans (aZ.mono hb.size);obtain⟨lb,hlb⟩:=x_ (ij Y);rw[hlb];have pf:=H_ (jj Y);rw[hlb,HS.o]at pf;clear hlb;cases lb with
   |true=>
    go_wp2_with fail;go_roundw
    case rel=>exact⟨j+1,by have:=HY.o;omega,by have:=HY.o;go_num,by
     have e:(1900:Int)+((j+1:Nat):Int)=Y+1:=by have:=HY.o;omega
     rw[e,pf.o];(try simp),bU⟩
    case measure=>
     have e:wrap64 (Y+1)=Y+1:=mZ Q3 aU gS;simp only[intOf,e];exact ik aU
   |false=>
    go_wp2_with fail;go_roundw
    case rel=>exact⟨j+1,by have:=HY.o;omega,by have:=HY.o;go_num,by
     have e:(1900:Int)+((j+1:Nat):Int)=Y+1:=by have:=HY.o;omega
     rw[e,pf.o];(try simp),bU⟩
    case measure=>
     have e:wrap64 (Y+1)=Y+1:=mZ Q3 aU gS;simp only[intOf,e];exact ik aU
  ·have hYy:Y=y:=by omega
   have Dd:=H_ (show S=B by rw[<-HS.o,hYy,vt.o]);clear hYy;go_wp2_with fail
   go_loopw [8,10] (λs i wr=>∃j:Nat,1<=j/\(j:Int)<=m/\i=.int .i64 (j:Int)/\s=.int .i64 (S+cH y (j- 1))/\Below w.heap.size w wr) (λ_ i _=>(m- intOf i).toNat)
   case atStart=>exact⟨1,by omega,by omega,rfl,by simp[cH],hb⟩
   case round=>
    obtain⟨j,Fp,tP,rfl,rfl,hb⟩:=hrel;have hs:=oL y (j- 1);obtain⟨S,hS⟩:=x_ (cH y (j- 1));rw[hS]at hs |-;have HS:=H_ hS;clear hS;by_cases RD:(j:Int)<m
    ·go_wp2_with fail;refine(lx y (j:Int) wr).mono ?_;rintro e w3 ⟨rfl,aZ⟩;have Rw:=fI y (j:Int);obtain⟨E,hE⟩:=x_ (ck y (j:Int));rw[hE]at Rw |-;have HE:=H_ hE;clear hE;have bU:=hb.trans (aZ.mono hb.size);go_wp2_with fail;go_roundw
     case rel=>exact⟨j+1,by omega,by omega,by go_num,by
      have e:cH y (j+1- 1)=S+E:=by
       obtain⟨i,rfl⟩:∃i,j=i+1:=⟨j- 1,by omega⟩;rw[show i+1+1- 1=i+1 from rfl,cH,<-HS.o,<-HE.o];simp
      rw[e];go_num,bU⟩
     case measure=>
      have e:wrap64 ((j:Int)+1)=(j:Int)+1:=mw RD jA;simp only[intOf,e];exact ik RD
    ·go_wp2_with fail
     (try go_ret2)
     have e:j=(m- 1).toNat+1:=by omega
     refine⟨?_,hb⟩;rw[hf.o,<-HS.o,e];simp only[Nat.add_sub_cancel];have e2:=Dd.o;rw[e2];go_num
theorem ip {fn:Func} {t u v x:Tmp} (h:fn.results=#[.tmp t,.tmp u,.tmp v,.tmp x]) (tmps:Array Value) (P:Program) (w:World):
 (results fn tmps).run P w=.ok (.tuple #[tmps.getD t undef,tmps.getD u undef,tmps.getD v undef,tmps.getD x undef]) w:=by
 simp[results,h]
theorem BI:bM 1900= -25567:=by unfold bM;omega
theorem I6:bM 2199=83641:=by unfold bM;omega
def inD (d:Int):Prop:= -25567<=d/\d<=84005
instance (d:Int):Decidable (inD d):=by unfold inD;exact inferInstance
def qP (date y m d:Int):Prop:=inY y/\1<=m/\m<=12/\1<=d/\d<=ck y m/\date=bM y+cH y (m- 1).toNat+d- 1
def IW (date:Int) (w:World) (e:Ending) (w':World):Prop:=
 ∃y m d n:Int,e=.returned (.tuple #[y,m,d,n])/\Below w.heap.size w w'/\((inD date/\n=0/\qP date y m d)\/(¬inD date/\n=2/\y=0/\m=0/\d=0))
theorem vV {y date:Int} {j:Nat} (hy:inY y) (aU:date<bM (y+1)) (Fp:1<=j) (hj:j<=12) (hr:ck y (j:Int)<=date- bM y- cH y (j- 1)):j<=11:=by
 rcases Nat.lt_or_ge j 12 with h|h
 ·omega
 ·have e:j=12:=by omega
  subst e;have h1:=sH hy;have h2:=jj y;have h3:cH y 12=cH y 11+ck y 12:=by rw[cH];rfl
  have h4:ck y ((12:Nat):Int)=ck y 12:=rfl;rw[h4]at hr;simp only[Nat.add_one_sub_one,show 12- 1=11 from rfl]at hr;omega
theorem gN {y z:Int} (h:y<=z):bM y+365*(z- y)<=bM z:=by
 unfold bM;omega
theorem oM {y:Int} {a b:Nat} (h:a<=b):cH y a<=cH y b:=by
 induction b with
 |zero=>have:a=0:=by omega
        subst this;exact Int.le_refl _
 |succ b ih=>
  rcases Nat.lt_or_ge b a with h1|h1
  ·have:a=b+1:=by omega
   subst this;exact Int.le_refl _
  ·have:=ih h1;have:=fI y ((b:Int)+1);simp only[cH];omega
theorem qP.year {date y m d:Int} (h:qP date y m d):bM y<=date/\date<bM (y+1):=by
 obtain⟨hy,h1,h2,h3,h4,h5⟩:=h;have k1:=oL y (m- 1).toNat
 have k2:=sH hy;have k3:=jj y;have k4:cH y ((m- 1).toNat+1)<=cH y 12:=oM (by omega);have k5:cH y ((m- 1).toNat+1)=cH y (m- 1).toNat+ck y m:=by rw[cH,show(((m- 1).toNat:Int)+1)=m from by omega]
 exact⟨by omega,by omega⟩
theorem qP.uniq {date y m d y' m' d':Int} (h:qP date y m d) (k:qP date y' m' d'):y=y'/\m=m'/\d=d':=by
 have h1:=h.year;have k1:=k.year;have e:y=y':=by
  rcases Int.lt_trichotomy y y' with hl|he|hl
  ·have:=gN (show y+1<=y' by omega);omega
  ·exact he
  ·have:=gN (show y'+1<=y by omega);omega
 subst e;obtain⟨hy,a1,a2,a3,a4,a5⟩:=h;obtain⟨_,b1,b2,b3,b4,b5⟩:=k;have e:m=m':=by
  rcases Int.lt_trichotomy m m' with hl|he|hl
  ·have q1:cH y ((m- 1).toNat+1)<=cH y (m'- 1).toNat:=oM (by omega);have q2:cH y ((m- 1).toNat+1)=cH y (m- 1).toNat+ck y m:=by rw[cH,show(((m- 1).toNat:Int)+1)=m from by omega]
   omega
  ·exact he
  ·have q1:cH y ((m'- 1).toNat+1)<=cH y (m- 1).toNat:=oM (by omega);have q2:cH y ((m'- 1).toNat+1)=cH y (m'- 1).toNat+ck y m':=by rw[cH,show(((m'- 1).toNat:Int)+1)=m' from by omega]
   omega
 subst e;exact⟨rfl,rfl,by omega⟩
theorem nS (d:Int) (w:World):Calls Tryz.prog 125 #[d] w (ap w (.bool (decide (inD d)))):=by
 obtain⟨r,hr⟩:=x_ (decide (inD d));rw[hr];have HR:=H_ hr;clear hr;go_enter Tryz.func125,Tryz.ntmps125;by_cases h1: -25567<=d
 ·by_cases h2:d<=84005
  ·have hf:=H_ (show r=true by rw[<-HR.o];exact decide_eq_true ⟨h1,h2⟩);go_wp2_with fail;go_ret;exact⟨hf.o.symm▸rfl,Below.refl _ _⟩
  ·have hf:=H_ (show r=false by rw[<-HR.o];exact decide_eq_false (λh=>h2 h.2));go_wp2_with fail;go_ret;exact⟨hf.o.symm▸rfl,Below.refl _ _⟩
 ·have hf:=H_ (show r=false by rw[<-HR.o];exact decide_eq_false (λh=>h1 h.1));go_wp2_with fail;go_ret;exact⟨hf.o.symm▸rfl,Below.refl _ _⟩
theorem mt (d:Int) (w:World):Calls Tryz.prog 32 #[d] w (ap w (.bool (decide (inD d)))):=by
 obtain⟨r,hr⟩:=x_ (decide (inD d));rw[hr];have HR:=H_ hr;clear hr;go_enter Tryz.func32,Tryz.ntmps32;by_cases h1: -25567<=d
 ·by_cases h2:d<=84005
  ·have hf:=H_ (show r=true by rw[<-HR.o];exact decide_eq_true ⟨h1,h2⟩);go_wp2_with fail;go_ret;exact⟨hf.o.symm▸rfl,Below.refl _ _⟩
  ·have hf:=H_ (show r=false by rw[<-HR.o];exact decide_eq_false (λh=>h2 h.2));go_wp2_with fail;go_ret;exact⟨hf.o.symm▸rfl,Below.refl _ _⟩
 ·have hf:=H_ (show r=false by rw[<-HR.o];exact decide_eq_false (λh=>h1 h.1));go_wp2_with fail;go_ret;exact⟨hf.o.symm▸rfl,Below.refl _ _⟩
set_option maxRecDepth 100000 in
theorem EF (date:Int) (w:World) (jE:cx date):Calls Tryz.prog 65 #[date] w (IW date w):=by
 go_enter Tryz.func65,Tryz.ntmps65;go_wp2_with fail;refine(mt date w).mono ?_;rintro e w1 ⟨rfl,eL⟩;obtain⟨v,hv⟩:=x_ (decide (inD date));rw[hv];have HV:=H_ hv;clear hv;cases v with
 |false=>
  go_wp2_with fail
  (try simp only[Exit.inBlock,Exit.then])
  refine bodyPost_ret (ip rfl _ _ _) rfl ⟨0,0,0,2,rfl,eL,.inr ⟨of_decide_eq_false HV.o,rfl,rfl,rfl,rfl⟩⟩
 |true=>
 have lN:inD date:=of_decide_eq_true HV.o;have Y4:=lN;obtain⟨Fq,Re⟩:=Y4;have lL:=H_ lN;clear HV lN jE;go_wp2_with fail
 go_loopw [6,8] (λi s wr=>∃Y:Int,inY Y/\i=.int .i64 Y/\s=.int .i64 (date- bM Y)/\0<=date- bM Y/\Below w.heap.size w wr) (λi _ _=>(2199- intOf i).toNat)
 case atStart=>exact⟨1900,by unfold inY;omega,rfl,by rw[BI];go_num,by rw[BI];omega,eL⟩
 case round=>
  obtain⟨Y,hY,rfl,rfl,tB,hb⟩:=hrel;have hyI:=hY;obtain⟨Q3,hY2⟩:=hyI;have hbB:=ki hY;have pf:=H_ (jj Y);obtain⟨B,hB⟩:=x_ (bM Y);rw[hB]at tB hbB pf |-;have vt:=H_ hB;clear hB;go_wp2_with fail;refine(mT Y wr hY).mono ?_;rintro e w3 ⟨rfl,aZ⟩;have bU:=hb.trans (aZ.mono hb.size);obtain⟨lb,hlb⟩:=x_ (ij Y);rw[hlb]at pf |-;have jD:=H_ hlb;clear hlb;cases lb with
  |true=>
   have dW:=H_ (show bM (Y+1)=B+366 by have:=pf.o;simp at this;omega);clear pf;by_cases Fs:366<=date- B
   ·have T5:Y<2199:=by
     rcases Int.lt_or_le Y 2199 with h|h
     ·exact h
     ·have e:Y=2199:=by omega
      have e2:=vt.o;rw[e]at e2;have e3:=I6;omega
    go_wp2_with fail;refine(mT Y w3 hY).mono ?_;rintro e w4 ⟨rfl,cP⟩;rw[jD.o];have dd:=bU.trans (cP.mono bU.size);go_wp2_with fail;go_roundw
    case rel=>exact⟨Y+1,⟨by omega,by omega⟩,by go_num,by rw[dW.o];go_num,by rw[dW.o];omega,dd⟩
    case measure=>
     have e:wrap64 (Y+1)=Y+1:=mZ Q3 T5 (Int.le_refl _);simp only[intOf,e];exact ik T5
   ·have aU:date- B<366:=by omega
    have tN:=H_ (show date<bM (Y+1) by rw[dW.o];omega);clear Fs;go_wp2_with fail
    (try (refine(mT Y w3 hY).mono ?_
          rintro e w4 ⟨rfl,cP⟩;rw[jD.o];replace bU:=bU.trans (cP.mono bU.size);go_wp2_with fail))
    go_loopw [7,8] (λi s wr=>∃j:Nat,1<=j/\j<=12/\i=.int .i64 (j:Int)/\s=.int .i64 (date- B- cH Y (j- 1))/\0<=date- B- cH Y (j- 1)/\Below w.heap.size w wr) (λi _ _=>(12- intOf i).toNat)
    case atStart=>exact⟨1,by omega,by omega,rfl,by simp[cH],by simp[cH];omega,bU⟩
    case round=>
     obtain⟨j,Fp,tP,rfl,rfl,tB,hb⟩:=hrel;have hs:=oL Y (j- 1);obtain⟨S,hS⟩:=x_ (cH Y (j- 1));rw[hS]at hs tB |-;have HS:=H_ hS;clear hS;have aae:1<=(j:Int):=by omega
     have aaA:(j:Int)<=12:=by omega
     go_wp2_with fail;refine(lx Y (j:Int) wr).mono ?_;rintro e w3 ⟨rfl,aZ⟩;have Rw:=fI Y (j:Int);obtain⟨E,hE⟩:=x_ (ck Y (j:Int));rw[hE]at Rw |-;have HE:=H_ hE;clear hE;have bU:=hb.trans (aZ.mono hb.size);by_cases Fs:E<=date- B- S
     ·have aaM:j<=11:=vV hY tN.o Fp tP (by rw[HE.o,vt.o,HS.o];exact Fs);go_wp2_with fail;refine(lx Y (j:Int) w3).mono ?_;rintro e w4 ⟨rfl,cP⟩;rw[HE.o];have dd:=bU.trans (cP.mono bU.size);go_wp2_with fail;go_roundw
      case rel=>
       have e:cH Y (j+1- 1)=S+E:=by
        obtain⟨i,rfl⟩:∃i,j=i+1:=⟨j- 1,by omega⟩;rw[show i+1+1- 1=i+1 from rfl,cH,<-HS.o,<-HE.o];simp
       exact⟨j+1,by omega,by omega,by go_num,by rw[e];go_num,by rw[e];omega,dd⟩
      case measure=>
       have e:wrap64 ((j:Int)+1)=(j:Int)+1:=mw (show(j:Int)<12 by omega) (Int.le_refl _);simp only[intOf,e];exact ik (by omega)
     ·have iZ:date- B- S<E:=by omega
      go_wp2_with fail
      (try simp only[Exit.inBlock,Exit.then])
      refine bodyPost_ret (ip rfl _ _ _) rfl ⟨Y,(j:Int),date- B- S+1,0,by first|rfl|go_num,bU,.inl ⟨lL.o,rfl,hY,by omega,by omega,by omega,by rw[HE.o];omega,?_⟩⟩;rw[show((j:Int) - 1).toNat=j- 1 from by omega,HS.o,vt.o];omega
  |false=>
   have dW:=H_ (show bM (Y+1)=B+365 by have:=pf.o;simp at this;omega);clear pf;go_wp2_with fail;refine(mT Y w3 hY).mono ?_;rintro e w4 ⟨rfl,cP⟩;rw[jD.o];have dd:=bU.trans (cP.mono bU.size);by_cases Fs:365<=date- B
   ·have T5:Y<2199:=by
     rcases Int.lt_or_le Y 2199 with h|h
     ·exact h
     ·have e:Y=2199:=by omega
      have e2:=vt.o;rw[e]at e2;have e3:=I6;omega
    go_wp2_with fail;refine(mT Y w4 hY).mono ?_;rintro e w5 ⟨rfl,fC⟩;rw[jD.o];have jX:=dd.trans (fC.mono dd.size);go_wp2_with fail;go_roundw
    case rel=>exact⟨Y+1,⟨by omega,by omega⟩,by go_num,by rw[dW.o];go_num,by rw[dW.o];omega,jX⟩
    case measure=>
     have e:wrap64 (Y+1)=Y+1:=mZ Q3 T5 (Int.le_refl _);simp only[intOf,e];exact ik T5
   ·have aU:date- B<365:=by omega
    have tN:=H_ (show date<bM (Y+1) by rw[dW.o];omega);clear Fs;go_wp2_with fail
    go_loopw [7,8] (λi s wr=>∃j:Nat,1<=j/\j<=12/\i=.int .i64 (j:Int)/\s=.int .i64 (date- B- cH Y (j- 1))/\0<=date- B- cH Y (j- 1)/\Below w.heap.size w wr) (λi _ _=>(12- intOf i).toNat)
    case atStart=>exact⟨1,by omega,by omega,rfl,by simp[cH],by simp[cH];omega,dd⟩
    case round=>
     obtain⟨j,Fp,tP,rfl,rfl,tB,hb⟩:=hrel;have hs:=oL Y (j- 1);obtain⟨S,hS⟩:=x_ (cH Y (j- 1));rw[hS]at hs tB |-;have HS:=H_ hS;clear hS;have aae:1<=(j:Int):=by omega
     have aaA:(j:Int)<=12:=by omega
     go_wp2_with fail;refine(lx Y (j:Int) wr).mono ?_;rintro e w3 ⟨rfl,aZ⟩;have Rw:=fI Y (j:Int);obtain⟨E,hE⟩:=x_ (ck Y (j:Int));rw[hE]at Rw |-;have HE:=H_ hE;clear hE;have bU:=hb.trans (aZ.mono hb.size);by_cases Fs:E<=date- B- S
     ·have aaM:j<=11:=vV hY tN.o Fp tP (by rw[HE.o,vt.o,HS.o];exact Fs);go_wp2_with fail;refine(lx Y (j:Int) w3).mono ?_;rintro e w4 ⟨rfl,cP⟩;rw[HE.o];have dd:=bU.trans (cP.mono bU.size);go_wp2_with fail;go_roundw
      case rel=>
       have e:cH Y (j+1- 1)=S+E:=by
        obtain⟨i,rfl⟩:∃i,j=i+1:=⟨j- 1,by omega⟩;rw[show i+1+1- 1=i+1 from rfl,cH,<-HS.o,<-HE.o];simp
       exact⟨j+1,by omega,by omega,by go_num,by rw[e];go_num,by rw[e];omega,dd⟩
      case measure=>
       have e:wrap64 ((j:Int)+1)=(j:Int)+1:=mw (show(j:Int)<12 by omega) (Int.le_refl _);simp only[intOf,e];exact ik (by omega)
     ·have iZ:date- B- S<E:=by omega
      go_wp2_with fail
      (try simp only[Exit.inBlock,Exit.then])
      refine bodyPost_ret (ip rfl _ _ _) rfl ⟨Y,(j:Int),date- B- S+1,0,by first|rfl|go_num,bU,.inl ⟨lL.o,rfl,hY,by omega,by omega,by omega,by rw[HE.o];omega,?_⟩⟩;rw[show((j:Int) - 1).toNat=j- 1 from by omega,HS.o,vt.o];omega
end Go.Proofs.YtibiddakakgakaaGreat
