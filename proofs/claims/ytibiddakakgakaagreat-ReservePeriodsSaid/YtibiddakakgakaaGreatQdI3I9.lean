/- What a journal holds in memory. -/
import Derived.Test.YtibiddakakgakaaGreatQdS2C3
import Derived.Test.YtibiddakakgakaaGreatQdE5I2
set_option linter.unusedVariables false
set_option linter.unusedSimpArgs false
set_option maxRecDepth 4000
attribute [local go_sem ↓] Go.wp_at_zero Go.wp_at_succ
set_option maxHeartbeats 16000000
namespace Go.Proofs.YtibiddakakgakaaGreat
open Go Go.RowKit
theorem D8 {size:Nat} {css:List (List Value)} (h:∀cs∈css,cs.length=size):css.flatten.length=css.length*size:=by
 induction css with
 |nil=>simp
 |cons c css ih=>rw[List.flatten_cons,List.length_append,ih (λx hx=>h x (by simp[hx])),h c (by simp),List.length_cons,Nat.succ_mul];omega
theorem At.flat {w:World} {Q:Nat->Prop} {b size:Nat}:∀{css:List (List Value)} (h:∀cs∈css,cs.length=size) (o:Nat),At w Q ⟨b,o,none⟩ css.flatten->∀(i:Nat) cs,css[i]? =some cs->At w Q ⟨b,o+i*size,none⟩ cs
 |[],_,_,_,i,cs,hi=>by simp at hi
 |c::css,h,o,ha,0,cs,hi=>by
  rw[List.flatten_cons]at ha;have:=(ha.split).1;simp at hi;subst hi;simpa using this
 |c::css,h,o,ha,i+1,cs,hi=>by
  rw[List.flatten_cons]at ha;have h2:=(ha.split).2;rw[h c (by simp)]at h2;simp only[List.getElem?_cons_succ]at hi;have:=At.flat (λx hx=>h x (by simp[hx])) (o+size) h2 i cs hi;have e:o+(i+1)*size=o+size+i*size:=by rw[Nat.add_mul];omega
  rw[e];exact this
theorem xN {w:World} {base:Nat} {e:TypeId} {size g n c:Nat} {xs:List Value} (h:w.ownsRow base e size (.slice (some ⟨g,0,none⟩) n c) n xs) {Q:Nat->Prop} (hQ:Q g):At w Q ⟨g,0,none⟩ xs:=
 ⟨hQ,λj u hu=>⟨h.cells (g:=g) rfl j u hu,kc h (g:=g) rfl j⟩⟩
theorem kO {α:Type} {El:World->(Nat->Prop)->List Value->α->Prop} {size:Nat} {w:World} {Q:Nat->Prop} {base:Nat} {e:TypeId} {v:Value} {xs:List α} {css:List (List Value)} (hl:∀cs∈css,cs.length=size)
 (h:w.ownsRow base e size v xs.length css.flatten) (hE:∀(i:Nat) x,xs[i]? =some x->∃cs,css[i]? =some cs/\El w Q cs x) (hQ:∀g,v.ownBlock=some g->Q g):aj El size w Q [v] xs:=by
 rcases h.2 with⟨rfl,h0⟩|⟨g,cap,aw,rfl,_,_,h3,h4,_⟩
 ·exact⟨none,0,by rw[h0],by omega,by simp[maxLen],λhp=>by omega⟩
 ·refine⟨_,cap,rfl,h3,h4,λ_=>⟨g,0,rfl,hQ g rfl,λi x hx=>?_⟩⟩;obtain⟨cs,h1,h2⟩:=hE i x hx;exact⟨cs,h2,At.flat hl 0 (xN h (hQ g rfl)) i cs h1⟩
structure JAt (w:World) (D O:Nat->Prop) (J:Nat) (g:au) (es:List ak) (gl:List Value) (css:List (List Value)) (v:Value) (bi br:Nat):Prop where
 blk:w.heap[J]? =some (.cells (gl++[v,.map (some bi),.map (some br)]).toArray 195 (0,0))
 grp:aL w D gl g
 len:css.length=es.length
 row:w.ownsRow 0 51 7 v es.length css.flatten
 ent:∀(i:Nat) x,es[i]? =some x->∃cs,css[i]? =some cs/\ax w D cs x
 idx:eM w bi es.length (λid=>Option.map (λk:Nat=>(k:Int)) (eH es id))
 rev:eM w br es.length (qd es)
 oj:O J
 oi:O bi
 orr:O br
 ov:∀q,v.ownBlock=some q->O q
 ne1:J≠bi
 ne2:J≠br
 ne3:bi≠br
 ne4:∀q,v.ownBlock=some q->q≠J/\q≠bi/\q≠br
 dis:∀q,D q->¬O q
 ltD:∀q,D q->q<w.heap.size
 ltO:∀q,O q->q<w.heap.size
 ok:okJ g es
def JC (w:World) (D O:Nat->Prop) (J:Nat) (g:au) (es:List ak):Prop:=∃gl css v bi br,JAt w D O J g es gl css v bi br
section
variable {w w':World} {D O:Nat->Prop} {J:Nat} {g:au} {es:List ak} {gl:List Value} {css:List (List Value)} {v:Value} {bi br:Nat}
theorem JAt.fr (h:JAt w D O J g es gl css v bi br) (hf:Fr (λq=>D q\/O q) w w'):JAt w' D O J g es gl css v bi br where
 blk:=(hf.block J (.inr h.oj)).trans h.blk
 grp:=aL.fr h.grp (hf.mono λq hq=> .inl hq)
 len:=h.len
 row:=cU h.row λq hq=>hf.block q (.inr (h.ov q hq))
 ent:=λi x hx=>by
  obtain⟨cs,h1,h2⟩:=h.ent i x hx;exact⟨cs,h1,ax.fr h2 (hf.mono λq hq=> .inl hq)⟩
 idx:=h.idx.fr hf (.inr h.oi)
 rev:=h.rev.fr hf (.inr h.orr)
 oj:=h.oj
 oi:=h.oi
 orr:=h.orr
 ov:=h.ov
 ne1:=h.ne1
 ne2:=h.ne2
 ne3:=h.ne3
 ne4:=h.ne4
 dis:=h.dis
 ltD:=λq hq=>Nat.lt_of_lt_of_le (h.ltD q hq) hf.size
 ltO:=λq hq=>Nat.lt_of_lt_of_le (h.ltO q hq) hf.size
 ok:=h.ok
theorem JC.fr (h:JC w D O J g es) (hf:Fr (λq=>D q\/O q) w w'):JC w' D O J g es:=by
 obtain⟨gl,css,v,bi,br,h⟩:=h;exact⟨gl,css,v,bi,br,h.fr hf⟩
theorem JC.below (h:JC w D O J g es) (hb:Below w.heap.size w w'):JC w' D O J g es:=by
 obtain⟨gl,css,v,bi,br,h⟩:=h;exact⟨gl,css,v,bi,br,h.fr ((Fr.ofBelow hb).mono λq hq=>hq.elim (h.ltD q) (h.ltO q))⟩
theorem JC.ok (h:JC w D O J g es):okJ g es:=by
 obtain⟨gl,css,v,bi,br,h⟩:=h;exact h.ok
theorem JC.lt (h:JC w D O J g es):J<w.heap.size:=by
 obtain⟨gl,css,v,bi,br,h⟩:=h;exact ag h.blk
theorem JAt.glen (h:JAt w D O J g es gl css v bi br):gl.length=21:=h.grp.len
theorem JAt.clen (h:JAt w D O J g es gl css v bi br):∀cs∈css,cs.length=7:=λcs hc=>by
 obtain⟨i,hi,rfl⟩:=List.getElem_of_mem hc;have tV:i<es.length:=by rw[<-h.len];exact hi
 obtain⟨cs,h1,h2⟩:=h.ent i _ (List.getElem?_eq_getElem tV);rw[List.getElem?_eq_getElem hi]at h1;obtain rfl:=Option.some.inj h1;exact h2.len
theorem JAt.list (h:JAt w D O J g es gl css v bi br):aj ax 7 w (λq=>D q\/O q) [v] es:=
 kO h.clen h.row (λi x hx=>by
  obtain⟨cs,h1,h2⟩:=h.ent i x hx;exact⟨cs,h1,ax.mono h2 (λq hq=> .inl hq)⟩) (λq hq=> .inr (h.ov q hq))
end
def sX (D O:Nat->Prop) (J:Nat) (g:au) (es Ft:List ak) (w w':World):Prop:=
 ∃m,w.heap.size<=m/\m<=w'.heap.size/\JC w' (λq=>D q\/(w.heap.size<=q/\q<m)) (λq=>O q\/(m<=q/\q<w'.heap.size)) J g Ft/\Fr (λq=>q<w.heap.size/\¬O q) w w'
theorem Ly:(Tryz.prog.info? 74).map (λi=>(i.zero,i.size,i.bytes))=some (some (.agg #[.string ⟨#[]⟩,.string ⟨#[]⟩,.slice none 0 0,.slice none 0 0,false]),5,88):=by kernel_rfl
theorem ll:(Tryz.prog.info? 51).map (λi=>(i.zero,i.size,i.bytes))=some (some (.agg #[(),(),(),(),(),.string ⟨#[]⟩,.slice none 0 0]),7,80):=by kernel_rfl
theorem DY:Tryz.prog.underlying 27=some (.slice 74):=by kernel_rfl
theorem jp:Tryz.prog.underlying 30=some (.slice 51):=by kernel_rfl
def ou (T:TypeId) (size n:Nat) (xs:List Value) (w:World) (e:Ending) (w':World):Prop:=∃v,e=.returned v/\w'.ownsRow w.heap.size T size v n xs/\Below w.heap.size w w'
theorem mp {w:World} {base g size:Nat} {e:TypeId} (hb:base<=g) (hg:w.heap[g]? =some (.cells #[] e (0,0))):w.ownsRow base e size (.slice (some ⟨g,0,none⟩) 0 0) 0 []:=⟨by simp,.inr ⟨g,0,#[],rfl,hb,hg,Nat.le_refl _,by simp[maxLen],by simp,by simp⟩⟩
theorem ON (A:Option Addr) (n c:Nat) (xs:List Value) (w:World) (hr:Rd w (·<w.heap.size) A n 3 xs) (h1:∀u∈xs,u.oneCell'=true) (hn:n<=100000):Calls Tryz.prog 196 #[.slice A n c] w (ou 60 3 n xs w):=by
 obtain⟨ia,oR,ge,gg,gh⟩:=info_parts xu;have Zb:∀(w:World) (a:Option Addr) (n c n' c':Nat),(binOp .eql 49 (.slice a n c) (.slice none n' c')).run Tryz.prog w=.ok (.bool a.isNone) w:=λw a n c n' c'=>Lib.run_eql_slice_nil w _ _ a n c n' c' sq
 cases A with
 |none=>
  have h0:n=0:=by
   rcases Nat.eq_zero_or_pos n with h|h
   ·exact h
   ·obtain⟨a,e,_⟩:=hr.2 h;cases e
  subst h0;have hx:xs=[]:=List.eq_nil_of_length_eq_zero (by simpa using hr.1);subst hx;clear hr h1 hn;go_enter Tryz.func196,Tryz.ntmps196;go_wp2_with fail;go_ret;exact⟨_,rfl,World.ownsRow_nil _ _ _ _,Below.refl _ _⟩
 |some ad=>
  have HR:=H_ hr;have H1:=H_ h1;clear hr h1;go_enter Tryz.func196,Tryz.ntmps196;go_upto_region 3 with fail;go_wp2_with (at_builtin;go_loud (refine cq _ rfl (.tmp 5) (.tmp 6) 49 rfl w.heap.size 60 ia _ 3 24 sq oR ge gg gh rfl (by decide) (.slice (some ⟨w.heap.size,0,none⟩) 0 0) 0 [] rfl (mp (Nat.le_refl _) (heap_alloc_new _ _)) (·<w.heap.size) (some ad) n c xs rfl (HR.o.fr (Fr.ofBelow (ai w _))) H1.o (by simp only[maxLen];omega) (by omega) (by simp) ?_);intro v9 w9 cj gk qw);go_ret;exact⟨_,rfl,by simpa using cj,bK (ai w _) gk (λq hq=>by simp[Value.ownBlock]at hq;omega) (Nat.le_refl _)⟩
theorem DN (A:Option Addr) (n c:Nat) (xs:List Value) (w:World) (hr:Rd w (·<w.heap.size) A n 4 xs) (h1:∀u∈xs,u.oneCell'=true) (hn:n<=100000):Calls Tryz.prog 188 #[.slice A n c] w (ou 78 4 n xs w):=by
 obtain⟨ia,oR,ge,gg,gh⟩:=info_parts si;have Zb:∀(w:World) (a:Option Addr) (n c n' c':Nat),(binOp .eql 24 (.slice a n c) (.slice none n' c')).run Tryz.prog w=.ok (.bool a.isNone) w:=λw a n c n' c'=>Lib.run_eql_slice_nil w _ _ a n c n' c' ie
 cases A with
 |none=>
  have h0:n=0:=by
   rcases Nat.eq_zero_or_pos n with h|h
   ·exact h
   ·obtain⟨a,e,_⟩:=hr.2 h;cases e
  subst h0;have hx:xs=[]:=List.eq_nil_of_length_eq_zero (by simpa using hr.1);subst hx;clear hr h1 hn;go_enter Tryz.func188,Tryz.ntmps188;go_wp2_with fail;go_ret;exact⟨_,rfl,World.ownsRow_nil _ _ _ _,Below.refl _ _⟩
 |some ad=>
  have HR:=H_ hr;have H1:=H_ h1;clear hr h1;go_enter Tryz.func188,Tryz.ntmps188;go_upto_region 3 with fail;go_wp2_with (at_builtin;go_loud (refine cq _ rfl (.tmp 5) (.tmp 6) 24 rfl w.heap.size 78 ia _ 4 32 ie oR ge gg gh rfl (by decide) (.slice (some ⟨w.heap.size,0,none⟩) 0 0) 0 [] rfl (mp (Nat.le_refl _) (heap_alloc_new _ _)) (·<w.heap.size) (some ad) n c xs rfl (HR.o.fr (Fr.ofBelow (ai w _))) H1.o (by simp only[maxLen];omega) (by omega) (by simp) ?_);intro v9 w9 cj gk qw);go_ret;exact⟨_,rfl,by simpa using cj,bK (ai w _) gk (λq hq=>by simp[Value.ownBlock]at hq;omega) (Nat.le_refl _)⟩
theorem OM (A:Option Addr) (n c:Nat) (xs:List Value) (w:World) (hr:Rd w (·<w.heap.size) A n 3 xs) (h1:∀u∈xs,u.oneCell'=true) (hn:n<=100000):Calls Tryz.prog 190 #[.slice A n c] w (ou 154 3 n xs w):=by
 obtain⟨ia,oR,ge,gg,gh⟩:=info_parts pP;have Zb:∀(w:World) (a:Option Addr) (n c n' c':Nat),(binOp .eql 72 (.slice a n c) (.slice none n' c')).run Tryz.prog w=.ok (.bool a.isNone) w:=λw a n c n' c'=>Lib.run_eql_slice_nil w _ _ a n c n' c' oD
 cases A with
 |none=>
  have h0:n=0:=by
   rcases Nat.eq_zero_or_pos n with h|h
   ·exact h
   ·obtain⟨a,e,_⟩:=hr.2 h;cases e
  subst h0;have hx:xs=[]:=List.eq_nil_of_length_eq_zero (by simpa using hr.1);subst hx;clear hr h1 hn;go_enter Tryz.func190,Tryz.ntmps190;go_wp2_with fail;go_ret;exact⟨_,rfl,World.ownsRow_nil _ _ _ _,Below.refl _ _⟩
 |some ad=>
  have HR:=H_ hr;have H1:=H_ h1;clear hr h1;go_enter Tryz.func190,Tryz.ntmps190;go_upto_region 3 with fail;go_wp2_with (at_builtin;go_loud (refine cq _ rfl (.tmp 5) (.tmp 6) 72 rfl w.heap.size 154 ia _ 3 24 oD oR ge gg gh rfl (by decide) (.slice (some ⟨w.heap.size,0,none⟩) 0 0) 0 [] rfl (mp (Nat.le_refl _) (heap_alloc_new _ _)) (·<w.heap.size) (some ad) n c xs rfl (HR.o.fr (Fr.ofBelow (ai w _))) H1.o (by simp only[maxLen];omega) (by omega) (by simp) ?_);intro v9 w9 cj gk qw);go_ret;exact⟨_,rfl,by simpa using cj,bK (ai w _) gk (λq hq=>by simp[Value.ownBlock]at hq;omega) (Nat.le_refl _)⟩
theorem OL (A:Option Addr) (n c:Nat) (xs:List Value) (w:World) (hr:Rd w (·<w.heap.size) A n 5 xs) (h1:∀u∈xs,u.oneCell'=true) (hn:n<=100000):Calls Tryz.prog 189 #[.slice A n c] w (ou 74 5 n xs w):=by
 obtain⟨ia,oR,ge,gg,gh⟩:=info_parts Ly;have Zb:∀(w:World) (a:Option Addr) (n c n' c':Nat),(binOp .eql 27 (.slice a n c) (.slice none n' c')).run Tryz.prog w=.ok (.bool a.isNone) w:=λw a n c n' c'=>Lib.run_eql_slice_nil w _ _ a n c n' c' DY
 cases A with
 |none=>
  have h0:n=0:=by
   rcases Nat.eq_zero_or_pos n with h|h
   ·exact h
   ·obtain⟨a,e,_⟩:=hr.2 h;cases e
  subst h0;have hx:xs=[]:=List.eq_nil_of_length_eq_zero (by simpa using hr.1);subst hx;clear hr h1 hn;go_enter Tryz.func189,Tryz.ntmps189;go_wp2_with fail;go_ret;exact⟨_,rfl,World.ownsRow_nil _ _ _ _,Below.refl _ _⟩
 |some ad=>
  have HR:=H_ hr;have H1:=H_ h1;clear hr h1;go_enter Tryz.func189,Tryz.ntmps189;go_upto_region 3 with fail;go_wp2_with (at_builtin;go_loud (refine cq _ rfl (.tmp 5) (.tmp 6) 27 rfl w.heap.size 74 ia _ 5 88 DY oR ge gg gh rfl (by decide) (.slice (some ⟨w.heap.size,0,none⟩) 0 0) 0 [] rfl (mp (Nat.le_refl _) (heap_alloc_new _ _)) (·<w.heap.size) (some ad) n c xs rfl (HR.o.fr (Fr.ofBelow (ai w _))) H1.o (by simp only[maxLen];omega) (by omega) (by simp) ?_);intro v9 w9 cj gk qw);go_ret;exact⟨_,rfl,by simpa using cj,bK (ai w _) gk (λq hq=>by simp[Value.ownBlock]at hq;omega) (Nat.le_refl _)⟩
theorem td {size:Nat} (hs:0<size):∀{css:List (List Value)} (h:∀cs∈css,cs.length=size) (j:Nat),j<css.length*size->∃cs,css[j/ size]? =some cs/\css.flatten[j]? =cs[j%size]?
 |[],_,j,hj=>by simp at hj
 |c::css,h,j,hj=>by
  have hc:c.length=size:=h c (by simp);rcases Nat.lt_or_ge j size with h1|h1
  ·refine⟨c,by rw[Nat.div_eq_of_lt h1];rfl,?_⟩;rw[List.flatten_cons,List.getElem?_append_left (by omega),Nat.mod_eq_of_lt h1]
  ·obtain⟨q,rfl⟩:∃q,j=q+size:=⟨j- size,by omega⟩;have hq:q<css.length*size:=by
    rw[List.length_cons,Nat.succ_mul]at hj;omega
   obtain⟨cs,h2,h3⟩:=td hs (λx hx=>h x (by simp[hx])) q hq;refine⟨cs,?_,?_⟩
   ·rw[Nat.add_div_right _ hs,List.getElem?_cons_succ];exact h2
   ·rw[List.flatten_cons,List.getElem?_append_right (by omega),hc,Nat.add_sub_cancel,Nat.add_mod_right];exact h3
theorem PT {α:Type} {El:World->(Nat->Prop)->List Value->α->Prop} {size:Nat} {w:World} {Q:Nat->Prop} {A:Option Addr} {n c:Nat} {l:List α} (eX:∀cs x,El w Q cs x->cs.length=size) (hs:0<size) (h:aj El size w Q [.slice A n c] l):
 ∃css:List (List Value),css.length=l.length/\(∀cs∈css,cs.length=size)/\(∀(i:Nat) x,l[i]? =some x->∃cs,css[i]? =some cs/\El w Q cs x)/\Rd w Q A n size css.flatten:=by
 obtain⟨rfl,_,_⟩:=h.cap;rcases Nat.eq_zero_or_pos l.length with h0|h0
 ·have hl:l=[]:=List.eq_nil_of_length_eq_zero h0;subst hl;exact⟨[],rfl,by simp,by simp,by simp,λhn=>absurd hn (by simp)⟩
 obtain⟨b,o,rfl,hb,hx⟩:=h.base h0;have ee:∀i (hi:i<l.length),∃es,El w Q es l[i]/\At w Q ⟨b,o+i*size,none⟩ es:=hx;obtain⟨f,hf⟩:∃f:Nat->List Value,∀i (hi:i<l.length),El w Q (f i) l[i]/\At w Q ⟨b,o+i*size,none⟩ (f i):=
  ⟨λi=>if hi:i<l.length then(ee i hi).choose else[],λi hi=>by simp only[dif_pos hi];exact(ee i hi).choose_spec⟩
 have mH:((List.range l.length).map f).length=l.length:=by simp
 have hall:∀cs∈(List.range l.length).map f,cs.length=size:=λcs hc=>by
  obtain⟨i,hi,rfl⟩:=List.mem_map.1 hc;exact eX _ _ (hf i (List.mem_range.1 hi)).1
 refine⟨(List.range l.length).map f,mH,hall,λi x hi=>?_,?_,λ_=>⟨_,rfl,hb,λj u hj=>?_⟩⟩
 ·obtain⟨h1,h2⟩:=List.getElem?_eq_some_iff.1 hi;exact⟨f i,by simp[h1],h2▸(hf i h1).1⟩
 ·rw[D8 hall,mH]
 ·have vn:j< ((List.range l.length).map f).length*size:=by
   have:=(List.getElem?_eq_some_iff.1 hj).1
   rwa[D8 hall]at this
  obtain⟨cs,h1,h2⟩:=td hs hall j vn;rw[h2]at hj;have hi:j/ size<l.length:=by
   have:=(List.getElem?_eq_some_iff.1 h1).1
   rwa[mH]at this
  have ft:cs=f (j/ size):=by simpa[hi,eq_comm]using h1
  subst ft;have h3:=(hf _ hi).2.2 _ u hj;rw[Addr.add_lit]at h3 |-;have e3:o+j/ size*size+j%size=o+j:=by rw[Nat.add_assoc,Nat.mul_comm,Nat.div_add_mod]
  rw[e3]at h3;exact h3
theorem OT {α:Type} {El:World->(Nat->Prop)->List Value->α->Prop} {f:α->List Value} {w:World} {Q:Nat->Prop} (he:∀cs x,El w Q cs x->cs=f x) {css:List (List Value)} {l:List α} (hl:css.length=l.length) (h:∀(i:Nat) x,l[i]? =some x->∃cs,css[i]? =some cs/\El w Q cs x):css.flatten=l.flatMap f:=by
 have:css=l.map f:=by
  refine List.ext_getElem? (λi=>?_);rw[List.getElem?_map];cases hi:l[i]? with
  |none=>simp at hi;simp[hl,hi]
  |some x=>
   obtain⟨cs,h1,h2⟩:=h i x hi;rw[h1,he cs x h2];rfl
 rw[this,List.flatMap_def]
theorem vd {α:Type} {El:World->(Nat->Prop)->List Value->α->Prop} {f:α->List Value} {size:Nat} {w:World} {Q:Nat->Prop} {A:Option Addr} {n c:Nat} {l:List α} (he:∀cs x,El w Q cs x->cs=f x) (hf:∀x,(f x).length=size) (hs:0<size) (h:aj El size w Q [.slice A n c] l):Rd w Q A n size (l.flatMap f):=by
 obtain⟨css,h1,_,h3,h4⟩:=PT (λcs x hx=>by rw[he cs x hx];exact hf x) hs h
 rwa[OT he h1 h3]at h4
theorem aj.elt {α:Type} {El:World->(Nat->Prop)->List Value->α->Prop} {size:Nat} {w:World} {Q:Nat->Prop} {A:Option Addr} {n c:Nat} {l:List α} (h:aj El size w Q [.slice A n c] l) {x:α} (hx:x∈l):∃cs,El w Q cs x:=by
 obtain⟨i,hi,rfl⟩:=List.getElem_of_mem hx;obtain⟨b,o,es,_,_,h1,_⟩:=aj.get h i hi;exact⟨es,h1⟩
theorem I3 (l:List ah):∀u∈l.flatMap bn,u.oneCell'=true:=λu hu=>by
 obtain⟨x,_,hx⟩:=List.mem_flatMap.1 hu;simp[bn]at hx;rcases hx with rfl|rfl|rfl|rfl<;>rfl
theorem Pb (l:List bu):∀u∈l.flatMap eI,u.oneCell'=true:=λu hu=>by
 obtain⟨x,_,hx⟩:=List.mem_flatMap.1 hu;simp[eI]at hx;rcases hx with rfl|rfl|rfl<;>rfl
theorem SJ {α:Type} {El:World->(Nat->Prop)->List Value->α->Prop} {w:World} {Q:Nat->Prop} (he:∀cs x,El w Q cs x->∀u∈cs,u.oneCell'=true) {css:List (List Value)} {l:List α} (hl:css.length=l.length) (h:∀(i:Nat) x,l[i]? =some x->∃cs,css[i]? =some cs/\El w Q cs x):∀u∈css.flatten,u.oneCell'=true:=λu hu=>by
 obtain⟨cs,hc,hu⟩:=List.mem_flatten.1 hu;obtain⟨i,hi,rfl⟩:=List.getElem_of_mem hc;have tV:i<l.length:=by omega
 obtain⟨cs,h1,h2⟩:=h i _ (List.getElem?_eq_getElem tV);rw[List.getElem?_eq_getElem hi]at h1;obtain rfl:=Option.some.inj h1;exact he _ _ h2 u hu
theorem SP {w:World} {Q:Nat->Prop} {cs:List Value} {x:aV} (h:aN w Q cs x):∀u∈cs,u.oneCell'=true:=λu hu=>by
 obtain⟨_,_,_,_,rfl,_⟩:=aN.lit h;simp[lH]at hu;rcases hu with rfl|rfl|rfl|rfl|rfl<;>rfl
theorem aic {w:World} {Q:Nat->Prop} {cs:List Value} {x:ak} (h:ax w Q cs x):∀u∈cs,u.oneCell'=true:=λu hu=>by
 obtain⟨_,_,rfl,_⟩:=ax.lit h;simp at hu;rcases hu with rfl|rfl|rfl|rfl|rfl|rfl|rfl<;>rfl
theorem ax.mk {w:World} {Q:Nat->Prop} {x:ak} {A:Option Addr} {c:Nat} (hb:cx x.id/\cx x.entity/\cx x.date/\cx x.kind/\cx x.of_) (hl:aj bc 3 w Q [.slice A x.lines.length c] x.lines):ax w Q [x.id,x.entity,x.date,x.kind,x.of_,x.text,.slice A x.lines.length c] x:=
 ⟨[_],[_],[_],[_],[_],[_],[_],rfl,⟨rfl,hb.1⟩,⟨rfl,hb.2.1⟩,⟨rfl,hb.2.2.1⟩,⟨rfl,hb.2.2.2.1⟩,⟨rfl,hb.2.2.2.2⟩,rfl,hl⟩
theorem aN.mk {w:World} {Q:Nat->Prop} {x:aV} {A B:Option Addr} {c d:Nat} (hc:aj ar 4 w Q [.slice A x.chart.length c] x.chart) (hl:aj bJ 3 w Q [.slice B x.links.length d] x.links):aN w Q (lH x.name x.currency A x.chart.length c B x.links.length d x.joint) x:=
 ⟨[_],[_],[_],[_],[_],rfl,rfl,rfl,hc,hl,rfl⟩
theorem aL.parts {w:World} {Q:Nat->Prop} {cs:List Value} {g:au} (h:aL w Q cs g):∃c0 c1 Ac cc c3 Ae ce,cs=c0++c1++[.slice Ac g.chart.length cc]++c3++[.slice Ae g.entities.length ce]/\c0.length=1/\c1.length=3/\c3.length=15/\
 aj ar 4 w Q [.slice Ac g.chart.length cc] g.chart/\aj aN 5 w Q [.slice Ae g.entities.length ce] g.entities/\
 ∀(w':World) (Q':Nat->Prop) A c B d,Below w.heap.size w w'->(∀q,Q q->q<w.heap.size)->aj ar 4 w' Q' [.slice A g.chart.length c] g.chart->aj aN 5 w' Q' [.slice B g.entities.length d] g.entities->aL w' Q' (c0++c1++[.slice A g.chart.length c]++c3++[.slice B g.entities.length d]) g:=by
 obtain⟨c0,c1,c2,c3,c4,rfl,h0,h1,h2,h3,h4⟩:=h;have l0:=gZ.len h0;have l1:=iK.len h1;have l3:=dH.len h3;obtain⟨Ac,cc,rfl,_⟩:=h2.form;obtain⟨Ae,ce,rfl,_⟩:=h4.form;refine⟨c0,c1,Ac,cc,c3,Ae,ce,rfl,l0,l1,l3,h2,h4,λw' Q' A c B d hb hq k2 k4=>⟨c0,c1,_,c3,_,rfl,h0,?_,k2,?_,k4⟩⟩
 ·obtain⟨a,b,c,e,k⟩:=h1;exact⟨a,b,c,e,k⟩
 ·obtain⟨d0,d1,d2,d3,d4,d5,d6,d7,d8,d9,d10,d11,d12,d13,d14,e,k⟩:=h3;exact⟨d0,d1,d2,d3,d4,d5,d6,d7,d8,d9,d10,d11,d12,d13,d14,e,k⟩
def vF (x:ak) (w:World) (e:Ending) (w':World):Prop:=∃A c,e=.returned (.agg #[x.id,x.entity,x.date,x.kind,x.of_,x.text,.slice A x.lines.length c])/\
 aj bc 3 w' (λq=>w.heap.size<=q/\q<w'.heap.size) [.slice A x.lines.length c] x.lines/\Below w.heap.size w w'
theorem AF {l:List bG} {w:World} {Q:Nat->Prop} {base:Nat} {v:Value} (h:w.ownsRow base 60 3 v l.length (l.flatMap iH)) (hb:∀x∈l,nZ x) (hQ:∀g,v.ownBlock=some g->Q g):aj bc 3 w Q [v] l:=
 kO (css:=l.map iH) (λcs hc=>by obtain⟨x,_,rfl⟩:=List.mem_map.1 hc;rfl) (by rw[<-List.flatMap_def];exact h)
  (λi x hi=>⟨iH x,by rw[List.getElem?_map,hi];rfl,[_],[_],[_],rfl,⟨rfl,(hb x (List.mem_of_getElem? hi)).1⟩,⟨rfl,(hb x (List.mem_of_getElem? hi)).2.1⟩,⟨rfl,(hb x (List.mem_of_getElem? hi)).2.2⟩⟩) hQ
theorem Ek {l:List bG} {w:World} {Q:Nat->Prop} {A:Option Addr} {n c:Nat} (h:aj bc 3 w Q [.slice A n c] l):∀x∈l,nZ x:=λx hx=>by
 obtain⟨cs,h1⟩:=h.elt hx;exact(bc.lit h1).2
theorem DR (xi xe xd xk xo:Int) (xt:ByteArray) (ls:List bG) (Al:Option Addr) (cl:Nat) (w:World) (hl:aj bc 3 w (·<w.heap.size) [.slice Al ls.length cl] ls) (hn:ls.length<=100000):Calls Tryz.prog 152 #[.agg #[xi,xe,xd,xk,xo,xt,.slice Al ls.length cl]] w (vF ⟨xi,xe,xd,xk,xo,xt,ls⟩ w):=by
 have HL:=H_ hl;obtain⟨nl,bj⟩:∃n,ls.length=n:=⟨_,rfl⟩;have HN:=H_ bj;rw[bj]at hn |-;have HRD:=H_ (show Rd w (·<w.heap.size) Al nl 3 (ls.flatMap iH) by rw[<-bj];exact vd (λcs x h=>(bc.lit h).1) (λ_=>rfl) (by omega) hl);obtain⟨fl,ID⟩:∃f,ls.flatMap iH=f:=⟨_,rfl⟩;have HFL:=H_ ID;rw[ID]at HRD;have F4:=H_ (show ∀u∈fl,u.oneCell'=true from ID▸O3 ls);clear hl bj ID;go_enter Tryz.func152,Tryz.ntmps152;go_upto_region 1 with fail;obtain⟨W,hW,H,HB,HS,ewx⟩:=B_ w (.cells #[xi,xe,xd,xk,xo,xt,.slice Al nl cl] 51);rw[hW];clear ewx;obtain⟨W2,fR,H2,dz,jK,ewx⟩:=B_ W (.cells #[(),(),(),(),(),.string ⟨#[]⟩,.slice none 0 0] 51);rw[fR];replace H:=(dz.block _ (ag H)).trans H;clear ewx;clear fR;have eW:W.heap.size=w.heap.size+1:=by rw[<-hW];simp
 rw[eW]at H2;clear hW;have aH:=HB.trans (dz.mono HB.size);have dW:=dz.size;have lV:=ag H2;have nf:w.heap.size<W2.heap.size:=by omega
 have HH:=H_ H;have HZ:=H_ H2;have EW:=H_ eW;clear H H2 eW;have c6:=ab HH.o 6;go_wp2_with fail;refine(ON Al nl cl fl W2 ((HRD.o.fr (Fr.ofBelow aH)).mono (λq (hq:q<w.heap.size)=>Nat.lt_of_lt_of_le hq aH.size)) F4.o hn).mono ?_;rintro e w3 ⟨v,rfl,bv,aZ⟩;have aF:=aH;have ku:=nf;have kt:=lV;have dn:=HH;have qN:=HZ;have aR:=aF.trans (aZ.mono aF.size);have lE:=aZ.size;have nD:=Nat.lt_of_lt_of_le ku lE;have nK:=Nat.lt_of_lt_of_le kt lE;have kS:=k_ aZ dn;have l7:=k_ aZ qN;obtain⟨A9,n9,c9,rfl⟩:=bS bv;have iI:=H_ bv;have s6:=ab kS.o 6;have s7:=bB kS.o 6;clear bv c6;go_upto_region 2 with fail;have H4:=aG kS.o 6 (.slice A9 n9 c9);have gw:=(Below.refl W2.heap.size w3);have bU:Below w.heap.size w (w3.setCell ⟨w.heap.size,6,none⟩ (.slice A9 n9 c9)):=aR.setCell (p:=⟨w.heap.size,6,none⟩) (Nat.le_refl _) _;have kX:=(Below.heap_setCell w3 ⟨w.heap.size,6,none⟩ (.slice A9 n9 c9) (w.heap.size+1) (by show w.heap.size+1≠w.heap.size;omega)).trans l7.o;have HO4:=cU (w':=w3.setCell ⟨w.heap.size,6,none⟩ (.slice A9 n9 c9)) iI.o (λg hg=>Below.heap_setCell w3 ⟨w.heap.size,6,none⟩ _ g (by show g≠w.heap.size;have:=(iI.o.lt _ hg).1;omega));generalize w3.setCell ⟨w.heap.size,6,none⟩ (.slice A9 n9 c9)=W4 at*;have JY:=H_ (show W4.heap[w.heap.size]? =some (.cells #[xi,xe,xd,xk,xo,xt,.slice A9 n9 c9] 51 (0,0))from H4);have QW:=H_ kX;have Kw:=H_ HO4;have go:=H_ bU;clear H4 kX HO4 bU s6 s7 gw;go_wp2_with (first|(refine W_ 7 51 1 w.heap.size JY.o aY Tryz.underlying51 ?_)|(show wpList _ _ _ (Oper.mk none (Op.store _ (Operand.tmp 2) _) _ _ _ _::_) _ _;refine wpList_store_row rfl 51 (.tmp 2) (.tmp 7) rfl (w.heap.size+1) #[xi,xe,xd,xk,xo,xt,.slice A9 n9 c9] rfl rfl 51 #[(),(),(),(),(),.string ⟨#[]⟩,.slice none 0 0] QW.o (by rw[aY];rfl) rfl (by simp[Value.oneCell']) ?_));refine bodyPost_ret (v:=_) (eT rfl _ _ (w.heap.size+1) 51 _ (0,0) _ rfl (aB QW.o _) Tryz.underlying51 rfl aY) rfl ?_;have NX:=cC W4 (w.heap.size+1) #[xi,xe,xd,xk,xo,xt,.slice A9 n9 c9];have hss:(W4.setRow (w.heap.size+1) #[xi,xe,xd,xk,xo,xt,.slice A9 n9 c9]).heap.size=W4.heap.size:=by simp
 have lO:=cU (w':=W4.setRow (w.heap.size+1) #[xi,xe,xd,xk,xo,xt,.slice A9 n9 c9]) Kw.o (λg hg=>NX.block g (by show g≠w.heap.size+1;have:=(iI.o.lt _ hg).1;omega));rw[<-HFL.o,<-HN.o]at lO;have hL:=AF (Q:=λq=>w.heap.size<=q/\q< (W4.setRow (w.heap.size+1) #[xi,xe,xd,xk,xo,xt,.slice A9 n9 c9]).heap.size) lO (Ek HL.o) (λg hg=>⟨by have:=(iI.o.lt _ hg).1;omega,(lO.lt _ hg).2⟩);obtain rfl:n9=ls.length:=by
  obtain⟨_,_,e,_⟩:=hL;simp only[List.cons.injEq,and_true,Value.slice.injEq]at e;exact e.2.1
 exact⟨A9,c9,rfl,hL,aD go.o (by omega) _⟩
def aia (g:au) (w:World) (e:Ending) (w':World):Prop:=∃gl:List Value,e=.returned (.agg gl.toArray)/\aL w' (λq=>w.heap.size<=q/\q<w'.heap.size) gl g/\Below w.heap.size w w'
def gY (W:World) (T:TypeId) (size n:Nat) (xs:List Value) (v:Value) (w:World):Prop:=w.ownsRow W.heap.size T size v n xs
theorem gY.keep (W:World) (T:TypeId) (size n:Nat) (xs:List Value):∀v w w',Below w.heap.size w w'->gY W T size n xs v w->gY W T size n xs v w':=λv w w' hb h=>bb h hb
def QE (B gE n i k q:Nat):Prop:=(i<k/\gE<q/\q<n)\/(¬i<k/\q<B)
def nM (es:List aV) (B gE k:Nat) (w:World):Prop:=∀i (h:i<es.length),∃cs,aN w (QE B gE w.heap.size i k) cs es[i]/\At w (λq=>q=gE) ⟨gE,i*5,none⟩ cs
theorem nM.fr {es:List aV} {B gE k:Nat} {w w':World} (h:nM es B gE k w) (hg:B<=gE) (RI:gE<w.heap.size) (hb:Below w.heap.size w w'):nM es B gE k w':=λi hi=>by
 obtain⟨cs,h1,h2⟩:=h i hi;refine⟨cs,?_,h2.fr ((Fr.ofBelow hb).mono (λq hq=>by subst hq;exact RI))⟩;have bP:=hb.size;exact aN.mono (aN.fr h1 ((Fr.ofBelow hb).mono (λq hq=>by unfold QE at hq;omega))) (λq hq=>by unfold QE at hq |-;omega)
theorem fW (w:World) (b p o:Nat) (u:Value) (h:p≠o):(w.setCell ⟨b,p,none⟩ u).cell? ⟨b,o,none⟩=w.cell? ⟨b,o,none⟩:=World.cell?_setCell_other _ _ _ _ (λe=>h (by injection e))
theorem EZ {w:World} {b o:Nat} {u v:Value} (h:w.cell? ⟨b,o,none⟩=some v):(w.setCell ⟨b,o,none⟩ u).cell? ⟨b,o,none⟩=some u:=World.cell?_setCell_same _ _ _ h
theorem BH {w:World} {b o p:Nat} {cs:List Value} {u:Value} (h:At w (λq=>q=b) ⟨b,o,none⟩ cs) (hp:p<o\/o+cs.length<=p):At (w.setCell ⟨b,p,none⟩ u) (λq=>q=b) ⟨b,o,none⟩ cs:=
 ⟨rfl,λj x hj=>by
  have hl:=(List.getElem?_eq_some_iff.1 hj).1;obtain⟨h1,h2⟩:=h.2 j x hj;rw[Addr.add_lit]at h1 h2 |-;refine⟨?_,?_⟩
  ·rw[<-h1];exact World.cell?_setCell_other _ _ _ _ (λe=>by injection e;omega)
  ·rw[<-h2];exact World.frozen?_setCell _ _ _ _⟩
theorem mr {α:Type} {El:World->(Nat->Prop)->List Value->α->Prop} {f:α->List Value} {size:Nat} {l:List α} {w:World} {Q:Nat->Prop} {base:Nat} {T:TypeId} {v:Value} (hf:∀x,(f x).length=size) (h:w.ownsRow base T size v l.length (l.flatMap f)) (hE:∀x∈l,El w Q (f x) x) (hQ:∀g,v.ownBlock=some g->Q g):aj El size w Q [v] l:=
 kO (css:=l.map f) (λcs hc=>by obtain⟨x,_,rfl⟩:=List.mem_map.1 hc;exact hf x) (by rw[<-List.flatMap_def];exact h)
  (λi x hi=>⟨f x,by rw[List.getElem?_map,hi];rfl,hE x (List.mem_of_getElem? hi)⟩) hQ
theorem I4 {l:List ah} {w:World} {Q:Nat->Prop} {A:Option Addr} {n c:Nat} (h:aj ar 4 w Q [.slice A n c] l):∀x∈l,pG x:=λx hx=>by
 obtain⟨cs,h1⟩:=h.elt hx;exact(ar.lit h1).2
theorem Pc {l:List bu} {w:World} {Q:Nat->Prop} {A:Option Addr} {n c:Nat} (h:aj bJ 3 w Q [.slice A n c] l):∀x∈l,mM x:=λx hx=>by
 obtain⟨cs,h1⟩:=h.elt hx;exact(bJ.lit h1).2
theorem fV {w:World} {base:Nat} {T:TypeId} {size n m c:Nat} {A:Option Addr} {xs:List Value} (h:w.ownsRow base T size (.slice A m c) n xs):m=n:=by
 rcases h.2 with⟨e,h0⟩|⟨g,cap,aw,e,_⟩
 ·injection e with _ e2 _;omega
 ·injection e with _ e2 _
theorem nM.step {es:List aV} {B gE k:Nat} {w:World} (h:nM es B gE k w) (hg:B<=gE) (RI:gE<w.heap.size) (hk:k<es.length) {A1 A2:Option Addr} {c1 c2:Nat}
 (h1:w.ownsRow (gE+1) 78 4 (.slice A1 es[k].chart.length c1) es[k].chart.length (es[k].chart.flatMap bn)) (b1:∀x∈es[k].chart,pG x)
 (h2:w.ownsRow (gE+1) 154 3 (.slice A2 es[k].links.length c2) es[k].links.length (es[k].links.flatMap eI)) (b2:∀x∈es[k].links,mM x):
 nM es B gE (k+1) ((w.setCell ⟨gE,k*5+2,none⟩ (.slice A1 es[k].chart.length c1)).setCell ⟨gE,k*5+3,none⟩ (.slice A2 es[k].links.length c2)):=by
 have hf:Fr (λq=>q≠gE) w ((w.setCell ⟨gE,k*5+2,none⟩ (.slice A1 es[k].chart.length c1)).setCell ⟨gE,k*5+3,none⟩ (.slice A2 es[k].links.length c2)):=
  ((Fr.refl _ _).setCell (p:=⟨gE,k*5+2,none⟩) (by simp) _).setCell (p:=⟨gE,k*5+3,none⟩) (by simp) _
 intro i hi;obtain⟨cs,k1,k2⟩:=h i hi;have hl:=k1.len;rcases Nat.lt_trichotomy i k with TG|rfl|TG
 ·refine⟨cs,?_,BH (BH k2 (.inr (by rw[hl];omega))) (.inr (by rw[hl];omega))⟩;have bP:=hf.size;exact aN.mono (aN.fr k1 (hf.mono λq hq=>by unfold QE at hq;omega)) (λq hq=>by unfold QE at hq |-;omega)
 ·obtain⟨Ec,c3,Al,cl,rfl,_,_⟩:=aN.lit k1;have bP:=hf.size;have q1:∀g,Value.ownBlock (.slice A1 es[i].chart.length c1)=some g->g≠gE/\g<w.heap.size/\gE<g:=λg rG=>by have:=h1.lt _ rG;omega
  have q2:∀g,Value.ownBlock (.slice A2 es[i].links.length c2)=some g->g≠gE/\g<w.heap.size/\gE<g:=λg rG=>by have:=h2.lt _ rG;omega
  refine⟨lH es[i].name es[i].currency A1 es[i].chart.length c1 A2 es[i].links.length c2 es[i].joint,?_,rfl,λj u hj=>?_⟩
  ·refine aN.mk ?_ ?_
   ·exact mr (λ_=>rfl) (cU h1 (λg rG=>hf.block g (q1 g rG).1)) (λx hx=>tY (b1 x hx)) (λg rG=>by have:=q1 g rG;unfold QE;omega)
   ·exact mr (λ_=>rfl) (cU h2 (λg rG=>hf.block g (q2 g rG).1)) (λx hx=>En (b2 x hx)) (λg rG=>by have:=q2 g rG;unfold QE;omega)
  ·rw[Addr.add_lit];have hj5:j<5:=(List.getElem?_eq_some_iff.1 hj).1;have mB:=λ(j:Nat) (u:Value) (hj:(lH es[i].name es[i].currency Ec es[i].chart.length c3 Al es[i].links.length cl es[i].joint)[j]? =some u)=>k2.2 j u hj
   simp only[Addr.add_lit]at mB;have dS:∀p:Addr,((w.setCell ⟨gE,i*5+2,none⟩ (.slice A1 es[i].chart.length c1)).setCell ⟨gE,i*5+3,none⟩ (.slice A2 es[i].links.length c2)).frozen? p=w.frozen? p:=λp=>by simp
   have hj':j=0\/j=1\/j=2\/j=3\/j=4:=by omega
   rcases hj' with rfl|rfl|rfl|rfl|rfl
   ·obtain rfl:=Option.some.inj hj;obtain⟨h3,h4⟩:=mB 0 _ rfl;exact⟨(fW _ _ _ _ _ (by omega)).trans ((fW _ _ _ _ _ (by omega)).trans h3),by rw[dS];exact h4⟩
   ·obtain rfl:=Option.some.inj hj;obtain⟨h3,h4⟩:=mB 1 _ rfl;exact⟨(fW _ _ _ _ _ (by omega)).trans ((fW _ _ _ _ _ (by omega)).trans h3),by rw[dS];exact h4⟩
   ·obtain rfl:=Option.some.inj hj;obtain⟨h3,h4⟩:=mB 2 _ rfl;exact⟨(fW _ _ _ _ _ (by omega)).trans (EZ h3),by rw[dS];exact h4⟩
   ·obtain rfl:=Option.some.inj hj;obtain⟨h3,h4⟩:=mB 3 _ rfl;exact⟨EZ ((fW _ _ _ _ _ (by omega)).trans h3),by rw[dS];exact h4⟩
   ·obtain rfl:=Option.some.inj hj;obtain⟨h3,h4⟩:=mB 4 _ rfl;exact⟨(fW _ _ _ _ _ (by omega)).trans ((fW _ _ _ _ _ (by omega)).trans h3),by rw[dS];exact h4⟩
 ·refine⟨cs,?_,BH (BH k2 (.inl (by omega))) (.inl (by omega))⟩;exact aN.mono (aN.fr k1 (hf.mono λq hq=>by unfold QE at hq;omega)) (λq hq=>by unfold QE at hq |-;omega)
theorem aey {c0 c1 c3:List Value} (a b a' b':Value) (l0:c0.length=1) (l1:c1.length=3) (l3:c3.length=15):((c0++c1++[a]++c3++[b]).set 4 a').set 20 b'=c0++c1++[a']++c3++[b']:=by
 simp[List.set_append,l0,l1,l3]
theorem Jg {w:World} {Q:Nat->Prop} {cs:List Value} {g:au} (h:aL w Q cs g):∀u∈cs,u.oneCell'=true:=λu hu=>by
 obtain⟨Ac,cc,Ae,ce,rfl,_⟩:=h.lit;simp only[fT,List.mem_cons,List.mem_append,List.not_mem_nil,or_false]at hu;rcases hu with rfl|rfl|rfl|rfl|rfl|rfl|rfl|rfl|rfl|rfl|rfl|rfl|rfl|rfl|rfl|rfl|rfl|rfl|rfl|rfl|rfl<;>rfl
theorem Ks.cells {W w w':World} {ks:List VV} {b:Nat} (hb:b<W.heap.size) (hw:∀q,q≠b->w'.heap[q]? =w.heap[q]?) (JP:∀k∈ks,(∃u,k=.val u)\/∃T size n xs,k=.own (gY W T size n xs) (gY.keep W T size n xs)) (i:Nat) (v:Value) (h:Ks W ks i v w):Ks W ks i v w':=λk hk=>by
 have h1:=h k hk;rcases JP k (List.mem_of_getElem? hk)with⟨u,rfl⟩|⟨T,size,n,xs,rfl⟩
 ·exact h1
 ·exact cU (show w.ownsRow W.heap.size T size v n xs from h1) (λg hg=>hw g (by have:=((show w.ownsRow W.heap.size T size v n xs from h1).lt _ hg).1;omega))
theorem Ea (g:au) (gl:List Value) (w:World) (hg:aL w (·<w.heap.size) gl g) (ci:dQ g) (tB:0<g.entities.length):Calls Tryz.prog 149 #[.agg gl.toArray] w (aia g w):=by
 obtain⟨c0,c1,Ac,cc,c3,Ae,ce,fZ,l0,l1,l3,ee,iu,NS⟩:=hg.parts;have Yc:=H_ NS;have Ow:=H_ ee;have Vj:=H_ iu;obtain⟨css,mH,hc5,hcE,hrd⟩:=PT (λcs x h=>aN.len h) (by omega) iu;have J4:=SJ (λcs x h=>SP h) mH hcE;have MG:=H_ hcE;have XD:=H_ hc5;obtain⟨nc,Rc⟩:∃n,g.chart.length=n:=⟨_,rfl⟩;obtain⟨ne,bT⟩:∃n,g.entities.length=n:=⟨_,rfl⟩;have HNC:=H_ Rc;have eP:=H_ bT;have eX:gl.length=21:=hg.len;have g4:gl[4]? =some (.slice Ac nc cc):=by rw[fZ,<-Rc];simp[List.getElem?_append,l0,l1,l3]
 have iJ:gl[20]? =some (.slice Ae ne ce):=by rw[fZ,<-bT];simp[List.getElem?_append,l0,l1,l3]
 have yO:=H_ fZ;have HL0:=H_ l0;have IE:=H_ l1;have Bc:=H_ l3;have R0:=H_ eX;have iX:=H_ (show gl.toArray[4]? =some (.slice Ac nc cc) by simpa using g4);have rU:=H_ (show gl.toArray[20]? =some (.slice Ae ne ce) by simpa using iJ);have VE:nc<=100000:=by rw[<-Rc];have:=ci.1;omega
 have oO:ne<=100000:=by rw[<-bT];have:=ci.2.1;omega
 have hp:0<ne:=by rw[<-bT];exact tB
 have sW:=H_ ci;have TK:=H_ (show Rd w (·<w.heap.size) Ac nc 4 (g.chart.flatMap bn) by rw[<-Rc];exact vd (λcs x h=>(ar.lit h).1) (λ_=>rfl) (by omega) ee);obtain⟨fa,MQ⟩:∃f,g.chart.flatMap bn=f:=⟨_,rfl⟩;have FI:=H_ MQ;rw[MQ]at TK;have HA1:=H_ (show ∀u∈fa,u.oneCell'=true from MQ▸I3 g.chart);rw[bT]at hrd;obtain⟨fe,hfe⟩:∃f,css.flatten=f:=⟨_,rfl⟩;have HFE:=H_ hfe;rw[hfe]at hrd J4;have yP:=H_ hrd;have HE1:=H_ J4;have HGO:=H_ (Jg hg);clear NS ee iu hcE hc5 J4 hrd Rc bT g4 iJ fZ l0 l1 l3 eX ci tB MQ hfe hg mH;go_enter Tryz.func149,Tryz.ntmps149;go_upto_region 1 with fail;obtain⟨W,hW,H,HB,HS,ewx⟩:=B_ w (.cells gl.toArray 29);rw[hW];clear ewx;obtain⟨W2,fR,H2,dz,jK,ewx⟩:=B_ W (.cells #[.string ⟨#[]⟩,(),(),(),.slice none 0 0,(),(),(),(),(),(),(),(),(),(),(),(),(),(),(),.slice none 0 0] 29);rw[fR];replace H:=(dz.block _ (ag H)).trans H;clear ewx;clear fR;have eW:W.heap.size=w.heap.size+1:=by rw[<-hW];simp
 rw[eW]at H2;clear hW;have aH:=HB.trans (dz.mono HB.size);have dW:=dz.size;have lV:=ag H2;have nf:w.heap.size<W2.heap.size:=by omega
 have HH:=H_ H;have HZ:=H_ H2;have EW:=H_ eW;clear H H2 eW;have c4:=(ab HH.o 4).trans iX.o;go_wp2_with fail;refine(DN Ac nc cc fa W2 ((TK.o.fr (Fr.ofBelow aH)).mono (λq (hq:q<w.heap.size)=>Nat.lt_of_lt_of_le hq aH.size)) HA1.o VE).mono ?_;rintro e w3 ⟨v,rfl,bv,aZ⟩;have aF:=aH;have ku:=nf;have kt:=lV;have dn:=HH;have qN:=HZ;have aR:=aF.trans (aZ.mono aF.size);have lE:=aZ.size;have nD:=Nat.lt_of_lt_of_le ku lE;have nK:=Nat.lt_of_lt_of_le kt lE;have kS:=k_ aZ dn;have l7:=k_ aZ qN;obtain⟨A1,n1,d1,rfl⟩:=bS bv;obtain rfl:=fV bv;have iI:=H_ bv;have s6:=(ab kS.o 4).trans iX.o;have s7:=bB kS.o 4;clear bv c4;go_upto_region 2 with fail;have H4:=aG kS.o 4 (.slice A1 n1 d1);have bU:Below w.heap.size w (w3.setCell ⟨w.heap.size,4,none⟩ (.slice A1 n1 d1)):=aR.setCell (p:=⟨w.heap.size,4,none⟩) (Nat.le_refl _) _;have kX:=(Below.heap_setCell w3 ⟨w.heap.size,4,none⟩ (.slice A1 n1 d1) (w.heap.size+1) (by show w.heap.size+1≠w.heap.size;omega)).trans l7.o;have HO4:=cU (w':=w3.setCell ⟨w.heap.size,4,none⟩ (.slice A1 n1 d1)) iI.o (λg hg=>Below.heap_setCell w3 ⟨w.heap.size,4,none⟩ _ g (by show g≠w.heap.size;have:=(iI.o.lt _ hg).1;omega));have NF:(w3.setCell ⟨w.heap.size,4,none⟩ (.slice A1 n1 d1)).heap.size=w3.heap.size:=by simp
 generalize w3.setCell ⟨w.heap.size,4,none⟩ (.slice A1 n1 d1)=W4 at*;obtain⟨gl1,RT⟩:∃l:List Value,l=gl.set 4 (.slice A1 n1 d1):=⟨_,rfl⟩;have JY:=H_ (show W4.heap[w.heap.size]? =some (.cells gl1.toArray 29 (0,0)) by rw[H4,RT];simp);have Gg:=H_ (show gl1.toArray[20]? =some (.slice Ae ne ce) by have:=rU.o;rw[RT];simpa using this);have Yk:=H_ RT;have QW:=H_ kX;have Kw:=H_ HO4;have aaK:=H_ NF;have bD:=bU;have tx:w.heap.size<W4.heap.size:=by rw[NF];exact nD
 have rR:w.heap.size+1<W4.heap.size:=by rw[NF];exact nK
 have Mp:=(ab JY.o 20).trans Gg.o;clear H4 kX HO4 bU s6 s7 RT NF;go_wp2_with fail;refine(OL Ae ne ce fe W4 ((yP.o.fr (Fr.ofBelow bD)).mono (λq (hq:q<w.heap.size)=>Nat.lt_of_lt_of_le hq bD.size)) HE1.o oO).mono ?_;rintro e w5 ⟨v,rfl,bv,cP⟩;have fG:=bD.trans (cP.mono bD.size);have QU:=cP.size;have Q7:=k_ cP JY;have vv:=k_ cP QW;have aeb:=H_ (bb Kw.o (cP.mono (by have:=aaK.o;have:=aR.size;have:=aH.size;omega)));obtain⟨gE,d2,rfl,ae6,aeV⟩:=bv.form hp;have gr:ne<=d2/\d2<=maxLen:=by
  rcases bv.2 with⟨h,_⟩|⟨g',abp,aw,h,_,_,h3,h4,_⟩
  ·simp at h
  ·injection h with _ _ e3;omega
 have Y6:=H_ gr;have C6:=H_ bv;have s6:=(ab Q7.o 20).trans Gg.o;have s7:=bB Q7.o 20;clear bv Mp gr;go_upto_region 3 with fail;have H6:=aG Q7.o 20 (.slice (some ⟨gE,0,none⟩) ne d2);have dd:Below w.heap.size w (w5.setCell ⟨w.heap.size,20,none⟩ (.slice (some ⟨gE,0,none⟩) ne d2)):=fG.setCell (p:=⟨w.heap.size,20,none⟩) (Nat.le_refl _) _;have Ri:Fr (λq=>q≠w.heap.size) w5 (w5.setCell ⟨w.heap.size,20,none⟩ (.slice (some ⟨gE,0,none⟩) ne d2)):=(Fr.refl _ _).setCell (p:=⟨w.heap.size,20,none⟩) (by simp) _;have CL:(w5.setCell ⟨w.heap.size,20,none⟩ (.slice (some ⟨gE,0,none⟩) ne d2)).heap.size=w5.heap.size:=by simp
 generalize w5.setCell ⟨w.heap.size,20,none⟩ (.slice (some ⟨gE,0,none⟩) ne d2)=W6 at*;obtain⟨J0,C4⟩:∃l:List Value,l=gl1.set 20 (.slice (some ⟨gE,0,none⟩) ne d2):=⟨_,rfl⟩;have QP:=H_ (show W6.heap[w.heap.size]? =some (.cells J0.toArray 29 (0,0)) by rw[H6,C4];simp);have No:gl1.length=21:=by rw[Yk.o];simpa using R0.o
 have CD:=H_ (show J0.toArray[20]? =some (.slice (some ⟨gE,0,none⟩) ne d2) by rw[C4];simp[No]);have IJ:=H_ (show J0.toArray.size=21 by rw[C4];simpa using No);have adq:=H_ C4;have IT:=H_ (show ∀u∈J0,u.oneCell'=true by
  intro u hu;rw[C4,Yk.o]at hu;rcases List.mem_or_eq_of_mem_set hu with hu|rfl
  ·rcases List.mem_or_eq_of_mem_set hu with hu|rfl
   ·exact HGO.o u hu
   ·rfl
  ·rfl)
 have pz:=H_ ((Ri.block (w.heap.size+1) (by show w.heap.size+1≠w.heap.size;omega)).trans vv.o);have aff:w.heap.size+1<gE:=by omega
 have ga:=H_ (cU aeb.o (λg hg=>Ri.block g (by show g≠w.heap.size;have:=(iI.o.lt _ hg).1;omega)));have kW:nM g.entities w.heap.size gE 0 W6:=λi hi=>by
  obtain⟨cs,k1,k2⟩:=MG.o i _ (List.getElem?_eq_getElem hi);have tQ:Below w.heap.size w W6:=dd;have jJ:=cU (w':=W6) C6.o (λg hg=>by
   have:g=gE:=by simpa[Value.ownBlock]using hg.symm
   subst this;exact Ri.block g (by show g≠w.heap.size;omega))
  rw[<-HFE.o]at jJ;refine⟨cs,aN.mono (aN.fr k2 (Fr.ofBelow tQ)) (λq hq=> .inr ⟨by omega,hq⟩),?_⟩;have:=At.flat XD.o 0 (xN jJ (Q:=λq=>q=gE) rfl) i cs k1;simpa using this
 have tA:=H_ kW;have aaE:w.heap.size<W6.heap.size:=by omega
 have aag:gE<W6.heap.size:=by omega
 have dK:=H_ dd;have abD:=H_ CL;have Mp:=(ab QP.o 20).trans CD.o;clear H6 Ri C4 No s6 s7 kW dd CL;go_wp2_with fail;clear Mp
 go_loopw [16] (λi wr=>∃k:Nat,k<=ne/\i=.int .i64 (k:Int)/\Fr (QX W6.heap.size gE) W6 wr/\nM g.entities w.heap.size gE k wr) (λi _=>ne- (intOf i).toNat)
 case atStart=>exact⟨0,by omega,rfl,Fr.refl _ _,tA.o⟩
 case round=>
  obtain⟨k,hk,rfl,lM,hE⟩:=hrel;have HF:=H_ lM;have HEA:=H_ hE;have bP:=lM.size;have MN:=H_ (show gE<wr.heap.size by omega);have Mo:=H_ ((lM.block w.heap.size ⟨aaE,by omega⟩).trans QP.o);by_cases aU:k<ne
  case pos=>
   have bq:(k:Int)< (ne:Int):=by omega
   have bI:k<g.entities.length:=by rw[eP.o];exact aU
   obtain⟨cs,k1,k2⟩:=hE k bI;obtain⟨Ac2,Mx,Al,cl,ft,fP,Bg⟩:=aN.lit k1;subst ft;have Fk:=sW.o.2.2.2 _ (List.getElem_mem bI);have XK:=H_ fP;have Yj:=H_ Bg;have k3:=k2.c (j:=2) rfl;have k4:=k2.c (j:=3) rfl;have f3:=(k2.2 2 _ rfl).2;have f4:=(k2.2 3 _ rfl).2;rw[Addr.add_lit]at f3 f4;obtain⟨x,hx⟩:=x_ (g.entities[k]);rw[hx]at k3 k4 Fk XK Yj;have HX:=H_ hx;obtain⟨Kr,NC⟩:∃n,x.chart.length=n:=⟨_,rfl⟩;obtain⟨Vu,nC⟩:∃n,x.links.length=n:=⟨_,rfl⟩;have aa8:=H_ NC;have RB:=H_ nC;have eL:Kr<=100000:=by rw[<-NC];have:=Fk.1;omega
   have hb2':Vu<=100000:=by rw[<-nC];have:=Fk.2.1;omega
   rw[NC]at k3;rw[nC]at k4;have rJ:w.heap.size<=wr.heap.size:=by omega
   have hq:∀q,QE w.heap.size gE wr.heap.size k k q->q<wr.heap.size:=λq hq=>by unfold QE at hq;omega
   have HRC:=H_ (show Rd wr (·<wr.heap.size) Ac2 Kr 4 (x.chart.flatMap bn) by rw[<-NC];exact(vd (λcs x h=>(ar.lit h).1) (λ_=>rfl) (by omega) XK.o).mono hq);have Vf:=H_ (show Rd wr (·<wr.heap.size) Al Vu 3 (x.links.flatMap eI) by rw[<-nC];exact(vd (λcs x h=>(bJ.lit h).1) (λ_=>rfl) (by omega) Yj.o).mono hq);obtain⟨fc,MP⟩:∃f,x.chart.flatMap bn=f:=⟨_,rfl⟩;obtain⟨fk,hfk⟩:∃f,x.links.flatMap eI=f:=⟨_,rfl⟩;have ny:=H_ MP;have X9:=H_ hfk;rw[MP]at HRC;rw[hfk]at Vf;have HO1:=H_ (show ∀u∈fc,u.oneCell'=true from MP▸I3 x.chart);have HO2:=H_ (show ∀u∈fk,u.oneCell'=true from hfk▸Pb x.links);have Yr:=H_ (λ(w2:World) (hS:Below wr.heap.size wr w2)=>DN Ac2 Kr Mx fc w2 ((HRC.o.fr (Fr.ofBelow hS)).mono (λq (hq:q<wr.heap.size)=>Nat.lt_of_lt_of_le hq hS.size)) HO1.o eL);have lg:=H_ (λ(w2:World) (hS:Below wr.heap.size wr w2)=>OM Al Vu cl fk w2 ((Vf.o.fr (Fr.ofBelow hS)).mono (λq (hq:q<wr.heap.size)=>Nat.lt_of_lt_of_le hq hS.size)) HO2.o hb2');have jv:=H_ k3;have kB:=H_ k4;have IH:=H_ f3;have HF4:=H_ f4;have Mp:=(ab Mo.o 20).trans CD.o;clear k1 k2 k3 k4 f3 f4 fP Bg hx NC nC MP hfk Fk hE lM hq;go_upto_region 7 with fail;clear Mp;refine cV 14 (λi=>i==1) (Ks wr [.val (.pointer (some ⟨gE,(k*5),none⟩)),.val (.pointer (some ⟨gE,(k*5),none⟩)),.val (.pointer (some ⟨gE,(k*5),none⟩)),.val (.pointer (some ⟨gE,(k*5),none⟩)),.val (.pointer (some ⟨gE,(k*5)+2,none⟩)),.val (.slice Ac2 Kr Mx),.own (gY wr 78 4 Kr fc) (gY.keep _ _ _ _ _),.val (.pointer (some ⟨gE,(k*5),none⟩)),.val (.pointer (some ⟨gE,(k*5),none⟩)),.val (.pointer (some ⟨gE,(k*5)+3,none⟩)),.val (.slice Al Vu cl),.own (gY wr 154 3 Vu fk) (gY.keep _ _ _ _ _),.val (.pointer (some ⟨gE,(k*5),none⟩)),.val (.pointer (some ⟨gE,(k*5)+2,none⟩))])
    (λw'=>Below wr.heap.size wr w') (Ks wr [.val (.pointer (some ⟨gE,(k*5),none⟩)),.val (.pointer (some ⟨gE,(k*5),none⟩)),.val (.pointer (some ⟨gE,(k*5),none⟩)),.val (.pointer (some ⟨gE,(k*5),none⟩)),.val (.pointer (some ⟨gE,(k*5)+2,none⟩)),.val (.slice Ac2 Kr Mx),.own (gY wr 78 4 Kr fc) (gY.keep _ _ _ _ _),.val (.pointer (some ⟨gE,(k*5),none⟩)),.val (.pointer (some ⟨gE,(k*5),none⟩)),.val (.pointer (some ⟨gE,(k*5)+3,none⟩)),.val (.slice Al Vu cl),.own (gY wr 154 3 Vu fk) (gY.keep _ _ _ _ _),.val (.pointer (some ⟨gE,(k*5),none⟩)),.val (.pointer (some ⟨gE,(k*5)+2,none⟩))])
    (λw'=>∃(w3:World) (A3:Option Addr) (d3:Nat),Below wr.heap.size wr w3/\gY wr 78 4 Kr fc (.slice A3 Kr d3) w3/\w'=w3.setCell ⟨gE,(k*5)+2,none⟩ (.slice A3 Kr d3)) K_ K_ K_ (by decide) K_ K_ K_ K_ rfl K_ _ rfl rfl (Below.refl _ _).drew ?_ ?_ ?_ ?_
   ·refine⟨b_ (q_ 4),b_ (q_ 4),b_ (q_ 4),b_ (p_ 2 25),b_ (p_ 3 26),e_ (p_ 4 27) λ_ h=>l_ h MN.o jv.o,?_,b_ (q_ 4),b_ (p_ 7 30),b_ (p_ 8 31),e_ (p_ 9 32) λ_ h=>l_ h MN.o kB.o,?_,b_ (p_ 0 23),b_ (p_ 12 35),trivial⟩
    ·refine O1_ (p_ 5 28) λA0 w2 K e0 hS hK=>?_;go_simp
     go_at_call 188
     refine(Yr.o w2 hS).mono ?_;rintro e w3 ⟨v,rfl,hv,h3⟩;exact hK.out _ _ (hS.trans (h3.mono hS.size)) (Ks.of rfl (show gY wr _ _ _ _ v w3 from mo hv hS.size)) (Ks.keep h3)
    ·refine O1_ (p_ 10 33) λA0 w2 K e0 hS hK=>?_;go_simp
     go_at_call 190
     refine(lg.o w2 hS).mono ?_;rintro e w3 ⟨v,rfl,hv,h3⟩;exact hK.out _ _ (hS.trans (h3.mono hS.size)) (Ks.of rfl (show gY wr _ _ _ _ v w3 from mo hv hS.size)) (Ks.keep h3)
   ·intro _ A0 w2 hI hall K hK;obtain⟨gU,eK,fA⟩:=hI.got 13 _ 36 rfl rfl (hall 13 (by decide) rfl);obtain⟨x6,g6,h6⟩:=hI.got 6 _ 29 rfl rfl (hall 6 (by decide) rfl);obtain rfl:gU=.pointer (some ⟨gE,(k*5)+2,none⟩):=fA _ rfl;have k6:gY wr _ _ _ _ x6 w2:=h6 _ rfl;obtain⟨A3,n3,d3,rfl⟩:=bS k6;obtain rfl:=fV k6;have hS:=hI.world;have s3:w2.cell? ⟨gE,(k*5)+2,none⟩=some (.slice Ac2 n3 Mx):=(hS.cell (p:=⟨gE,k*5+2,none⟩) MN.o).trans jv.o;have t3:w2.frozen? ⟨gE,(k*5)+2,none⟩=false:=((Fr.ofBelow hS).frozen (p:=⟨gE,k*5+2,none⟩) MN.o).trans IH.o;have e0:A0.tmps[36]?.getD undef=.pointer (some ⟨gE,(k*5)+2,none⟩):=by simp[eK]
    have e1:A0.tmps[29]?.getD undef=.slice A3 n3 d3:=by simp[g6]
    have HK:=H_ hK;clear hI hall hK;refine aa rfl ?_;go_simp;refine HK.o _ ⟨w2,A3,d3,hS,k6,rfl⟩ ?_;intro i o d u hi ho hd hu hV;exact Ks.cells (b:=gE) MN.o (λq hq=>Below.heap_setCell w2 ⟨gE,(k*5)+2,none⟩ _ q hq) (λkn hk=>by
     simp only[List.mem_cons,List.not_mem_nil,or_false]at hk;rcases hk with rfl|rfl|rfl|rfl|rfl|rfl|rfl|rfl|rfl|rfl|rfl|rfl|rfl|rfl<;>first|exact .inl ⟨_,rfl⟩|exact .inr ⟨_,_,_,_,rfl⟩) i u hV
   ·refine⟨o_,?_,o_,o_,o_,o_,o_,o_,o_,o_,o_,o_,o_,o_,o_,trivial⟩
    ·intro _;intro _ A0 w2 hI hd hnd K hK;have e0:=hI.q hnd 4;exact hI.z hK
   ·intro A0 w2 hI;obtain⟨x0,g0,h0⟩:=hI.got 0 _ 23 rfl rfl rfl;obtain⟨x1,g1,h1⟩:=hI.got 1 _ 24 rfl rfl rfl;obtain⟨x2,g2,h2⟩:=hI.got 2 _ 25 rfl rfl rfl;obtain⟨x3,g3,h3⟩:=hI.got 3 _ 26 rfl rfl rfl;obtain⟨x4,g4,h4⟩:=hI.got 4 _ 27 rfl rfl rfl;obtain⟨x5,g5,h5⟩:=hI.got 5 _ 28 rfl rfl rfl;obtain⟨x6,g6,h6⟩:=hI.got 6 _ 29 rfl rfl rfl;obtain⟨x7,g7,h7⟩:=hI.got 7 _ 30 rfl rfl rfl;obtain⟨x8,g8,h8⟩:=hI.got 8 _ 31 rfl rfl rfl;obtain⟨x9,g9,h9⟩:=hI.got 9 _ 32 rfl rfl rfl;obtain⟨dN,cR,dl⟩:=hI.got 10 _ 33 rfl rfl rfl;obtain⟨ef,dm,dx⟩:=hI.got 11 _ 34 rfl rfl rfl;obtain⟨fh,dR,et⟩:=hI.got 12 _ 35 rfl rfl rfl;obtain⟨gU,eK,fA⟩:=hI.got 13 _ 36 rfl rfl rfl;obtain⟨w3,A3,d3,hS,k6,hw3⟩:=hI.world;obtain⟨y37,o37⟩:∃v,A0.tmps[37]? =some v:=⟨_,hI.oldHead 37 K_⟩;obtain⟨y38,o38⟩:∃v,A0.tmps[38]? =some v:=⟨_,hI.oldHead 38 K_⟩;have hA:A0=_:=hI.tmps [(23,x0),(24,x1),(25,x2),(26,x3),(27,x4),(28,x5),(29,x6),(30,x7),(31,x8),(32,x9),(33,dN),(34,ef),(35,fh),(36,gU),(37,y37),(38,y38)] (by simp only[List.mem_cons,List.not_mem_nil,or_false,forall_eq_or_imp,forall_eq];exact⟨g0,g1,g2,g3,g4,g5,g6,g7,g8,g9,cR,dm,dR,eK,o37,o38⟩) K_;obtain rfl:x0=.pointer (some ⟨gE,(k*5),none⟩):=h0 _ rfl;obtain rfl:x1=.pointer (some ⟨gE,(k*5),none⟩):=h1 _ rfl;have k6z:(gY wr 78 4 Kr fc) x6 w2:=h6 _ rfl;have k11:(gY wr 154 3 Vu fk) ef w2:=dx _ rfl;clear h0 g0 h1 g1 h2 g2 h3 g3 h4 g4 h5 g5 h6 g6 h7 g7 h8 g8 h9 g9 dl cR dx dm et dR fA eK o37 o38 hI;simp only[ba,List.foldl,List.setIfInBounds_toArray,List.set_cons_zero,List.set_cons_succ]at hA;rw[hA];clear hA;simp only[List.drop_succ_cons,List.drop_zero];subst hw3;obtain⟨A4,n4,d4,rfl⟩:=bS k11;obtain rfl:=fV k11;have s4:(w3.setCell ⟨gE,k*5+2,none⟩ (.slice A3 Kr d3)).cell? ⟨gE,k*5+3,none⟩=some (.slice Al n4 cl):=(fW _ _ _ _ _ (by omega)).trans ((hS.cell (p:=⟨gE,k*5+3,none⟩) MN.o).trans kB.o);have t4:(w3.setCell ⟨gE,k*5+2,none⟩ (.slice A3 Kr d3)).frozen? ⟨gE,k*5+3,none⟩=false:=(World.frozen?_setCell _ _ _ _).trans (((Fr.ofBelow hS).frozen (p:=⟨gE,k*5+3,none⟩) MN.o).trans HF4.o);have jK:=H_ hS;have K6:=H_ k6;have K11:=H_ (cU (w':=w3) k11 (λg hg=>(Below.heap_setCell w3 ⟨gE,k*5+2,none⟩ _ g (by show g≠gE;have:=(k11.lt _ hg).1;have:=MN.o;omega)).symm));clear k6 k6z k11 hS;go_wp2_with fail;go_roundw
    case rel=>
     have hS:=jK.o;have h1:=mo (base':=gE+1) K6.o MN.o;have h2:=mo (base':=gE+1) K11.o MN.o;have hEk:=HEA.o.fr (w':=w3) (by omega) MN.o hS;rw[<-ny.o,<-aa8.o,<-HX.o]at h1;rw[<-X9.o,<-RB.o,<-HX.o]at h2;have kW:=hEk.step (by omega) (Nat.lt_of_lt_of_le MN.o hS.size) bI h1 (by rw[HX.o];exact I4 XK.o) h2 (by rw[HX.o];exact Pc Yj.o);rw[HX.o,aa8.o,RB.o]at kW;refine⟨k+1,by omega,by go_num,?_,kW⟩;exact((HF.o.trans ((Fr.ofBelow hS).mono (λq hq=>by have:=hq.1;omega))).setCell (p:=⟨gE,k*5+2,none⟩) (λh=>h.2 rfl) _).setCell (p:=⟨gE,k*5+3,none⟩) (λh=>h.2 rfl) _
    case measure=>first|exact aQ aU|(simp only[intOf];omega)
  case neg=>
   have bq:¬(k:Int)< (ne:Int):=by omega
   have Kz:k=ne:=by omega
   subst Kz;have abS:=H_ ((HF.o.block (w.heap.size+1) ⟨by omega,by omega⟩).trans pz.o);have tQ:Below w.heap.size w wr:=((Fr.ofBelow dK.o).trans (HF.o.mono (λq (hq:q<w.heap.size)=>⟨by omega,by omega⟩))).below;have go:=H_ tQ;have rF:=H_ (cU ga.o (λg hg=>HF.o.block g ⟨by have:=(ga.o.lt _ hg).2;omega,by have:=(iI.o.lt _ hg).2;have:=aaK.o;omega⟩));clear lM hE tQ;go_wp2_with (first|(refine W_ 40 29 1 w.heap.size Mo.o (by rw[ay];exact congrArg some IJ.o.symm) Tryz.underlying29 ?_)|(show wpList _ _ _ (Oper.mk none (Op.store _ (Operand.tmp 2) _) _ _ _ _::_) _ _;refine wpList_store_row rfl 29 (.tmp 2) (.tmp 40) rfl (w.heap.size+1) J0.toArray rfl rfl 29 #[.string ⟨#[]⟩,(),(),(),.slice none 0 0,(),(),(),(),(),(),(),(),(),(),(),(),(),(),(),.slice none 0 0] abS.o (by rw[ay];exact congrArg some IJ.o.symm) (by rw[IJ.o];rfl) ?_ ?_))
   ·exact IT.o
   refine bodyPost_ret (v:=_) (eT rfl _ _ (w.heap.size+1) 29 _ (0,0) _ rfl (aB abS.o _) Tryz.underlying29 rfl (by rw[ay];exact congrArg some IJ.o.symm)) rfl ?_;have NX:=cC wr (w.heap.size+1) J0.toArray;have hss:(wr.setRow (w.heap.size+1) J0.toArray).heap.size=wr.heap.size:=by simp
   have aac:Below w.heap.size w (wr.setRow (w.heap.size+1) J0.toArray):=aD go.o (by omega) _;generalize wr.setRow (w.heap.size+1) J0.toArray=W8 at*;refine⟨J0,rfl,?_,aac⟩;have C4:J0=c0++c1++[.slice A1 g.chart.length d1]++c3++[.slice (some ⟨gE,0,none⟩) g.entities.length d2]:=by
    rw[adq.o,Yk.o,yO.o,HNC.o,eP.o];exact aey _ _ _ _ HL0.o IE.o Bc.o
   rw[C4];have hOA:=cU (w':=W8) rF.o (λq hq=>NX.block q (by show q≠w.heap.size+1;have:=(iI.o.lt _ hq).1;omega));have TX:=Y6.o;refine Yc.o W8 _ A1 d1 _ d2 aac (λq hq=>hq) ?_ ?_
   ·rw[HNC.o];rw[<-HNC.o,<-FI.o]at hOA;have:=mr (El:=ar) (f:=bn) (w:=W8) (Q:=λq=>w.heap.size<=q/\q<W8.heap.size) (λ_=>rfl) hOA (λx hx=>tY (I4 Ow.o x hx)) (λq hq=>⟨by have:=(hOA.lt _ hq).1;omega,(hOA.lt _ hq).2⟩)
    rwa[HNC.o]at this
   ·refine⟨_,d2,rfl,by rw[eP.o];exact TX.1,TX.2,λ_=>⟨gE,0,rfl,⟨by omega,by omega⟩,λi x hx=>?_⟩⟩;obtain⟨hi,rfl⟩:=List.getElem?_eq_some_iff.1 hx;obtain⟨cs,q1,q2⟩:=HEA.o i hi;have TG:i<k:=by rw[<-eP.o];exact hi
    refine⟨cs,aN.mono (aN.fr q1 (NX.mono λq hq=>by unfold QE at hq;show q≠w.heap.size+1;omega)) (λq hq=>by unfold QE at hq;omega),?_⟩;have:=(q2.fr (NX.mono λq (hq:q=gE)=>by show q≠w.heap.size+1;omega)).mono (Q':=λq=>w.heap.size<=q/\q<W8.heap.size) (λq hq=>by subst hq;exact⟨by omega,by omega⟩);simpa using this
def Sr (g:au) (w:World) (e:Ending) (w':World):Prop:=Below w.heap.size w w'/\
 ((bh g=false/\e=.returned (.tuple #[.pointer none,(1:Int)]))\/
  (bh g=true/\∃(J:Nat) (D O:Nat->Prop),e=.returned (.tuple #[.pointer (some ⟨J,0,none⟩),()])/\JC w' D O J g []/\∀q,D q\/O q->w.heap.size<=q))
theorem GQ {g:au} (h:bh g=true):0<g.entities.length:=by
 unfold bh at h;simp only[Bool.and_eq_true,decide_eq_true_eq]at h;exact h.1.1.2.1
theorem JC.made {w w1 W:World} {g:au} {gl:List Value} {cs:Array Value} (hg:aL w1 (λq=>w.heap.size<=q/\q<w1.heap.size) gl g) (hb:Below w.heap.size w w1)
 (ft:cs=(gl++[Value.slice none 0 0,Value.map (some w1.heap.size),Value.map (some (w1.heap.size+1))]).toArray)
 (hW:W=((w1.alloc (.map #[] 0)).alloc (.map #[] 0)).alloc (.cells cs 195)):
 ∃(D O:Nat->Prop),JC W D O (w1.heap.size+2) g []/\Below w.heap.size w W/\∀q,D q\/O q->w.heap.size<=q:=by
 subst ft;have e1:(w1.alloc (.map #[] 0)).heap.size=w1.heap.size+1:=by simp
 have e2:((w1.alloc (.map #[] 0)).alloc (.map #[] 0)).heap.size=w1.heap.size+2:=by simp
 have b1:=ai w1 (.map #[] 0);have b2:=ai (w1.alloc (.map #[] 0)) (.map #[] 0);have b3:=ai ((w1.alloc (.map #[] 0)).alloc (.map #[] 0)) (.cells (gl++[Value.slice none 0 0,Value.map (some w1.heap.size),Value.map (some (w1.heap.size+1))]).toArray 195);rw[<-hW]at b3;have m1:=eM.made w1;have m2:=eM.made (w1.alloc (.map #[] 0));rw[e1]at m2;have eL:Below w1.heap.size w1 W:=b1.trans ((b2.trans (b3.mono (by omega))).mono (by omega));have bP:=hb.size;have esz:W.heap.size=w1.heap.size+3:=by rw[hW];simp
 have aeT:=m1.lt;have iZ:=m2.lt;refine⟨λq=>w.heap.size<=q/\q<w1.heap.size,λq=>w1.heap.size<=q/\q<W.heap.size,⟨gl,[],.slice none 0 0,w1.heap.size,w1.heap.size+1,?_⟩,hb.trans (eL.mono bP),λq hq=>by rcases hq with hq|hq<;>omega⟩;exact {
  blk:=by
   have:=heap_alloc_new ((w1.alloc (.map #[] 0)).alloc (.map #[] 0)) (.cells (gl++[Value.slice none 0 0,Value.map (some w1.heap.size),Value.map (some (w1.heap.size+1))]).toArray 195);rw[<-hW,e2]at this;exact this
  grp:=aL.fr hg ((Fr.ofBelow eL).mono (λq hq=>hq.2))
  len:=rfl
  row:=World.ownsRow_nil _ _ _ _
  ent:=λi x hx=>by simp at hx
  idx:=((m1.below (b2.mono (by omega))).below (b3.mono (by omega))).eqv (λc=>rfl)
  rev:=(m2.below (b3.mono (by omega))).eqv (λc=>rfl)
  oj:=⟨by omega,by omega⟩
  oi:=⟨by omega,by omega⟩
  orr:=⟨by omega,by omega⟩
  ov:=λq hq=>by simp[Value.ownBlock]at hq
  ne1:=by omega
  ne2:=by omega
  ne3:=by omega
  ne4:=λq hq=>by simp[Value.ownBlock]at hq
  dis:=λq h1 h2=>by omega
  ltD:=λq h1=>by omega
  ltO:=λq h1=>h1.2
  ok:=Jn g}
set_option maxRecDepth 100000 in
theorem zu (gl:List Value) (hl:gl.length=21) (a b:Nat):Tryz.prog.built 195 [(0,.agg gl.toArray),(2,.map (some a)),(3,.map (some b))]=some (gl++[Value.slice none 0 0,Value.map (some a),Value.map (some b)]).toArray:=
 match gl,hl with
 |[x0,x1,x2,x3,x4,x5,x6,x7,x8,x9,dN,ef,fh,gU,LR,jH,jZ,kv,lR,kh,rB],_=>by kernel_rfl
theorem acd (g:au) (gl:List Value) (w:World) (hg:aL w (·<w.heap.size) gl g) (ci:dQ g):Calls Tryz.prog 108 #[.agg gl.toArray] w (Sr g w):=by
 have Iz:=@run_makeMap Tryz.prog;have Nb:=H_ (BT hg ci);have eX:gl.toArray.size=21:=by have:=hg.len;simpa using this
 have fu:=H_ eX;have Rn:=H_ (λ(w2:World) (hb:Below w.heap.size w w2) (hB:bh g=true)=>Ea g gl w2 (hg.keep hb) ci (GQ hB));obtain⟨b,hb⟩:=x_ (bh g);have HB:=H_ hb;rw[hb]at Nb;clear hg ci eX hb;go_enter Tryz.func108,Tryz.ntmps108;go_upto_region 1 with fail;obtain⟨W,cS,H1,bC,dr,ewx⟩:=B_ w (.cells gl.toArray 29);rw[cS];clear ewx;clear cS;have HK:=H_ H1;clear H1;go_wp2_with (refine W_ 4 29 1 (w.heap.size) HK.o (by rw[ay];exact congrArg some fu.o.symm) Tryz.underlying29 ?_);refine(Nb.o W bC).mono ?_;rintro e w2 ⟨rfl,aH⟩;have aF:=bC.trans (aH.mono bC.size);have Ro:=k_ aH HK;cases b with
 |false=>
  have hf:=HB.o;go_wp2_with fail;go_ret2;exact⟨aF,.inl ⟨hf,rfl⟩⟩
 |true=>
 go_upto_region 3 with fail;go_wp2_with (refine W_ 7 29 1 (w.heap.size) Ro.o (by rw[ay];exact congrArg some fu.o.symm) Tryz.underlying29 ?_)
 refine(Rn.o w2 aF HB.o).mono ?_;rintro e w3 ⟨gl3,rfl,tT,aZ⟩;have hl3:gl3.length=21:=tT.len;have IG:=H_ tT;have eA:=H_ aZ;have Bc:=H_ hl3;clear tT hl3 aZ;obtain⟨cs,ft⟩:∃cs:Array Value,cs=(gl3++[Value.slice none 0 0,Value.map (some w3.heap.size),Value.map (some (w3.heap.size+1))]).toArray:=⟨_,rfl⟩;have YM:=H_ ((zu gl3 Bc.o w3.heap.size (w3.heap.size+1)).trans (congrArg some ft.symm));have HCS:=H_ ft;clear ft;go_wp2_with (show wpList _ _ _ (Oper.mk (some 11) _ _ _ _ _::_) _ _;go_loud (refine iq rfl 195 _ rfl [(0,.agg gl3.toArray),(2,.map (some w3.heap.size)),(3,.map (some (w3.heap.size+1)))] (by simp[Act.eval]) cs YM.o ?_));go_ret2;obtain⟨D,O,hJ,hbJ,YB⟩:=JC.made (w:=w) (aL.mono IG.o (λq hq=>by have:=aF.size;omega)) (aF.trans (eA.o.mono aF.size)) HCS.o rfl;exact⟨hbJ,.inr ⟨HB.o,_,D,O,by simp,hJ,YB⟩⟩
end Go.Proofs.YtibiddakakgakaaGreat
