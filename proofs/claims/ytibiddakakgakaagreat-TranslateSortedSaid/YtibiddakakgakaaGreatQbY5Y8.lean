/- The rates that a desk has looked up: a map from moments to rates with errors. -/
import Derived.Test.YtibiddakakgakaaGreatQbX6Y4
set_option linter.unusedVariables false
set_option linter.unusedSimpArgs false
set_option maxRecDepth 4000
attribute [local go_sem ↓] Go.wp_at_zero Go.wp_at_succ
set_option maxHeartbeats 16000000
namespace Go.Proofs.YtibiddakakgakaaGreat
section
open Go Go.RowKit Go.ChangeMaps
open Go.Maps (Keyed)
open Go.WideMaps (KeyLaw)
theorem S7:(173:TypeId)<Tryz.prog.types.size:=of_decide_eq_true K_
theorem Pe:(match Tryz.prog.underlying 173 with|some (.array _ _)|some (.struct _)=>true|_=>false)=true:=by kernel_rfl
theorem S6:KeyLaw Tryz.prog 173:=deep_law_laid lA (m:=2) (by omega) S7 K_ Pe
theorem su:Keyed Tryz.prog 173:=Keyed.of_law S6
theorem AC:Tryz.prog.cellsOf 173=2:=by kernel_rfl
theorem Ev {d:Nat} {a z:Int} (ha:am a) (hz:am z):Tryz.prog.keyLits (d+2) 173 [a,z]=some [.int .i64 a,.int .i64 z]:=by
 unfold Program.keyLits;rw[Tryz.underlying173];have h1:=f7 (d:=d) ha;have h2:=f7 (d:=d) hz;simp[AC,mh,h1,h2]
theorem Ew:Tryz.prog.keyType 173=true:=by kernel_rfl
theorem rh:∃fs,Tryz.prog.underlying 173=some (.struct fs):=⟨_,Tryz.underlying173⟩
theorem Hg {a b:Value}:(Value.agg #[a,b]).formed Tryz.prog 173=true:=by
 obtain⟨fs,hu⟩:=rh;simp[Value.formed,hu,AC]
abbrev MK:={p:Int × Int // am p.1/\am p.2}
def Es (c:MK):Lit:=.string (keyBytes [c.1.1,c.1.2])
def Ha (c:MK):Value:=.agg #[c.1.1,c.1.2]
theorem vb (c:MK):keyOf Tryz.prog 173 (Ha c)=some (Es c):=by
 obtain⟨fs,hu⟩:=rh;obtain⟨d,hd⟩:=mW;unfold keyOf Ha;rw[hu];simp only[Ew,Hg,Bool.and_self,if_true,hd,Value.cells];rw[Ev c.2.1 c.2.2];rfl
theorem Pd (x y:MK) (h:Es x=Es y):x=y:=by
 have h1:=vb x;have h2:=vb y;rw[<-h]at h2;have h3:=su.inj h1 h2;have h4:=congrArg Array.toList (Value.agg.inj h3);simp only[List.cons.injEq,Value.int.injEq,true_and,and_true]at h4;exact Subtype.ext (Prod.ext h4.1 h4.2)
theorem Et (x:MK):WideAt.IsKeyLit (Es x):=trivial
theorem D9:Tryz.prog.underlying 101=some (.map 173 175):=by kernel_rfl
theorem GP (w:World):(zeroValue 175).run Tryz.prog w=.ok (.agg #[(),()]) w:=by kernel_rfl
def GJ (x:Int × Int):Value:=.agg #[x.1,x.2]
def BP (x:Int × Int):UD:=.map [(.int .i64 x.1,.lit (.int .i64 x.2))]
def fRd:Value->Option (UD × List MemPlace)
 | .agg cs=>match cs.toList with
  |[.int .i64 a,.int .i64 b]=>some (BP (a,b),[])
  |_=>none
 |_=>none
theorem Zr (x:Int × Int):fRd (GJ x)=some (BP x,[]):=rfl
theorem OZ {x y:Int × Int} (h:BP x=BP y):x=y:=by
 unfold BP at h;simp only[DataW.map.injEq,List.cons.injEq,Prod.mk.injEq,Lit.int.injEq,true_and,DataW.lit.injEq,and_true]at h;exact Prod.ext h.1 h.2
theorem SQ {v:Value} {z:UD × List MemPlace} (h:fRd v=some z):∃x,v=GJ x/\z=(BP x,[]):=by
 unfold fRd at h;split at h
 ·rename_i cs;split at h
  ·rename_i a b he;cases h;refine⟨(a,b),?_,rfl⟩;unfold GJ
   congr 1
   rw[<-Array.toArray_toList (xs:=cs),he]
  ·cases h
 ·cases h
def iL (w:World) (b n:Nat) (f:MK->Option (Int × Int)):Prop:=
 ∃D:UD,w.ownsMap Tryz.prog 173 fRd b n D/\∀c:MK,Maps.has D (Es c)=(f c).isSome/\D.atKey (Es c) (BP (0,0))=BP ((f c).getD (0,0))
section
variable {w w':World} {b n:Nat} {f:MK->Option (Int × Int)}
theorem iL.made (w:World):iL (w.alloc (.map #[] 0)) w.heap.size 0 (λ_=>none):=⟨_,World.ownsMap_made w Tryz.prog 173 _,λ_=>⟨rfl,rfl⟩⟩
theorem iL.lt (h:iL w b n f):b<w.heap.size:=by
 obtain⟨D,h1,h2⟩:=h;exact h1.lt
theorem iL.same (h:iL w b n f) (hb:w'.heap[b]? =w.heap[b]?):iL w' b n f:=by
 obtain⟨D,⟨es,dc,h1,h3,h4,h5⟩,h2⟩:=h;exact⟨D,⟨es,dc,hb.trans h1,h3,h4,h5⟩,h2⟩
theorem iL.fr {Q:Nat->Prop} (h:iL w b n f) (hf:Fr Q w w') (hb:Q b):iL w' b n f:=h.same (hf.block b hb)
theorem iL.below (h:iL w b n f) (hb:Below w.heap.size w w'):iL w' b n f:=h.fr (Fr.ofBelow hb) h.lt
theorem iL.mono (h:iL w b n f) {n':Nat} (hn:n<=n'):iL w b n' f:=by
 obtain⟨D,h1,h2⟩:=h;exact⟨D,h1.mono hn,h2⟩
theorem iL.look (h:iL w b n f) (c:MK):(Instr.lookup 101 (.map (some b)) (Ha c) true).run Tryz.prog w=.ok (.tuple #[GJ ((f c).getD (0,0)),.bool (f c).isSome]) w:=by
 obtain⟨D,h1,h2⟩:=h;obtain⟨v,ps,eC,hv⟩:=h1.look_ok su D9 (GP w) (zd:=BP (0,0)) (zp:=[]) rfl (vb c);obtain⟨x,rfl,hx⟩:=SQ hv;rw[(h2 c).2]at hx;simp only[Prod.mk.injEq]at hx;rw[eC,<-OZ hx.1,(h2 c).1]
theorem iL.store (h:iL w b n f) (hn:n<maxLen) (c:MK) (x:Int × Int):
 ∃w',(Instr.mapUpdate 101 (.map (some b)) (Ha c) (GJ x)).run Tryz.prog w=.ok () w'/\iL w' b (n+1) (λd=>if d=c then some x else f d)/\Fr (λq=>q≠b) w w':=by
 obtain⟨D,h1,h2⟩:=h;obtain⟨w2,eC,h3,h4⟩:=h1.store su D9 hn (vb c) (Zr x);have hm:Maps.IsMap D:=h1.isMap;refine⟨w2,eC,⟨_,h3,λd=>?_⟩,?_⟩
 ·by_cases hd:d=c
  ·subst hd;rw[Maps.atKey_put_same hm (Et d),Maps.has_put_same hm (Et d)];simp
  ·have bT:Es d≠Es c:=λe=>hd (Pd _ _ e)
   rw[Maps.atKey_put_other bT,Maps.has_put_other bT];simp only[if_neg hd];exact h2 d
 ·obtain⟨es,dc,Ft,ky,hb,rfl⟩:=h4;exact⟨rfl,rfl,rfl,by simp[setBlock],λi hi=>heap_setBlock_other hb _ hi⟩
end
theorem Mn {o:Oper} {a:Act} {w:World} {K:Act->World->Prop} {Q:Exit->Act->World->Prop} (m x:Operand) (pC:o.op=Op.lookup 101 m x true)
 (b n:Nat) (f:MK->Option (Int × Int)) (hm:a.eval m=.map (some b)) (h:iL w b n f) (c:MK) (hx:a.eval x=Ha c)
 (hK:K (a.put o.dst (.tuple #[GJ ((f c).getD (0,0)),.bool (f c).isSome])) w):o.wp Tryz.prog a w K Q:=by
 have eC:=h.look c;unfold Oper.wp;simp[execOp,pC,hm,hx,eC,Result.andThen];exact hK
theorem oo {ops:Array Oper} {rest:List Oper} {o:Oper} {a:Act} {w:World} {Q:Exit->Act->World->Prop} (hg:o.guard=none) (hd:o.dst=none) (m x v:Operand) (pC:o.op=Op.mapUpdate 101 m x v)
 (b n:Nat) (f:MK->Option (Int × Int)) (hm:a.eval m=.map (some b)) (h:iL w b n f) (hn:n<maxLen) (c:MK) (hx:a.eval x=Ha c) (xv:Int × Int) (hv:a.eval v=GJ xv)
 (hK:∀w',iL w' b (n+1) (λd=>if d=c then some xv else f d)->Fr (λq=>q≠b) w w'->wpList Tryz.prog ops Q rest a w'):wpList Tryz.prog ops Q (o::rest) a w:=by
 refine wpList_plain hg λK' qj=>?_
 obtain⟨w',eC,r1,r2⟩:=h.store hn c xv;unfold Oper.wp;simp[execOp,pC,hm,hx,hv,eC,Result.andThen];refine qj _ _ ?_;rw[hd];exact hK w' r1 r2
end
section
open Go Go.RowKit
structure BkC (w:World) (Q:Nat->Prop) (bl:List Value) (b:XBk) (gl:List Value) (Ae:Option Addr) (ce:Nat) (Ar:Option Addr) (cr:Nat) (tl:List Value):Prop where
 eq:bl=gl++([.slice Ae b.es.length ce,.slice Ar b.rs.length cr]++tl)
 tlen:tl.length=4
 one:∀v∈tl,v.oneCell'=true
 g:aL w Q gl b.g
 es:aj ax 7 w Q [.slice Ae b.es.length ce] b.es
 rs:aj bN 4 w Q [.slice Ar b.rs.length cr] b.rs
theorem BkC.fr {w w':World} {Q:Nat->Prop} {bl gl tl:List Value} {b:XBk} {Ae Ar:Option Addr} {ce cr:Nat} (h:BkC w Q bl b gl Ae ce Ar cr tl) (hf:Fr Q w w'):BkC w' Q bl b gl Ae ce Ar cr tl:=
 ⟨h.eq,h.tlen,h.one,aL.fr h.g hf,h.es.fr (λh=>ax.fr h hf) hf,h.rs.fr (λh=>bN.fr h hf) hf⟩
theorem BkC.mono {w:World} {Q Q':Nat->Prop} {bl gl tl:List Value} {b:XBk} {Ae Ar:Option Addr} {ce cr:Nat} (h:BkC w Q bl b gl Ae ce Ar cr tl) (hq:∀k,Q k->Q' k):BkC w Q' bl b gl Ae ce Ar cr tl:=
 ⟨h.eq,h.tlen,h.one,aL.mono h.g hq,h.es.mono (λh=>ax.mono h hq) hq,h.rs.mono (λh=>bN.mono h hq) hq⟩
theorem BkC.keep {w w':World} {bl gl tl:List Value} {b:XBk} {Ae Ar:Option Addr} {ce cr:Nat} (h:BkC w (·<w.heap.size) bl b gl Ae ce Ar cr tl) (hb:Below w.heap.size w w'):BkC w' (·<w'.heap.size) bl b gl Ae ce Ar cr tl:=
 (h.fr (Fr.ofBelow hb)).mono (λk hk=>Nat.lt_of_lt_of_le hk hb.size)
theorem BkC.len {w:World} {Q:Nat->Prop} {bl gl tl:List Value} {b:XBk} {Ae Ar:Option Addr} {ce cr:Nat} (h:BkC w Q bl b gl Ae ce Ar cr tl):bl.length=27:=by
 rw[h.eq];simp only[List.length_append,h.g.len,h.tlen,List.length_cons,List.length_nil]
theorem BkC.ones {w:World} {Q:Nat->Prop} {bl gl tl:List Value} {b:XBk} {Ae Ar:Option Addr} {ce cr:Nat} (h:BkC w Q bl b gl Ae ce Ar cr tl):bl.all (·.oneCell')=true:=by
 rw[h.eq];simp only[List.all_append,h.g.ones,List.all_cons,List.all_nil,Bool.true_and,Bool.and_eq_true,List.all_eq_true];exact⟨⟨rfl,rfl,trivial⟩,λv hv=>h.one v hv⟩
theorem BkC.at_g {w:World} {Q:Nat->Prop} {bl gl tl:List Value} {b:XBk} {Ae Ar:Option Addr} {ce cr:Nat} (h:BkC w Q bl b gl Ae ce Ar cr tl) {i:Nat} (hi:i<21):bl[i]? =gl[i]? :=by
 rw[h.eq,List.getElem?_append_left (by rw[h.g.len];exact hi)]
theorem BkC.at_e {w:World} {Q:Nat->Prop} {bl gl tl:List Value} {b:XBk} {Ae Ar:Option Addr} {ce cr:Nat} (h:BkC w Q bl b gl Ae ce Ar cr tl):bl[21]? =some (.slice Ae b.es.length ce)/\bl[22]? =some (.slice Ar b.rs.length cr):=by
 refine⟨?_,?_⟩<;>rw[h.eq,List.getElem?_append_right (by rw[h.g.len];omega),h.g.len]<;>rfl
def okB (b:XBk):Prop:=dQ b.g/\xI b.es/\(∀r∈b.rs,r.currency.size<=140737488355328)/\b.rs.length<=100000
def ew (bl:List Value) (ent p la:Int) (mv:Value) (aw:ByteArray) (cv:Bool):List Value:=bl++[.int .i64 ent,.int .i64 p,.int .i64 la,mv,.string aw,.bool cv]
theorem jl {bl:List Value} (h:bl.length=27) (ent p la:Int) (mv:Value) (aw:ByteArray) (cv:Bool) {i:Nat} (hi:i<27):(ew bl ent p la mv aw cv).toArray[i]? =bl[i]? :=by
 rw[List.getElem?_toArray];unfold ew;rw[List.getElem?_append_left (by omega)]
theorem mc {bl:List Value} (h:bl.length=27) (ent p la:Int) (mv:Value) (aw:ByteArray) (cv:Bool):(ew bl ent p la mv aw cv).toArray[27]? =some (.int .i64 ent)/\(ew bl ent p la mv aw cv).toArray[28]? =some (.int .i64 p)/\(ew bl ent p la mv aw cv).toArray[29]? =some (.int .i64 la)/\(ew bl ent p la mv aw cv).toArray[30]? =some mv/\(ew bl ent p la mv aw cv).toArray[31]? =some (.string aw)/\(ew bl ent p la mv aw cv).toArray[32]? =some (.bool cv):=by
 simp only[List.getElem?_toArray];unfold ew;refine⟨?_,?_,?_,?_,?_,?_⟩<;>rw[List.getElem?_append_right (by omega),h]<;>rfl
theorem oy {bl:List Value} (h:bl.length=27) (ent p la:Int) (mv:Value) (aw:ByteArray) (cv:Bool):
 (∀e:Int,(ew bl ent p la mv aw cv).toArray.setIfInBounds 27 (.int .i64 e)=(ew bl e p la mv aw cv).toArray)/\(∀m:Value,(ew bl ent p la mv aw cv).toArray.setIfInBounds 30 m=(ew bl ent p la m aw cv).toArray)/\
 (∀c:ByteArray,(ew bl ent p la mv aw cv).toArray.setIfInBounds 31 (.string c)=(ew bl ent p la mv c cv).toArray)/\∀c:Bool,(ew bl ent p la mv aw cv).toArray.setIfInBounds 32 (.bool c)=(ew bl ent p la mv aw c).toArray:=by
 unfold ew;refine⟨λe=>?_,λe=>?_,λe=>?_,λe=>?_⟩<;>rw[List.setIfInBounds_toArray,List.set_append_right _ _ (by omega),h]<;>rfl
def ev (w:World) (D:Nat) (bl:List Value) (ent p la:Int) (mv:Value) (aw:ByteArray) (cv:Bool):Prop:=w.heap[D]? =some (.cells (ew bl ent p la mv aw cv).toArray 103 (0,0))
theorem ev.set27 {w:World} {D:Nat} {bl:List Value} {ent p la:Int} {mv:Value} {aw:ByteArray} {cv:Bool} (h:ev w D bl ent p la mv aw cv) (hl:bl.length=27) (e:Int):ev (w.setCell ⟨D,27,none⟩ (.int .i64 e)) D bl e p la mv aw cv:=by
 have h2:=aG h 27 (.int .i64 e);rw[(oy hl ent p la mv aw cv).1]at h2;exact h2
theorem ev.set30 {w:World} {D:Nat} {bl:List Value} {ent p la:Int} {mv:Value} {aw:ByteArray} {cv:Bool} (h:ev w D bl ent p la mv aw cv) (hl:bl.length=27) (m:Value):ev (w.setCell ⟨D,30,none⟩ m) D bl ent p la m aw cv:=by
 have h2:=aG h 30 m;rw[(oy hl ent p la mv aw cv).2.1]at h2;exact h2
theorem ev.set31 {w:World} {D:Nat} {bl:List Value} {ent p la:Int} {mv:Value} {aw:ByteArray} {cv:Bool} (h:ev w D bl ent p la mv aw cv) (hl:bl.length=27) (c:ByteArray):ev (w.setCell ⟨D,31,none⟩ (.string c)) D bl ent p la mv c cv:=by
 have h2:=aG h 31 (.string c);rw[(oy hl ent p la mv aw cv).2.2.1]at h2;exact h2
theorem ev.set32 {w:World} {D:Nat} {bl:List Value} {ent p la:Int} {mv:Value} {aw:ByteArray} {cv:Bool} (h:ev w D bl ent p la mv aw cv) (hl:bl.length=27) (c:Bool):ev (w.setCell ⟨D,32,none⟩ (.bool c)) D bl ent p la mv aw c:=by
 have h2:=aG h 32 (.bool c);rw[(oy hl ent p la mv aw cv).2.2.2]at h2;exact h2
def cZ (b:XBk) (ent:Int):aV:=b.g.entities.getD ent.toNat {}
def pq (b:XBk) (ent basis d:Int):Int × Int:=if basis=2 then oS b.rs b.g.currency (cZ b ent).currency (lJ b.g d) (bA b.g d) d else fO b.rs b.g.currency (cZ b ent).currency d
def kD (w:World) (D M k:Nat) (bl:List Value) (b:XBk) (ent p:Int):Prop:=∃f,ev w D bl ent p (bA b.g p) (.map (some M)) (cZ b ent).currency (decide ((cZ b ent).currency≠b.g.currency))/\iL w M k f/\M≠D/\∀c v,f c=some v->v=pq b ent c.1.1 c.1.2
theorem kD.fr {w w':World} {D M k:Nat} {bl:List Value} {b:XBk} {ent p:Int} (h:kD w D M k bl b ent p) {Q:Nat->Prop} (hf:Fr Q w w') (h1:Q D) (h2:Q M):kD w' D M k bl b ent p:=by
 obtain⟨f,a1,a2,a3,a4⟩:=h;exact⟨f,(hf.block D h1).trans a1,a2.fr hf h2,a3,a4⟩
theorem kD.lt {w:World} {D M k:Nat} {bl:List Value} {b:XBk} {ent p:Int} (h:kD w D M k bl b ent p):D<w.heap.size/\M<w.heap.size/\M≠D:=by
 obtain⟨f,a1,a2,a3,a4⟩:=h;exact⟨ag a1,a2.lt,a3⟩
theorem kD.below {w w':World} {D M k:Nat} {bl:List Value} {b:XBk} {ent p:Int} (h:kD w D M k bl b ent p) (hb:Below w.heap.size w w'):kD w' D M k bl b ent p:=h.fr (Fr.ofBelow hb) h.lt.1 h.lt.2.1
theorem Jd (D:Nat) (b:XBk) (bl gl tl:List Value) (Ae Ar:Option Addr) (ce cr:Nat) (e0 ent p la:Int) (mv:Value) (c0:ByteArray) (v0:Bool) (w:World) (hk:BkC w (λq=>q<w.heap.size/\q≠D) bl b gl Ae ce Ar cr tl) (hd:ev w D bl e0 p la mv c0 v0) (ep:dZ b ent):
 Calls Tryz.prog 46 #[.pointer (some ⟨D,0,none⟩),ent] w (λe w'=>(∃v,e=.returned v)/\∃M,w.heap.size<=M/\ev w' D bl ent p la (.map (some M)) (cZ b ent).currency (decide ((cZ b ent).currency≠b.g.currency))/\iL w' M 0 (λ_=>none)/\Fr (λq=>q<w.heap.size/\q≠D) w w'):=by
 have Iz:=@run_makeMap Tryz.prog;have zD:=hk.len;have tN:=H_ zD;have HDL:=H_ (ag hd);obtain⟨Ac,cc,Iy,Ds,_,jm,_,_,_,_,_,vD⟩:=hk.g.view;have aab:=H_ ((hk.at_g (i:=20) (by omega)).trans jm);have Fx:=H_ ((hk.at_g (i:=0) (by omega)).trans (show gl[0]? =some (.string b.g.currency) by have:=hk.g.cellsA.1;simpa using this));obtain⟨q,hq,rfl,zT⟩:=me ep;have HQE:=H_ (show cZ b (q:Int)=b.g.entities[q]from zT);obtain⟨be,oe,es,dj,oQ,bL,aS⟩:=aj.get vD q hq;subst dj;obtain⟨Ac2,Mx,Cu,Kb,mE,_⟩:=aN.lit bL;rw[mE]at aS;obtain⟨aw,eh⟩:∃c,b.g.entities[q].currency=c:=⟨_,rfl⟩;have MG:=H_ (show w.cell? ⟨be,oe+q*5+1,none⟩=some (.string aw) by rw[<-eh];exact aS.c (j:=1) rfl);have Gf:=H_ oQ;rw[HQE.o,eh];obtain⟨grp,abB⟩:∃c,b.g.currency=c:=⟨_,rfl⟩;rw[abB]at Fx |-;obtain⟨ne,bT⟩:∃n,b.g.entities.length=n:=⟨_,rfl⟩;rw[bT]at aab hq;have MT:=H_ (mc zD);have HD0:=H_ (show ev w D bl e0 p la mv c0 v0 from hd);have HQI:=H_ hq;obtain⟨qe,Xh⟩:∃q,decide (aw=grp)=q:=⟨_,rfl⟩;have aeN:(aw.toList==grp.toList)=qe:=by rw[gI];exact Xh
 obtain⟨cv,jY⟩:=x_ ((!qe));rw[show decide (aw≠grp)=cv by rw[decide_not,Xh];exact jY];have c27:w.cell? ⟨D,27,none⟩=some (.int .i64 e0):=(ab hd 27).trans (MT.o _ _ _ _ _ _).1;have z27:=bB hd 27;clear hk vD bL mE aS oQ hd zT bT jm abB eh Xh ep;go_enter Tryz.func46,Tryz.ntmps46;go_upto_region 1 with fail;have Dw:=H_ (HD0.o.set27 tN.o (q:Int));have kU:=H_ (show Fr (λk=>k≠D) w (w.setCell ⟨D,27,none⟩ (.int .i64 (q:Int)))from(Fr.refl _ w).setCell (λh=>h rfl) _);generalize w.setCell ⟨D,27,none⟩ (.int .i64 (q:Int))=W1 at*;have Mp:W1.cell? ⟨D,20,none⟩=some (.slice (some ⟨be,oe,none⟩) ne Ds):=(ab Dw.o 20).trans ((jl tN.o _ _ _ _ _ _ (by omega)).trans aab.o);have c31:W1.cell? ⟨D,31,none⟩=some (.string c0):=(ab Dw.o 31).trans (MT.o _ _ _ _ _ _).2.2.2.2.1;have z31:=bB Dw.o 31;have hce:W1.cell? ⟨be,oe+q*5+1,none⟩=some (.string aw):=(kU.o.cell (p:=⟨be,oe+q*5+1,none⟩) Gf.o.2).trans MG.o;have IR:(q:Int)< (ne:Int):=by omega
 clear c27 z27;go_upto_region 2 with fail;have HD2:=H_ (Dw.o.set31 tN.o aw);have kV:=H_ (show Fr (λk=>k≠D) w (W1.setCell ⟨D,31,none⟩ (.string aw))from kU.o.setCell (λh=>h rfl) _);generalize W1.setCell ⟨D,31,none⟩ (.string aw)=W2 at*;have d31:W2.cell? ⟨D,31,none⟩=some (.string aw):=(ab HD2.o 31).trans (MT.o _ _ _ _ _ _).2.2.2.2.1;have d0:W2.cell? ⟨D,0,none⟩=some (.string grp):=(ab HD2.o 0).trans ((jl tN.o _ _ _ _ _ _ (by omega)).trans Fx.o);have d32:W2.cell? ⟨D,32,none⟩=some (.bool v0):=(ab HD2.o 32).trans (MT.o _ _ _ _ _ _).2.2.2.2.2;have y32:=bB HD2.o 32;have D31:=H_ d31;have D0:=H_ d0;have D32:=H_ d32;have Y32:=H_ y32;clear Mp c31 z31 hce d31 d0 d32 y32;refine dC 14 (Ks W2 [.val (.pointer (some ⟨D,0,none⟩)),.val (.pointer (some ⟨D,0,none⟩)),.val (.pointer (some ⟨D,0,none⟩)),.val (.pointer (some ⟨D,31,none⟩)),aw,.val (.pointer (some ⟨D,0,none⟩)),.val (.pointer (some ⟨D,0,none⟩)),.val (.pointer (some ⟨D,0,none⟩)),.val (.pointer (some ⟨D,0,none⟩)),.val (.pointer (some ⟨D,0,none⟩)),grp,cv,.val (.pointer (some ⟨D,0,none⟩)),.val (.pointer (some ⟨D,32,none⟩))])
  (λw'=>w'=W2.drew) K_ K_ K_ (by decide) K_ K_ K_ rfl ?_ ?_
 ·refine⟨b_ (q_ 0),b_ (q_ 0),b_ (p_ 1 22),b_ (p_ 2 23),?_,b_ (q_ 0),b_ (p_ 5 26),b_ (p_ 6 27),b_ (p_ 7 28),b_ (p_ 8 29),?_,c_ (p_ 4 25) (p_ 10 31),b_ (p_ 0 21),b_ (p_ 12 33),trivial⟩
  ·intro _ A0 w2 hI hd hnd K hK;have e0:=hI.p hd 3 24;have hS:=H_ (show w2=W2.drew from hI.world);have cI:w2.cell? ⟨D,31,none⟩=some (.string aw):=by rw[hS.o];exact D31.o
   exact hI.z hK
  ·intro _ A0 w2 hI hd hnd K hK;have e0:=hI.p hd 9 30;have hS:=H_ (show w2=W2.drew from hI.world);have cI:w2.cell? ⟨D,0,none⟩=some (.string grp):=by rw[hS.o];exact D0.o
   exact hI.z hK
 ·intro A0 w2 hI;obtain⟨x0,g0,h0⟩:=hI.got 0 _ 21 rfl rfl rfl;obtain⟨x1,g1,h1⟩:=hI.got 1 _ 22 rfl rfl rfl;obtain⟨x2,g2,h2⟩:=hI.got 2 _ 23 rfl rfl rfl;obtain⟨x3,g3,h3⟩:=hI.got 3 _ 24 rfl rfl rfl;obtain⟨x4,g4,h4⟩:=hI.got 4 _ 25 rfl rfl rfl;obtain⟨x5,g5,h5⟩:=hI.got 5 _ 26 rfl rfl rfl;obtain⟨x6,g6,h6⟩:=hI.got 6 _ 27 rfl rfl rfl;obtain⟨x7,g7,h7⟩:=hI.got 7 _ 28 rfl rfl rfl;obtain⟨x8,g8,h8⟩:=hI.got 8 _ 29 rfl rfl rfl;obtain⟨x9,g9,h9⟩:=hI.got 9 _ 30 rfl rfl rfl;obtain⟨dN,cR,dl⟩:=hI.got 10 _ 31 rfl rfl rfl;obtain⟨ef,dm,dx⟩:=hI.got 11 _ 32 rfl rfl rfl;obtain⟨fh,dR,et⟩:=hI.got 12 _ 33 rfl rfl rfl;obtain⟨gU,eK,fA⟩:=hI.got 13 _ 34 rfl rfl rfl;obtain rfl:w2=W2.drew:=hI.world;have hA:A0=_:=hI.tmps [(21,x0),(22,x1),(23,x2),(24,x3),(25,x4),(26,x5),(27,x6),(28,x7),(29,x8),(30,x9),(31,dN),(32,ef),(33,fh),(34,gU)] (by simp only[List.mem_cons,List.not_mem_nil,or_false,forall_eq_or_imp,forall_eq];exact⟨g0,g1,g2,g3,g4,g5,g6,g7,g8,g9,cR,dm,dR,eK⟩) K_;obtain rfl:ef=.bool cv:=dx _ rfl;obtain rfl:gU=.pointer (some ⟨D,32,none⟩):=fA _ rfl;clear h0 g0 h1 g1 h2 g2 h3 g3 h4 g4 h5 g5 h6 g6 h7 g7 h8 g8 h9 g9 dl cR dx dm et dR fA eK hI;simp only[ba,List.foldl,List.setIfInBounds_toArray,List.set_cons_zero,List.set_cons_succ]at hA;rw[hA];clear hA;simp only[List.drop_succ_cons,List.drop_zero];have d32:W2.drew.cell? ⟨D,32,none⟩=some (.bool v0):=D32.o;have y32:W2.drew.frozen? ⟨D,32,none⟩=false:=Y32.o;go_upto_region 3 with fail;have HD3:=H_ (show ev (W2.setCell ⟨D,32,none⟩ (.bool cv)) D bl (q:Int) p la mv aw cv from ev.set32 (w:=W2) HD2.o tN.o cv);have IH:=H_ (show Fr (λk=>k≠D) w (W2.setCell ⟨D,32,none⟩ (.bool cv))from kV.o.setCell (λh=>h rfl) _);generalize W2.setCell ⟨D,32,none⟩ (.bool cv)=W3 at*;clear d32 y32;have hmp:=iL.made W3;have gw:=ai W3 (.map #[] 0);have HD4:=H_ (show ev (W3.alloc (.map #[] 0)) D bl (q:Int) p la mv aw cv from al (w:=W3) HD3.o _);have d30:(W3.alloc (.map #[] 0)).cell? ⟨D,30,none⟩=some mv:=(ab HD4.o 30).trans (MT.o _ _ _ _ _ _).2.2.2.1;have y30:=bB HD4.o 30;go_wp2_with fail
  go_end0
  refine⟨⟨_,rfl⟩,W3.heap.size,IH.o.size,HD4.o.set30 tN.o _,hmp.same ?_,(((IH.o.mono (λk hk=>hk.2)).trans ((Fr.ofBelow gw).mono (λk (hk:k<w.heap.size/\k≠D)=>Nat.lt_of_lt_of_le hk.1 IH.o.size))).setCell (p:=⟨D,30,none⟩) (λh=>h.2 rfl) _).drew⟩;have bT:W3.heap.size≠D:=by have:=IH.o.size;have:=HDL.o;omega
  exact((Fr.refl (λk=>k≠D) _).setCell (λh=>h rfl) _).block _ bT
theorem nQ {w:World} {B:Nat} {C:Array Value} {t:TypeId} {gl:List Value} (hb:w.heap[B]? =some (.cells C t (0,0))) (hg:∀i,i<21->C[i]? =gl[i]?) (hl:gl.length=21):w.rangeAt B 0 gl:=λj v hj=>by
 have tP:j<21:=by rw[<-hl];exact(List.getElem?_eq_some_iff.1 hj).1
 have:=ab hb j;rw[hg j tP,hj]at this;rw[Nat.zero_add];exact this
theorem GF (bl:List Value) (hl:bl.length=27) (p la:Int):Tryz.prog.built 103 [(0,.agg bl.toArray),(2,.int .i64 p),(3,.int .i64 la)]=some (ew bl 0 p la (.map none) ⟨#[]⟩ false).toArray:=
 match bl,hl with
 |[x0,x1,x2,x3,x4,x5,x6,x7,x8,x9,dN,ef,fh,gU,j4,jH,jZ,kv,lR,kh,rB,vz,vr,zW,zP,zK,zz],_=>by kernel_rfl
theorem bF:(Tryz.prog.info? 36).map (·.size)=some 27:=by kernel_rfl
def jU (b:XBk) (ent p:Int) (Cs:Bool):Int:=if cE b then(if(Cs=true\/dZ b ent)/\eN b p then 0 else 2)else 1
theorem xL (b:XBk) (ent p:Int):jU b ent p false=fH b ent p:=by unfold jU fH;simp
def rY (b:XBk) (bl:List Value) (ent p:Int) (w w':World) (D:Nat) (Cs:Bool):Prop:=if Cs=true then ev w' D bl 0 p (bA b.g p) (.map none) ⟨#[]⟩ false else ∃M,w.heap.size<=M/\kD w' D M 0 bl b ent p
def nN (b:XBk) (bl:List Value) (ent p:Int) (Cs:Bool) (w:World) (e:Ending) (w':World):Prop:=
 (jU b ent p Cs≠0/\e=.returned (.tuple #[.pointer none,(jU b ent p Cs)])/\Below w.heap.size w w')\/
 (jU b ent p Cs=0/\∃D:Nat,e=.returned (.tuple #[.pointer (some ⟨D,0,none⟩),()])/\w.heap.size<=D/\Below w.heap.size w w'/\rY b bl ent p w w' D Cs)
theorem mj {b:XBk} (h:bh b.g=true) (p:Int):(bH b.g.calendar.year b.g.calendar.month b.g.calendar.periods p).2=0↔eN b p:=by
 unfold bH bo eN;rw[if_pos (fy h)];by_cases hp:0<=p/\p<b.g.calendar.periods
 ·rw[if_pos hp,if_pos rfl];exact⟨λ_=>hp,λ_=>rfl⟩
 ·rw[if_neg hp,if_neg (by decide)];exact⟨o_,λh=>absurd h hp⟩
theorem Hl (b:XBk) (bl gl tl:List Value) (Ae Ar:Option Addr) (ce cr:Nat) (ent p:Int) (Cs:Bool) (w:World) (hk:BkC w (·<w.heap.size) bl b gl Ae ce Ar cr tl) (ci:okB b):
 Calls Tryz.prog 43 #[.agg bl.toArray,ent,p,Cs] w (nN b bl ent p Cs w):=by
 have Vo:=H_ (λ(w2:World) (hb:Below w.heap.size w w2)=>O7 b.g b.es gl Ae ce w2 (hk.keep hb).g (hk.keep hb).es ci.1 ci.2.1);have ME:=H_ (λ(w2:World) (hb:Below w.heap.size w w2)=>sK b.g.currency b.rs Ar cr w2 (hk.keep hb).rs ci.2.2.1 (by have:=ci.1.2.2.1;omega) ci.2.2.2);have Vj:=H_ (λ(w2:World) (D:Nat) (mv:Value) (c0:ByteArray) (v0:Bool) (e0:Int) (hb:Below w.heap.size w w2) (aU:w.heap.size<=D) (hd:ev w2 D bl e0 p (bA b.g p) mv c0 v0) (ep:dZ b ent)=>
  Jd D b bl gl tl Ae Ar ce cr e0 ent p (bA b.g p) mv c0 v0 w2 ((hk.fr (Fr.ofBelow hb)).mono (λk (hk:k<w.heap.size)=>⟨Nat.lt_of_lt_of_le hk hb.size,by omega⟩)) hd ep)
 have R2:=H_ (GF bl hk.len p (bA b.g p));have R0:=H_ hk.len;have kY:=H_ (show bl.toArray.size=27 by have:=hk.len;simpa using this);have yO:=H_ (show gl.length=21 from hk.g.len);have fu:=H_ (show gl.toArray.size=21 by have:=hk.g.len;simpa using this);have lF:=H_ (λ(W2:World) (B:Nat) (h:W2.heap[B]? =some (.cells bl.toArray 36 (0,0)))=>nQ h (λi hi=>by rw[List.getElem?_toArray];exact hk.at_g hi) hk.g.len);have CA:=H_ (λ(i:Nat) (hi:i<21)=>(show bl.toArray[i]? =gl.toArray[i]? by rw[List.getElem?_toArray,List.getElem?_toArray];exact hk.at_g hi));have HE:=H_ (show bl.toArray[21]? =some (.slice Ae b.es.length ce)/\bl.toArray[22]? =some (.slice Ar b.rs.length cr) by rw[List.getElem?_toArray,List.getElem?_toArray];exact hk.at_e);obtain⟨h0,h1,h2,h3,dx⟩:=hk.g.cellsA;have m8:=H_ ((CA.o 0 (by omega)).trans h0);have jG:=H_ ((CA.o 1 (by omega)).trans h1);have jv:=H_ ((CA.o 2 (by omega)).trans h2);have kB:=H_ ((CA.o 3 (by omega)).trans h3);obtain⟨Ac,cc,Iy,Ds,_,jm,_⟩:=hk.g.view;have nF:=H_ ((CA.o 20 (by omega)).trans (show gl.toArray[20]? =some (.slice Iy b.g.entities.length Ds) by rw[List.getElem?_toArray];exact jm));obtain⟨OE,rO⟩:∃c,jU b ent p Cs=c:=⟨_,rfl⟩;unfold nN;rw[rO];have C6:=H_ rO;clear hk rO h0 h1 h2 h3 dx jm;go_enter Tryz.func43,Tryz.ntmps43;go_upto_region 1 with fail;obtain⟨W1,cS,H1,bC,dr,ewx⟩:=B_ w (.cells bl.toArray 36);rw[cS];clear ewx;clear cS;have fB:=H_ H1;have Bx:=H_ (lF.o W1 _ H1);have qx:=(ab H1 21).trans HE.o.1;clear H1;go_wp2_with (refine w_ 17 29 16 w.heap.size (0) gl Bx.o (by rw[ay];exact congrArg some yO.o.symm) Tryz.underlying29 ?_);refine(Vo.o W1 bC).mono ?_;rintro e w2 ⟨i0,c0,rfl,sM,aH⟩;have HVJ:=H_ sM;have aF:=bC.trans (aH.mono bC.size);have dn:=k_ aH fB;have dW:=Nat.lt_of_lt_of_le dr aH.size;clear sM qx;by_cases hc:c0=0
 case neg=>
  have hd:(c0 !=0)=true:=by simpa using hc
  have zq:=H_ (show OE=1 by rw[<-C6.o];unfold jU;rw[if_neg (λh=>hc (HVJ.o.2 ⟨h.1,h.2.1⟩))]);clear hc;go_wp2_with fail;go_ret2;exact .inl ⟨by rw[zq.o];decide,by rw[zq.o];first|done|rfl,aF⟩
 case pos=>
 subst hc;have abR:=H_ (HVJ.o.1 rfl);clear HVJ;have HH2':=dn.o;have c0g:=(ab HH2' 0).trans m8.o;have c22:=(ab HH2' 22).trans HE.o.2;clear HH2';go_wp2_with fail;refine(ME.o w2 aF).mono ?_;rintro e w3 ⟨rfl,aZ⟩;have aR:=aF.trans (aZ.mono aF.size);have kS:=k_ aZ dn;have lE:=Nat.lt_of_lt_of_le dW aZ.size;by_cases hR:dJ b.g.currency b.rs
 case neg=>
  have hd:decide (dJ b.g.currency b.rs)=false:=decide_eq_false hR;have zq:=H_ (show OE=1 by rw[<-C6.o];unfold jU;rw[if_neg (λh=>hR h.2.2)]);clear hR
  try rw[hd]
  go_wp2_with fail;go_ret2;exact .inl ⟨by rw[zq.o];decide,by rw[zq.o];first|done|rfl,aR⟩
 case pos=>
 have jI:=H_ (show cE b from⟨abR.o.1,abR.o.2,hR⟩);have hd:decide (dJ b.g.currency b.rs)=true:=decide_eq_true hR
 try rw[hd]
 clear hR hd c0g c22;have qu:=H_ (mj (b:=b) jI.o.1 p);obtain⟨e1,X3⟩:∃x,(bH b.g.calendar.year b.g.calendar.month b.g.calendar.periods p).2=x:=⟨_,rfl⟩;rw[X3]at qu;have vw:=H_ (λ(w9:World)=>show Calls Tryz.prog 80 #[.agg #[b.g.calendar.year,b.g.calendar.month,b.g.calendar.periods],p] w9 (ap w9 (.tuple #[(bA b.g p),e1])) by
  rw[<-X3];exact Af _ _ _ _ w9)
 clear X3;have QI:=H_ (show cE b->OE=(if(Cs=true\/dZ b ent)/\eN b p then 0 else 2) by intro h;rw[<-C6.o];unfold jU;rw[if_pos h]);obtain⟨la,m5⟩:∃x,bA b.g p=x:=⟨_,rfl⟩;rw[m5]at Vj R2 vw;have RU:=H_ m5;clear m5;cases Cs with
 |true=>
 have lT:=H_ (dg kS.o jG.o jv.o kB.o);go_wp2_with (refine w_ 51 23 50 w.heap.size (1) _ lT.o bV Tryz.underlying23 ?_);refine(vw.o _).mono ?_;rintro e w4 ⟨rfl,bU⟩;have bD:=aR.trans (bU.mono aR.size);have oW:=k_ bU kS;by_cases iA:e1=0
 case neg=>
  have zq:=H_ (show OE=2 by rw[QI.o jI.o,if_neg (λh=>iA (qu.o.2 h.2))]);have hdp:(e1 !=0)=true:=by simpa using iA
  clear iA;go_wp2_with fail;go_ret2;exact .inl ⟨by rw[zq.o];decide,by rw[zq.o];first|done|rfl,bD⟩
 case pos=>
 subst iA;have zq:=H_ (show OE=0 by rw[QI.o jI.o,if_pos ⟨by simp,qu.o.1 rfl⟩]);obtain⟨DL,Mr⟩:∃L,(ew bl 0 p la (.map none) ⟨#[]⟩ false).toArray=L:=⟨_,rfl⟩;have XB:=H_ Mr;rw[Mr]at R2;clear Mr;go_upto_region 10 with(first|(refine W_ 58 36 4 (w.heap.size) oW.o (by rw[bF];exact congrArg some kY.o.symm) Tryz.underlying36 ?_)|(show wpList _ _ _ (Oper.mk (some 61) _ _ _ _ _::_) _ _;go_loud (refine iq rfl 103 _ rfl [(0,.agg bl.toArray),(2,.int .i64 p),(3,.int .i64 la)] (by simp[Act.eval]) DL R2.o ?_)))
 have H6:=heap_alloc_new w4 (.cells DL 103);have dK:=ai w4 (.cells DL 103);have my:=H_ (show w4.heap.size< (w4.alloc (.cells DL 103)).heap.size from ag H6);generalize w4.alloc (Obj.cells DL 103)=w6 at*;have QO:=bD.trans (dK.mono bD.size);have HDZ:=H_ bD.size;have vh:=H_ (show ev w6 w4.heap.size bl 0 p la (.map none) ⟨#[]⟩ false by unfold ev;rw[XB.o];exact H6);clear H6;go_wp2_with fail;go_ret2;exact .inr ⟨zq.o,w4.heap.size,rfl,HDZ.o,QO,by unfold rY;rw[if_pos rfl,RU.o];exact vh.o⟩
 |false=>
  have HH3':=kS.o;have Mp:=(ab HH3' 20).trans nF.o;clear HH3';by_cases zG:ent<0
  case pos=>
   have zq:=H_ (show OE=2 by rw[QI.o jI.o,if_neg (λh=>by rcases h.1 with h|h;exact absurd h (by decide);have:=h.1;omega)]);have hdq:decide (ent<0)=true:=decide_eq_true zG;clear zG;go_wp2_with fail;go_ret2;exact .inl ⟨by rw[zq.o];decide,by rw[zq.o];first|done|rfl,aR⟩
  case neg=>
   have hdq:decide (ent<0)=false:=decide_eq_false zG;by_cases mF:ent≥(b.g.entities.length:Int)
   case pos=>
    have zq:=H_ (show OE=2 by rw[QI.o jI.o,if_neg (λh=>by rcases h.1 with h|h;exact absurd h (by decide);have:=h.2;omega)]);have acG:decide (ent≥(b.g.entities.length:Int))=true:=decide_eq_true mF;clear zG mF;go_wp2_with fail;go_ret2;exact .inl ⟨by rw[zq.o];decide,by rw[zq.o];first|done|rfl,aR⟩
   case neg=>
    have acG:decide (ent≥(b.g.entities.length:Int))=false:=decide_eq_false mF;have HEO:=H_ (show dZ b ent from⟨by omega,by omega⟩);clear zG mF;have lT:=H_ (dg kS.o jG.o jv.o kB.o);go_wp2_with (refine w_ 51 23 50 w.heap.size (1) _ lT.o bV Tryz.underlying23 ?_);refine(vw.o _).mono ?_;rintro e w4 ⟨rfl,bU⟩;have bD:=aR.trans (bU.mono aR.size);have oW:=k_ bU kS;by_cases iA:e1=0
    case neg=>
     have zq:=H_ (show OE=2 by rw[QI.o jI.o,if_neg (λh=>iA (qu.o.2 h.2))]);have hdp:(e1 !=0)=true:=by simpa using iA
     clear iA;go_wp2_with fail;go_ret2;exact .inl ⟨by rw[zq.o];decide,by rw[zq.o];first|done|rfl,bD⟩
    case pos=>
    subst iA;have zq:=H_ (show OE=0 by rw[QI.o jI.o,if_pos ⟨by first|exact Or.inr HEO.o|simpa using HEO.o,qu.o.1 rfl⟩]);obtain⟨DL,Mr⟩:∃L,(ew bl 0 p la (.map none) ⟨#[]⟩ false).toArray=L:=⟨_,rfl⟩;have XB:=H_ Mr;rw[Mr]at R2;clear Mr;go_upto_region 10 with(first|(refine W_ 58 36 4 (w.heap.size) oW.o (by rw[bF];exact congrArg some kY.o.symm) Tryz.underlying36 ?_)|(show wpList _ _ _ (Oper.mk (some 61) _ _ _ _ _::_) _ _;go_loud (refine iq rfl 103 _ rfl [(0,.agg bl.toArray),(2,.int .i64 p),(3,.int .i64 la)] (by simp[Act.eval]) DL R2.o ?_)))
    have H6:=heap_alloc_new w4 (.cells DL 103);have dK:=ai w4 (.cells DL 103);have my:=H_ (show w4.heap.size< (w4.alloc (.cells DL 103)).heap.size from ag H6);generalize w4.alloc (Obj.cells DL 103)=w6 at*;have QO:=bD.trans (dK.mono bD.size);have HDZ:=H_ bD.size;have vh:=H_ (show ev w6 w4.heap.size bl 0 p la (.map none) ⟨#[]⟩ false by unfold ev;rw[XB.o];exact H6);clear H6;go_wp2_with fail;refine(Vj.o w6 w4.heap.size _ _ _ _ QO HDZ.o vh.o HEO.o).mono ?_;rintro e w7 ⟨⟨v7,rfl⟩,M,hM,hdM,hmM,hfM⟩;have fC:=QO.trans ((hfM.mono (λk (hk:k<w.heap.size)=>⟨Nat.lt_of_lt_of_le hk QO.size,by have:=HDZ.o;omega⟩)).below);go_wp2_with fail;go_ret2;exact .inr ⟨zq.o,w4.heap.size,rfl,HDZ.o,fC,by unfold rY kD;rw[if_neg (by decide),RU.o];exact⟨M,by have:=QO.size;omega,_,hdM,hmM,by have:=my.o;omega,λc v h=>by cases h⟩⟩
theorem agt {w:World} {Q:Nat->Prop} {bl gl tl:List Value} {b:XBk} {Ae Ar:Option Addr} {ce cr:Nat} (hk:BkC w Q bl b gl Ae ce Ar cr tl):
 Hd (bl.toArray.size=27)/\Hd (gl.length=21)/\Hd (∀(W2:World) (B:Nat),W2.heap[B]? =some (.cells bl.toArray 36 (0,0))->W2.rangeAt B 0 gl)/\Hd (∀i:Nat,i<21->bl.toArray[i]? =gl.toArray[i]?)/\
  Hd (bl.toArray[21]? =some (.slice Ae b.es.length ce)/\bl.toArray[22]? =some (.slice Ar b.rs.length cr))/\Hd (bl.toArray[0]? =some (.string b.g.currency))/\Hd (bl.toArray[1]? =some (.int .i64 b.g.calendar.year))/\Hd (bl.toArray[2]? =some (.int .i64 b.g.calendar.month))/\Hd (bl.toArray[3]? =some (.int .i64 b.g.calendar.periods))/\
  ∃(Ac:Option Addr) (cc:Nat) (Iy:Option Addr) (Ds:Nat),Hd (bl.toArray[20]? =some (.slice Iy b.g.entities.length Ds))/\Hd (bl.toArray[4]? =some (.slice Ac b.g.chart.length cc)):=by
 have xn:=λ(i:Nat) (hi:i<21)=>(show bl.toArray[i]? =gl.toArray[i]? by rw[List.getElem?_toArray,List.getElem?_toArray];exact hk.at_g hi)
 obtain⟨h0,h1,h2,h3,_⟩:=hk.g.cellsA;obtain⟨Ac,cc,Iy,Ds,_,jm,h4,_⟩:=hk.g.view;exact⟨H_ (by have:=hk.len;simpa using this),H_ hk.g.len,H_ (λW2 B h=>nQ h (λi hi=>by rw[List.getElem?_toArray];exact hk.at_g hi) hk.g.len),H_ xn,
  H_ (by rw[List.getElem?_toArray,List.getElem?_toArray];exact hk.at_e),H_ ((xn 0 (by omega)).trans h0),H_ ((xn 1 (by omega)).trans h1),H_ ((xn 2 (by omega)).trans h2),H_ ((xn 3 (by omega)).trans h3),
  Ac,cc,Iy,Ds,H_ ((xn 20 (by omega)).trans (show gl.toArray[20]? =some (.slice Iy b.g.entities.length Ds) by rw[List.getElem?_toArray];exact jm)),H_ ((xn 4 (by omega)).trans (show gl.toArray[4]? =some (.slice Ac b.g.chart.length cc) by rw[List.getElem?_toArray];exact h4))⟩
theorem ln:(Tryz.prog.info? 173).map (·.size)=some 2:=by kernel_rfl
theorem pO:(Tryz.prog.info? 175).map (·.size)=some 2:=by kernel_rfl
def BZ (b:XBk) (basis date p:Int):Int:=(if basis=1 then bA b.g p else if basis=2 then iC b.g date else date)
theorem Ho (b:XBk) (ent basis date p:Int):kP b (cZ b ent).currency basis date p=if(cZ b ent).currency=b.g.currency then(1000000,0)else pq b ent basis (BZ b basis date p):=by
 unfold kP pq oS fO BZ;by_cases h:(cZ b ent).currency=b.g.currency
 ·rw[if_pos h,if_pos h]
 ·rw[if_neg h,if_neg h,if_neg h,if_neg h];by_cases h2:basis=2
  ·subst h2;rfl
  ·rw[if_neg h2,if_neg h2,if_neg h2]
theorem VM {s:ByteArray} (h:cQ s=true):s.size=3:=by
 unfold cQ at h;simp only[Bool.and_eq_true,beq_iff_eq]at h;exact h.2
theorem va {b:XBk} (h:cE b) {ent:Int} (he:dZ b ent):cQ (cZ b ent).currency=true:=by
 obtain⟨q,hq,rfl,zT⟩:=me he;rw[show cZ b (q:Int)=b.g.entities[q]from zT];exact(Aq h.1 hq).1
theorem G9 (b:XBk) (bl gl tl:List Value) (Ae Ar:Option Addr) (ce cr:Nat) (ent:Int) (w:World) (hk:BkC w (·<w.heap.size) bl b gl Ae ce Ar cr tl) (eU:cE b) (ci:okB b) (ep:dZ b ent) (basis kd:Int) (yS:if basis=2 then 0<=kd/\kd<b.g.calendar.periods else inD kd):
 (basis=2->Calls Tryz.prog 129 #[.agg gl.toArray,.slice Ar b.rs.length cr,.string (cZ b ent).currency,kd] w (ap w (.tuple #[.int .i64 (pq b ent basis kd).1,.int .i64 (pq b ent basis kd).2])))/\
 (basis≠2->Calls Tryz.prog 130 #[.agg gl.toArray,.slice Ar b.rs.length cr,.string (cZ b ent).currency,kd] w (ap w (.tuple #[.int .i64 (pq b ent basis kd).1,.int .i64 (pq b ent basis kd).2]))):=by
 obtain⟨h0,h1,h2,h3,_⟩:=hk.g.cellsA;have fZ:gl.toArray.size=21:=by have:=hk.g.len;simpa using this
 have ft:(cZ b ent).currency.size<=140737488355328:=by have:=VM (va eU ep);omega
 have kC:b.g.currency.size<=140737488355328:=by have:=ci.1.2.2.1;omega
 constructor
 ·intro hb;unfold pq;rw[if_pos hb];rw[if_pos hb]at yS;exact KO gl b.g.currency (cZ b ent).currency b.rs Ar cr b.g.calendar.year b.g.calendar.month b.g.calendar.periods kd w fZ h0 h1 h2 h3 hk.rs ci.2.2.1 kC ft ci.2.2.2 eU.2.2 (va eU ep) (fy eU.1) yS
 ·intro hb;unfold pq;rw[if_neg hb];rw[if_neg hb]at yS;exact ZU gl b.g.currency (cZ b ent).currency b.rs Ar cr kd w fZ h0 hk.rs ci.2.2.1 kC ci.2.2.2 eU.2.2 (va eU ep) yS
theorem ZD (D M k:Nat) (b:XBk) (bl gl tl:List Value) (Ae Ar:Option Addr) (ce cr:Nat) (ent p basis date:Int) (w:World) (hk:BkC w (λq=>q<w.heap.size/\q≠D/\q≠M) bl b gl Ae ce Ar cr tl) (hd:kD w D M k bl b ent p) (eU:cE b) (ci:okB b) (ep:dZ b ent) (iA:eN b p) (sQ:(cT b.g.calendar.year b.g.calendar.month b.g.calendar.periods date).2=0) (dA:am basis) (yW:k<maxLen):
 Calls Tryz.prog 95 #[.pointer (some ⟨D,0,none⟩),basis,date] w (λe w'=>e=.returned (.tuple #[.int .i64 (kP b (cZ b ent).currency basis date p).1,.int .i64 (kP b (cZ b ent).currency basis date p).2])/\∃k',k'<=k+1/\kD w' D M k' bl b ent p/\Fr (λq=>q<w.heap.size/\q≠M) w w'):=by
 obtain⟨Kd,hpf,hpl,Ke⟩:=Js eU.1 sQ;have hib:am date:=by unfold inD at Ke;unfold am;omega
 have rD:=H_ (λ(w2:World)=>show Calls Tryz.prog 54 #[.agg #[b.g.calendar.year,b.g.calendar.month,b.g.calendar.periods],date] w2 (ap w2 (.tuple #[(iC b.g date),()])) by
  have h:=xP b.g.calendar.year b.g.calendar.month b.g.calendar.periods date w2 (fy eU.1) hib
  rwa[sQ]at h)
 have hKD:if basis=2 then 0<=BZ b basis date p/\BZ b basis date p<b.g.calendar.periods else inD (BZ b basis date p):=by
  unfold BZ;by_cases h2:basis=2
  ·subst h2;exact Kd
  ·rw[if_neg h2,if_neg h2];by_cases h1:basis=1
   ·rw[if_pos h1];exact nX eU.1 iA
   ·rw[if_neg h1];exact Ke
 have hKB:am (BZ b basis date p):=by
  by_cases h2:basis=2
  ·rw[if_pos h2]at hKD;have:=fy eU.1;unfold am;have hb:=of_decide_eq_true this;omega
  ·rw[if_neg h2]at hKD;unfold inD at hKD;unfold am;omega
 rw[Ho];have hLC:=λ(w2:World) (hf:Fr (λq=>q<w.heap.size/\q≠D/\q≠M) w w2)=>G9 b bl gl tl Ae Ar ce cr ent w2 ((hk.fr hf).mono (λq h=>Nat.lt_of_lt_of_le h.1 hf.size)) eU ci ep basis _ hKD
 have Q8:=H_ (show BZ b basis date p=(if basis=1 then bA b.g p else if basis=2 then iC b.g date else date)from rfl);obtain⟨f,Fq,hm,Mz,Ya⟩:=hd;generalize BZ b basis date p=kd at*;obtain⟨R,hR⟩:∃x,pq b ent basis kd=x:=⟨_,rfl⟩;obtain⟨c,hc⟩:∃c:MK,c=⟨(basis,kd),dA,hKB⟩:=⟨_,rfl⟩;have HFV:=H_ (λv (h:f c=some v)=>show v=R by have h2:=Ya c v h;rw[<-hR,h2,hc]);have Fj:=H_ (show Ha c=.agg #[basis,kd] by rw[hc];rfl);have MG:=H_ (show c.1=(basis,kd) by rw[hc]);rw[hR]at hLC |-;have yP:=H_ hR;obtain⟨r1,r2⟩:=R;have pb:=H_ hLC;have IM:=H_ (show kD w D M k bl b ent p from⟨f,Fq,hm,Mz,Ya⟩);have Bm:=H_ Ya;have RV:=H_ Mz;have HM0:=H_ hm;have zD:=hk.len;have XF:=H_ (λ(aw:ByteArray) (cv:Bool)=>λ(W2:World) (h:W2.heap[D]? =some (.cells (ew bl ent p (bA b.g p) (.map (some M)) aw cv).toArray 103 (0,0)))=>nQ h (λi hi=>by rw[jl zD _ _ _ _ _ _ (by omega)];exact hk.at_g hi) hk.g.len);have K22:=H_ (λ(aw:ByteArray) (cv:Bool)=>(jl zD ent p (bA b.g p) (.map (some M)) aw cv (i:=22) (by omega)).trans hk.at_e.2);obtain⟨h0,h1,h2,h3,_⟩:=hk.g.cellsA;have KCG:=H_ (λ(aw:ByteArray) (cv:Bool) (i:Nat) (hi:i<21)=>(jl zD ent p (bA b.g p) (.map (some M)) aw cv (i:=i) (by omega)).trans ((hk.at_g hi).trans (show gl[i]? =gl.toArray[i]? by rw[List.getElem?_toArray])));have KT:=H_ (λ(aw:ByteArray) (cv:Bool)=>mc zD ent p (bA b.g p) (.map (some M)) aw cv);have CW:=H_ (show(Tryz.prog.info? 29).map (·.size)=some gl.length by rw[ay];exact congrArg some hk.g.len.symm);have HDM:=H_ (show ev w D bl ent p (bA b.g p) (.map (some M)) (cZ b ent).currency (decide ((cZ b ent).currency≠b.g.currency))from Fq);obtain⟨cv,jY⟩:∃x,decide ((cZ b ent).currency≠b.g.currency)=x:=⟨_,rfl⟩;have Fl:=H_ jY;rw[jY]at HDM;obtain⟨RES,Xp⟩:∃x:Int × Int,(if(cZ b ent).currency=b.g.currency then(1000000,0)else(r1,r2))=x:=⟨_,rfl⟩;rw[Xp];have Kq:=H_ (show RES=if cv=true then(r1,r2)else(1000000,0) by
  rw[<-Xp,<-jY];by_cases h:(cZ b ent).currency=b.g.currency
  ·rw[if_pos h,if_neg (by simpa using h)]
  ·rw[if_neg h,if_pos (by simpa using h)])
 generalize T3:(cZ b ent).currency=aw at*;have aaU:=H_ T3;replace XF:=H_ (XF.o aw cv);have K22:=H_ (K22.o aw cv);have K1:=H_ ((KCG.o aw cv 1 (by omega)).trans h1);have K2:=H_ ((KCG.o aw cv 2 (by omega)).trans h2);have K3:=H_ ((KCG.o aw cv 3 (by omega)).trans h3);have KT:=H_ (KT.o aw cv);obtain⟨DL,Mr⟩:∃x,(ew bl ent p (bA b.g p) (.map (some M)) aw cv).toArray=x:=⟨_,rfl⟩;have HDX:=H_ Mr;have Dw:=H_ (show w.heap[D]? =some (.cells DL 103 (0,0)) by rw[<-Mr];exact HDM.o);rw[Mr]at XF K22 K1 K2 K3 KT;obtain⟨la,m5⟩:∃x,bA b.g p=x:=⟨_,rfl⟩;have vw:=H_ m5;have K29:=H_ (show DL[29]? =some (.int .i64 la) by rw[<-m5];exact KT.o.2.2.1);rw[m5]at Q8;have K30:=H_ KT.o.2.2.2.1;have K31:=H_ KT.o.2.2.2.2.1;have c32:=(ab Dw.o 32).trans KT.o.2.2.2.2.2;have vj:=H_ (ag Dw.o);have tu:=H_ hm.lt;obtain⟨nr,Za⟩:∃n,b.rs.length=n:=⟨_,rfl⟩;have HNR:=H_ Za;rw[Za]at K22;have HKM:=H_ yW;clear hc hk Kd hpf hpl Ke hib hKD hKB hLC hR Fq hm Mz Ya zD h0 h1 h2 h3 KCG jY Xp T3 Mr m5 Za yW iA sQ ep ci dA eU KT HDM;go_enter Tryz.func95,Tryz.ntmps95;cases cv with
 |false=>
  have hf:=H_ (show RES=(1000000,0) by rw[Kq.o];rfl);go_wp2_with fail;go_ret2;exact⟨hf.o.symm▸rfl,k,by omega,IM.o,Fr.refl _ _⟩
 |true=>
 have hf:=H_ (show RES=(r1,r2) by rw[Kq.o];rfl)
 go_upto_block 0 with(show wpList _ _ _ (Oper.mk none (Op.store _ (Operand.tmp 8) _) _ _ _ _::_) _ _;refine aO rfl 173 (.tmp 8) (.tmp 18) rfl rfl w #[(),()] 173 #[basis,date] rfl rfl rfl ln rfl (by simp[Value.oneCell']) ?_;intro w1 H1 bC dr)
 go_cut []from 20 to 42 (λwx=>wx.heap[w.heap.size]? =some (.cells #[basis,kd] 173 (0,0))/\Below w.heap.size w wx)
 case first=>
  have x0:=ab H1 1;have z0:=bB H1 1;have hD1:=(bC.block _ vj.o).trans Dw.o;have fB:=H_ H1;have hbs:∀v:Value,Below w.heap.size w (w1.setCell ⟨w.heap.size,1,none⟩ v):=λv=>((Fr.ofBelow bC).setCell (p:=⟨w.heap.size,1,none⟩) (λh=>Nat.lt_irrefl _ h) v).below
  have kY:=H_ hbs;have c29:=(ab hD1 29).trans K29.o;have lT:=H_ (dg hD1 K1.o K2.o K3.o);clear H1 hD1 hbs;by_cases eL:basis=1
  case pos=>
   have yS:=H_ (show kd=la by rw[Q8.o,if_pos eL]);replace eL:(basis==1)=true:=by simpa using eL
   go_wp2_with fail;go_meet;exact⟨by rw[yS.o];exact aG fB.o 1 _,kY.o _⟩
  case neg=>
  by_cases aH:basis=2
  case pos=>
   have yS:=H_ (show kd=iC b.g date by rw[Q8.o,if_neg eL,if_pos aH]);replace eL:(basis==1)=false:=by simpa using eL
   replace aH:(basis==2)=true:=by simpa using aH
   go_wp2_with (refine w_ 35 23 34 D (1) _ lT.o bV Tryz.underlying23 ?_);refine(rD.o _).mono ?_;rintro e w2 ⟨rfl,aH⟩;have dn:=k_ aH fB;have x0:=ab dn.o 1;have z0:=bB dn.o 1;go_wp2_with fail;go_meet;exact⟨by rw[yS.o];exact aG dn.o 1 _,((Fr.ofBelow (bC.trans (aH.mono bC.size))).setCell (p:=⟨w.heap.size,1,none⟩) (λh=>Nat.lt_irrefl _ h) _).below⟩
  case neg=>
   have yS:=H_ (show kd=date by rw[Q8.o,if_neg eL,if_neg aH]);replace eL:(basis==1)=false:=by simpa using eL
   replace aH:(basis==2)=false:=by simpa using aH
   go_wp2_with fail;go_meet;exact⟨by rw[yS.o];exact fB.o,bC⟩
 case rest=>
 obtain⟨Bq,aZ⟩:=hcut;generalize wc=w3 at*;clear H1 bC dr;have HX:=H_ Bq;have eA:=H_ aZ;have LTX:=H_ (ag Bq);have IL:=H_ (Nat.lt_of_lt_of_le vj.o aZ.size);have HD3:=H_ ((aZ.block _ vj.o).trans Dw.o);have D30:=H_ ((ab HD3.o 30).trans K30.o);have HM:=H_ (HM0.o.below aZ);obtain⟨fv,fe,ok,Kx⟩:∃a b ok,(f c).getD (0,0)=(a,b)/\(f c).isSome=ok:=⟨_,_,_,rfl,rfl⟩;have Cz:=H_ Kx;clear Bq aZ Kx;go_upto_region 9 with fail;refine cV 10 (λi=>i==8) (Ks w3 [.val (.pointer (some ⟨D,0,none⟩)),.val (.pointer (some ⟨D,0,none⟩)),.val (.pointer (some ⟨D,30,none⟩)),.val (.map (some M)),.val (.agg #[basis,kd]),.val (.tuple #[.agg #[fv,fe],ok]),.val (.tuple #[.agg #[fv,fe],ok]),.val (.agg #[fv,fe]),ok,.own (cM w3 #[.int .i64 0,.int .i64 0] 175) (cM.keep _ _ _)])
  (λw'=>Below w3.heap.size w3 w') (Ks w3 [.val (.pointer (some ⟨D,0,none⟩)),.val (.pointer (some ⟨D,0,none⟩)),.val (.pointer (some ⟨D,30,none⟩)),.val (.map (some M)),.val (.agg #[basis,kd]),.val (.tuple #[.agg #[fv,fe],ok]),.val (.tuple #[.agg #[fv,fe],ok]),.val (.agg #[fv,fe]),ok,.own (cM w3 #[.int .i64 fv,.int .i64 fe] 175) (cM.keep _ _ _)])
  (λw'=>Below w3.heap.size w3 w') K_ K_ K_ (by decide) K_ K_ K_ K_ rfl K_ _ rfl rfl (Below.refl _ _).drew ?_ ?_ ?_ ?_
 ·refine⟨b_ (q_ 0),b_ (p_ 0 42),b_ (p_ 1 43),e_ (p_ 2 44) λ_ h=>l_ h IL.o D30.o,?_,?_,b_ (p_ 5 47),b_ (p_ 6 41),b_ (p_ 6 41),?_,trivial⟩
  ·refine O1_ (q_ 8) λA0 w2 K e0 hS hK=>?_;have aJ:w2.rangeAt w.heap.size 0 [basis,kd]:=ma (r:=[]) ((hS.block _ LTX.o).trans HX.o);have aI:=ln;refine wp_load_mid 173 (.tmp 8) rfl _ _ (v_ e0) _ _ aJ Tryz.underlying173 rfl aI ?_;exact kq hK hS rfl
  ·refine O2_ (p_ 3 45) (p_ 4 46) λA0 w2 K e0 e1 hS hK=>?_;refine Mn (.tmp 45) (.tmp 46) rfl M k f (v_ e0) (HM.o.below hS) c (by rw[Fj.o];simpa[Act.eval,Array.getD_eq_getD_getElem?]using e1) ?_;rw[Cz.o.1,Cz.o.2];exact kq hK hS rfl
  ·refine O0_ λA0 w2 K hS hK=>?_;go_simp;exact hK.out _ _ (hS.alloc hS.size _) (Ks.of rfl (cM.made hS.size _ _)) (Ks.keep (ai w2 _))
 ·intro _ A0 w2 hI hall K hK;obtain⟨xp,gp,hp⟩:=hI.got 9 _ 9 rfl rfl (hall 9 (by decide) rfl);obtain⟨xv,gv,hv⟩:=hI.got 7 _ 48 rfl rfl (hall 7 (by decide) rfl);obtain⟨g,rfl,jy,f8⟩:=hp _ rfl;obtain rfl:xv=.agg #[fv,fe]:=hv _ rfl;have hS:=hI.world;refine aa rfl ?_;refine wp_store_row 175 (.tmp 9) (.tmp 48) rfl g #[fv,fe] (by simp[Act.eval,Array.getD_eq_getD_getElem?,gp]) (by simp[Act.eval,Array.getD_eq_getD_getElem?,gv]) 175 #[(),()] f8 pO rfl (by simp[Value.oneCell']) ?_;refine hK _ (aD hS jy _) ?_;intro i o d u hi ho hd hu hV;refine Ks.store (p:=9) (kn:=_) rfl hV (λDl=>?_);subst Dl;obtain rfl:_=o:=Option.some.inj ho;obtain rfl:_=d:=Option.some.inj hd;obtain rfl:_=u:=Option.some.inj (gp.symm.trans hu);exact⟨g,rfl,jy,aB f8 _⟩
 ·refine⟨o_,o_,o_,o_,o_,o_,o_,o_,?_,o_,o_,trivial⟩
  ·intro _;intro _ A0 w2 hI hd hnd K hK;have e0:=hI.p hd 6 41;exact hI.z hK
 ·intro A0 w2 hI;have hS:=hI.world;have c9:=hI.cg [(0,42),(1,43),(2,44),(3,45),(4,46),(5,47),(6,41),(7,48),(8,49),(9,9)] [10] j_;obtain⟨x0,x1,x2,x3,x4,x5,x6,x7,x8,x9,y10,hA,hV⟩:=c9;obtain rfl:x7=.agg #[fv,fe]:=hV 7 _ _ _ rfl rfl _ rfl;obtain rfl:x8=.bool ok:=hV 8 _ _ _ rfl rfl _ rfl;obtain⟨g,rfl,jy,f8⟩:=hV 9 _ _ _ rfl rfl _ rfl;clear hV hI;simp only[ba,List.foldl,List.setIfInBounds_toArray,List.set_cons_zero,List.set_cons_succ]at hA;rw[hA];clear hA;simp only[List.drop_succ_cons,List.drop_zero];have HS:=H_ hS;have CD:=H_ f8;have Gg:=H_ jy;clear hS f8 jy;generalize w2=W at*;have LTG:=H_ (ag CD.o);have De:=H_ (Nat.lt_of_lt_of_le IL.o HS.o.size);have Sq:=H_ (Nat.lt_of_lt_of_le LTX.o HS.o.size);cases ok with
  |true=>
   have hvv:fv=r1/\fe=r2:=by
    obtain⟨v,hv⟩:=Option.isSome_iff_exists.1 Cz.o.2;have h3:=Cz.o.1;rw[hv,HFV.o v hv]at h3;exact⟨(Prod.mk.inj h3).1.symm,(Prod.mk.inj h3).2.symm⟩
   obtain⟨rfl,rfl⟩:=hvv;have c0:=ab CD.o 0;have c1:=ab CD.o 1;have go:=t_ eA HS.o;go_upto_region 15 with fail;go_quiet (fail);go_wp2_with fail;go_ret2;exact⟨hf.o.symm▸rfl,k,by omega,(IM.o.below go.o).fr (((Fr.refl (λ_=>True) _)).drewN _) trivial trivial,((Fr.ofBelow go.o).mono (λq (h:q<w.heap.size/\q≠M)=>h.1)).drewN _⟩
  |false=>
  have hnv:fv=0/\fe=0:=by
   have h2:=Cz.o.2;have h3:=Cz.o.1;rw[Option.isSome_eq_false_iff,Option.isNone_iff_eq_none]at h2;rw[h2]at h3;exact⟨(Prod.mk.inj h3).1.symm,(Prod.mk.inj h3).2.symm⟩
  obtain⟨rfl,rfl⟩:=hnv;have go:=t_ eA HS.o;have Fv:=H_ ((HS.o.block _ LTX.o).trans HX.o);have X1:=H_ (ab Fv.o 1);have vh:=H_ ((HS.o.block _ IL.o).trans HD3.o);have D22:=H_ ((ab vh.o 22).trans K22.o);have D31:=H_ ((ab vh.o 31).trans K31.o);have HQ:=H_ (λ(w2:World) (h:Below W.heap.size W w2)=>pb.o w2 (((Fr.ofBelow (go.o.trans (h.mono go.o.size))).mono (λq (h:q<w.heap.size/\q≠D/\q≠M)=>h.1))));rw[HNR.o]at HQ;by_cases aH:basis=2
  case pos=>
   have eE:=H_ (λw2 h=>(HQ.o w2 h).1 aH);replace aH:(basis==2)=true:=by simpa using aH
   go_upto_region 12 with fail;refine cV 21 (λi=>i==19) (Ks W [.val (.pointer (some ⟨D,0,none⟩)),.val (.pointer (some ⟨D,0,none⟩)),.val (.pointer (some ⟨D,0,none⟩)),.val (.pointer (some ⟨D,0,none⟩)),.val (.agg gl.toArray),.val (.pointer (some ⟨D,0,none⟩)),.val (.pointer (some ⟨D,0,none⟩)),.val (.pointer (some ⟨D,0,none⟩)),.val (.pointer (some ⟨D,22,none⟩)),.val (.slice Ar nr cr),.val (.pointer (some ⟨D,0,none⟩)),.val (.pointer (some ⟨D,0,none⟩)),.val (.pointer (some ⟨D,31,none⟩)),aw,.val (.pointer (some ⟨w.heap.size,1,none⟩)),kd,.val (.tuple #[r1,r2]),.val (.tuple #[r1,r2]),r1,r2,.val (.pointer (some ⟨g,0,none⟩))])
    (λw'=>Below W.heap.size W w') (Ks W [.val (.pointer (some ⟨D,0,none⟩)),.val (.pointer (some ⟨D,0,none⟩)),.val (.pointer (some ⟨D,0,none⟩)),.val (.pointer (some ⟨D,0,none⟩)),.val (.agg gl.toArray),.val (.pointer (some ⟨D,0,none⟩)),.val (.pointer (some ⟨D,0,none⟩)),.val (.pointer (some ⟨D,0,none⟩)),.val (.pointer (some ⟨D,22,none⟩)),.val (.slice Ar nr cr),.val (.pointer (some ⟨D,0,none⟩)),.val (.pointer (some ⟨D,0,none⟩)),.val (.pointer (some ⟨D,31,none⟩)),aw,.val (.pointer (some ⟨w.heap.size,1,none⟩)),kd,.val (.tuple #[r1,r2]),.val (.tuple #[r1,r2]),r1,r2,.val (.pointer (some ⟨g,0,none⟩))])
    (λw'=>Fr (λq=>q<W.heap.size/\q≠g) W w'/\w'.heap[g]? =some (.cells #[r1,()] 175 (0,0))) K_ K_ K_ (by decide) K_ K_ K_ K_ rfl K_ _ rfl rfl ((Below.refl _ _).drew) ?_ ?_ ?_ ?_
   ·refine⟨b_ (q_ 0),b_ (p_ 0 55),b_ (p_ 1 56),b_ (p_ 2 57),?_,b_ (q_ 0),b_ (p_ 5 60),b_ (p_ 6 61),b_ (p_ 7 62),e_ (p_ 8 63) λ_ h=>l_ h De.o D22.o,b_ (q_ 0),b_ (p_ 10 65),b_ (p_ 11 66),e_ (p_ 12 67) λ_ h=>l_ h De.o D31.o,b_ (q_ 8),e_ (p_ 14 69) λ_ h=>l_ h Sq.o X1.o,?_,b_ (p_ 16 71),b_ (p_ 17 54),b_ (p_ 17 54),b_ (q_ 9),trivial⟩
    ·refine O1_ (p_ 3 58) λA0 w2 K e0 hS hK=>?_;have aJ:w2.rangeAt D 0 gl:=XF.o _ ((hS.block _ De.o).trans vh.o);have aI:=CW.o;refine wp_load_mid 29 (.tmp 58) rfl _ _ (v_ e0) _ _ aJ Tryz.underlying29 rfl aI ?_;exact kq hK hS rfl
    ·refine O4_ (p_ 4 59) (p_ 9 64) (p_ 13 68) (p_ 15 70) λA0 w2 K e0 e1 e2 e3 hS hK=>?_;go_simp
     go_at_call 129
     refine(eE.o _ hS).mono ?_;rintro e w3 ⟨rfl,h3⟩;exact hK.out _ _ (hS.trans (h3.mono hS.size)) (Ks.of rfl rfl) (Ks.keep h3)
   ·intro _ A0 w2 hI hall K hK;obtain⟨xp,gp,hp⟩:=hI.got 20 _ 74 rfl rfl (hall 20 (by decide) rfl);obtain⟨xv,gv,hv⟩:=hI.got 18 _ 72 rfl rfl (hall 18 (by decide) rfl);obtain rfl:xp=.pointer (some ⟨g,0,none⟩):=hp _ rfl;obtain rfl:xv=.int .i64 r1:=hv _ rfl;have hS:=H_ hI.world;have Yd:=H_ ((hS.o.block _ LTG.o).trans CD.o);have cI:=ab Yd.o 0;have dS:=bB Yd.o 0;have MY:=H_ hK;clear hI hall hK hp hv;refine aa rfl ?_;go_simp;refine MY.o _ ⟨((Fr.ofBelow hS.o).mono (λq (h:q<W.heap.size/\q≠g)=>h.1)).setCell (p:=⟨g,0,none⟩) (λh=>h.2 rfl) _,aG Yd.o 0 _⟩ ?_;intro i o d u hi ho hd hu hV;exact Ks.vals (by simp) hV
   ·refine⟨o_,o_,o_,o_,o_,o_,o_,o_,o_,o_,o_,o_,o_,o_,o_,o_,o_,o_,o_,?_,o_,o_,trivial⟩
    ·intro _;intro _ A0 w2 hI hd hnd K hK;have e0:=hI.p hd 17 54;exact hI.z hK
   ·intro A0 w2 hI;have hS:=hI.world;have c9:=hI.cg [(0,55),(1,56),(2,57),(3,58),(4,59),(5,60),(6,61),(7,62),(8,63),(9,64),(10,65),(11,66),(12,67),(13,68),(14,69),(15,70),(16,71),(17,54),(18,72),(19,73),(20,74)] [75] j_;obtain⟨x0,x1,x2,x3,x4,x5,x6,x7,x8,x9,dN,ef,fh,gU,j4,jH,jZ,kv,lR,kh,rB,y75,hA,hV⟩:=c9;obtain rfl:kh=.int .i64 r2:=hV 19 _ _ _ rfl rfl _ rfl;clear hV hI;simp only[ba,List.foldl,List.setIfInBounds_toArray,List.set_cons_zero,List.set_cons_succ]at hA;rw[hA];clear hA;simp only[List.drop_succ_cons,List.drop_zero];have Ra:=H_ hS.1;have Dd:=H_ hS.2;clear hS;have c1:=ab Dd.o 1;have z1:=bB Dd.o 1;go_upto_region 14 with fail;have R7:=H_ (show(w2.setCell ⟨g,1,none⟩ (.int .i64 r2)).heap[g]? =some (.cells #[r1,r2] 175 (0,0))from aG Dd.o 1 (.int .i64 r2));have Kt:=H_ (show Fr (λq=>q<W.heap.size/\q≠g) W (w2.setCell ⟨g,1,none⟩ (.int .i64 r2))from Ra.o.setCell (λh=>h.2 rfl) _);generalize w2.setCell ⟨g,1,none⟩ (.int .i64 r2)=w7 at*;clear c1 z1;have NH:=H_ ((Kt.o.block D ⟨De.o,by have:=Gg.o;have:=IL.o;omega⟩).trans vh.o);have XR:=H_ ((ab NH.o 30).trans K30.o);have VX:=H_ (ag NH.o);have XP:=H_ ((Kt.o.block w.heap.size ⟨Sq.o,by have:=Gg.o;have:=LTX.o;omega⟩).trans Fv.o);have VU:=H_ (ag XP.o);have Nc:=H_ (ag R7.o);have HM7:=H_ ((HM0.o.below go.o).fr Kt.o ⟨Nat.lt_of_lt_of_le tu.o go.o.size,by have:=Gg.o;have:=tu.o;have:=eA.o.size;omega⟩);refine dC 6 (Ks w7 [.val (.pointer (some ⟨D,0,none⟩)),.val (.pointer (some ⟨D,0,none⟩)),.val (.pointer (some ⟨D,30,none⟩)),.val (.map (some M)),.val (.agg #[basis,kd]),.val (.agg #[r1,r2])])
     (λw'=>Below w7.heap.size w7 w') K_ K_ K_ (by decide) K_ K_ K_ (Below.refl _ _).drew ?_ ?_
    ·refine⟨b_ (q_ 0),b_ (p_ 0 98),b_ (p_ 1 99),e_ (p_ 2 100) λ_ h=>l_ h VX.o XR.o,?_,?_,trivial⟩
     ·refine O1_ (q_ 8) λA0 w2 K e0 hS hK=>?_;have aJ:w2.rangeAt w.heap.size 0 [basis,kd]:=ma (r:=[]) ((hS.block _ VU.o).trans XP.o);have aI:=ln;refine wp_load_mid 173 (.tmp 8) rfl _ _ (v_ e0) _ _ aJ Tryz.underlying173 rfl aI ?_;exact kq hK hS rfl
     ·refine O1_ (q_ 9) λA0 w2 K e0 hS hK=>?_;have aJ:w2.rangeAt g 0 [r1,r2]:=ma (r:=[]) ((hS.block _ Nc.o).trans R7.o);have aI:=pO;refine wp_load_mid 175 (.tmp 9) rfl _ _ (v_ e0) _ _ aJ Tryz.underlying175 rfl aI ?_;exact kq hK hS rfl
    ·intro A0 w2 hI;have hS:=hI.world;have c9:=hI.cg [(0,98),(1,99),(2,100),(3,101),(4,102),(5,103)] [] j_;obtain⟨x0,x1,x2,x3,x4,x5,hA,hV⟩:=c9;obtain rfl:x3=.map (some M):=hV 3 _ _ _ rfl rfl _ rfl;obtain rfl:x4=.agg #[basis,kd]:=hV 4 _ _ _ rfl rfl _ rfl;obtain rfl:x5=.agg #[r1,r2]:=hV 5 _ _ _ rfl rfl _ rfl;clear hV hI;simp only[ba,List.foldl,List.setIfInBounds_toArray,List.set_cons_zero,List.set_cons_succ]at hA;rw[hA];clear hA;simp only[List.drop_succ_cons,List.drop_zero];refine oo rfl rfl (.tmp 101) (.tmp 102) (.tmp 103) rfl M k f rfl (HM7.o.below hS) HKM.o c (by rw[Fj.o];rfl) (r1,r2) rfl ?_;intro w8 hm8 CE;have HM8:=H_ hm8;have YT:=H_ ((Fr.ofBelow hS).mono (λq (h:q<w7.heap.size/\q≠M)=>h.1)|>.trans (CE.mono (λq (h:q<w7.heap.size/\q≠M)=>h.2)));clear hm8 CE hS;have hgM:g≠M:=by have:=Gg.o;have:=tu.o;have:=eA.o.size;omega
     have Ry:=H_ ((YT.o.block g ⟨Nc.o,hgM⟩).trans R7.o);clear hgM;have c0:=ab Ry.o 0;have c1:=ab Ry.o 1;have FI:=H_ (show Fr (λq=>q<w.heap.size/\q≠M) w w8 from((Fr.ofBelow go.o).mono (λq (h:q<w.heap.size/\q≠M)=>h.1)).trans ((Kt.o.mono (λq (h:q<w.heap.size/\q≠M)=>⟨Nat.lt_of_lt_of_le h.1 go.o.size,by have:=Gg.o;have:=eA.o.size;have:=h.1;omega⟩)).trans (YT.o.mono (λq (h:q<w.heap.size/\q≠M)=>⟨Nat.lt_of_lt_of_le h.1 (Nat.le_trans go.o.size Kt.o.size),h.2⟩))));go_upto_region 15 with fail;go_quiet (fail);go_wp2_with fail;go_ret2;refine⟨hf.o.symm▸rfl,k+1,by omega,?_,FI.o.drewN _⟩;have lM:=FI.o.drewN 0;refine kD.fr ?_ ((Fr.refl (λ_=>True) _).drewN _) trivial trivial;refine⟨_,?_,HM8.o,RV.o,?_⟩
     ·unfold ev;rw[aaU.o,Fl.o,HDX.o];exact(FI.o.block D ⟨vj.o,RV.o.symm⟩).trans Dw.o
     ·intro d v JZ;by_cases XX:d=c
      ·rw[if_pos XX]at JZ;rw[XX,MG.o,<-Option.some.inj JZ];exact yP.o.symm
      ·rw[if_neg XX]at JZ;exact Bm.o d v JZ
  case neg=>
   have eE:=H_ (λw2 h=>(HQ.o w2 h).2 aH);replace aH:(basis==2)=false:=by simpa using aH
   go_upto_region 13 with fail;refine cV 21 (λi=>i==19) (Ks W [.val (.pointer (some ⟨D,0,none⟩)),.val (.pointer (some ⟨D,0,none⟩)),.val (.pointer (some ⟨D,0,none⟩)),.val (.pointer (some ⟨D,0,none⟩)),.val (.agg gl.toArray),.val (.pointer (some ⟨D,0,none⟩)),.val (.pointer (some ⟨D,0,none⟩)),.val (.pointer (some ⟨D,0,none⟩)),.val (.pointer (some ⟨D,22,none⟩)),.val (.slice Ar nr cr),.val (.pointer (some ⟨D,0,none⟩)),.val (.pointer (some ⟨D,0,none⟩)),.val (.pointer (some ⟨D,31,none⟩)),aw,.val (.pointer (some ⟨w.heap.size,1,none⟩)),kd,.val (.tuple #[r1,r2]),.val (.tuple #[r1,r2]),r1,r2,.val (.pointer (some ⟨g,0,none⟩))])
    (λw'=>Below W.heap.size W w') (Ks W [.val (.pointer (some ⟨D,0,none⟩)),.val (.pointer (some ⟨D,0,none⟩)),.val (.pointer (some ⟨D,0,none⟩)),.val (.pointer (some ⟨D,0,none⟩)),.val (.agg gl.toArray),.val (.pointer (some ⟨D,0,none⟩)),.val (.pointer (some ⟨D,0,none⟩)),.val (.pointer (some ⟨D,0,none⟩)),.val (.pointer (some ⟨D,22,none⟩)),.val (.slice Ar nr cr),.val (.pointer (some ⟨D,0,none⟩)),.val (.pointer (some ⟨D,0,none⟩)),.val (.pointer (some ⟨D,31,none⟩)),aw,.val (.pointer (some ⟨w.heap.size,1,none⟩)),kd,.val (.tuple #[r1,r2]),.val (.tuple #[r1,r2]),r1,r2,.val (.pointer (some ⟨g,0,none⟩))])
    (λw'=>Fr (λq=>q<W.heap.size/\q≠g) W w'/\w'.heap[g]? =some (.cells #[r1,()] 175 (0,0))) K_ K_ K_ (by decide) K_ K_ K_ K_ rfl K_ _ rfl rfl ((Below.refl _ _).drew) ?_ ?_ ?_ ?_
   ·refine⟨b_ (q_ 0),b_ (p_ 0 77),b_ (p_ 1 78),b_ (p_ 2 79),?_,b_ (q_ 0),b_ (p_ 5 82),b_ (p_ 6 83),b_ (p_ 7 84),e_ (p_ 8 85) λ_ h=>l_ h De.o D22.o,b_ (q_ 0),b_ (p_ 10 87),b_ (p_ 11 88),e_ (p_ 12 89) λ_ h=>l_ h De.o D31.o,b_ (q_ 8),e_ (p_ 14 91) λ_ h=>l_ h Sq.o X1.o,?_,b_ (p_ 16 93),b_ (p_ 17 76),b_ (p_ 17 76),b_ (q_ 9),trivial⟩
    ·refine O1_ (p_ 3 80) λA0 w2 K e0 hS hK=>?_;have aJ:w2.rangeAt D 0 gl:=XF.o _ ((hS.block _ De.o).trans vh.o);have aI:=CW.o;refine wp_load_mid 29 (.tmp 80) rfl _ _ (v_ e0) _ _ aJ Tryz.underlying29 rfl aI ?_;exact kq hK hS rfl
    ·refine O4_ (p_ 4 81) (p_ 9 86) (p_ 13 90) (p_ 15 92) λA0 w2 K e0 e1 e2 e3 hS hK=>?_;go_simp
     go_at_call 130
     refine(eE.o _ hS).mono ?_;rintro e w3 ⟨rfl,h3⟩;exact hK.out _ _ (hS.trans (h3.mono hS.size)) (Ks.of rfl rfl) (Ks.keep h3)
   ·intro _ A0 w2 hI hall K hK;obtain⟨xp,gp,hp⟩:=hI.got 20 _ 96 rfl rfl (hall 20 (by decide) rfl);obtain⟨xv,gv,hv⟩:=hI.got 18 _ 94 rfl rfl (hall 18 (by decide) rfl);obtain rfl:xp=.pointer (some ⟨g,0,none⟩):=hp _ rfl;obtain rfl:xv=.int .i64 r1:=hv _ rfl;have hS:=H_ hI.world;have Yd:=H_ ((hS.o.block _ LTG.o).trans CD.o);have cI:=ab Yd.o 0;have dS:=bB Yd.o 0;have MY:=H_ hK;clear hI hall hK hp hv;refine aa rfl ?_;go_simp;refine MY.o _ ⟨((Fr.ofBelow hS.o).mono (λq (h:q<W.heap.size/\q≠g)=>h.1)).setCell (p:=⟨g,0,none⟩) (λh=>h.2 rfl) _,aG Yd.o 0 _⟩ ?_;intro i o d u hi ho hd hu hV;exact Ks.vals (by simp) hV
   ·refine⟨o_,o_,o_,o_,o_,o_,o_,o_,o_,o_,o_,o_,o_,o_,o_,o_,o_,o_,o_,?_,o_,o_,trivial⟩
    ·intro _;intro _ A0 w2 hI hd hnd K hK;have e0:=hI.p hd 17 76;exact hI.z hK
   ·intro A0 w2 hI;have hS:=hI.world;have c9:=hI.cg [(0,77),(1,78),(2,79),(3,80),(4,81),(5,82),(6,83),(7,84),(8,85),(9,86),(10,87),(11,88),(12,89),(13,90),(14,91),(15,92),(16,93),(17,76),(18,94),(19,95),(20,96)] [97] j_;obtain⟨x0,x1,x2,x3,x4,x5,x6,x7,x8,x9,dN,ef,fh,gU,j4,jH,jZ,kv,lR,kh,rB,y97,hA,hV⟩:=c9;obtain rfl:kh=.int .i64 r2:=hV 19 _ _ _ rfl rfl _ rfl;clear hV hI;simp only[ba,List.foldl,List.setIfInBounds_toArray,List.set_cons_zero,List.set_cons_succ]at hA;rw[hA];clear hA;simp only[List.drop_succ_cons,List.drop_zero];have Ra:=H_ hS.1;have Dd:=H_ hS.2;clear hS;have c1:=ab Dd.o 1;have z1:=bB Dd.o 1;go_upto_region 14 with fail;have R7:=H_ (show(w2.setCell ⟨g,1,none⟩ (.int .i64 r2)).heap[g]? =some (.cells #[r1,r2] 175 (0,0))from aG Dd.o 1 (.int .i64 r2));have Kt:=H_ (show Fr (λq=>q<W.heap.size/\q≠g) W (w2.setCell ⟨g,1,none⟩ (.int .i64 r2))from Ra.o.setCell (λh=>h.2 rfl) _);generalize w2.setCell ⟨g,1,none⟩ (.int .i64 r2)=w7 at*;clear c1 z1;have NH:=H_ ((Kt.o.block D ⟨De.o,by have:=Gg.o;have:=IL.o;omega⟩).trans vh.o);have XR:=H_ ((ab NH.o 30).trans K30.o);have VX:=H_ (ag NH.o);have XP:=H_ ((Kt.o.block w.heap.size ⟨Sq.o,by have:=Gg.o;have:=LTX.o;omega⟩).trans Fv.o);have VU:=H_ (ag XP.o);have Nc:=H_ (ag R7.o);have HM7:=H_ ((HM0.o.below go.o).fr Kt.o ⟨Nat.lt_of_lt_of_le tu.o go.o.size,by have:=Gg.o;have:=tu.o;have:=eA.o.size;omega⟩);refine dC 6 (Ks w7 [.val (.pointer (some ⟨D,0,none⟩)),.val (.pointer (some ⟨D,0,none⟩)),.val (.pointer (some ⟨D,30,none⟩)),.val (.map (some M)),.val (.agg #[basis,kd]),.val (.agg #[r1,r2])])
     (λw'=>Below w7.heap.size w7 w') K_ K_ K_ (by decide) K_ K_ K_ (Below.refl _ _).drew ?_ ?_
    ·refine⟨b_ (q_ 0),b_ (p_ 0 98),b_ (p_ 1 99),e_ (p_ 2 100) λ_ h=>l_ h VX.o XR.o,?_,?_,trivial⟩
     ·refine O1_ (q_ 8) λA0 w2 K e0 hS hK=>?_;have aJ:w2.rangeAt w.heap.size 0 [basis,kd]:=ma (r:=[]) ((hS.block _ VU.o).trans XP.o);have aI:=ln;refine wp_load_mid 173 (.tmp 8) rfl _ _ (v_ e0) _ _ aJ Tryz.underlying173 rfl aI ?_;exact kq hK hS rfl
     ·refine O1_ (q_ 9) λA0 w2 K e0 hS hK=>?_;have aJ:w2.rangeAt g 0 [r1,r2]:=ma (r:=[]) ((hS.block _ Nc.o).trans R7.o);have aI:=pO;refine wp_load_mid 175 (.tmp 9) rfl _ _ (v_ e0) _ _ aJ Tryz.underlying175 rfl aI ?_;exact kq hK hS rfl
    ·intro A0 w2 hI;have hS:=hI.world;have c9:=hI.cg [(0,98),(1,99),(2,100),(3,101),(4,102),(5,103)] [] j_;obtain⟨x0,x1,x2,x3,x4,x5,hA,hV⟩:=c9;obtain rfl:x3=.map (some M):=hV 3 _ _ _ rfl rfl _ rfl;obtain rfl:x4=.agg #[basis,kd]:=hV 4 _ _ _ rfl rfl _ rfl;obtain rfl:x5=.agg #[r1,r2]:=hV 5 _ _ _ rfl rfl _ rfl;clear hV hI;simp only[ba,List.foldl,List.setIfInBounds_toArray,List.set_cons_zero,List.set_cons_succ]at hA;rw[hA];clear hA;simp only[List.drop_succ_cons,List.drop_zero];refine oo rfl rfl (.tmp 101) (.tmp 102) (.tmp 103) rfl M k f rfl (HM7.o.below hS) HKM.o c (by rw[Fj.o];rfl) (r1,r2) rfl ?_;intro w8 hm8 CE;have HM8:=H_ hm8;have YT:=H_ ((Fr.ofBelow hS).mono (λq (h:q<w7.heap.size/\q≠M)=>h.1)|>.trans (CE.mono (λq (h:q<w7.heap.size/\q≠M)=>h.2)));clear hm8 CE hS;have hgM:g≠M:=by have:=Gg.o;have:=tu.o;have:=eA.o.size;omega
     have Ry:=H_ ((YT.o.block g ⟨Nc.o,hgM⟩).trans R7.o);clear hgM;have c0:=ab Ry.o 0;have c1:=ab Ry.o 1;have FI:=H_ (show Fr (λq=>q<w.heap.size/\q≠M) w w8 from((Fr.ofBelow go.o).mono (λq (h:q<w.heap.size/\q≠M)=>h.1)).trans ((Kt.o.mono (λq (h:q<w.heap.size/\q≠M)=>⟨Nat.lt_of_lt_of_le h.1 go.o.size,by have:=Gg.o;have:=eA.o.size;have:=h.1;omega⟩)).trans (YT.o.mono (λq (h:q<w.heap.size/\q≠M)=>⟨Nat.lt_of_lt_of_le h.1 (Nat.le_trans go.o.size Kt.o.size),h.2⟩))));go_upto_region 15 with fail;go_quiet (fail);go_wp2_with fail;go_ret2;refine⟨hf.o.symm▸rfl,k+1,by omega,?_,FI.o.drewN _⟩;have lM:=FI.o.drewN 0;refine kD.fr ?_ ((Fr.refl (λ_=>True) _).drewN _) trivial trivial;refine⟨_,?_,HM8.o,RV.o,?_⟩
     ·unfold ev;rw[aaU.o,Fl.o,HDX.o];exact(FI.o.block D ⟨vj.o,RV.o.symm⟩).trans Dw.o
     ·intro d v JZ;by_cases XX:d=c
      ·rw[if_pos XX]at JZ;rw[XX,MG.o,<-Option.some.inj JZ];exact yP.o.symm
      ·rw[if_neg XX]at JZ;exact Bm.o d v JZ
end
end Go.Proofs.YtibiddakakgakaaGreat
