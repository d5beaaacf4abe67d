/- The walk of journal.Post. Written by gen_i16.py. -/
import Derived.Test.YtibiddakakgakaaGreatQdI13I15
import Derived.Shelf.SlIter.Collect
set_option linter.unusedVariables false
set_option linter.unusedSimpArgs false
set_option maxRecDepth 4000
attribute [local go_sem ↓] Go.wp_at_zero Go.wp_at_succ
set_option maxHeartbeats 16000000
namespace Go.Proofs.YtibiddakakgakaaGreat
section
open Go Go.RowKit
theorem jO {ops:Array Oper} {rest:List Oper} {o:Oper} {a:Act} {w:World} {Q:Exit->Act->World->Prop} (hg:o.guard=none) (hd:o.dst=none) (m x v:Operand) (pC:o.op=Op.mapUpdate 193 m x v)
 (b n:Nat) (f:Int->Option Int) (hm:a.eval m=.map (some b)) (h:eM w b n f) (hn:n<maxLen) (c:Int) (hx:a.eval x=.int .i64 c) (hc:cx c) (xv:Int) (hv:a.eval v=.int .i64 xv) (hxv:cx xv)
 (hK:∀w',eM w' b (n+1) (λd=>if d=c then some xv else f d)->Fr (λq=>q≠b) w w'->wpList Tryz.prog ops Q rest a w'):wpList Tryz.prog ops Q (o::rest) a w:=
 yE hg m x v pC b n f hm h hn c hx hc xv hv hxv (λw' h1 h2=>by rw[hd];exact hK w' h1 h2)
def BM (x:ak) (A:Option Addr) (c:Nat):List Value:=[.int .i64 x.id,.int .i64 x.entity,.int .i64 x.date,.int .i64 x.kind,.int .i64 x.of_,.string x.text,.slice A x.lines.length c]
theorem DV (x:ak) (A:Option Addr) (c:Nat):∀u∈BM x A c,u.oneCell'=true:=λu hu=>by
 simp[BM]at hu;rcases hu with rfl|rfl|rfl|rfl|rfl|rfl|rfl<;>rfl
def PC (B:Nat) (x:ak) (v:Value) (w:World):Prop:=∃A c,v=.agg (BM x A c).toArray/\aj bc 3 w (λq=>B<=q/\q<w.heap.size) [.slice A x.lines.length c] x.lines
def PS (B:Nat) (x:ak) (v:Value) (w:World):Prop:=∃gq A c,v=.slice (some ⟨gq,0,none⟩) 1 1/\B<=gq/\w.heap[gq]? =some (.cells (BM x A c).toArray 51 (0,0))/\aj bc 3 w (λq=>B<=q/\q<w.heap.size) [.slice A x.lines.length c] x.lines
def PA (V:World) (v0:Value) (n:Nat) (cf:List Value) (x:ak) (v:Value) (w:World):Prop:=∃W3 A c,Fr (λq=>q<V.heap.size/\v0.ownBlock≠some q) V W3/\aj bc 3 W3 (λq=>V.heap.size<=q/\q<W3.heap.size) [.slice A x.lines.length c] x.lines/\w.ownsRow 0 51 7 v (n+1) (cf++BM x A c)/\W3.grownBy w v0.ownBlock/\(v.ownBlock=v0.ownBlock\/v.ownBlock=some W3.heap.size)
theorem so {w w':World} {B:Nat} {cs:List Value} {l:List bG} (h:aj bc 3 w (λq=>B<=q/\q<w.heap.size) cs l) (hf:Fr (λq=>B<=q/\q<w.heap.size) w w'):aj bc 3 w' (λq=>B<=q/\q<w'.heap.size) cs l:=
 (h.fr (λh=>bc.fr h hf) hf).mono (λh=>bc.mono h (λq hq=>⟨hq.1,Nat.lt_of_lt_of_le hq.2 hf.size⟩)) (λq hq=>⟨hq.1,Nat.lt_of_lt_of_le hq.2 hf.size⟩)
theorem ra {w w':World} {B:Nat} {cs:List Value} {l:List bG} (h:aj bc 3 w (λq=>B<=q/\q<w.heap.size) cs l) (hb:Below w.heap.size w w'):aj bc 3 w' (λq=>B<=q/\q<w'.heap.size) cs l:=so h ((Fr.ofBelow hb).mono (λq hq=>hq.2))
theorem PC.keep (B:Nat) (x:ak):∀v w w',Below w.heap.size w w'->PC B x v w->PC B x v w':=λv w w' hb ⟨A,c,e,h⟩=>⟨A,c,e,ra h hb⟩
theorem PS.keep (B:Nat) (x:ak):∀v w w',Below w.heap.size w w'->PS B x v w->PS B x v w':=λv w w' hb ⟨gq,A,c,e,h1,h2,h⟩=>⟨gq,A,c,e,h1,(hb.block gq (ag h2)).trans h2,ra h hb⟩
theorem PA.keep (V:World) (v0:Value) (n:Nat) (cf:List Value) (x:ak):∀v w w',Below w.heap.size w w'->PA V v0 n cf x v w->PA V v0 n cf x v w':=λv w w' hb ⟨W3,A,c,h1,h2,h3,h4,h5⟩=>⟨W3,A,c,h1,h2,bb h3 hb,h4.andThen ((fL hb).but _) (λj hj=> .inr hj),h5⟩
theorem PC.grow {B:Nat} {x:ak} {v:Value} {w w':World} {row:Option Nat} (h:PC B x v w) (hg:w.grownBy w' row) (hr:∀q,row=some q->q<B):PC B x v w':=by
 obtain⟨A,c,e,h⟩:=h;exact⟨A,c,e,so h ⟨hg.os,hg.tape,hg.output,hg.size,λq hq=>hg.block q hq.2 (λe=>by have:=hr q e.symm;omega)⟩⟩
theorem PS.grow {B:Nat} {x:ak} {v:Value} {w w':World} {row:Option Nat} (h:PS B x v w) (hg:w.grownBy w' row) (hr:∀q,row=some q->q<B):PS B x v w':=by
 obtain⟨gq,A,c,e,h1,h2,h⟩:=h;exact⟨gq,A,c,e,h1,(hg.block gq (ag h2) (λe=>by have:=hr gq e.symm;omega)).trans h2,so h ⟨hg.os,hg.tape,hg.output,hg.size,λq hq=>hg.block q hq.2 (λe=>by have:=hr q e.symm;omega)⟩⟩
theorem sX.of {w V W3 W5:World} {D O:Nat->Prop} {J:Nat} {g:au} {es Ft:List ak} {gl:List Value} {css:List (List Value)} {v:Value} {bi br:Nat} (hb:Below w.heap.size w V) (h:JAt W5 (λq=>D q\/(V.heap.size<=q/\q<W3.heap.size)) (λq=>O q\/(W3.heap.size<=q/\q<W5.heap.size)) J g Ft gl css v bi br)
 (hf:Fr (λq=>q<V.heap.size/\¬O q) V W5) (h1:V.heap.size<=W3.heap.size) (h2:W3.heap.size<=W5.heap.size) (hO:∀q,O q->q<w.heap.size):sX D O J g es Ft w W5:=by
 have hs:=hb.size;refine⟨W3.heap.size,by omega,h2,⟨gl,css,v,bi,br,h.mono (λq hq=>hq.elim .inl (λhq=> .inr ⟨by omega,hq.2⟩)) (λq hq=>hq) (λq hq ho=>?_) (λq hq=>?_) h.ltO⟩,((Fr.ofBelow hb).mono (λq hq=>hq.1)).trans (hf.mono (λq hq=>⟨by omega,hq.2⟩))⟩
 ·rcases hq with hq|hq
  ·exact h.dis q (.inl hq) ho
  ·rcases ho with ho|ho
   ·have:=hO q ho;omega
   ·omega
 ·rcases hq with hq|hq
  ·exact h.ltD q (.inl hq)
  ·omega
theorem ZL (D O:Nat->Prop) (J:Nat) (g:au) (es:List ak) (gl:List Value) (css:List (List Value)) (v:Value) (bi br:Nat) (x:ak) (ex:List Value) (w:World) (hj:JAt w D O J g es gl css v bi br) (ci:dQ g) (hx:ax w (λq=>q<w.heap.size/\¬O q) ex x) (ry:x.text.size<=140737488355327) (bj:x.lines.length<=100000) (bT:es.length<=100000):
 Calls Tryz.prog 109 #[.pointer (some ⟨J,0,none⟩),.agg ex.toArray] w (λe w'=>e=.returned (.int .i64 (eF g es x))/\sX D O J g es (if eF g es x=0 then es++[x]else es) w w'):=by
 obtain⟨ia,oR,ge,gg,gh⟩:=info_parts ll;obtain⟨r,hr⟩:=x_ (eF g es x);rw[hr];have HR:=H_ hr;have HJ:=H_ hj;have hx2:ax w (·<w.heap.size) ex x:=ax.mono hx (λq hq=>hq.1);have f8:aL w (·<w.heap.size) gl g:=aL.mono hj.grp (λq hq=>hj.ltD q hq);have lg:=H_ (λ(w2:World) (hb:Below w.heap.size w w2)=>SE g x gl ex w2 (f8.keep hb) ci (hx2.keep hb) ry);have yP:=H_ (λ(w2:World) (hb:Below w.heap.size w w2)=>Hw D O J g es gl css v bi br x ex w2 (hj.below hb) (hx2.keep hb));obtain⟨R,hR⟩:=x_ (dh g x);rw[hR]at lg;have MG:=H_ hR;have CW:=H_ (show(Tryz.prog.info? 29).map (·.size)=some gl.length by rw[ay,hj.glen]);obtain⟨Av,nv,cv,rfl⟩:=bS hj.row;obtain rfl:=fV hj.row;obtain⟨n,hn⟩:=x_ (es.length);have HN:=H_ hn;obtain⟨cf,hcf⟩:=x_ (css.flatten);have HCF:=H_ hcf;rw[hn]at bT;obtain⟨Al,cl,YX,oY,TM⟩:=hx.lit;subst YX;have Sm:=H_ TM;have HXB:=H_ oY;obtain⟨xi,xe,xd,xk,xo,xt,ls⟩:=x;simp only at oY ry bj lg yP Sm HXB |-;have VA:=H_ oY.1;have HXO:=H_ oY.2.2.2.2;obtain⟨nl,nC⟩:∃n,ls.length=n:=⟨_,rfl⟩;have jz:=H_ nC;rw[nC]at lg yP Sm bj |-;have Bp:=H_ hj.ltO;clear hx hx2 f8 hr TM oY nC hj hR hcf ci ry;rw[hn]at HJ;clear hn;show Calls Tryz.prog 109 #[.pointer (some ⟨J,0,none⟩),.agg #[xi,xe,xd,xk,xo,xt,.slice Al nl cl]] w (λe w'=>e=.returned (.int .i64 r)/\sX D O J g es (if r=0 then es++[⟨xi,xe,xd,xk,xo,xt,ls⟩]else es) w w');obtain⟨ES,hES⟩:=x_ ((if r=0 then es++[⟨xi,xe,xd,xk,xo,xt,ls⟩]else es));rw[hES];have Db:=H_ hES;clear hES;go_enter Tryz.func109,Tryz.ntmps109;go_upto_region 1 with fail;obtain⟨W,cS,H1,bC,dr,ewx⟩:=B_ w (.cells #[xi,xe,xd,xk,xo,xt,.slice Al nl cl] 51);rw[cS];clear ewx;clear cS;have HK:=H_ H1;clear H1;have HJ1:=H_ (HJ.o.below bC);have gT:=H_ bC;have tw:=H_ ((dO HJ1.o.blk).split.1);have rM:=H_ (dO (cs:=[.int .i64 xi,.int .i64 xe,.int .i64 xd,.int .i64 xk,.int .i64 xo,.string xt,.slice Al nl cl]) HK.o);have Rg:w.heap.size<W.heap.size:=dr;go_upto_region 3 with fail
 refine bk (Ks W [.val (.pointer (some ⟨J,0,none⟩)),.val (.pointer (some ⟨J,0,none⟩)),.val (.pointer (some ⟨J,0,none⟩)),.val (.agg gl.toArray),.val (.agg #[xi,xe,xd,xk,xo,xt,.slice Al nl cl]),R,R])
  (λw'=>Below W.heap.size W w') K_ K_ K_ (Below.refl _ _).drew ?_ ?_
 ·refine⟨b_ (q_ 0),b_ (p_ 0 11),b_ (p_ 1 12),?_,?_,?_,b_ (p_ 5 16),trivial⟩
  ·refine O1_ (p_ 2 13) λA0 w2 K e0 hS hK=>?_;have aJ:w2.rangeAt J 0 gl:=(tw.o.fr (Fr.ofBelow hS)).range;have aI:=CW.o;refine wp_load_mid 29 (.tmp 13) rfl _ _ (v_ e0) _ _ aJ Tryz.underlying29 rfl aI ?_;exact kq hK hS rfl
  ·refine O1_ (q_ 3) λA0 w2 K e0 hS hK=>?_;have aJ:w2.rangeAt w.heap.size 0 [xi,xe,xd,xk,xo,xt,.slice Al nl cl]:=(rM.o.fr (Fr.ofBelow hS)).range;have aI:=aY;refine wp_load_mid 51 (.tmp 3) rfl _ _ (v_ e0) _ _ aJ Tryz.underlying51 rfl aI ?_;exact kq hK hS rfl
  ·refine O2_ (p_ 3 14) (p_ 4 15) λA0 w2 K e0 e1 hS hK=>?_;go_simp
   go_at_call 150
   refine(lg.o w2 (gT.o.trans (hS.mono gT.o.size))).mono ?_;rintro e w3 ⟨rfl,h3⟩;exact hK.out _ _ (hS.trans (h3.mono hS.size)) (Ks.of rfl rfl) (Ks.keep h3)
 ·intro _ A0 w2 hI hall;have hS:=hI.world;have c9:=hI.ch hall [11,12,13,14,15,16,5];obtain⟨x0,x1,x2,x3,x4,x5,x6,hA,hV⟩:=c9;obtain rfl:x6=.int .i64 R:=hV 6 _ _ rfl _ rfl;clear hV hI hall;simp only[ba,List.foldl,List.setIfInBounds_toArray,List.set_cons_zero,List.set_cons_succ]at hA;rw[hA];clear hA;have aZ:Below w.heap.size w w2:=gT.o.trans (hS.mono gT.o.size);have abi:=k_ hS HK;have adG:=Nat.lt_of_lt_of_le Rg hS.size;clear tw rM;by_cases pD:R=0
  case neg=>
   have lc:(R !=0)=true:=by simp[pD]
   have hf:=H_ (show r=R from HR.o.symm.trans (Ju MG.o pD));have Rt:=H_ (show ¬r=0 from λe=>pD (hf.o.symm.trans e));clear pD;go_wp2_with fail;go_ret;refine⟨hf.o.symm▸rfl,?_⟩;rw[<-Db.o,if_neg Rt.o];exact HJ.o.same aZ
  case pos=>
  have lc:(R !=0)=false:=by simp[pD]
  have qo:=H_ (show dh g ⟨xi,xe,xd,xk,xo,xt,ls⟩=0 from MG.o.trans pD);clear pD;obtain⟨W3,hW3⟩:∃W3,W3=w2:=⟨_,rfl⟩;subst hW3;have Ol:=H_ aZ;have HJ3:=H_ (HJ1.o.below hS);have Da:=H_ HJ3.o.idx;have RZ:=H_ HJ3.o.cell.2.1;have Vq:=H_ (show W3.cell? ⟨w.heap.size,0,none⟩=some (.int .i64 xi)from ab abi.o 0);clear hS aZ;go_upto_region 6 with fail;clear lc;cases ja:eH es xi with
  |some k0=>
   have pE:=H_ (show Option.map (λk:Nat=>(k:Int)) (eH es xi)=some (k0:Int) by rw[ja];rfl);have hf:=H_ (show r=9 from HR.o.symm.trans (Jv qo.o ja));clear ja;refine bp (Ks W3 [.val (.pointer (some ⟨J,0,none⟩)),.val (.pointer (some ⟨J,0,none⟩)),.val (.pointer (some ⟨J,22,none⟩)),.val (.map (some bi)),.val (.pointer (some ⟨w.heap.size,0,none⟩)),xi,.val (.tuple #[(k0:Int),true]),.val (.tuple #[(k0:Int),true]),(k0:Int),true,(k0:Int),true])
    (λw'=>w'=W3.drew) K_ K_ K_ rfl ?_ ?_
   ·refine⟨b_ (q_ 0),b_ (p_ 0 21),b_ (p_ 1 22),?_,b_ (q_ 3),?_,?_,b_ (p_ 6 27),b_ (p_ 7 20),b_ (p_ 7 20),b_ (p_ 8 28),b_ (p_ 9 29),trivial⟩
    ·intro _ A0 w2 hI hd hnd K hK;have e0:=hI.p hd 2 23;have hS:=H_ (show w2=W3.drew from hI.world);have cI:w2.cell? ⟨J,22,none⟩=some (.map (some bi)):=by rw[hS.o];exact RZ.o
     exact hI.z hK
    ·intro _ A0 w2 hI hd hnd K hK;have e0:=hI.p hd 4 25;have hS:=H_ (show w2=W3.drew from hI.world);have cI:w2.cell? ⟨w.heap.size,0,none⟩=some (.int .i64 xi):=by rw[hS.o];exact Vq.o
     exact hI.z hK
    ·intro _ A0 w2 hI hd hnd K hK;have e0:=hI.p hd 3 24;have e1:=hI.p hd 5 26;have hS:=H_ (show w2=W3.drew from hI.world);have Kx:(Instr.lookup 193 (.map (some bi)) (.int .i64 xi) true).run Tryz.prog w2=.ok (.tuple #[(k0:Int),true]) w2:=by
      have h:=(Da.o.same (w':=w2) (by rw[hS.o];rfl)).look VA.o;simp only[pE.o]at h;exact h
     exact hI.z hK
   ·intro _ A0 w2 hI hall;obtain⟨x0,g0,h0⟩:=hI.got 0 _ 21 rfl rfl (hall 0 (by decide));obtain⟨x1,g1,h1⟩:=hI.got 1 _ 22 rfl rfl (hall 1 (by decide));obtain⟨x2,g2,h2⟩:=hI.got 2 _ 23 rfl rfl (hall 2 (by decide));obtain⟨x3,g3,h3⟩:=hI.got 3 _ 24 rfl rfl (hall 3 (by decide));obtain⟨x4,g4,h4⟩:=hI.got 4 _ 25 rfl rfl (hall 4 (by decide));obtain⟨x5,g5,h5⟩:=hI.got 5 _ 26 rfl rfl (hall 5 (by decide));obtain⟨x6,g6,h6⟩:=hI.got 6 _ 27 rfl rfl (hall 6 (by decide));obtain⟨x7,g7,h7⟩:=hI.got 7 _ 20 rfl rfl (hall 7 (by decide));obtain⟨x8,g8,h8⟩:=hI.got 8 _ 28 rfl rfl (hall 8 (by decide));obtain⟨x9,g9,h9⟩:=hI.got 9 _ 29 rfl rfl (hall 9 (by decide));obtain⟨dN,cR,dl⟩:=hI.got 10 _ 6 rfl rfl (hall 10 (by decide));obtain⟨ef,dm,dx⟩:=hI.got 11 _ 7 rfl rfl (hall 11 (by decide));obtain rfl:w2=W3.drew:=hI.world;have hA:A0=_:=hI.tmps [(21,x0),(22,x1),(23,x2),(24,x3),(25,x4),(26,x5),(27,x6),(20,x7),(28,x8),(29,x9),(6,dN),(7,ef)] (by simp only[List.mem_cons,List.not_mem_nil,or_false,forall_eq_or_imp,forall_eq];exact⟨g0,g1,g2,g3,g4,g5,g6,g7,g8,g9,cR,dm⟩) K_;obtain rfl:dN=.int .i64 (k0:Int):=dl _ rfl;obtain rfl:ef=.bool true:=dx _ rfl;clear h0 g0 h1 g1 h2 g2 h3 g3 h4 g4 h5 g5 h6 g6 h7 g7 h8 g8 h9 g9 dl cR dx dm hI hall;simp only[ba,List.foldl,List.setIfInBounds_toArray,List.set_cons_zero,List.set_cons_succ]at hA;rw[hA];clear hA;have kT:Below w.heap.size w W3.drew:=Ol.o.drew;go_wp2_with fail;go_ret;refine⟨hf.o.symm▸rfl,?_⟩;rw[<-Db.o,if_neg (by rw[hf.o];decide)];exact HJ.o.same kT
  |none=>
   have pE:=H_ (show Option.map (λk:Nat=>(k:Int)) (eH es xi)=none by rw[ja];rfl);have lL:=H_ ja;clear ja;refine bp (Ks W3 [.val (.pointer (some ⟨J,0,none⟩)),.val (.pointer (some ⟨J,0,none⟩)),.val (.pointer (some ⟨J,22,none⟩)),.val (.map (some bi)),.val (.pointer (some ⟨w.heap.size,0,none⟩)),xi,.val (.tuple #[(),false]),.val (.tuple #[(),false]),(),false,(),false])
    (λw'=>w'=W3.drew) K_ K_ K_ rfl ?_ ?_
   ·refine⟨b_ (q_ 0),b_ (p_ 0 21),b_ (p_ 1 22),?_,b_ (q_ 3),?_,?_,b_ (p_ 6 27),b_ (p_ 7 20),b_ (p_ 7 20),b_ (p_ 8 28),b_ (p_ 9 29),trivial⟩
    ·intro _ A0 w2 hI hd hnd K hK;have e0:=hI.p hd 2 23;have hS:=H_ (show w2=W3.drew from hI.world);have cI:w2.cell? ⟨J,22,none⟩=some (.map (some bi)):=by rw[hS.o];exact RZ.o
     exact hI.z hK
    ·intro _ A0 w2 hI hd hnd K hK;have e0:=hI.p hd 4 25;have hS:=H_ (show w2=W3.drew from hI.world);have cI:w2.cell? ⟨w.heap.size,0,none⟩=some (.int .i64 xi):=by rw[hS.o];exact Vq.o
     exact hI.z hK
    ·intro _ A0 w2 hI hd hnd K hK;have e0:=hI.p hd 3 24;have e1:=hI.p hd 5 26;have hS:=H_ (show w2=W3.drew from hI.world);have Kx:(Instr.lookup 193 (.map (some bi)) (.int .i64 xi) true).run Tryz.prog w2=.ok (.tuple #[(),false]) w2:=by
      have h:=(Da.o.same (w':=w2) (by rw[hS.o];rfl)).look VA.o;simp only[pE.o]at h;exact h
     exact hI.z hK
   ·intro _ A0 w2 hI hall;obtain⟨x0,g0,h0⟩:=hI.got 0 _ 21 rfl rfl (hall 0 (by decide));obtain⟨x1,g1,h1⟩:=hI.got 1 _ 22 rfl rfl (hall 1 (by decide));obtain⟨x2,g2,h2⟩:=hI.got 2 _ 23 rfl rfl (hall 2 (by decide));obtain⟨x3,g3,h3⟩:=hI.got 3 _ 24 rfl rfl (hall 3 (by decide));obtain⟨x4,g4,h4⟩:=hI.got 4 _ 25 rfl rfl (hall 4 (by decide));obtain⟨x5,g5,h5⟩:=hI.got 5 _ 26 rfl rfl (hall 5 (by decide));obtain⟨x6,g6,h6⟩:=hI.got 6 _ 27 rfl rfl (hall 6 (by decide));obtain⟨x7,g7,h7⟩:=hI.got 7 _ 20 rfl rfl (hall 7 (by decide));obtain⟨x8,g8,h8⟩:=hI.got 8 _ 28 rfl rfl (hall 8 (by decide));obtain⟨x9,g9,h9⟩:=hI.got 9 _ 29 rfl rfl (hall 9 (by decide));obtain⟨dN,cR,dl⟩:=hI.got 10 _ 6 rfl rfl (hall 10 (by decide));obtain⟨ef,dm,dx⟩:=hI.got 11 _ 7 rfl rfl (hall 11 (by decide));obtain rfl:w2=W3.drew:=hI.world;have hA:A0=_:=hI.tmps [(21,x0),(22,x1),(23,x2),(24,x3),(25,x4),(26,x5),(27,x6),(20,x7),(28,x8),(29,x9),(6,dN),(7,ef)] (by simp only[List.mem_cons,List.not_mem_nil,or_false,forall_eq_or_imp,forall_eq];exact⟨g0,g1,g2,g3,g4,g5,g6,g7,g8,g9,cR,dm⟩) K_;obtain rfl:dN=.int .i64 0:=dl _ rfl;obtain rfl:ef=.bool false:=dx _ rfl;clear h0 g0 h1 g1 h2 g2 h3 g3 h4 g4 h5 g5 h6 g6 h7 g7 h8 g8 h9 g9 dl cR dx dm hI hall;simp only[ba,List.foldl,List.setIfInBounds_toArray,List.set_cons_zero,List.set_cons_succ]at hA;rw[hA];clear hA;clear pE;have gw:=H_ (show Below w.heap.size w W3.drew from Ol.o.drew);have JY:=H_ (show W3.drew.heap[w.heap.size]? =some (.cells #[xi,xe,xd,xk,xo,xt,.slice Al nl cl] 51 (0,0))from abi.o);have abj:w.heap.size<W3.drew.heap.size:=adG;generalize W3.drew=W4 at*;have e3:=ab JY.o 3;by_cases lO:xk=3
    case neg=>
     have Sa:(xk==3)=false:=by simpa using lO
     have zH:=H_ lO;have C9:=H_ (show r=if 2000<=n then 6 else 0 from by rw[<-HN.o];exact HR.o.symm.trans (vc qo.o lL.o (λh=>absurd h lO)));clear lO;obtain⟨V,hV⟩:∃V,V=W4:=⟨_,rfl⟩;subst hV;have lU:=H_ gw.o;have Ru:=H_ JY.o;have iw:=H_ (HJ.o.below gw.o);have ME:=H_ (show eM V br n (qd es) by rw[<-HN.o];exact iw.o.rev);have XM:=H_ (show eM V bi n _ by rw[<-HN.o];exact iw.o.idx);have YQ:=H_ (Bp.o _ iw.o.oi);have XG:=H_ (Bp.o _ iw.o.orr);have V4:=H_ (show J<V.heap.size from ag iw.o.blk);have NE:=H_ (λq (hq:Value.ownBlock (.slice Av n cv)=some q)=>show q<w.heap.size from Bp.o _ (iw.o.ov q hq));have aas:w.heap.size<V.heap.size:=ag Ru.o;have qx:=iw.o.cell.1;have qJ:=C9.o;by_cases mz:2000<=n
     case pos=>
      have Bg:decide ((2000:Int)<=(n:Int))=true:=decide_eq_true (by omega);have hf:=H_ (show r=6 from qJ.trans (if_pos mz));clear mz qJ;go_wp2_with fail;go_ret;refine⟨hf.o.symm▸rfl,?_⟩;rw[<-Db.o,if_neg (by rw[hf.o];decide)];exact HJ.o.same lU.o
     case neg=>
     have Bg:decide ((2000:Int)<=(n:Int))=false:=decide_eq_false (by omega);have hf:=H_ (show r=0 from qJ.trans (if_neg mz));have HP0:=H_ (show eF g es ⟨xi,xe,xd,xk,xo,xt,ls⟩=0 from HR.o.trans hf.o);clear mz qJ;have k3:=ab Ru.o 3;go_upto_region 17 with fail;clear k3 qx Bg;have yL:Fr (λq=>q≠br) V V:=Fr.refl _ _;obtain⟨V1,hV1⟩:∃V1,V1=V:=⟨_,rfl⟩;rw[<-hV1];have yL:Fr (λq=>q≠br) V.drew V1:=by rw[hV1];exact⟨rfl,rfl,rfl,Nat.le_refl _,λ_ _=>rfl⟩
     have HM1:=H_ (show eM V1 br (n+1) (qd (es++[⟨xi,xe,xd,xk,xo,xt,ls⟩])) by rw[hV1];exact(ME.o.mono (Nat.le_succ _)).eqv (λc=>(LY iw.o.ok HP0.o zH.o c).symm));clear hV1;have kU:=H_ (show Fr (λq=>q≠br) V V1 from⟨yL.os,yL.tape,yL.output,yL.size,yL.block⟩);clear yL;have acH:=kU.o.size;have QV:=H_ ((kU.o.block w.heap.size (by show w.heap.size≠br;have:=XG.o;omega)).trans Ru.o);have RZ:=H_ ((kU.o.cell (p:=⟨J,22,none⟩) (iw.o.ne2)).trans iw.o.cell.2.1);have Kh:=H_ ((kU.o.cell (p:=⟨J,21,none⟩) (iw.o.ne2)).trans iw.o.cell.1);have Vq:=H_ (show V1.cell? ⟨w.heap.size,0,none⟩=some (.int .i64 xi)from ab QV.o 0);have Xl:=H_ (XM.o.fr kU.o iw.o.ne3);refine dC 11 (Ks V1 [.val (.pointer (some ⟨J,0,none⟩)),.val (.pointer (some ⟨J,0,none⟩)),.val (.pointer (some ⟨J,22,none⟩)),.val (.map (some bi)),.val (.pointer (some ⟨w.heap.size,0,none⟩)),xi,.val (.pointer (some ⟨J,0,none⟩)),.val (.pointer (some ⟨J,0,none⟩)),.val (.pointer (some ⟨J,21,none⟩)),.val (.slice Av n cv),(n:Int)])
      (λw'=>w'=V1.drew) K_ K_ K_ (by decide) K_ K_ K_ rfl ?_ ?_
     ·refine⟨b_ (q_ 0),b_ (p_ 0 57),b_ (p_ 1 58),?_,b_ (q_ 3),?_,b_ (q_ 0),b_ (p_ 6 63),b_ (p_ 7 64),?_,b_ (p_ 9 66),trivial⟩
      ·intro _ A0 w2 hI hd hnd K hK;have e0:=hI.p hd 2 59;have hS:=H_ (show w2=V1.drew from hI.world);have cI:w2.cell? ⟨J,22,none⟩=some (.map (some bi)):=by rw[hS.o];exact RZ.o
       exact hI.z hK
      ·intro _ A0 w2 hI hd hnd K hK;have e0:=hI.p hd 4 61;have hS:=H_ (show w2=V1.drew from hI.world);have cI:w2.cell? ⟨w.heap.size,0,none⟩=some (.int .i64 xi):=by rw[hS.o];exact Vq.o
       exact hI.z hK
      ·intro _ A0 w2 hI hd hnd K hK;have e0:=hI.p hd 8 65;have hS:=H_ (show w2=V1.drew from hI.world);have cI:w2.cell? ⟨J,21,none⟩=some (.slice Av n cv):=by rw[hS.o];exact Kh.o
       exact hI.z hK
     ·intro A0 w2 hI;obtain⟨x0,g0,h0⟩:=hI.got 0 _ 57 rfl rfl rfl;obtain⟨x1,g1,h1⟩:=hI.got 1 _ 58 rfl rfl rfl;obtain⟨x2,g2,h2⟩:=hI.got 2 _ 59 rfl rfl rfl;obtain⟨x3,g3,h3⟩:=hI.got 3 _ 60 rfl rfl rfl;obtain⟨x4,g4,h4⟩:=hI.got 4 _ 61 rfl rfl rfl;obtain⟨x5,g5,h5⟩:=hI.got 5 _ 62 rfl rfl rfl;obtain⟨x6,g6,h6⟩:=hI.got 6 _ 63 rfl rfl rfl;obtain⟨x7,g7,h7⟩:=hI.got 7 _ 64 rfl rfl rfl;obtain⟨x8,g8,h8⟩:=hI.got 8 _ 65 rfl rfl rfl;obtain⟨x9,g9,h9⟩:=hI.got 9 _ 66 rfl rfl rfl;obtain⟨dN,cR,dl⟩:=hI.got 10 _ 67 rfl rfl rfl;obtain rfl:w2=V1.drew:=hI.world;have hA:A0=_:=hI.tmps [(57,x0),(58,x1),(59,x2),(60,x3),(61,x4),(62,x5),(63,x6),(64,x7),(65,x8),(66,x9),(67,dN)] (by simp only[List.mem_cons,List.not_mem_nil,or_false,forall_eq_or_imp,forall_eq];exact⟨g0,g1,g2,g3,g4,g5,g6,g7,g8,g9,cR⟩) K_;obtain rfl:x3=.map (some bi):=h3 _ rfl;obtain rfl:x5=.int .i64 xi:=h5 _ rfl;obtain rfl:dN=.int .i64 (n:Int):=dl _ rfl;clear h0 g0 h1 g1 h2 g2 h3 g3 h4 g4 h5 g5 h6 g6 h7 g7 h8 g8 h9 g9 dl cR hI;simp only[ba,List.foldl,List.setIfInBounds_toArray,List.set_cons_zero,List.set_cons_succ]at hA;rw[hA];clear hA;simp only[List.drop_succ_cons,List.drop_zero];refine jO rfl rfl _ _ _ rfl bi n _ rfl (Xl.o.same (w':=V1.drew) rfl) (by unfold maxLen;omega) xi rfl VA.o (n:Int) rfl (by unfold cx;omega) ?_;intro V2 jA jC;have Oh:=H_ jA;have kV:=H_ (show Fr (λq=>q≠bi) V1 V2 from⟨jC.os,jC.tape,jC.output,jC.size,jC.block⟩);clear jA jC;have adP:=kV.o.size;have Ro:=H_ ((kV.o.block w.heap.size (by show w.heap.size≠bi;have:=YQ.o;omega)).trans QV.o);have VS:=H_ ((kV.o.cell (p:=⟨J,21,none⟩) (iw.o.ne1)).trans Kh.o);have YW:=H_ (HM1.o.fr kV.o (λe=>iw.o.ne3 e.symm));have Xy:=H_ (cU iw.o.row (λq hq=>(kV.o.block q (iw.o.ne4 q hq).2.1).trans (kU.o.block q (iw.o.ne4 q hq).2.2)));have ahW:=H_ ((kU.o.mono (λq (hq:q≠bi/\q≠br)=>hq.2)).trans (kV.o.mono (λq hq=>hq.1)));have HZJ:=H_ (show V2.heap[J]? =_ from((ahW.o.block J ⟨iw.o.ne1,iw.o.ne2⟩).trans iw.o.blk));clear Kh;obtain⟨V3,JV⟩:∃V3,V3=V2.drew:=⟨_,rfl⟩;have Kh:=H_ (show V3.cell? ⟨J,21,none⟩=some (.slice Av n cv) by rw[JV];exact VS.o);have rM:=H_ (show At V3 (λq=>q<V3.heap.size/\Value.ownBlock (.slice Av n cv)≠some q) ⟨w.heap.size,0,none⟩ [.int .i64 xi,.int .i64 xe,.int .i64 xd,.int .i64 xk,.int .i64 xo,.string xt,.slice Al nl cl] by
       rw[JV];exact⟨⟨show w.heap.size<V2.drew.heap.size from ag Ro.o,λe=>absurd (NE.o w.heap.size e) (Nat.lt_irrefl _)⟩,(dO (cs:=[.int .i64 xi,.int .i64 xe,.int .i64 xd,.int .i64 xk,.int .i64 xo,.string xt,.slice Al nl cl]) (show V2.drew.heap[w.heap.size]? =_ from Ro.o)).2⟩)
      have tz:=H_ (show V3.ownsRow 0 51 7 (.slice Av n cv) n cf by have h:=Xy.o;rw[HN.o,HCF.o]at h;rw[JV];exact h);have rE:=H_ (show V3.heap.size=V2.heap.size by rw[JV];rfl);have adJ:=rE.o;have Gq:=H_ (show Fr (λ_=>True) V2 V3 by rw[JV];exact⟨rfl,rfl,rfl,Nat.le_refl _,λ_ _=>rfl⟩);have Xe:=H_ (show J<V3.heap.size by have:=V4.o;omega);have Yh:=H_ (show Value.ownBlock (.slice Av n cv)≠some J from λe=>(iw.o.ne4 J e).1 rfl);have Gn:=H_ (show ∀q,Value.ownBlock (.slice Av n cv)=some q->q<V3.heap.size from λq hq=>by have:=NE.o q hq;omega);have Rn:=H_ (λ(w2:World) (hS:Fr (λq=>q<V3.heap.size/\Value.ownBlock (.slice Av n cv)≠some q) V3 w2)=>show Calls Tryz.prog 152 #[.agg #[xi,xe,xd,xk,xo,xt,.slice Al nl cl]] w2 (vF ⟨xi,xe,xd,xk,xo,xt,ls⟩ w2) by
       have ID:Fr (λq=>q<w.heap.size/\¬O q) w w2:=by
        have f1:Fr (λq=>q<w.heap.size/\¬O q) w V2:=((Fr.ofBelow lU.o).mono (λq hq=>hq.1)).trans (ahW.o.mono (λq hq=>⟨λe=>hq.2 (e▸iw.o.oi),λe=>hq.2 (e▸iw.o.orr)⟩));exact(f1.trans (Gq.o.mono (λq hq=>trivial))).trans (hS.mono (λq hq=>⟨by have:=lU.o.size;omega,λe=>hq.2 (iw.o.ov q e)⟩))
       have hl:=(Sm.o.fr (λh=>bc.fr h ID) ID).mono (Q':=(·<w2.heap.size)) (λh=>bc.mono h (λq hq=>by have:=ID.size;have:=hq.1;omega)) (λq hq=>by have:=ID.size;have:=hq.1;omega);have h:=DR xi xe xd xk xo xt ls Al cl w2 (by rw[jz.o];exact hl) (by rw[jz.o];omega);rw[jz.o]at h;exact h)
      have VC:=H_ Rg;go_upto_region 18 with fail;have hdr:V2.drew=V3:=JV.symm;refine kR 9 (Ks V3 [.val (.pointer (some ⟨J,0,none⟩)),.val (.pointer (some ⟨J,0,none⟩)),.val (.pointer (some ⟨J,0,none⟩)),.val (.pointer (some ⟨J,21,none⟩)),.val (.slice Av n cv),.val (.agg #[xi,xe,xd,xk,xo,xt,.slice Al nl cl]),.own (PC V3.heap.size ⟨xi,xe,xd,xk,xo,xt,ls⟩) (PC.keep _ _),.own (PS V3.heap.size ⟨xi,xe,xd,xk,xo,xt,ls⟩) (PS.keep _ _),.own (PA V3 (.slice Av n cv) n cf ⟨xi,xe,xd,xk,xo,xt,ls⟩) (PA.keep _ _ _ _ _)])
       (λw'=>Fr (λq=>q<V3.heap.size/\Value.ownBlock (.slice Av n cv)≠some q) V3 w'/\w'.ownsRow 0 51 7 (.slice Av n cv) n cf) K_ K_ K_ (by decide) K_ K_ K_ (by rw[hdr];exact⟨Fr.refl _ _,tz.o⟩) ?_ ?_
      ·refine⟨?_,?_,?_,?_,?_,?_,?_,?_,?_,trivial⟩
       ·intro _ A0 w2 hI hd hnd K hK;have e0:=hI.q hnd 0;have hS:=hI.world;refine aa rfl ?_;clear hI hd hnd;go_simp;exact hK.out _ _ hS (Ks.of rfl rfl) (λ_ _ _ h=>h)
       ·intro _ A0 w2 hI hd hnd K hK;have e0:=hI.q hnd 0;have hS:=hI.world;refine aa rfl ?_;clear hI hd hnd;go_simp;exact hK.out _ _ hS (Ks.of rfl rfl) (λ_ _ _ h=>h)
       ·intro _ A0 w2 hI hd hnd K hK;have e0:=hI.p hd 1 69;have hS:=hI.world;refine aa rfl ?_;clear hI hd hnd;go_simp;exact hK.out _ _ hS (Ks.of rfl rfl) (λ_ _ _ h=>h)
       ·intro _ A0 w2 hI hd hnd K hK;have e0:=hI.p hd 2 70;have hS:=hI.world;refine aa rfl ?_;clear hI hd hnd;go_simp;exact hK.out _ _ hS (Ks.of rfl rfl) (λ_ _ _ h=>h)
       ·intro _ A0 w2 hI hd hnd K hK;have e0:=hI.p hd 3 71;have hS:=hI.world;have cI:w2.cell? ⟨J,21,none⟩=some (.slice Av n cv):=(hS.1.cell (p:=⟨J,21,none⟩) ⟨Xe.o,Yh.o⟩).trans Kh.o;refine aa rfl ?_;clear hI hd hnd;go_simp;exact hK.out _ _ hS (Ks.of rfl rfl) (λ_ _ _ h=>h)
       ·intro _ A0 w2 hI hd hnd K hK;have e0:=hI.q hnd 3;have hS:=hI.world;have aJ:w2.rangeAt w.heap.size 0 [xi,xe,xd,xk,xo,xt,.slice Al nl cl]:=(rM.o.fr hS.1).range;have aI:=aY;refine aa rfl ?_;clear hI hd hnd;refine wp_load_mid 51 (.tmp 3) rfl _ _ (v_ e0) _ _ aJ Tryz.underlying51 rfl aI ?_;exact hK.out _ _ hS (Ks.of rfl rfl) (λ_ _ _ h=>h)
       ·intro _ A0 w2 hI hd hnd K hK;have e0:=hI.p hd 5 73;have hS:=hI.world;refine aa rfl ?_;clear hI hd hnd;go_simp
        go_at_call 152
        refine(Rn.o w2 hS.1).mono ?_;rintro e w3 ⟨A9,c9,rfl,NW,h3⟩;exact hK.out _ _ ⟨hS.1.trans ((Fr.ofBelow h3).mono (λq hq=>Nat.lt_of_lt_of_le hq.1 hS.1.size)),bb hS.2 h3⟩ (Ks.of rfl ⟨A9,c9,rfl,NW.mono (λh=>bc.mono h (λq hq=>⟨Nat.le_trans hS.1.size hq.1,hq.2⟩)) (λq hq=>⟨Nat.le_trans hS.1.size hq.1,hq.2⟩)⟩) (Ks.keepW h3)
       ·intro _ A0 w2 hI hd hnd K hK;obtain⟨x0,e0,h0⟩:=hI.dep hd 6 74 rfl rfl rfl K_;have hS:=hI.world;obtain⟨A9,c9,rfl,NW⟩:=h0;simp only[BM]at e0;refine aa rfl ?_;clear hI hd hnd;go_simp;exact hK.out _ _ ⟨hS.1.alloc (λk hk=>hk.1) _,bb hS.2 (ai w2 _)⟩ (Ks.of rfl ⟨w2.heap.size,A9,c9,rfl,hS.1.size,heap_alloc_new _ _,ra NW (ai w2 _)⟩) (Ks.keepW (ai w2 _))
       ·intro _ A0 w2 hI hd hnd K hK;have e0:=hI.p hd 4 72;obtain⟨x1,e1,h1⟩:=hI.dep hd 7 75 rfl rfl rfl K_;have hS:=hI.world;obtain⟨gq,A9,c9,rfl,hgq,hbk,NW⟩:=h1;refine aa rfl ?_;clear hI hd hnd;refine Cr (w:=w2) (.tmp 72) (.tmp 75) 30 rfl 0 51 ia _ 7 80 jp oR ge gg gh rfl (by decide) (.slice Av n cv) n cf (v_ e0) hS.2 (λ_=>True) (some ⟨gq,0,none⟩) 1 1 (BM ⟨xi,xe,xd,xk,xo,xt,ls⟩ A9 c9) (v_ e1) (fq hbk rfl) (DV _ _ _) (by simp only[maxLen];omega) (by omega) (by omega) (by omega) ?_;intro v9 w9 cj CT gk qw;exact hK.out _ _ ⟨hS.1.grown gk (λk hk=>hk.1) (λk hk hq=>hq.2 hk),CT⟩ (Ks.of rfl ⟨w2,A9,c9,hS.1,NW,cj,gk,qw⟩) (by
         intro j u hj hV k hk;have bv:=λq (hq:Value.ownBlock (.slice Av n cv)=some q)=>Gn.o q hq
         rcases j with _|_|_|_|_|_|_|_|_|j
         all_goals first|(exact absurd rfl hj)|(cases hk;done)|(cases hk;first|exact hV _ rfl|exact PC.grow (hV _ rfl) gk bv|exact PS.grow (hV _ rfl) gk bv))
      ·intro A0 w2 hI;have hS:=hI.world;have c9:=hI.cg [(0,68),(1,69),(2,70),(3,71),(4,72),(5,73),(6,74),(7,75),(8,76)] [77,78] j_;obtain⟨x0,x1,x2,x3,x4,x5,x6,x7,x8,y77,y78,hA,hV⟩:=c9;obtain rfl:x0=.pointer (some ⟨J,0,none⟩):=hV 0 _ _ _ rfl rfl _ rfl;have k8:(PA V3 (.slice Av n cv) n cf ⟨xi,xe,xd,xk,xo,xt,ls⟩) x8 w2:=hV 8 _ _ _ rfl rfl _ rfl;clear hV hI;simp only[ba,List.foldl,List.setIfInBounds_toArray,List.set_cons_zero,List.set_cons_succ]at hA;rw[hA];clear hA;simp only[List.drop_succ_cons,List.drop_zero];obtain⟨A9,n9,c9,rfl⟩:=bS k8.choose_spec.choose_spec.choose_spec.2.2.1;have K8:=H_ k8;have XW:=H_ hS;have s1:w2.cell? ⟨J,21,none⟩=some (.slice Av n cv):=(hS.1.cell (p:=⟨J,21,none⟩) ⟨Xe.o,Yh.o⟩).trans Kh.o;have s2:w2.frozen? ⟨J,21,none⟩=false:=(hS.1.frozen (p:=⟨J,21,none⟩) ⟨Xe.o,Yh.o⟩).trans (((Gq.o.frozen (p:=⟨J,21,none⟩) trivial)).trans (bB HZJ.o 21));clear k8 hS;go_wp2_with fail;go_ret;refine⟨hf.o.symm▸rfl,?_⟩;rw[<-Db.o,if_pos hf.o];obtain⟨W3,A8,c8,q1,q2,q3,q4,q5⟩:=K8.o;have hp:=iw.o.post_ok HP0.o ahW.o (W3:=W3) (by rw[HN.o];exact Oh.o) (by rw[HN.o];exact YW.o) ((Gq.o.mono (λq hq=>trivial)).trans (q1.mono (λq hq=>⟨by have:=rE.o;omega,hq.2⟩)))
        (ax.mk HXB.o (q2.mono (λh=>bc.mono h (λq hq=>⟨by have:=rE.o;omega,hq.2⟩)) (λq hq=>⟨by have:=rE.o;omega,hq.2⟩))) (by rw[HN.o,HCF.o];exact q3) q4 q5 rfl
       exact sX.of lU.o hp.1 hp.2.1 hp.2.2.1 hp.2.2.2 Bp.o
    case pos=>
     have Sa:(xk==3)=true:=by simpa using lO
     have zH:=H_ lO;clear lO;go_upto_region 10 with fail;go_wp2_with (refine W_ 35 51 3 w.heap.size JY.o aY Tryz.underlying51 ?_);obtain⟨rv,IB⟩:=x_ (qg es ⟨xi,xe,xd,xk,xo,xt,ls⟩);rw[IB]at yP;have aaS:=H_ IB;clear IB e3;refine(yP.o W4 gw.o).mono ?_;rintro e V ⟨rfl,cP⟩;have hbv:=gw.o.trans (cP.mono gw.o.size);have lU:=H_ hbv;have Ru:=k_ cP JY;have afh:=Nat.lt_of_lt_of_le abj cP.size;by_cases zL:rv=0
     case neg=>
      have eU:(rv !=0)=true:=by simp[zL]
      have hf:=H_ (show r=rv from HR.o.symm.trans (mQ qo.o lL.o zH.o aaS.o zL));have Rt:=H_ (show ¬r=0 from λe=>zL (hf.o.symm.trans e));clear zL;go_wp2_with fail;go_ret;refine⟨hf.o.symm▸rfl,?_⟩;rw[<-Db.o,if_neg Rt.o];exact HJ.o.same hbv
     case pos=>
     have eU:(rv !=0)=false:=by simp[zL]
     have C9:=H_ (show r=if 2000<=n then 6 else 0 from by rw[<-HN.o];exact HR.o.symm.trans (vc qo.o lL.o (λ_=>aaS.o.trans zL)));have iw:=H_ (HJ.o.below hbv);clear zL cP hbv;have ME:=H_ (show eM V br n (qd es) by rw[<-HN.o];exact iw.o.rev);have XM:=H_ (show eM V bi n _ by rw[<-HN.o];exact iw.o.idx);have YQ:=H_ (Bp.o _ iw.o.oi);have XG:=H_ (Bp.o _ iw.o.orr);have V4:=H_ (show J<V.heap.size from ag iw.o.blk);have NE:=H_ (λq (hq:Value.ownBlock (.slice Av n cv)=some q)=>show q<w.heap.size from Bp.o _ (iw.o.ov q hq));have aas:w.heap.size<V.heap.size:=ag Ru.o;have qx:=iw.o.cell.1;have qJ:=C9.o;by_cases mz:2000<=n
     case pos=>
      have Bg:decide ((2000:Int)<=(n:Int))=true:=decide_eq_true (by omega);have hf:=H_ (show r=6 from qJ.trans (if_pos mz));clear mz qJ;go_wp2_with fail;go_ret;refine⟨hf.o.symm▸rfl,?_⟩;rw[<-Db.o,if_neg (by rw[hf.o];decide)];exact HJ.o.same lU.o
     case neg=>
     have Bg:decide ((2000:Int)<=(n:Int))=false:=decide_eq_false (by omega);have hf:=H_ (show r=0 from qJ.trans (if_neg mz));have HP0:=H_ (show eF g es ⟨xi,xe,xd,xk,xo,xt,ls⟩=0 from HR.o.trans hf.o);clear mz qJ;have k3:=ab Ru.o 3;go_upto_region 16 with fail;clear k3 qx Bg;have F23:=H_ iw.o.cell.2.2;have X8:=H_ (show V.cell? ⟨w.heap.size,4,none⟩=some (.int .i64 xo)from ab Ru.o 4);have Vq:=H_ (show V.cell? ⟨w.heap.size,0,none⟩=some (.int .i64 xi)from ab Ru.o 0);refine dC 8 (Ks V [.val (.pointer (some ⟨J,0,none⟩)),.val (.pointer (some ⟨J,0,none⟩)),.val (.pointer (some ⟨J,23,none⟩)),.val (.map (some br)),.val (.pointer (some ⟨w.heap.size,4,none⟩)),xo,.val (.pointer (some ⟨w.heap.size,0,none⟩)),xi])
      (λw'=>w'=V.drew) K_ K_ K_ (by decide) K_ K_ K_ rfl ?_ ?_
     ·refine⟨b_ (q_ 0),b_ (p_ 0 49),b_ (p_ 1 50),?_,b_ (q_ 3),?_,b_ (q_ 3),?_,trivial⟩
      ·intro _ A0 w2 hI hd hnd K hK;have e0:=hI.p hd 2 51;have hS:=H_ (show w2=V.drew from hI.world);have cI:w2.cell? ⟨J,23,none⟩=some (.map (some br)):=by rw[hS.o];exact F23.o
       exact hI.z hK
      ·intro _ A0 w2 hI hd hnd K hK;have e0:=hI.p hd 4 53;have hS:=H_ (show w2=V.drew from hI.world);have cI:w2.cell? ⟨w.heap.size,4,none⟩=some (.int .i64 xo):=by rw[hS.o];exact X8.o
       exact hI.z hK
      ·intro _ A0 w2 hI hd hnd K hK;have e0:=hI.p hd 6 55;have hS:=H_ (show w2=V.drew from hI.world);have cI:w2.cell? ⟨w.heap.size,0,none⟩=some (.int .i64 xi):=by rw[hS.o];exact Vq.o
       exact hI.z hK
     ·intro A0 w2 hI;obtain⟨x0,g0,h0⟩:=hI.got 0 _ 49 rfl rfl rfl;obtain⟨x1,g1,h1⟩:=hI.got 1 _ 50 rfl rfl rfl;obtain⟨x2,g2,h2⟩:=hI.got 2 _ 51 rfl rfl rfl;obtain⟨x3,g3,h3⟩:=hI.got 3 _ 52 rfl rfl rfl;obtain⟨x4,g4,h4⟩:=hI.got 4 _ 53 rfl rfl rfl;obtain⟨x5,g5,h5⟩:=hI.got 5 _ 54 rfl rfl rfl;obtain⟨x6,g6,h6⟩:=hI.got 6 _ 55 rfl rfl rfl;obtain⟨x7,g7,h7⟩:=hI.got 7 _ 56 rfl rfl rfl;obtain rfl:w2=V.drew:=hI.world;have hA:A0=_:=hI.tmps [(49,x0),(50,x1),(51,x2),(52,x3),(53,x4),(54,x5),(55,x6),(56,x7)] (by simp only[List.mem_cons,List.not_mem_nil,or_false,forall_eq_or_imp,forall_eq];exact⟨g0,g1,g2,g3,g4,g5,g6,g7⟩) K_;obtain rfl:x3=.map (some br):=h3 _ rfl;obtain rfl:x5=.int .i64 xo:=h5 _ rfl;obtain rfl:x7=.int .i64 xi:=h7 _ rfl;clear h0 g0 h1 g1 h2 g2 h3 g3 h4 g4 h5 g5 h6 g6 h7 g7 hI;simp only[ba,List.foldl,List.setIfInBounds_toArray,List.set_cons_zero,List.set_cons_succ]at hA;rw[hA];clear hA;simp only[List.drop_succ_cons,List.drop_zero];refine jO rfl rfl _ _ _ rfl br n (qd es) rfl (ME.o.same (w':=V.drew) rfl) (by unfold maxLen;omega) xo rfl HXO.o xi rfl VA.o ?_;intro V1 nx yL;have HM1:=H_ (show eM V1 br (n+1) (qd (es++[⟨xi,xe,xd,xk,xo,xt,ls⟩]))from nx.eqv (λc=>by
       rw[AN iw.o.ok HP0.o];by_cases hc:c=xo
       ·rw[if_pos hc,if_pos ⟨zH.o,hc⟩]
       ·rw[if_neg hc,if_neg (λh=>hc h.2)]))
      have kU:=H_ (show Fr (λq=>q≠br) V V1 from⟨yL.os,yL.tape,yL.output,yL.size,yL.block⟩);clear yL;have acH:=kU.o.size;have QV:=H_ ((kU.o.block w.heap.size (by show w.heap.size≠br;have:=XG.o;omega)).trans Ru.o);have RZ:=H_ ((kU.o.cell (p:=⟨J,22,none⟩) (iw.o.ne2)).trans iw.o.cell.2.1);have Kh:=H_ ((kU.o.cell (p:=⟨J,21,none⟩) (iw.o.ne2)).trans iw.o.cell.1);have Vq:=H_ (show V1.cell? ⟨w.heap.size,0,none⟩=some (.int .i64 xi)from ab QV.o 0);have Xl:=H_ (XM.o.fr kU.o iw.o.ne3);go_upto_region 17 with fail;refine dC 11 (Ks V1 [.val (.pointer (some ⟨J,0,none⟩)),.val (.pointer (some ⟨J,0,none⟩)),.val (.pointer (some ⟨J,22,none⟩)),.val (.map (some bi)),.val (.pointer (some ⟨w.heap.size,0,none⟩)),xi,.val (.pointer (some ⟨J,0,none⟩)),.val (.pointer (some ⟨J,0,none⟩)),.val (.pointer (some ⟨J,21,none⟩)),.val (.slice Av n cv),(n:Int)])
       (λw'=>w'=V1.drew) K_ K_ K_ (by decide) K_ K_ K_ rfl ?_ ?_
      ·refine⟨b_ (q_ 0),b_ (p_ 0 57),b_ (p_ 1 58),?_,b_ (q_ 3),?_,b_ (q_ 0),b_ (p_ 6 63),b_ (p_ 7 64),?_,b_ (p_ 9 66),trivial⟩
       ·intro _ A0 w2 hI hd hnd K hK;have e0:=hI.p hd 2 59;have hS:=H_ (show w2=V1.drew from hI.world);have cI:w2.cell? ⟨J,22,none⟩=some (.map (some bi)):=by rw[hS.o];exact RZ.o
        exact hI.z hK
       ·intro _ A0 w2 hI hd hnd K hK;have e0:=hI.p hd 4 61;have hS:=H_ (show w2=V1.drew from hI.world);have cI:w2.cell? ⟨w.heap.size,0,none⟩=some (.int .i64 xi):=by rw[hS.o];exact Vq.o
        exact hI.z hK
       ·intro _ A0 w2 hI hd hnd K hK;have e0:=hI.p hd 8 65;have hS:=H_ (show w2=V1.drew from hI.world);have cI:w2.cell? ⟨J,21,none⟩=some (.slice Av n cv):=by rw[hS.o];exact Kh.o
        exact hI.z hK
      ·intro A0 w2 hI;obtain⟨x0,g0,h0⟩:=hI.got 0 _ 57 rfl rfl rfl;obtain⟨x1,g1,h1⟩:=hI.got 1 _ 58 rfl rfl rfl;obtain⟨x2,g2,h2⟩:=hI.got 2 _ 59 rfl rfl rfl;obtain⟨x3,g3,h3⟩:=hI.got 3 _ 60 rfl rfl rfl;obtain⟨x4,g4,h4⟩:=hI.got 4 _ 61 rfl rfl rfl;obtain⟨x5,g5,h5⟩:=hI.got 5 _ 62 rfl rfl rfl;obtain⟨x6,g6,h6⟩:=hI.got 6 _ 63 rfl rfl rfl;obtain⟨x7,g7,h7⟩:=hI.got 7 _ 64 rfl rfl rfl;obtain⟨x8,g8,h8⟩:=hI.got 8 _ 65 rfl rfl rfl;obtain⟨x9,g9,h9⟩:=hI.got 9 _ 66 rfl rfl rfl;obtain⟨dN,cR,dl⟩:=hI.got 10 _ 67 rfl rfl rfl;obtain rfl:w2=V1.drew:=hI.world;have hA:A0=_:=hI.tmps [(57,x0),(58,x1),(59,x2),(60,x3),(61,x4),(62,x5),(63,x6),(64,x7),(65,x8),(66,x9),(67,dN)] (by simp only[List.mem_cons,List.not_mem_nil,or_false,forall_eq_or_imp,forall_eq];exact⟨g0,g1,g2,g3,g4,g5,g6,g7,g8,g9,cR⟩) K_;obtain rfl:x3=.map (some bi):=h3 _ rfl;obtain rfl:x5=.int .i64 xi:=h5 _ rfl;obtain rfl:dN=.int .i64 (n:Int):=dl _ rfl;clear h0 g0 h1 g1 h2 g2 h3 g3 h4 g4 h5 g5 h6 g6 h7 g7 h8 g8 h9 g9 dl cR hI;simp only[ba,List.foldl,List.setIfInBounds_toArray,List.set_cons_zero,List.set_cons_succ]at hA;rw[hA];clear hA;simp only[List.drop_succ_cons,List.drop_zero];refine jO rfl rfl _ _ _ rfl bi n _ rfl (Xl.o.same (w':=V1.drew) rfl) (by unfold maxLen;omega) xi rfl VA.o (n:Int) rfl (by unfold cx;omega) ?_;intro V2 jA jC;have Oh:=H_ jA;have kV:=H_ (show Fr (λq=>q≠bi) V1 V2 from⟨jC.os,jC.tape,jC.output,jC.size,jC.block⟩);clear jA jC;have adP:=kV.o.size;have Ro:=H_ ((kV.o.block w.heap.size (by show w.heap.size≠bi;have:=YQ.o;omega)).trans QV.o);have VS:=H_ ((kV.o.cell (p:=⟨J,21,none⟩) (iw.o.ne1)).trans Kh.o);have YW:=H_ (HM1.o.fr kV.o (λe=>iw.o.ne3 e.symm));have Xy:=H_ (cU iw.o.row (λq hq=>(kV.o.block q (iw.o.ne4 q hq).2.1).trans (kU.o.block q (iw.o.ne4 q hq).2.2)));have ahW:=H_ ((kU.o.mono (λq (hq:q≠bi/\q≠br)=>hq.2)).trans (kV.o.mono (λq hq=>hq.1)));have HZJ:=H_ (show V2.heap[J]? =_ from((ahW.o.block J ⟨iw.o.ne1,iw.o.ne2⟩).trans iw.o.blk));clear Kh;obtain⟨V3,JV⟩:∃V3,V3=V2.drew:=⟨_,rfl⟩;have Kh:=H_ (show V3.cell? ⟨J,21,none⟩=some (.slice Av n cv) by rw[JV];exact VS.o);have rM:=H_ (show At V3 (λq=>q<V3.heap.size/\Value.ownBlock (.slice Av n cv)≠some q) ⟨w.heap.size,0,none⟩ [.int .i64 xi,.int .i64 xe,.int .i64 xd,.int .i64 xk,.int .i64 xo,.string xt,.slice Al nl cl] by
        rw[JV];exact⟨⟨show w.heap.size<V2.drew.heap.size from ag Ro.o,λe=>absurd (NE.o w.heap.size e) (Nat.lt_irrefl _)⟩,(dO (cs:=[.int .i64 xi,.int .i64 xe,.int .i64 xd,.int .i64 xk,.int .i64 xo,.string xt,.slice Al nl cl]) (show V2.drew.heap[w.heap.size]? =_ from Ro.o)).2⟩)
       have tz:=H_ (show V3.ownsRow 0 51 7 (.slice Av n cv) n cf by have h:=Xy.o;rw[HN.o,HCF.o]at h;rw[JV];exact h);have rE:=H_ (show V3.heap.size=V2.heap.size by rw[JV];rfl);have adJ:=rE.o;have Gq:=H_ (show Fr (λ_=>True) V2 V3 by rw[JV];exact⟨rfl,rfl,rfl,Nat.le_refl _,λ_ _=>rfl⟩);have Xe:=H_ (show J<V3.heap.size by have:=V4.o;omega);have Yh:=H_ (show Value.ownBlock (.slice Av n cv)≠some J from λe=>(iw.o.ne4 J e).1 rfl);have Gn:=H_ (show ∀q,Value.ownBlock (.slice Av n cv)=some q->q<V3.heap.size from λq hq=>by have:=NE.o q hq;omega);have Rn:=H_ (λ(w2:World) (hS:Fr (λq=>q<V3.heap.size/\Value.ownBlock (.slice Av n cv)≠some q) V3 w2)=>show Calls Tryz.prog 152 #[.agg #[xi,xe,xd,xk,xo,xt,.slice Al nl cl]] w2 (vF ⟨xi,xe,xd,xk,xo,xt,ls⟩ w2) by
        have ID:Fr (λq=>q<w.heap.size/\¬O q) w w2:=by
         have f1:Fr (λq=>q<w.heap.size/\¬O q) w V2:=((Fr.ofBelow lU.o).mono (λq hq=>hq.1)).trans (ahW.o.mono (λq hq=>⟨λe=>hq.2 (e▸iw.o.oi),λe=>hq.2 (e▸iw.o.orr)⟩));exact(f1.trans (Gq.o.mono (λq hq=>trivial))).trans (hS.mono (λq hq=>⟨by have:=lU.o.size;omega,λe=>hq.2 (iw.o.ov q e)⟩))
        have hl:=(Sm.o.fr (λh=>bc.fr h ID) ID).mono (Q':=(·<w2.heap.size)) (λh=>bc.mono h (λq hq=>by have:=ID.size;have:=hq.1;omega)) (λq hq=>by have:=ID.size;have:=hq.1;omega);have h:=DR xi xe xd xk xo xt ls Al cl w2 (by rw[jz.o];exact hl) (by rw[jz.o];omega);rw[jz.o]at h;exact h)
       have VC:=H_ Rg;go_upto_region 18 with fail;have hdr:V2.drew=V3:=JV.symm;refine kR 9 (Ks V3 [.val (.pointer (some ⟨J,0,none⟩)),.val (.pointer (some ⟨J,0,none⟩)),.val (.pointer (some ⟨J,0,none⟩)),.val (.pointer (some ⟨J,21,none⟩)),.val (.slice Av n cv),.val (.agg #[xi,xe,xd,xk,xo,xt,.slice Al nl cl]),.own (PC V3.heap.size ⟨xi,xe,xd,xk,xo,xt,ls⟩) (PC.keep _ _),.own (PS V3.heap.size ⟨xi,xe,xd,xk,xo,xt,ls⟩) (PS.keep _ _),.own (PA V3 (.slice Av n cv) n cf ⟨xi,xe,xd,xk,xo,xt,ls⟩) (PA.keep _ _ _ _ _)])
        (λw'=>Fr (λq=>q<V3.heap.size/\Value.ownBlock (.slice Av n cv)≠some q) V3 w'/\w'.ownsRow 0 51 7 (.slice Av n cv) n cf) K_ K_ K_ (by decide) K_ K_ K_ (by rw[hdr];exact⟨Fr.refl _ _,tz.o⟩) ?_ ?_
       ·refine⟨?_,?_,?_,?_,?_,?_,?_,?_,?_,trivial⟩
        ·intro _ A0 w2 hI hd hnd K hK;have e0:=hI.q hnd 0;have hS:=hI.world;refine aa rfl ?_;clear hI hd hnd;go_simp;exact hK.out _ _ hS (Ks.of rfl rfl) (λ_ _ _ h=>h)
        ·intro _ A0 w2 hI hd hnd K hK;have e0:=hI.q hnd 0;have hS:=hI.world;refine aa rfl ?_;clear hI hd hnd;go_simp;exact hK.out _ _ hS (Ks.of rfl rfl) (λ_ _ _ h=>h)
        ·intro _ A0 w2 hI hd hnd K hK;have e0:=hI.p hd 1 69;have hS:=hI.world;refine aa rfl ?_;clear hI hd hnd;go_simp;exact hK.out _ _ hS (Ks.of rfl rfl) (λ_ _ _ h=>h)
        ·intro _ A0 w2 hI hd hnd K hK;have e0:=hI.p hd 2 70;have hS:=hI.world;refine aa rfl ?_;clear hI hd hnd;go_simp;exact hK.out _ _ hS (Ks.of rfl rfl) (λ_ _ _ h=>h)
        ·intro _ A0 w2 hI hd hnd K hK;have e0:=hI.p hd 3 71;have hS:=hI.world;have cI:w2.cell? ⟨J,21,none⟩=some (.slice Av n cv):=(hS.1.cell (p:=⟨J,21,none⟩) ⟨Xe.o,Yh.o⟩).trans Kh.o;refine aa rfl ?_;clear hI hd hnd;go_simp;exact hK.out _ _ hS (Ks.of rfl rfl) (λ_ _ _ h=>h)
        ·intro _ A0 w2 hI hd hnd K hK;have e0:=hI.q hnd 3;have hS:=hI.world;have aJ:w2.rangeAt w.heap.size 0 [xi,xe,xd,xk,xo,xt,.slice Al nl cl]:=(rM.o.fr hS.1).range;have aI:=aY;refine aa rfl ?_;clear hI hd hnd;refine wp_load_mid 51 (.tmp 3) rfl _ _ (v_ e0) _ _ aJ Tryz.underlying51 rfl aI ?_;exact hK.out _ _ hS (Ks.of rfl rfl) (λ_ _ _ h=>h)
        ·intro _ A0 w2 hI hd hnd K hK;have e0:=hI.p hd 5 73;have hS:=hI.world;refine aa rfl ?_;clear hI hd hnd;go_simp
         go_at_call 152
         refine(Rn.o w2 hS.1).mono ?_;rintro e w3 ⟨A9,c9,rfl,NW,h3⟩;exact hK.out _ _ ⟨hS.1.trans ((Fr.ofBelow h3).mono (λq hq=>Nat.lt_of_lt_of_le hq.1 hS.1.size)),bb hS.2 h3⟩ (Ks.of rfl ⟨A9,c9,rfl,NW.mono (λh=>bc.mono h (λq hq=>⟨Nat.le_trans hS.1.size hq.1,hq.2⟩)) (λq hq=>⟨Nat.le_trans hS.1.size hq.1,hq.2⟩)⟩) (Ks.keepW h3)
        ·intro _ A0 w2 hI hd hnd K hK;obtain⟨x0,e0,h0⟩:=hI.dep hd 6 74 rfl rfl rfl K_;have hS:=hI.world;obtain⟨A9,c9,rfl,NW⟩:=h0;simp only[BM]at e0;refine aa rfl ?_;clear hI hd hnd;go_simp;exact hK.out _ _ ⟨hS.1.alloc (λk hk=>hk.1) _,bb hS.2 (ai w2 _)⟩ (Ks.of rfl ⟨w2.heap.size,A9,c9,rfl,hS.1.size,heap_alloc_new _ _,ra NW (ai w2 _)⟩) (Ks.keepW (ai w2 _))
        ·intro _ A0 w2 hI hd hnd K hK;have e0:=hI.p hd 4 72;obtain⟨x1,e1,h1⟩:=hI.dep hd 7 75 rfl rfl rfl K_;have hS:=hI.world;obtain⟨gq,A9,c9,rfl,hgq,hbk,NW⟩:=h1;refine aa rfl ?_;clear hI hd hnd;refine Cr (w:=w2) (.tmp 72) (.tmp 75) 30 rfl 0 51 ia _ 7 80 jp oR ge gg gh rfl (by decide) (.slice Av n cv) n cf (v_ e0) hS.2 (λ_=>True) (some ⟨gq,0,none⟩) 1 1 (BM ⟨xi,xe,xd,xk,xo,xt,ls⟩ A9 c9) (v_ e1) (fq hbk rfl) (DV _ _ _) (by simp only[maxLen];omega) (by omega) (by omega) (by omega) ?_;intro v9 w9 cj CT gk qw;exact hK.out _ _ ⟨hS.1.grown gk (λk hk=>hk.1) (λk hk hq=>hq.2 hk),CT⟩ (Ks.of rfl ⟨w2,A9,c9,hS.1,NW,cj,gk,qw⟩) (by
          intro j u hj hV k hk;have bv:=λq (hq:Value.ownBlock (.slice Av n cv)=some q)=>Gn.o q hq
          rcases j with _|_|_|_|_|_|_|_|_|j
          all_goals first|(exact absurd rfl hj)|(cases hk;done)|(cases hk;first|exact hV _ rfl|exact PC.grow (hV _ rfl) gk bv|exact PS.grow (hV _ rfl) gk bv))
       ·intro A0 w2 hI;have hS:=hI.world;have c9:=hI.cg [(0,68),(1,69),(2,70),(3,71),(4,72),(5,73),(6,74),(7,75),(8,76)] [77,78] j_;obtain⟨x0,x1,x2,x3,x4,x5,x6,x7,x8,y77,y78,hA,hV⟩:=c9;obtain rfl:x0=.pointer (some ⟨J,0,none⟩):=hV 0 _ _ _ rfl rfl _ rfl;have k8:(PA V3 (.slice Av n cv) n cf ⟨xi,xe,xd,xk,xo,xt,ls⟩) x8 w2:=hV 8 _ _ _ rfl rfl _ rfl;clear hV hI;simp only[ba,List.foldl,List.setIfInBounds_toArray,List.set_cons_zero,List.set_cons_succ]at hA;rw[hA];clear hA;simp only[List.drop_succ_cons,List.drop_zero];obtain⟨A9,n9,c9,rfl⟩:=bS k8.choose_spec.choose_spec.choose_spec.2.2.1;have K8:=H_ k8;have XW:=H_ hS;have s1:w2.cell? ⟨J,21,none⟩=some (.slice Av n cv):=(hS.1.cell (p:=⟨J,21,none⟩) ⟨Xe.o,Yh.o⟩).trans Kh.o;have s2:w2.frozen? ⟨J,21,none⟩=false:=(hS.1.frozen (p:=⟨J,21,none⟩) ⟨Xe.o,Yh.o⟩).trans (((Gq.o.frozen (p:=⟨J,21,none⟩) trivial)).trans (bB HZJ.o 21));clear k8 hS;go_wp2_with fail;go_ret;refine⟨hf.o.symm▸rfl,?_⟩;rw[<-Db.o,if_pos hf.o];obtain⟨W3,A8,c8,q1,q2,q3,q4,q5⟩:=K8.o;have hp:=iw.o.post_ok HP0.o ahW.o (W3:=W3) (by rw[HN.o];exact Oh.o) (by rw[HN.o];exact YW.o) ((Gq.o.mono (λq hq=>trivial)).trans (q1.mono (λq hq=>⟨by have:=rE.o;omega,hq.2⟩)))
         (ax.mk HXB.o (q2.mono (λh=>bc.mono h (λq hq=>⟨by have:=rE.o;omega,hq.2⟩)) (λq hq=>⟨by have:=rE.o;omega,hq.2⟩))) (by rw[HN.o,HCF.o];exact q3) q4 q5 rfl
        exact sX.of lU.o hp.1 hp.2.1 hp.2.2.1 hp.2.2.2 Bp.o
def Zs (x:ak):Prop:=x.lines.length<=60/\x.text.size<=200/\∀y∈x.lines,-1125899906842624<=y.amount/\y.amount<=1125899906842624
def GK (g:au) (es:List ak):Prop:=(∀x∈es,Zs x)/\es.length<=61/\Lk g
theorem SR (g:au) (es:List ak) (gl:List Value) (A:Option Addr) (c:Nat) (w:World) (hg:aL w (·<w.heap.size) gl g) (bP:szG g) (hl:aj ax 7 w (·<w.heap.size) [.slice A es.length c] es) (ry:∀x∈es,x.text.size<=140737488355327):
 Calls Tryz.prog 42 #[.agg gl.toArray,.slice A es.length c] w (If (GK g es) w):=by
 have HF:=H_ (λ(w2:World) (hb:Below w.heap.size w w2)=>ab7 hg bP hb);have fu:=H_ (show gl.toArray.size=21 by have:=hg.len;simpa using this);have jw:=hl.cap;obtain⟨n,bj⟩:=x_ (es.length);have HL:=H_ hl;have HN:=H_ bj;have HTS:=H_ ry;rw[bj]at jw |-;unfold maxLen at jw;have Sb:n<=9223372036854775807:=by omega
 obtain⟨P,hP⟩:=x_ (GK g es);rw[hP];have HP:=H_ hP;clear hg bP hl bj ry jw hP;go_enter Tryz.func42,Tryz.ntmps42;go_upto_region 1 with fail;obtain⟨W,cS,H1,bC,dr,ewx⟩:=B_ w (.cells gl.toArray 29);rw[cS];clear ewx;clear cS;have HK:=H_ H1;have gT:=H_ bC;clear H1;go_wp2_with fail
 go_loopw [5] (λi wr=>∃k:Nat,k<=n/\i=.int .i64 (k:Int)/\Below W.heap.size W wr/\k<=61/\∀j (hj:j<es.length),j<k->Zs es[j]) (λi _=>n- (intOf i).toNat)
 case atStart=>exact⟨0,by omega,rfl,Below.refl _ _,by omega,λj hj h=>by omega⟩
 case round=>
  obtain⟨k,hk,rfl,tQ,aeU,hall⟩:=hrel;have hb:=gT.o.trans (tQ.mono gT.o.size);have eY:=H_ hall;have zI:=H_ hb;clear hall;by_cases aU:k<n
  case pos=>
   have bq:(k:Int)< (n:Int):=by omega
   have bI:k<es.length:=by rw[HN.o];exact aU
   obtain⟨b,o,cs,dj,ed,bL,aS⟩:=aj.get HL.o k bI;subst dj;obtain⟨Al,cl,ft,_,lP⟩:=ax.lit bL;subst ft;have dt:=aS.fr (Fr.ofBelow hb);have c5:=dt.c (j:=5) rfl;have c6:=dt.c (j:=6) rfl;have htx:=HTS.o _ (List.getElem_mem bI);have mH:=lP.cap;unfold maxLen at mH;obtain⟨x,hx⟩:=x_ (es[k]);rw[hx]at c5 c6 htx lP mH;have HX:=H_ hx;obtain⟨xi,xe,xd,xk,xo,xt,ls⟩:=x;simp only at c5 c6 htx lP mH;have sV:=H_ lP;obtain⟨nl,bj⟩:∃n,ls.length=n:=⟨_,rfl⟩;have jz:=H_ bj;rw[bj]at c6 mH;have TN:0<n:=by omega
   have ae0:nl<=9223372036854775807:=by omega
   have yM:=H_ (show At w (·<w.heap.size) ⟨b,o+k*7,none⟩ [.int .i64 xi,.int .i64 xe,.int .i64 xd,.int .i64 xk,.int .i64 xo,.string xt,.slice Al nl cl] by rw[HX.o]at aS;simp only[bj]at aS;exact aS);clear bL aS dt hx lP bj mH;by_cases h1:nl<=60
   case neg=>
    have tR:decide ((60:Int)< (nl:Int))=true:=decide_eq_true (by omega);clear h1;go_wp2_with fail
    try rw[Exit.noGoto_ret]
    go_ret;exact If.no hb
   case pos=>
   have tR:decide ((60:Int)< (nl:Int))=false:=decide_eq_false (by omega);by_cases h2:xt.size<=200
   case neg=>
    have tt:decide ((200:Int)< (xt.size:Int))=true:=decide_eq_true (by omega);clear h2;go_wp2_with fail
    try rw[Exit.noGoto_ret]
    go_ret;exact If.no hb
   case pos=>
   have tt:decide ((200:Int)< (xt.size:Int))=false:=decide_eq_false (by omega);by_cases h3:k<=60
   case neg=>
    have QD:decide ((60:Int)< (k:Int))=true:=decide_eq_true (by omega);clear h3;go_wp2_with fail
    try rw[Exit.noGoto_ret]
    go_ret;exact If.no hb
   case pos=>
   have QD:decide ((60:Int)< (k:Int))=false:=decide_eq_false (by omega);have HFX:=H_ (And.intro h1 (And.intro h2 h3));clear h1 h2 h3 htx;go_wp2_with fail;clear tR tt QD c5
   go_loopw [6] (λi wr2=>∃q:Nat,q<=nl/\i=.int .i64 (q:Int)/\Below W.heap.size W wr2/\∀j (hj:j<ls.length),j<q-> -1125899906842624<=ls[j].amount/\ls[j].amount<=1125899906842624) (λi _=>nl- (intOf i).toNat)
   case atStart=>exact⟨0,by omega,rfl,tQ,λj hj h=>by omega⟩
   case round=>
    obtain⟨q,hq,rfl,hbq,C1⟩:=hrel;have aH:=gT.o.trans (hbq.mono gT.o.size);have IT:=H_ C1;clear C1;have dt:=yM.o.fr (Fr.ofBelow aH);have c6:=dt.c (j:=6) rfl;by_cases lc:q<nl
    case pos=>
     have IR:(q:Int)< (nl:Int):=by omega
     have hql:q<ls.length:=by rw[jz.o];exact lc
     obtain⟨b2,o2,cs2,YD,tv,iy,rK⟩:=aj.get sV.o q hql;subst YD;have Rx:=(bc.lit iy).1;subst Rx;have c1:=(rK.fr (Fr.ofBelow aH)).c (j:=1) rfl;obtain⟨lm,hlm⟩:∃a,ls[q].amount=a:=⟨_,rfl⟩;rw[hlm]at c1;have HLM:=H_ hlm;have hqz:0<nl:=by omega
     have hb:=aH;clear iy rK dt hlm;by_cases h1:1125899906842624<lm
     case pos=>
      have tR:decide ((1125899906842624:Int)<lm)=true:=decide_eq_true h1;clear h1;go_wp2_with fail
      try rw[Exit.noGoto_ret]
      go_ret;exact If.no hb
     case neg=>
     have tR:decide ((1125899906842624:Int)<lm)=false:=decide_eq_false h1;by_cases h2:lm< -1125899906842624
     case pos=>
      have tt:decide (lm< (-1125899906842624:Int))=true:=decide_eq_true h2;clear h1 h2;go_wp2_with fail
      try rw[Exit.noGoto_ret]
      go_ret;exact If.no hb
     case neg=>
     have tt:decide (lm< (-1125899906842624:Int))=false:=decide_eq_false h2;have lL:=H_ (show -1125899906842624<=lm/\lm<=1125899906842624 by omega);clear h1 h2;go_wp2_with fail;go_roundw
     case rel=>exact⟨q+1,by omega,by go_num,hbq,λj hj h=>by
      rcases Nat.lt_or_ge j q with h1|h1
      ·exact IT.o j hj h1
      ·have:j=q:=by omega
       subst this;rw[HLM.o];exact lL.o⟩
     case measure=>first|exact aQ lc|(simp only[intOf];omega)
    case neg=>
     have IR:¬(q:Int)< (nl:Int):=by omega
     have HAM:=H_ (show ∀y∈ls,-1125899906842624<=y.amount/\y.amount<=1125899906842624 from λy hy=>by
      obtain⟨j,hj,rfl⟩:=List.getElem_of_mem hy;exact IT.o j hj (by have:=jz.o;omega))
     go_wp2_with fail;go_roundw
     case rel=>exact⟨k+1,by omega,by go_num,hbq,by have:=HFX.o.2.2;omega,λj hj h=>by
      rcases Nat.lt_or_ge j k with h1|h1
      ·exact eY.o j hj h1
      ·have:j=k:=by omega
       subst this;rw[HX.o];exact⟨by show ls.length<=60;rw[jz.o];exact HFX.o.1,HFX.o.2.1,HAM.o⟩⟩
     case measure=>first|exact aQ aU|(simp only[intOf];omega)
  case neg=>
   have bq:¬(k:Int)< (n:Int):=by omega
   have HY:=H_ (show(∀x∈es,Zs x)/\es.length<=61 from⟨λx hx=>by
    obtain⟨j,hj,rfl⟩:=List.getElem_of_mem hx;exact eY.o j hj (by have:=HN.o;omega),by have:=HN.o;omega⟩)
   have HKR:=k_ tQ HK;go_wp2_with (refine W_ 59 29 2 (w.heap.size) HKR.o (by rw[ay];exact congrArg some fu.o.symm) Tryz.underlying29 ?_);refine(HF.o wr hb).mono ?_;rintro e w3 ⟨bf,rfl,hf,aZ⟩;have aR:=zI.o.trans (aZ.mono zI.o.size);go_wp2_with fail;go_ret;exact⟨_,by first|rfl|simp,λe=>by rw[<-HP.o];exact⟨HY.o.1,HY.o.2,hf e⟩,aR⟩
def DD (g:au) (l:List ak):List ak:=l.foldl (λes x=>if eF g es x=0 then es++[x]else es) []
def Gy (g:au) (l:List ak) (w:World) (e:Ending) (w':World):Prop:=Below w.heap.size w w'/\
 ((bh g=false/\e=.returned (.tuple #[.pointer none,.slice none 0 0,true]))\/
  (bh g=true/\∃(J:Nat) (D O:Nat->Prop) (A:Option Addr) (c:Nat),e=.returned (.tuple #[.pointer (some ⟨J,0,none⟩),.slice A (DD g l).length c,true])/\JC w' D O J g (DD g l)/\(∀q,D q\/O q->w.heap.size<=q)/\
   aj ax 7 w' (λq=>q<w'.heap.size/\¬(D q\/O q)) [.slice A (DD g l).length c] (DD g l)))
def ph (B:Nat) (es:List ak) (v:Value) (w:World):Prop:=∃css:List (List Value),css.length=es.length/\w.ownsRow B 51 7 v es.length css.flatten/\(∀cs∈css,cs.length=7)/\∀(i:Nat) x,es[i]? =some x->∃cs,css[i]? =some cs/\ax w (λq=>q<B) cs x
theorem ph.same {B:Nat} {es:List ak} {v:Value} {w w':World} (h:ph B es v w) (hf:Fr (λq=>q<B) w w') (hb:∀q,v.ownBlock=some q->w'.heap[q]? =w.heap[q]?):ph B es v w':=by
 obtain⟨css,h1,h2,h3,h4⟩:=h;refine⟨css,h1,cU h2 hb,h3,λi x hx=>?_⟩;obtain⟨cs,k1,k2⟩:=h4 i x hx;exact⟨cs,k1,ax.fr k2 hf⟩
end
section
open Go Go.RowKit Go.ChangeMaps
open Go.Maps (Keyed)
open Go.WideMaps (KeyLaw)
abbrev KK:={p:Int × Int // cx p.1/\cx p.2}
def SY (c:KK):Lit:=.string (keyBytes [c.1.1,c.1.2])
section
variable {w w':World} {b n:Nat} {f:KK->Bool}
end
end
section
open Go Go.RowKit Go.ChangeMaps
open Go.Maps (Keyed)
def sY (f:KK->Bool) (e k9:Int):Prop:=(∀c:KK,f c=true->c.1.1=e->c.1.2<=k9)/\(k9= -1\/∃c:KK,f c=true/\c.1.1=e/\c.1.2=k9)
theorem sY.uniq {f:KK->Bool} {e a b:Int} (hp:∀c,f c=true->0<=c.1.2) (ha:sY f e a) (hb:sY f e b):a=b:=by
 rcases ha.2 with h1|⟨c,h1,h2,h3⟩<;>rcases hb.2 with k1|⟨d,k1,k2,k3⟩
 ·omega
 ·have:=ha.1 d k1 k2;have:=hp d k1;omega
 ·have:=hb.1 c h1 h2;have:=hp c h1;omega
 ·have:=ha.1 d k1 k2;have:=hb.1 c h1 h2;omega
def abZ (f:KK->Bool) (e:Int) (left:Lit->Bool) (k9:Int):Prop:=(∀c:KK,left (SY c)=true->f c=true)/\(∀c:KK,f c=true->c.1.1=e->left (SY c)=false->c.1.2<=k9)/\(k9= -1\/∃c:KK,f c=true/\c.1.1=e/\c.1.2=k9)/\ -1<=k9/\k9<=1000
theorem abZ.done {f:KK->Bool} {e k9:Int} {left:Lit->Bool} (h:abZ f e left k9) (hl:∀kl,left kl=false):sY f e k9:=⟨λc hf hc=>h.2.1 c hf hc (hl _),h.2.2.1⟩
def aeB (y m p k9:Int):Int:=if k9<0 then 0 else(bH y m p k9).1
end
section
open Go Go.RowKit
def Zo (y m p ne e d k9:Int):Int:=if e<0\/ne<=e then 1 else if 0<=k9/\d<=aeB y m p k9 then 12 else 0
def bdS (x:pj):Prop:=cx x.entity/\cx x.period
instance (x:pj):Decidable (bdS x):=by unfold bdS cx;infer_instance
theorem sY.same {f g:KK->Bool} {e a:Int} (h:∀c:KK,c.1.1=e->f c=g c) (ha:sY f e a):sY g e a:=
 ⟨λc hc he=>ha.1 c ((h c he).trans hc) he,ha.2.imp id (λ⟨c,h1,h2,h3⟩=>⟨c,(h c h2).symm.trans h1,h2,h3⟩)⟩
def ckP (y m p ne:Int) (f:KK->Bool) (e d r:Int):Prop:=(e<0\/ne<=e)/\r=1\/∃k9,sY f e k9/\ -1<=k9/\r=Zo y m p ne e d k9
theorem ckP.uniq {y m p ne:Int} {f g:KK->Bool} {e d r s:Int} (hf:∀c,f c=true->0<=c.1.2) (h:∀c:KK,c.1.1=e->f c=g c) (h1:ckP y m p ne f e d r) (h2:ckP y m p ne g e d s):r=s:=by
 rcases h1 with⟨a,rfl⟩|⟨l1,m1,b1,rfl⟩
 ·rcases h2 with⟨_,rfl⟩|⟨l2,m2,b2,rfl⟩
  ·rfl
  ·unfold Zo;rw[if_pos a]
 ·rcases h2 with⟨a,rfl⟩|⟨l2,m2,b2,rfl⟩
  ·unfold Zo;rw[if_pos a]
  ·rw[m1.uniq hf (m2.same (λc hc=>(h c hc).symm))]
abbrev acn (x:pj):List Value:=[.int .i64 x.entity,.int .i64 x.period,.bool x.unlock]
theorem jh.lit {w:World} {Q:Nat->Prop} {cs:List Value} {x:pj} (h:jh w Q cs x):cs=acn x/\bdS x:=by
 obtain⟨c0,c1,c2,rfl,⟨rfl,h0⟩,⟨rfl,h1⟩,h2⟩:=h;have e2:c2=_:=h2;subst e2;exact⟨rfl,h0,h1⟩
end
section
open Go Go.RowKit Go.Shelf
open Go.Maps (Keyed)
def VJ (f:KK->Bool) (left:Lit->Bool) (ss:List KK):Prop:=ss.Nodup/\(∀c,c∈ss↔(f c=true/\left (SY c)=false))/\∀c,left (SY c)=true->f c=true
def aen (f:KK->Bool) (ss:List KK):Prop:=ss.Nodup/\∀c,c∈ss↔f c=true
theorem VJ.done {f:KK->Bool} {left:Lit->Bool} {ss:List KK} (h:VJ f left ss) (hl:∀kl,left kl=false):aen f ss:=⟨h.1,λc=>by rw[h.2.1 c,hl];simp⟩
theorem lB {F:Fence} {n:Nat} {P:Program} {ops:Array Oper} {rest:List Oper} {o:Oper} {a:Act} {w:World} {Q:Exit->Act->World->Prop} (qE:o.guard=none) (ty:TypeId) (x:Operand) (ho:o.op=.load ty x)
 (g:Nat) (hx:a.eval x=.pointer (some ⟨g,0,none⟩)) (t:TypeId) (cs:Array Value) (fr:Nat × Nat) (d:TypeDesc) (hg:w.heap[g]? =some (.cells cs t fr))
 (hu:P.underlying ty=some d) (hd:(match d with| .struct _| .array _ _=>true|_=>false)=true) (hi:(P.info? ty).map (·.size)=some cs.size)
 (h:wpListIn F n P ops Q rest (a.put o.dst (.agg cs)) w):wpListIn F n P ops Q (o::rest) a w:=by
 refine wpListIn_plain qE λK hK=>?_
 unfold Oper.wpIn;refine⟨by simp[Oper.about,ho],?_⟩;rw[Oper.semAt_plain F _ _ (by rw[ho];intro c hc';cases hc')];have eC:=run_loadVar_row w g t ty cs fr d hg hu hd hi;unfold execOp;simp only[ho,hx,Instr.loadAt,Instr.sureAddr,Sem.run_bind,Sem.run_pure,Result.andThen_ok];rw[eC];simp only[Result.andThen_ok];exact hK _ _ h
end
section
open Go Go.RowKit
def KJ (B:Nat) (es:List ak) (v:Value) (w:World):Prop:=∃css:List (List Value),css.length=es.length/\w.ownsRow B 51 7 v es.length css.flatten/\(∀cs∈css,cs.length=7)/\∀(i:Nat) x,es[i]? =some x->∃cs,css[i]? =some cs/\ax w (λq=>(B<=q/\q<w.heap.size)/\v.ownBlock≠some q) cs x
theorem KJ.list {B:Nat} {es:List ak} {v:Value} {w:World} (h:KJ B es v w):aj ax 7 w (λq=>B<=q/\q<w.heap.size) [v] es:=by
 obtain⟨css,h1,h2,h3,h4⟩:=h;exact kO h3 h2 (λi x hx=>by
  obtain⟨cs,k1,k2⟩:=h4 i x hx;exact⟨cs,k1,ax.mono k2 (λq hq=>hq.1)⟩) (λq hq=>h2.lt _ hq)
def zY (f:Int->Int) (l:List fb):Prop:=l.Pairwise (λx y=>x.account<y.account)/\∀z,z∈l↔(f z.account≠0/\z.amount=f z.account)
theorem AH:∀{a b:List fb},a.Pairwise (λx y=>x.account<y.account)->b.Pairwise (λx y=>x.account<y.account)->(∀x,x∈a↔x∈b)->a=b
 |[],[],_,_,_=>rfl
 |[],y::b,_,_,h=>by have:=(h y).2 (List.mem_cons_self ..);simp at this
 |x::a,[],_,_,h=>by have:=(h x).1 (List.mem_cons_self ..);simp at this
 |x::a,y::b,ha,hb,h=>by
  obtain⟨h1,h2⟩:=List.pairwise_cons.1 ha;obtain⟨h3,h4⟩:=List.pairwise_cons.1 hb;have hxy:x=y:=by
   rcases List.mem_cons.1 ((h x).1 (List.mem_cons_self ..))with e|e
   ·exact e
   ·rcases List.mem_cons.1 ((h y).2 (List.mem_cons_self ..))with e2|e2
    ·exact e2.symm
    ·have:=h3 x e;have:=h1 y e2;omega
  subst hxy
  congr 1
  refine AH h2 h4 (λz=>?_);constructor
  ·intro hz;rcases List.mem_cons.1 ((h z).1 (List.mem_cons_of_mem _ hz))with e|e
   ·subst e;have:=h1 z hz;omega
   ·exact e
  ·intro hz;rcases List.mem_cons.1 ((h z).2 (List.mem_cons_of_mem _ hz))with e|e
   ·subst e;have:=h3 z hz;omega
   ·exact e
theorem zY.uniq {f:Int->Int} {a b:List fb} (ha:zY f a) (hb:zY f b):a=b:=AH ha.1 hb.1 (λx=>(ha.2 x).trans (hb.2 x).symm)
theorem zY.eqv {f g:Int->Int} {a:List fb} (ha:zY f a) (h:∀c,f c=g c):zY g a:=⟨ha.1,λz=>by rw[ha.2 z,h]⟩
end
end Go.Proofs.YtibiddakakgakaaGreat
