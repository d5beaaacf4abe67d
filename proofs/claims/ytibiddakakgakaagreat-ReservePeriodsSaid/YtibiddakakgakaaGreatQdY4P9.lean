/- Average rates of a period. Written by gen_y4.py. -/
import Derived.Test.YtibiddakakgakaaGreatQdX7Y3
import Derived.Test.YtibiddakakgakaaGreatQdX10
set_option linter.unusedVariables false
set_option linter.unusedSimpArgs false
set_option maxRecDepth 4000
attribute [local go_sem ↓] Go.wp_at_zero Go.wp_at_succ
set_option maxHeartbeats 16000000
namespace Go.Proofs.YtibiddakakgakaaGreat
section
open Go Go.RowKit Go.Shelf
theorem aj.imp {α:Type} {El El':World->(Nat->Prop)->List Value->α->Prop} {size:Nat} {w:World} {Q:Nat->Prop} {cs:List Value} {xs:List α} (h:aj El size w Q cs xs) (hi:∀x∈xs,∀es,El w Q es x->El' w Q es x):aj El' size w Q cs xs:=by
 obtain⟨A,c,e,h1,h2,h3⟩:=h;refine⟨A,c,e,h1,h2,λhp=>?_⟩;obtain⟨b,o,e2,h4,h5⟩:=h3 hp;refine⟨b,o,e2,h4,λi x hx=>?_⟩;obtain⟨es,h6,h7⟩:=h5 i x hx;exact⟨es,hi x (List.mem_of_getElem? hx) es h6,h7⟩
theorem Jy {w:World} {Q:Nat->Prop} {x:aC} (h1:cx x.kind) (h2:cx x.when_) (h3:cx x.value):bN w Q (fN x) x:=⟨[.string x.currency],[.int .i64 x.kind],[.int .i64 x.when_],[.int .i64 x.value],rfl,rfl,⟨rfl,h1⟩,⟨rfl,h2⟩,⟨rfl,h3⟩⟩
theorem PJ {w:World} {Q:Nat->Prop} {A:Option Addr} {n c:Nat} {rs:List aC} (hl:aj bN 4 w Q [.slice A n c] rs):∀x∈rs,cx x.kind/\cx x.when_/\cx x.value:=λx hx=>by
 obtain⟨j,hj,rfl⟩:=List.getElem_of_mem hx;obtain⟨b,o,es,_,_,h3,_⟩:=aj.get hl j hj;exact(io h3).2
def VK (sp:List aC) (w:World) (v:Value) (w':World):Prop:=∃(A:Option Addr) (c:Nat) (ks:List aC),v=.slice A ks.length c/\ks.Perm sp/\aj bN 4 w' (·<w'.heap.size) [.slice A ks.length c] ks/\Below w.heap.size w w'
theorem Mi (B1 B2 B3 B4:Nat) (rs:List aC) (A:Option Addr) (c:Nat) (aw:ByteArray) (ta tb:Int) (w:World) (yI:w.heap[B1]? =some (.cells #[.slice A rs.length c] 31 (0,0))) (yH:w.heap[B2]? =some (.cells #[aw] 9 (0,0))) (MS:w.heap[B3]? =some (.cells #[ta] 3 (0,0))) (MI:w.heap[B4]? =some (.cells #[tb] 3 (0,0)))
 (hl:aj bN 4 w (·<w.heap.size) [.slice A rs.length c] rs) (hn:rs.length<=100000):Calls Tryz.prog 205 #[.func (.func 225) #[] #[.pointer (some ⟨B1,0,none⟩),.pointer (some ⟨B2,0,none⟩),.pointer (some ⟨B3,0,none⟩),.pointer (some ⟨B4,0,none⟩)],.func (.func 207) #[] #[]] w (λe w'=>∃v,e=.returned v/\VK (spW rs aw ta tb) w v w'):=by
 have IV:(spW rs aw ta tb).length<=100000:=Nat.le_trans (List.length_filter_le _ _) hn;have CS:=tp Fence.wide 3 trivial rfl (by omega) B1 B2 B3 B4 (·<w.heap.size) rs A c aw ta tb 100000 w (λq hq=>hq) ⟨ag yI,yI⟩ ⟨ag yH,yH⟩ ⟨ag MS,MS⟩ ⟨ag MI,MI⟩ hl IV;have abA:=callsIn_wide.1 (DQ Fence.wide 5 trivial trivial rfl (by omega) 225 #[.pointer (some ⟨B1,0,none⟩),.pointer (some ⟨B2,0,none⟩),.pointer (some ⟨B3,0,none⟩),.pointer (some ⟨B4,0,none⟩)] trivial (enters_of Tryz.func225 K_ rfl) (·<w.heap.size) _ _ 100000 (by unfold maxLen;omega) (by omega) w (λq hq=>hq) CS);have abc:=H_ abA;have QO:=H_ (λx (hx:x∈spW rs aw ta tb)=>PJ hl x (List.mem_filter.1 hx).1);have VC:=H_ IV;generalize spW rs aw ta tb=sp at*;clear CS abA hl yI yH MS MI IV;go_enter Tryz.func205,Tryz.ntmps205;go_wp2_with fail;refine abc.o.mono ?_;rintro e w2 ⟨v,ss,rfl,rfl,jJ,aH⟩;have aF:=H_ aH;have aa3:=H_ (Tx ss v w.heap.size w2 jJ VC.o aH.size);obtain⟨A2,n1,c1,rfl⟩:=bS jJ;clear jJ aH abc;go_wp2_with fail;refine aa3.o.mono ?_;rintro e w3 ⟨rfl,ks,hp,hs,Bb,aZ,bP⟩;have eX:n1=ks.length:=by
  obtain⟨A2,c2,he,_⟩:=Bb.form;simp only[List.cons.injEq,and_true,Value.slice.injEq]at he;exact he.2.1
 subst eX;have pb:=H_ (show aj bN 4 w3 (·<w3.heap.size) [.slice A2 ks.length c1] ks from(Bb.imp (El':=bN) (λx hx es he=>by
  obtain⟨b1,b2,b3⟩:=QO.o x (hp.mem_iff.1 hx);rw[show es=fN x from he];exact Jy b1 b2 b3)).mono (λh=>bN.mono h (λq hq=>hq.2)) (λq hq=>hq.2))
 have eA:=H_ (show Below w.heap.size w w3 from aF.o.trans aZ);have HP:=H_ hp;clear hp hs Bb aZ bP aa3;go_wp2_with fail;go_ret;exact⟨_,rfl,A2,c1,ks,rfl,HP.o,pb.o,eA.o⟩
theorem Tp (gl:List Value) (grp aw:ByteArray) (rs:List aC) (A:Option Addr) (cc:Nat) (y m n q:Int) (w:World) (fZ:gl.toArray.size=21) (nj:gl.toArray[0]? =some (.string grp)) (jy:gl.toArray[1]? =some (.int .i64 y)) (f8:gl.toArray[2]? =some (.int .i64 m)) (tT:gl.toArray[3]? =some (.int .i64 n))
 (hl:aj bN 4 w (·<w.heap.size) [.slice A rs.length cc] rs) (bP:∀r∈rs,r.currency.size<=140737488355328) (kC:grp.size<=140737488355328) (ft:aw.size<=140737488355328) (hm:rs.length<=100000) (hv:dJ grp rs) (eh:cQ aw=true) (eu:du y m n=true) (hq:0<=q/\q<n):Calls Tryz.prog 168 #[.agg gl.toArray,.slice A rs.length cc,aw,q] w (λe w'=>∃v,e=.returned (.tuple #[v,()])/\VK (spW rs aw (aX y m n q).1 (bH y m n q).1) w v w'):=by
 have HPE:=H_ (λ(w2:World) (hb:Below w.heap.size w w2)=>Hn gl grp aw rs A cc y m n q w2 fZ nj jy f8 tT (di hl hb) bP kC ft hm hv eh eu hq);have HL:=H_ hl;have HM:=H_ hm;have fu:=H_ fZ;generalize (aX y m n q).1=f at*;generalize (bH y m n q).1=la at*;obtain⟨N,hN⟩:∃n,rs.length=n:=⟨_,rfl⟩;have HN:=H_ hN;rw[hN]at HPE |-;clear fZ nj jy f8 tT hl bP kC ft hm hv eh eu hq hN;go_enter Tryz.func168,Tryz.ntmps168;go_upto_region 1 with fail;obtain⟨W1,cS,H1,bC,dr,ewx⟩:=B_ w (.cells gl.toArray 29);rw[cS];clear ewx;clear cS;have fB:=H_ H1;clear H1;go_wp2_with (refine W_ 14 29 4 (w.heap.size) fB.o (by rw[ay];exact congrArg some fu.o.symm) Tryz.underlying29 ?_);refine(HPE.o W1 bC).mono ?_;rintro e w2 ⟨rfl,aH⟩;have aF:=H_ (bC.trans (aH.mono bC.size));clear bC aH dr;go_wp2_with fail;refine(JH A N cc aw f la w2).mono ?_;rintro e w7 ⟨rfl,rfl⟩;obtain⟨E1,E2,E3,E4,E5,E6⟩:=pN w2 (.cells #[.slice A N cc] 31) (.cells #[aw] 9) (.cells #[f] 3) (.cells #[la] 3);generalize (((w2.alloc (.cells #[.slice A N cc] 31)).alloc (.cells #[aw] 9)).alloc (.cells #[f] 3)).alloc (.cells #[la] 3)=W7 at*;have gb:=t_ aF E6;have Xx:=H_ (Mi w2.heap.size (w2.heap.size+1) (w2.heap.size+2) (w2.heap.size+3) rs A cc aw f la W7 (by rw[HN.o];exact E1) E2 E3 E4 (di HL.o gb.o) HM.o);clear E1 E2 E3 E4 E5 E6;go_wp2_with fail;refine Xx.o.mono ?_;rintro e w8 ⟨v,rfl,A2,c2,ks,rfl,hp,Bb,jX⟩;have HP:=H_ hp;have pb:=H_ Bb;have o9:=t_ gb jX;obtain⟨nk,Bh⟩:∃n,ks.length=n:=⟨_,rfl⟩;have yV:=H_ Bh;rw[Bh];clear hp Bb jX Bh;go_wp2_with fail;go_ret2;exact⟨_,rfl,A2,c2,ks,by rw[yV.o];rfl,HP.o,pb.o,o9.o⟩
def oS (rs:List aC) (grp aw:ByteArray) (a b q:Int):Int × Int:=if aw=grp then(1000000,0)else DG rs aw a b q
theorem JJ {ks:List aC} (h:∀r∈ks,1<=r.value/\r.value<=1000000000000):0<=(ks.map (·.value)).sum/\(ks.map (·.value)).sum<=1000000000000*(ks.length:Int):=by
 induction ks with
 |nil=>simp
 |cons r ks ih=>
  have h1:=ih (λs hs=>h s (List.mem_cons_of_mem _ hs));have h2:=h r (List.mem_cons_self ..);rw[List.map_cons,List.sum_cons,List.length_cons];omega
theorem KO (gl:List Value) (grp aw:ByteArray) (rs:List aC) (A:Option Addr) (cc:Nat) (y m n q:Int) (w:World) (fZ:gl.toArray.size=21) (nj:gl.toArray[0]? =some (.string grp)) (jy:gl.toArray[1]? =some (.int .i64 y)) (f8:gl.toArray[2]? =some (.int .i64 m)) (tT:gl.toArray[3]? =some (.int .i64 n))
 (hl:aj bN 4 w (·<w.heap.size) [.slice A rs.length cc] rs) (bP:∀r∈rs,r.currency.size<=140737488355328) (kC:grp.size<=140737488355328) (ft:aw.size<=140737488355328) (hm:rs.length<=100000) (hv:dJ grp rs) (eh:cQ aw=true) (eu:du y m n=true) (hq:0<=q/\q<n):Calls Tryz.prog 129 #[.agg gl.toArray,.slice A rs.length cc,aw,q] w (ap w (.tuple #[.int .i64 (oS rs grp aw (aX y m n q).1 (bH y m n q).1 q).1,.int .i64 (oS rs grp aw (aX y m n q).1 (bH y m n q).1 q).2])):=by
 have HDY:=H_ (λ(w2:World) (hb:Below w.heap.size w w2)=>Tp gl grp aw rs A cc y m n q w2 fZ nj jy f8 tT (di hl hb) bP kC ft hm hv eh eu hq);have tW:=H_ (λ(w2:World) (hb:Below w.heap.size w w2)=>O2 rs A cc aw 2 q w2 (di hl hb));have fu:=H_ fZ;have lF:=H_ nj;have jI:=H_ (λ(f la:Int) (x:aC) (hx:x∈spW rs aw f la)=>show 1<=x.value/\x.value<=1000000000000 from(EE (hv.1 x (List.mem_filter.1 hx).1)).2.2.1);have jD:=H_ (λ(f la:Int)=>show(spW rs aw f la).length<=1000 from Nat.le_trans (List.length_filter_le _ _) hv.2.2.2);generalize (aX y m n q).1=f at*;generalize (bH y m n q).1=la at*;have sW:=H_ (λ(ks:List aC) (h:ks.Perm (spW rs aw f la))=>Mk (c:=aw) (a:=f) (b:=la) h);obtain⟨R,hR⟩:=x_ (oS rs grp aw f la q);have HR:=H_ hR;rw[hR];have jI:=H_ (jI.o f la);have jD:=H_ (jD.o f la);generalize spW rs aw f la=sp at*;obtain⟨fo,vx⟩:=x_ (dq rs aw 2 q);have Bm:=H_ vx;rw[vx]at tW;obtain⟨N,hN⟩:∃n,rs.length=n:=⟨_,rfl⟩;rw[hN]at HDY tW |-;clear fZ nj jy f8 tT hl bP kC ft hm hv eh eu hq hN hR vx;go_enter Tryz.func129,Tryz.ntmps129;go_upto_region 1 with fail;obtain⟨W1,cS,H1,bC,dr,ewx⟩:=B_ w (.cells gl.toArray 29);rw[cS];clear ewx;clear cS;have fB:=H_ H1;clear H1;go_wp2_with (refine W_ 18 29 4 (w.heap.size) fB.o (by rw[ay];exact congrArg some fu.o.symm) Tryz.underlying29 ?_);refine(HDY.o W1 bC).mono ?_;rintro e w2 ⟨v,rfl,A2,c2,ks,rfl,hp,Bb,aH⟩;have aF:=bC.trans (aH.mono bC.size);have c0:=(ab ((aH.block _ dr).trans fB.o) 0).trans lF.o;have pb:=H_ Bb;obtain⟨tC,dW⟩:=sW.o ks hp;have dr:=H_ tC;have jK:=H_ dW;have HVK:=H_ (λx (hx:x∈ks)=>jI.o x (hp.mem_iff.1 hx));have bI:ks.length<=1000:=by rw[hp.length_eq];exact jD.o
 obtain⟨nk,Bh⟩:∃n,ks.length=n:=⟨_,rfl⟩;have yV:=H_ Bh;rw[Bh]at bI |-;obtain⟨qq,Ct⟩:∃q:Bool,decide (aw=grp)=q:=⟨_,rfl⟩;have zT:(aw.toList==grp.toList)=qq:=by rw[gI];exact Ct
 have HQ:=H_ Ct;clear hp Bb tC dW Bh Ct;cases qq with
 |true=>
  have hf:=H_ (show R=(1000000,0) by rw[<-HR.o];unfold oS;rw[if_pos (of_decide_eq_true HQ.o)]);go_wp2_with fail;go_ret2;exact⟨hf.o.symm▸rfl,aF⟩
 |false=>
 have TK:=H_ (show R=DG rs aw f la q by rw[<-HR.o];unfold oS;rw[if_neg (of_decide_eq_false HQ.o)]);go_wp2_with fail;refine(tW.o w2 aF).mono ?_;rintro e w3 ⟨rfl,aZ⟩;have aR:=aF.trans (aZ.mono aF.size);have Bc:=H_ (di pb.o aZ);clear c0;cases fo with
 |some v=>
  have hf:=H_ (show R=(v,0) by rw[TK.o];unfold DG;rw[Bm.o]);simp only[Option.getD_some,Option.isSome_some];go_wp2_with fail;go_ret2;exact⟨hf.o.symm▸rfl,aR⟩
 |none=>
 simp only[Option.getD_none,Option.isSome_none];have Ki:=H_ (show R=if nk=0 then(0,13)else((2*(ks.map (·.value)).sum+nk) / (2*nk),0) by
  rw[TK.o];unfold DG;rw[Bm.o,<-dr.o,<-jK.o,yV.o])
 by_cases h0:nk=0
 case pos=>
  subst h0;have hf:=H_ (show R=(0,13) by rw[Ki.o,if_pos rfl]);go_wp2_with fail;go_ret2;exact⟨hf.o.symm▸rfl,aR⟩
 case neg=>
 have h0b:((nk:Int)==0)=false:=by simpa using h0
 have HR9:=H_ (show R=((2*(ks.map (·.value)).sum+nk) / (2*nk),0) by rw[Ki.o,if_neg h0]);have Se:=H_ h0;clear h0;go_wp2_with fail
 go_loopw [14,46] (λv i wr=>∃k:Nat,k<=nk/\i=.int .i64 (k:Int)/\v=.int .i64 (((ks.take k).map (·.value)).sum)/\Below w3.heap.size w3 wr) (λ_ i _=>nk- (intOf i).toNat)
 case atStart=>exact⟨0,by omega,rfl,rfl,Below.refl _ _⟩
 case round=>
  obtain⟨k,hk,rfl,rfl,hb⟩:=hrel;have el:=aR.trans (hb.mono aR.size);have Dd:=H_ (JJ (ks:=ks.take k) (λr hr=>HVK.o r (List.mem_of_mem_take hr)));have Bi:=Dd.o;rw[List.length_take]at Bi;by_cases aU:k<nk
  case pos=>
   have bq:(k:Int)< (nk:Int):=by omega
   have gW:0<nk:=by omega
   have Xv:k<ks.length:=by rw[yV.o];exact aU
   obtain⟨b,o,es,dj,ed,bL,aS⟩:=aj.get Bc.o k Xv;subst dj;obtain⟨bE,_⟩:=io bL;rw[bE]at aS;have eU:=HVK.o _ (List.getElem_mem Xv);have tA:=H_ (show((ks.take (k+1)).map (·.value)).sum=((ks.take k).map (·.value)).sum+ks[k].value by rw[List.take_add_one,List.getElem?_eq_getElem Xv,List.map_append,List.sum_append];simp);obtain⟨x,hx⟩:=x_ (ks[k]);rw[hx]at aS eU tA;obtain⟨rc,rk,rt,rv⟩:=x;have eZ:=H_ (show wr.rangeAt b (o+k*4) [rc,rk,rt,rv]from(aS.fr (Fr.ofBelow hb)).range);obtain⟨s,hs⟩:=x_ (((ks.take k).map (·.value)).sum);rw[hs]at Bi tA |-;simp only at eU;have qI: -9223372036854775808<=s+rv:=by omega
   have nJ:s+rv<=9223372036854775807:=by omega
   clear bL bE aS hx ed hs eU Dd;go_upto_region 15 with(refine w_ 49 70 48 b (o+k*4) [rc,rk,rt,rv] eZ.o aT Tryz.underlying70 ?_);obtain⟨W6,mC,H6,dK,my,ewx⟩:=B_ wr (.cells #[rc,rk,rt,rv] 70);rw[mC];clear ewx;clear mC;have c3:=ab H6 3;have dd:=hb.trans (dK.mono hb.size);clear H6;go_wp2_with fail;go_roundw
   case rel=>exact⟨k+1,by omega,by go_num,by rw[tA.o],dd⟩
   case measure=>first|exact aQ aU|(simp only[intOf];omega)
  case neg=>
   have bq:¬(k:Int)< (nk:Int):=by omega
   obtain⟨s,hs⟩:=x_ (((ks.take k).map (·.value)).sum);rw[hs]at Bi |-;have CB:=H_ (show(ks.map (·.value)).sum=s by rw[<-hs,List.take_of_length_le (by have:=yV.o;omega)]);have hnp:0<nk:=by have:=Se.o;omega
   have hbz:0<=s/\s<=1000000000000000:=by omega
   obtain⟨z,hz⟩:=x_ ((2*s+nk) / (2*nk));have hf:=H_ (show R=(z,0) by rw[HR9.o,CB.o,hz]);have TV:0<=z/\z<=2000000000001000:=by
    rw[<-hz];exact⟨Int.ediv_nonneg (by omega) (by omega),Int.le_trans (Int.ediv_le_self _ (by omega)) (by omega)⟩
   have hzt:(2*s+nk).tdiv (2*nk)=z:=by rw[Int.tdiv_eq_ediv_of_nonneg (by omega)];exact hz
   have bT:¬2*(nk:Int)=0:=by omega
   have hwz:IntKind.i64.wrap z=z:=by rw[IntKind.wrap_i64];omega
   clear hs hz TV Bi Dd;go_wp2_with fail;go_ret2;exact⟨hf.o.symm▸rfl,el⟩
end
section
open Go Go.RowKit Go.ChangeMaps
open Go.Maps (Keyed)
open Go.WideMaps (KeyLaw)
theorem S7:(173:TypeId)<Tryz.prog.types.size:=of_decide_eq_true K_
theorem Pe:(match Tryz.prog.underlying 173 with|some (.array _ _)|some (.struct _)=>true|_=>false)=true:=by kernel_rfl
theorem S6:KeyLaw Tryz.prog 173:=deep_law_laid lA (m:=2) (by omega) S7 K_ Pe
theorem su:Keyed Tryz.prog 173:=Keyed.of_law S6
theorem AC:Tryz.prog.cellsOf 173=2:=by kernel_rfl
theorem Ev {d:Nat} {a z:Int} (ha:cx a) (hz:cx z):Tryz.prog.keyLits (d+2) 173 [a,z]=some [.int .i64 a,.int .i64 z]:=by
 unfold Program.keyLits;rw[Tryz.underlying173];have h1:=f7 (d:=d) ha;have h2:=f7 (d:=d) hz;simp[AC,mh,h1,h2]
theorem Ew:Tryz.prog.keyType 173=true:=by kernel_rfl
theorem rh:∃fs,Tryz.prog.underlying 173=some (.struct fs):=⟨_,Tryz.underlying173⟩
theorem Hg {a b:Value}:(Value.agg #[a,b]).formed Tryz.prog 173=true:=by
 obtain⟨fs,hu⟩:=rh;simp[Value.formed,hu,AC]
abbrev MK:={p:Int × Int // cx p.1/\cx p.2}
def Es (c:MK):Lit:=.string (keyBytes [c.1.1,c.1.2])
def Ha (c:MK):Value:=.agg #[c.1.1,c.1.2]
theorem akx (c:MK):keyOf Tryz.prog 173 (Ha c)=some (Es c):=by
 obtain⟨fs,hu⟩:=rh;obtain⟨d,hd⟩:=mW;unfold keyOf Ha;rw[hu];simp only[Ew,Hg,Bool.and_self,if_true,hd,Value.cells];rw[Ev c.2.1 c.2.2];rfl
theorem Pd (x y:MK) (h:Es x=Es y):x=y:=by
 have h1:=akx x;have h2:=akx y;rw[<-h]at h2;have h3:=su.inj h1 h2;have h4:=congrArg Array.toList (Value.agg.inj h3);simp only[List.cons.injEq,Value.int.injEq,true_and,and_true]at h4;exact Subtype.ext (Prod.ext h4.1 h4.2)
theorem Et (x:MK):WideAt.IsKeyLit (Es x):=trivial
theorem D9:Tryz.prog.underlying 101=some (.map 173 175):=by kernel_rfl
theorem GP (w:World):(zeroValue 175).run Tryz.prog w=.ok (.agg #[(),()]) w:=by kernel_rfl
def GJ (x:Int × Int):Value:=.agg #[x.1,x.2]
def BP (x:Int × Int):UD:=.map [(.int .i64 x.1,.lit (.int .i64 x.2))]
def fRd:Value->Option (UD × List MemPlace)
 | .agg cs=>match cs.toList with
  |[.int .i64 a,.int .i64 b]=>some (BP (a,b),[])
  |_=>none
 |_=>none
theorem Zr (x:Int × Int):fRd (GJ x)=some (BP x,[]):=rfl
theorem OZ {x y:Int × Int} (h:BP x=BP y):x=y:=by
 unfold BP at h;simp only[DataW.map.injEq,List.cons.injEq,Prod.mk.injEq,Lit.int.injEq,true_and,DataW.lit.injEq,and_true]at h;exact Prod.ext h.1 h.2
theorem SQ {v:Value} {z:UD × List MemPlace} (h:fRd v=some z):∃x,v=GJ x/\z=(BP x,[]):=by
 unfold fRd at h;split at h
 ·rename_i cs;split at h
  ·rename_i a b he;cases h;refine⟨(a,b),?_,rfl⟩;unfold GJ
   congr 1
   rw[<-Array.toArray_toList (xs:=cs),he]
  ·cases h
 ·cases h
def iL (w:World) (b n:Nat) (f:MK->Option (Int × Int)):Prop:=
 ∃D:UD,w.ownsMap Tryz.prog 173 fRd b n D/\∀c:MK,Maps.has D (Es c)=(f c).isSome/\D.atKey (Es c) (BP (0,0))=BP ((f c).getD (0,0))
section
variable {w w':World} {b n:Nat} {f:MK->Option (Int × Int)}
theorem iL.made (w:World):iL (w.alloc (.map #[] 0)) w.heap.size 0 (λ_=>none):=⟨_,World.ownsMap_made w Tryz.prog 173 _,λ_=>⟨rfl,rfl⟩⟩
theorem iL.lt (h:iL w b n f):b<w.heap.size:=by
 obtain⟨D,h1,h2⟩:=h;exact h1.lt
theorem iL.same (h:iL w b n f) (hb:w'.heap[b]? =w.heap[b]?):iL w' b n f:=by
 obtain⟨D,⟨es,dc,h1,h3,h4,h5⟩,h2⟩:=h;exact⟨D,⟨es,dc,hb.trans h1,h3,h4,h5⟩,h2⟩
theorem iL.fr {Q:Nat->Prop} (h:iL w b n f) (hf:Fr Q w w') (hb:Q b):iL w' b n f:=h.same (hf.block b hb)
theorem iL.below (h:iL w b n f) (hb:Below w.heap.size w w'):iL w' b n f:=h.fr (Fr.ofBelow hb) h.lt
theorem iL.mono (h:iL w b n f) {n':Nat} (hn:n<=n'):iL w b n' f:=by
 obtain⟨D,h1,h2⟩:=h;exact⟨D,h1.mono hn,h2⟩
theorem iL.look (h:iL w b n f) (c:MK):(Instr.lookup 101 (.map (some b)) (Ha c) true).run Tryz.prog w=.ok (.tuple #[GJ ((f c).getD (0,0)),.bool (f c).isSome]) w:=by
 obtain⟨D,h1,h2⟩:=h;obtain⟨v,ps,eC,hv⟩:=h1.look_ok su D9 (GP w) (zd:=BP (0,0)) (zp:=[]) rfl (akx c);obtain⟨x,rfl,hx⟩:=SQ hv;rw[(h2 c).2]at hx;simp only[Prod.mk.injEq]at hx;rw[eC,<-OZ hx.1,(h2 c).1]
theorem iL.store (h:iL w b n f) (hn:n<maxLen) (c:MK) (x:Int × Int):
 ∃w',(Instr.mapUpdate 101 (.map (some b)) (Ha c) (GJ x)).run Tryz.prog w=.ok () w'/\iL w' b (n+1) (λd=>if d=c then some x else f d)/\Fr (λq=>q≠b) w w':=by
 obtain⟨D,h1,h2⟩:=h;obtain⟨w2,eC,h3,h4⟩:=h1.store su D9 hn (akx c) (Zr x);have hm:Maps.IsMap D:=h1.isMap;refine⟨w2,eC,⟨_,h3,λd=>?_⟩,?_⟩
 ·by_cases hd:d=c
  ·subst hd;rw[Maps.atKey_put_same hm (Et d),Maps.has_put_same hm (Et d)];simp
  ·have bT:Es d≠Es c:=λe=>hd (Pd _ _ e)
   rw[Maps.atKey_put_other bT,Maps.has_put_other bT];simp only[if_neg hd];exact h2 d
 ·obtain⟨es,dc,Ft,ky,hb,rfl⟩:=h4;exact⟨rfl,rfl,rfl,by simp[setBlock],λi hi=>heap_setBlock_other hb _ hi⟩
end
theorem Mn {o:Oper} {a:Act} {w:World} {K:Act->World->Prop} {Q:Exit->Act->World->Prop} (m x:Operand) (pC:o.op=Op.lookup 101 m x true)
 (b n:Nat) (f:MK->Option (Int × Int)) (hm:a.eval m=.map (some b)) (h:iL w b n f) (c:MK) (hx:a.eval x=Ha c)
 (hK:K (a.put o.dst (.tuple #[GJ ((f c).getD (0,0)),.bool (f c).isSome])) w):o.wp Tryz.prog a w K Q:=by
 have eC:=h.look c;unfold Oper.wp;simp[execOp,pC,hm,hx,eC,Result.andThen];exact hK
theorem oo {ops:Array Oper} {rest:List Oper} {o:Oper} {a:Act} {w:World} {Q:Exit->Act->World->Prop} (hg:o.guard=none) (hd:o.dst=none) (m x v:Operand) (pC:o.op=Op.mapUpdate 101 m x v)
 (b n:Nat) (f:MK->Option (Int × Int)) (hm:a.eval m=.map (some b)) (h:iL w b n f) (hn:n<maxLen) (c:MK) (hx:a.eval x=Ha c) (xv:Int × Int) (hv:a.eval v=GJ xv)
 (hK:∀w',iL w' b (n+1) (λd=>if d=c then some xv else f d)->Fr (λq=>q≠b) w w'->wpList Tryz.prog ops Q rest a w'):wpList Tryz.prog ops Q (o::rest) a w:=by
 refine wpList_plain hg λK' hK'=>?_
 obtain⟨w',eC,r1,r2⟩:=h.store hn c xv;unfold Oper.wp;simp[execOp,pC,hm,hx,hv,eC,Result.andThen];refine hK' _ _ ?_;rw[hd];exact hK w' r1 r2
end
section
open Go Go.RowKit
structure BkC (w:World) (Q:Nat->Prop) (bl:List Value) (b:XBk) (gl:List Value) (Ae:Option Addr) (ce:Nat) (Ar:Option Addr) (cr:Nat) (tl:List Value):Prop where
 eq:bl=gl++([.slice Ae b.es.length ce,.slice Ar b.rs.length cr]++tl)
 tlen:tl.length=4
 one:∀v∈tl,v.oneCell'=true
 g:aL w Q gl b.g
 es:aj ax 7 w Q [.slice Ae b.es.length ce] b.es
 rs:aj bN 4 w Q [.slice Ar b.rs.length cr] b.rs
theorem BkC.fr {w w':World} {Q:Nat->Prop} {bl gl tl:List Value} {b:XBk} {Ae Ar:Option Addr} {ce cr:Nat} (h:BkC w Q bl b gl Ae ce Ar cr tl) (hf:Fr Q w w'):BkC w' Q bl b gl Ae ce Ar cr tl:=
 ⟨h.eq,h.tlen,h.one,aL.fr h.g hf,h.es.fr (λh=>ax.fr h hf) hf,h.rs.fr (λh=>bN.fr h hf) hf⟩
theorem BkC.mono {w:World} {Q Q':Nat->Prop} {bl gl tl:List Value} {b:XBk} {Ae Ar:Option Addr} {ce cr:Nat} (h:BkC w Q bl b gl Ae ce Ar cr tl) (hq:∀k,Q k->Q' k):BkC w Q' bl b gl Ae ce Ar cr tl:=
 ⟨h.eq,h.tlen,h.one,aL.mono h.g hq,h.es.mono (λh=>ax.mono h hq) hq,h.rs.mono (λh=>bN.mono h hq) hq⟩
theorem BkC.keep {w w':World} {bl gl tl:List Value} {b:XBk} {Ae Ar:Option Addr} {ce cr:Nat} (h:BkC w (·<w.heap.size) bl b gl Ae ce Ar cr tl) (hb:Below w.heap.size w w'):BkC w' (·<w'.heap.size) bl b gl Ae ce Ar cr tl:=
 (h.fr (Fr.ofBelow hb)).mono (λk hk=>Nat.lt_of_lt_of_le hk hb.size)
theorem BkC.len {w:World} {Q:Nat->Prop} {bl gl tl:List Value} {b:XBk} {Ae Ar:Option Addr} {ce cr:Nat} (h:BkC w Q bl b gl Ae ce Ar cr tl):bl.length=27:=by
 rw[h.eq];simp only[List.length_append,h.g.len,h.tlen,List.length_cons,List.length_nil]
theorem BkC.ones {w:World} {Q:Nat->Prop} {bl gl tl:List Value} {b:XBk} {Ae Ar:Option Addr} {ce cr:Nat} (h:BkC w Q bl b gl Ae ce Ar cr tl):bl.all (·.oneCell')=true:=by
 rw[h.eq];simp only[List.all_append,h.g.ones,List.all_cons,List.all_nil,Bool.true_and,Bool.and_eq_true,List.all_eq_true];exact⟨⟨rfl,rfl,trivial⟩,λv hv=>h.one v hv⟩
theorem BkC.at_g {w:World} {Q:Nat->Prop} {bl gl tl:List Value} {b:XBk} {Ae Ar:Option Addr} {ce cr:Nat} (h:BkC w Q bl b gl Ae ce Ar cr tl) {i:Nat} (hi:i<21):bl[i]? =gl[i]? :=by
 rw[h.eq,List.getElem?_append_left (by rw[h.g.len];exact hi)]
theorem BkC.at_e {w:World} {Q:Nat->Prop} {bl gl tl:List Value} {b:XBk} {Ae Ar:Option Addr} {ce cr:Nat} (h:BkC w Q bl b gl Ae ce Ar cr tl):bl[21]? =some (.slice Ae b.es.length ce)/\bl[22]? =some (.slice Ar b.rs.length cr):=by
 refine⟨?_,?_⟩<;>rw[h.eq,List.getElem?_append_right (by rw[h.g.len];omega),h.g.len]<;>rfl
def okB (b:XBk):Prop:=dQ b.g/\xI b.es/\(∀r∈b.rs,r.currency.size<=140737488355328)/\b.rs.length<=100000
def ew (bl:List Value) (ent p la:Int) (mv:Value) (aw:ByteArray) (cv:Bool):List Value:=bl++[.int .i64 ent,.int .i64 p,.int .i64 la,mv,.string aw,.bool cv]
theorem jl {bl:List Value} (h:bl.length=27) (ent p la:Int) (mv:Value) (aw:ByteArray) (cv:Bool) {i:Nat} (hi:i<27):(ew bl ent p la mv aw cv).toArray[i]? =bl[i]? :=by
 rw[List.getElem?_toArray];unfold ew;rw[List.getElem?_append_left (by omega)]
theorem mc {bl:List Value} (h:bl.length=27) (ent p la:Int) (mv:Value) (aw:ByteArray) (cv:Bool):(ew bl ent p la mv aw cv).toArray[27]? =some (.int .i64 ent)/\(ew bl ent p la mv aw cv).toArray[28]? =some (.int .i64 p)/\(ew bl ent p la mv aw cv).toArray[29]? =some (.int .i64 la)/\(ew bl ent p la mv aw cv).toArray[30]? =some mv/\(ew bl ent p la mv aw cv).toArray[31]? =some (.string aw)/\(ew bl ent p la mv aw cv).toArray[32]? =some (.bool cv):=by
 simp only[List.getElem?_toArray];unfold ew;refine⟨?_,?_,?_,?_,?_,?_⟩<;>rw[List.getElem?_append_right (by omega),h]<;>rfl
theorem oy {bl:List Value} (h:bl.length=27) (ent p la:Int) (mv:Value) (aw:ByteArray) (cv:Bool):
 (∀e:Int,(ew bl ent p la mv aw cv).toArray.setIfInBounds 27 (.int .i64 e)=(ew bl e p la mv aw cv).toArray)/\(∀m:Value,(ew bl ent p la mv aw cv).toArray.setIfInBounds 30 m=(ew bl ent p la m aw cv).toArray)/\
 (∀c:ByteArray,(ew bl ent p la mv aw cv).toArray.setIfInBounds 31 (.string c)=(ew bl ent p la mv c cv).toArray)/\∀c:Bool,(ew bl ent p la mv aw cv).toArray.setIfInBounds 32 (.bool c)=(ew bl ent p la mv aw c).toArray:=by
 unfold ew;refine⟨λe=>?_,λe=>?_,λe=>?_,λe=>?_⟩<;>rw[List.setIfInBounds_toArray,List.set_append_right _ _ (by omega),h]<;>rfl
def ev (w:World) (D:Nat) (bl:List Value) (ent p la:Int) (mv:Value) (aw:ByteArray) (cv:Bool):Prop:=w.heap[D]? =some (.cells (ew bl ent p la mv aw cv).toArray 103 (0,0))
theorem ev.set27 {w:World} {D:Nat} {bl:List Value} {ent p la:Int} {mv:Value} {aw:ByteArray} {cv:Bool} (h:ev w D bl ent p la mv aw cv) (hl:bl.length=27) (e:Int):ev (w.setCell ⟨D,27,none⟩ (.int .i64 e)) D bl e p la mv aw cv:=by
 have h2:=aG h 27 (.int .i64 e);rw[(oy hl ent p la mv aw cv).1]at h2;exact h2
theorem ev.set30 {w:World} {D:Nat} {bl:List Value} {ent p la:Int} {mv:Value} {aw:ByteArray} {cv:Bool} (h:ev w D bl ent p la mv aw cv) (hl:bl.length=27) (m:Value):ev (w.setCell ⟨D,30,none⟩ m) D bl ent p la m aw cv:=by
 have h2:=aG h 30 m;rw[(oy hl ent p la mv aw cv).2.1]at h2;exact h2
theorem ev.set31 {w:World} {D:Nat} {bl:List Value} {ent p la:Int} {mv:Value} {aw:ByteArray} {cv:Bool} (h:ev w D bl ent p la mv aw cv) (hl:bl.length=27) (c:ByteArray):ev (w.setCell ⟨D,31,none⟩ (.string c)) D bl ent p la mv c cv:=by
 have h2:=aG h 31 (.string c);rw[(oy hl ent p la mv aw cv).2.2.1]at h2;exact h2
theorem ev.set32 {w:World} {D:Nat} {bl:List Value} {ent p la:Int} {mv:Value} {aw:ByteArray} {cv:Bool} (h:ev w D bl ent p la mv aw cv) (hl:bl.length=27) (c:Bool):ev (w.setCell ⟨D,32,none⟩ (.bool c)) D bl ent p la mv aw c:=by
 have h2:=aG h 32 (.bool c);rw[(oy hl ent p la mv aw cv).2.2.2]at h2;exact h2
def cZ (b:XBk) (ent:Int):aV:=b.g.entities.getD ent.toNat {}
def pq (b:XBk) (ent basis d:Int):Int × Int:=if basis=2 then oS b.rs b.g.currency (cZ b ent).currency (lJ b.g d) (bA b.g d) d else fO b.rs b.g.currency (cZ b ent).currency d
def kD (w:World) (D M k:Nat) (bl:List Value) (b:XBk) (ent p:Int):Prop:=∃f,ev w D bl ent p (bA b.g p) (.map (some M)) (cZ b ent).currency (decide ((cZ b ent).currency≠b.g.currency))/\iL w M k f/\M≠D/\∀c v,f c=some v->v=pq b ent c.1.1 c.1.2
theorem kD.fr {w w':World} {D M k:Nat} {bl:List Value} {b:XBk} {ent p:Int} (h:kD w D M k bl b ent p) {Q:Nat->Prop} (hf:Fr Q w w') (h1:Q D) (h2:Q M):kD w' D M k bl b ent p:=by
 obtain⟨f,a1,a2,a3,a4⟩:=h;exact⟨f,(hf.block D h1).trans a1,a2.fr hf h2,a3,a4⟩
theorem kD.lt {w:World} {D M k:Nat} {bl:List Value} {b:XBk} {ent p:Int} (h:kD w D M k bl b ent p):D<w.heap.size/\M<w.heap.size/\M≠D:=by
 obtain⟨f,a1,a2,a3,a4⟩:=h;exact⟨ag a1,a2.lt,a3⟩
theorem kD.below {w w':World} {D M k:Nat} {bl:List Value} {b:XBk} {ent p:Int} (h:kD w D M k bl b ent p) (hb:Below w.heap.size w w'):kD w' D M k bl b ent p:=h.fr (Fr.ofBelow hb) h.lt.1 h.lt.2.1
theorem Jd (D:Nat) (b:XBk) (bl gl tl:List Value) (Ae Ar:Option Addr) (ce cr:Nat) (e0 ent p la:Int) (mv:Value) (c0:ByteArray) (v0:Bool) (w:World) (hk:BkC w (λq=>q<w.heap.size/\q≠D) bl b gl Ae ce Ar cr tl) (hd:ev w D bl e0 p la mv c0 v0) (ep:dZ b ent):
 Calls Tryz.prog 46 #[.pointer (some ⟨D,0,none⟩),ent] w (λe w'=>(∃v,e=.returned v)/\∃M,w.heap.size<=M/\ev w' D bl ent p la (.map (some M)) (cZ b ent).currency (decide ((cZ b ent).currency≠b.g.currency))/\iL w' M 0 (λ_=>none)/\Fr (λq=>q<w.heap.size/\q≠D) w w'):=by
 have Iz:=@run_makeMap Tryz.prog;have zD:=hk.len;have tN:=H_ zD;have HDL:=H_ (ag hd);obtain⟨Ac,cc,Iy,Ds,_,LE,_,_,_,_,_,vD⟩:=hk.g.view;have aab:=H_ ((hk.at_g (i:=20) (by omega)).trans LE);have Fx:=H_ ((hk.at_g (i:=0) (by omega)).trans (show gl[0]? =some (.string b.g.currency) by have:=hk.g.cellsA.1;simpa using this));obtain⟨q,hq,rfl,zT⟩:=me ep;have HQE:=H_ (show cZ b (q:Int)=b.g.entities[q]from zT);obtain⟨be,oe,es,dj,oQ,bL,aS⟩:=aj.get vD q hq;subst dj;obtain⟨Ac2,Mx,Cu,Kb,mE,_⟩:=aN.lit bL;rw[mE]at aS;obtain⟨aw,eh⟩:∃c,b.g.entities[q].currency=c:=⟨_,rfl⟩;have MG:=H_ (show w.cell? ⟨be,oe+q*5+1,none⟩=some (.string aw) by rw[<-eh];exact aS.c (j:=1) rfl);have Gf:=H_ oQ;rw[HQE.o,eh];obtain⟨grp,abB⟩:∃c,b.g.currency=c:=⟨_,rfl⟩;rw[abB]at Fx |-;obtain⟨ne,bT⟩:∃n,b.g.entities.length=n:=⟨_,rfl⟩;rw[bT]at aab hq;have MT:=H_ (mc zD);have HD0:=H_ (show ev w D bl e0 p la mv c0 v0 from hd);have HQI:=H_ hq;obtain⟨qe,Xh⟩:∃q,decide (aw=grp)=q:=⟨_,rfl⟩;have aeN:(aw.toList==grp.toList)=qe:=by rw[gI];exact Xh
 obtain⟨cv,jY⟩:=x_ ((!qe));rw[show decide (aw≠grp)=cv by rw[decide_not,Xh];exact jY];have c27:w.cell? ⟨D,27,none⟩=some (.int .i64 e0):=(ab hd 27).trans (MT.o _ _ _ _ _ _).1;have z27:=bB hd 27;clear hk vD bL mE aS oQ hd zT bT LE abB eh Xh ep;go_enter Tryz.func46,Tryz.ntmps46;go_upto_region 1 with fail;have Dw:=H_ (HD0.o.set27 tN.o (q:Int));have kU:=H_ (show Fr (λk=>k≠D) w (w.setCell ⟨D,27,none⟩ (.int .i64 (q:Int)))from(Fr.refl _ w).setCell (λh=>h rfl) _);generalize w.setCell ⟨D,27,none⟩ (.int .i64 (q:Int))=W1 at*;have Mp:W1.cell? ⟨D,20,none⟩=some (.slice (some ⟨be,oe,none⟩) ne Ds):=(ab Dw.o 20).trans ((jl tN.o _ _ _ _ _ _ (by omega)).trans aab.o);have c31:W1.cell? ⟨D,31,none⟩=some (.string c0):=(ab Dw.o 31).trans (MT.o _ _ _ _ _ _).2.2.2.2.1;have z31:=bB Dw.o 31;have hce:W1.cell? ⟨be,oe+q*5+1,none⟩=some (.string aw):=(kU.o.cell (p:=⟨be,oe+q*5+1,none⟩) Gf.o.2).trans MG.o;have IR:(q:Int)< (ne:Int):=by omega
 clear c27 z27;go_upto_region 2 with fail;have HD2:=H_ (Dw.o.set31 tN.o aw);have kV:=H_ (show Fr (λk=>k≠D) w (W1.setCell ⟨D,31,none⟩ (.string aw))from kU.o.setCell (λh=>h rfl) _);generalize W1.setCell ⟨D,31,none⟩ (.string aw)=W2 at*;have d31:W2.cell? ⟨D,31,none⟩=some (.string aw):=(ab HD2.o 31).trans (MT.o _ _ _ _ _ _).2.2.2.2.1;have d0:W2.cell? ⟨D,0,none⟩=some (.string grp):=(ab HD2.o 0).trans ((jl tN.o _ _ _ _ _ _ (by omega)).trans Fx.o);have d32:W2.cell? ⟨D,32,none⟩=some (.bool v0):=(ab HD2.o 32).trans (MT.o _ _ _ _ _ _).2.2.2.2.2;have y32:=bB HD2.o 32;have D31:=H_ d31;have D0:=H_ d0;have D32:=H_ d32;have Y32:=H_ y32;clear Mp c31 z31 hce d31 d0 d32 y32;refine dC 14 (Ks W2 [.val (.pointer (some ⟨D,0,none⟩)),.val (.pointer (some ⟨D,0,none⟩)),.val (.pointer (some ⟨D,0,none⟩)),.val (.pointer (some ⟨D,31,none⟩)),aw,.val (.pointer (some ⟨D,0,none⟩)),.val (.pointer (some ⟨D,0,none⟩)),.val (.pointer (some ⟨D,0,none⟩)),.val (.pointer (some ⟨D,0,none⟩)),.val (.pointer (some ⟨D,0,none⟩)),grp,cv,.val (.pointer (some ⟨D,0,none⟩)),.val (.pointer (some ⟨D,32,none⟩))])
  (λw'=>w'=W2.drew) K_ K_ K_ (by decide) K_ K_ K_ rfl ?_ ?_
 ·refine⟨b_ (q_ 0),b_ (q_ 0),b_ (p_ 1 22),b_ (p_ 2 23),?_,b_ (q_ 0),b_ (p_ 5 26),b_ (p_ 6 27),b_ (p_ 7 28),b_ (p_ 8 29),?_,c_ (p_ 4 25) (p_ 10 31),b_ (p_ 0 21),b_ (p_ 12 33),trivial⟩
  ·intro _ A0 w2 hI hd hnd K hK;have e0:=hI.p hd 3 24;have hS:=H_ (show w2=W2.drew from hI.world);have cI:w2.cell? ⟨D,31,none⟩=some (.string aw):=by rw[hS.o];exact D31.o
   exact hI.z hK
  ·intro _ A0 w2 hI hd hnd K hK;have e0:=hI.p hd 9 30;have hS:=H_ (show w2=W2.drew from hI.world);have cI:w2.cell? ⟨D,0,none⟩=some (.string grp):=by rw[hS.o];exact D0.o
   exact hI.z hK
 ·intro A0 w2 hI;obtain⟨x0,g0,h0⟩:=hI.got 0 _ 21 rfl rfl rfl;obtain⟨x1,g1,h1⟩:=hI.got 1 _ 22 rfl rfl rfl;obtain⟨x2,g2,h2⟩:=hI.got 2 _ 23 rfl rfl rfl;obtain⟨x3,g3,h3⟩:=hI.got 3 _ 24 rfl rfl rfl;obtain⟨x4,g4,h4⟩:=hI.got 4 _ 25 rfl rfl rfl;obtain⟨x5,g5,h5⟩:=hI.got 5 _ 26 rfl rfl rfl;obtain⟨x6,g6,h6⟩:=hI.got 6 _ 27 rfl rfl rfl;obtain⟨x7,g7,h7⟩:=hI.got 7 _ 28 rfl rfl rfl;obtain⟨x8,g8,h8⟩:=hI.got 8 _ 29 rfl rfl rfl;obtain⟨x9,g9,h9⟩:=hI.got 9 _ 30 rfl rfl rfl;obtain⟨dN,cR,dl⟩:=hI.got 10 _ 31 rfl rfl rfl;obtain⟨ef,dm,dx⟩:=hI.got 11 _ 32 rfl rfl rfl;obtain⟨fh,dR,et⟩:=hI.got 12 _ 33 rfl rfl rfl;obtain⟨gU,eK,fA⟩:=hI.got 13 _ 34 rfl rfl rfl;obtain rfl:w2=W2.drew:=hI.world;have hA:A0=_:=hI.tmps [(21,x0),(22,x1),(23,x2),(24,x3),(25,x4),(26,x5),(27,x6),(28,x7),(29,x8),(30,x9),(31,dN),(32,ef),(33,fh),(34,gU)] (by simp only[List.mem_cons,List.not_mem_nil,or_false,forall_eq_or_imp,forall_eq];exact⟨g0,g1,g2,g3,g4,g5,g6,g7,g8,g9,cR,dm,dR,eK⟩) K_;obtain rfl:ef=.bool cv:=dx _ rfl;obtain rfl:gU=.pointer (some ⟨D,32,none⟩):=fA _ rfl;clear h0 g0 h1 g1 h2 g2 h3 g3 h4 g4 h5 g5 h6 g6 h7 g7 h8 g8 h9 g9 dl cR dx dm et dR fA eK hI;simp only[ba,List.foldl,List.setIfInBounds_toArray,List.set_cons_zero,List.set_cons_succ]at hA;rw[hA];clear hA;simp only[List.drop_succ_cons,List.drop_zero];have d32:W2.drew.cell? ⟨D,32,none⟩=some (.bool v0):=D32.o;have y32:W2.drew.frozen? ⟨D,32,none⟩=false:=Y32.o;go_upto_region 3 with fail;have HD3:=H_ (show ev (W2.setCell ⟨D,32,none⟩ (.bool cv)) D bl (q:Int) p la mv aw cv from ev.set32 (w:=W2) HD2.o tN.o cv);have IH:=H_ (show Fr (λk=>k≠D) w (W2.setCell ⟨D,32,none⟩ (.bool cv))from kV.o.setCell (λh=>h rfl) _);generalize W2.setCell ⟨D,32,none⟩ (.bool cv)=W3 at*;clear d32 y32;have hmp:=iL.made W3;have gw:=ai W3 (.map #[] 0);have HD4:=H_ (show ev (W3.alloc (.map #[] 0)) D bl (q:Int) p la mv aw cv from al (w:=W3) HD3.o _);have d30:(W3.alloc (.map #[] 0)).cell? ⟨D,30,none⟩=some mv:=(ab HD4.o 30).trans (MT.o _ _ _ _ _ _).2.2.2.1;have y30:=bB HD4.o 30;go_wp2_with fail
  go_end0
  refine⟨⟨_,rfl⟩,W3.heap.size,IH.o.size,HD4.o.set30 tN.o _,hmp.same ?_,(((IH.o.mono (λk hk=>hk.2)).trans ((Fr.ofBelow gw).mono (λk (hk:k<w.heap.size/\k≠D)=>Nat.lt_of_lt_of_le hk.1 IH.o.size))).setCell (p:=⟨D,30,none⟩) (λh=>h.2 rfl) _).drew⟩;have bT:W3.heap.size≠D:=by have:=IH.o.size;have:=HDL.o;omega
  exact((Fr.refl (λk=>k≠D) _).setCell (λh=>h rfl) _).block _ bT
theorem nQ {w:World} {B:Nat} {C:Array Value} {t:TypeId} {gl:List Value} (hb:w.heap[B]? =some (.cells C t (0,0))) (hg:∀i,i<21->C[i]? =gl[i]?) (hl:gl.length=21):w.rangeAt B 0 gl:=λj v hj=>by
 have tP:j<21:=by rw[<-hl];exact(List.getElem?_eq_some_iff.1 hj).1
 have:=ab hb j;rw[hg j tP,hj]at this;rw[Nat.zero_add];exact this
theorem GF (bl:List Value) (hl:bl.length=27) (p la:Int):Tryz.prog.built 103 [(0,.agg bl.toArray),(2,.int .i64 p),(3,.int .i64 la)]=some (ew bl 0 p la (.map none) ⟨#[]⟩ false).toArray:=
 match bl,hl with
 |[x0,x1,x2,x3,x4,x5,x6,x7,x8,x9,dN,ef,fh,gU,LR,jH,jZ,kv,lR,kh,rB,vz,vr,zW,zP,zK,zz],_=>by kernel_rfl
theorem bF:(Tryz.prog.info? 36).map (·.size)=some 27:=by kernel_rfl
def jU (b:XBk) (ent p:Int) (Cs:Bool):Int:=if cE b then(if(Cs=true\/dZ b ent)/\eN b p then 0 else 2)else 1
theorem xL (b:XBk) (ent p:Int):jU b ent p false=fH b ent p:=by unfold jU fH;simp
def rY (b:XBk) (bl:List Value) (ent p:Int) (w w':World) (D:Nat) (Cs:Bool):Prop:=if Cs=true then ev w' D bl 0 p (bA b.g p) (.map none) ⟨#[]⟩ false else ∃M,w.heap.size<=M/\kD w' D M 0 bl b ent p
def nN (b:XBk) (bl:List Value) (ent p:Int) (Cs:Bool) (w:World) (e:Ending) (w':World):Prop:=
 (jU b ent p Cs≠0/\e=.returned (.tuple #[.pointer none,(jU b ent p Cs)])/\Below w.heap.size w w')\/
 (jU b ent p Cs=0/\∃D:Nat,e=.returned (.tuple #[.pointer (some ⟨D,0,none⟩),()])/\w.heap.size<=D/\Below w.heap.size w w'/\rY b bl ent p w w' D Cs)
theorem mj {b:XBk} (h:bh b.g=true) (p:Int):(bH b.g.calendar.year b.g.calendar.month b.g.calendar.periods p).2=0↔eN b p:=by
 unfold bH bo eN;rw[if_pos (fy h)];by_cases hp:0<=p/\p<b.g.calendar.periods
 ·rw[if_pos hp,if_pos rfl];exact⟨λ_=>hp,λ_=>rfl⟩
 ·rw[if_neg hp,if_neg (by decide)];exact⟨o_,λh=>absurd h hp⟩
theorem Hl (b:XBk) (bl gl tl:List Value) (Ae Ar:Option Addr) (ce cr:Nat) (ent p:Int) (Cs:Bool) (w:World) (hk:BkC w (·<w.heap.size) bl b gl Ae ce Ar cr tl) (ci:okB b):
 Calls Tryz.prog 43 #[.agg bl.toArray,ent,p,Cs] w (nN b bl ent p Cs w):=by
 have Vo:=H_ (λ(w2:World) (hb:Below w.heap.size w w2)=>O7 b.g b.es gl Ae ce w2 (hk.keep hb).g (hk.keep hb).es ci.1 ci.2.1);have ME:=H_ (λ(w2:World) (hb:Below w.heap.size w w2)=>sK b.g.currency b.rs Ar cr w2 (hk.keep hb).rs ci.2.2.1 (by have:=ci.1.2.2.1;omega) ci.2.2.2);have Vj:=H_ (λ(w2:World) (D:Nat) (mv:Value) (c0:ByteArray) (v0:Bool) (e0:Int) (hb:Below w.heap.size w w2) (aU:w.heap.size<=D) (hd:ev w2 D bl e0 p (bA b.g p) mv c0 v0) (ep:dZ b ent)=>
  Jd D b bl gl tl Ae Ar ce cr e0 ent p (bA b.g p) mv c0 v0 w2 ((hk.fr (Fr.ofBelow hb)).mono (λk (hk:k<w.heap.size)=>⟨Nat.lt_of_lt_of_le hk hb.size,by omega⟩)) hd ep)
 have R2:=H_ (GF bl hk.len p (bA b.g p));have R0:=H_ hk.len;have kY:=H_ (show bl.toArray.size=27 by have:=hk.len;simpa using this);have yO:=H_ (show gl.length=21 from hk.g.len);have fu:=H_ (show gl.toArray.size=21 by have:=hk.g.len;simpa using this);have lF:=H_ (λ(W2:World) (B:Nat) (h:W2.heap[B]? =some (.cells bl.toArray 36 (0,0)))=>nQ h (λi hi=>by rw[List.getElem?_toArray];exact hk.at_g hi) hk.g.len);have CA:=H_ (λ(i:Nat) (hi:i<21)=>(show bl.toArray[i]? =gl.toArray[i]? by rw[List.getElem?_toArray,List.getElem?_toArray];exact hk.at_g hi));have HE:=H_ (show bl.toArray[21]? =some (.slice Ae b.es.length ce)/\bl.toArray[22]? =some (.slice Ar b.rs.length cr) by rw[List.getElem?_toArray,List.getElem?_toArray];exact hk.at_e);obtain⟨h0,h1,h2,h3,dx⟩:=hk.g.cellsA;have m8:=H_ ((CA.o 0 (by omega)).trans h0);have jG:=H_ ((CA.o 1 (by omega)).trans h1);have jv:=H_ ((CA.o 2 (by omega)).trans h2);have kB:=H_ ((CA.o 3 (by omega)).trans h3);obtain⟨Ac,cc,Iy,Ds,_,LE,_⟩:=hk.g.view;have nF:=H_ ((CA.o 20 (by omega)).trans (show gl.toArray[20]? =some (.slice Iy b.g.entities.length Ds) by rw[List.getElem?_toArray];exact LE));obtain⟨OE,rO⟩:∃c,jU b ent p Cs=c:=⟨_,rfl⟩;unfold nN;rw[rO];have C6:=H_ rO;clear hk rO h0 h1 h2 h3 dx LE;go_enter Tryz.func43,Tryz.ntmps43;go_upto_region 1 with fail;obtain⟨W1,cS,H1,bC,dr,ewx⟩:=B_ w (.cells bl.toArray 36);rw[cS];clear ewx;clear cS;have fB:=H_ H1;have Bx:=H_ (lF.o W1 _ H1);have qx:=(ab H1 21).trans HE.o.1;clear H1;go_wp2_with (refine w_ 17 29 16 w.heap.size (0) gl Bx.o (by rw[ay];exact congrArg some yO.o.symm) Tryz.underlying29 ?_);refine(Vo.o W1 bC).mono ?_;rintro e w2 ⟨i0,c0,rfl,sM,aH⟩;have HVJ:=H_ sM;have aF:=bC.trans (aH.mono bC.size);have dn:=k_ aH fB;have dW:=Nat.lt_of_lt_of_le dr aH.size;clear sM qx;by_cases hc:c0=0
 case neg=>
  have hd:(c0 !=0)=true:=by simpa using hc
  have zq:=H_ (show OE=1 by rw[<-C6.o];unfold jU;rw[if_neg (λh=>hc (HVJ.o.2 ⟨h.1,h.2.1⟩))]);clear hc;go_wp2_with fail;go_ret2;exact .inl ⟨by rw[zq.o];decide,by rw[zq.o];first|done|rfl,aF⟩
 case pos=>
 subst hc;have abR:=H_ (HVJ.o.1 rfl);clear HVJ;have HH2':=dn.o;have c0g:=(ab HH2' 0).trans m8.o;have c22:=(ab HH2' 22).trans HE.o.2;clear HH2';go_wp2_with fail;refine(ME.o w2 aF).mono ?_;rintro e w3 ⟨rfl,aZ⟩;have aR:=aF.trans (aZ.mono aF.size);have kS:=k_ aZ dn;have lE:=Nat.lt_of_lt_of_le dW aZ.size;by_cases hR:dJ b.g.currency b.rs
 case neg=>
  have hd:decide (dJ b.g.currency b.rs)=false:=decide_eq_false hR;have zq:=H_ (show OE=1 by rw[<-C6.o];unfold jU;rw[if_neg (λh=>hR h.2.2)]);clear hR
  try rw[hd]
  go_wp2_with fail;go_ret2;exact .inl ⟨by rw[zq.o];decide,by rw[zq.o];first|done|rfl,aR⟩
 case pos=>
 have jI:=H_ (show cE b from⟨abR.o.1,abR.o.2,hR⟩);have hd:decide (dJ b.g.currency b.rs)=true:=decide_eq_true hR
 try rw[hd]
 clear hR hd c0g c22;have qu:=H_ (mj (b:=b) jI.o.1 p);obtain⟨e1,X3⟩:∃x,(bH b.g.calendar.year b.g.calendar.month b.g.calendar.periods p).2=x:=⟨_,rfl⟩;rw[X3]at qu;have vw:=H_ (λ(w9:World)=>show Calls Tryz.prog 80 #[.agg #[b.g.calendar.year,b.g.calendar.month,b.g.calendar.periods],p] w9 (ap w9 (.tuple #[(bA b.g p),e1])) by
  rw[<-X3];exact Af _ _ _ _ w9)
 clear X3;have QI:=H_ (show cE b->OE=(if(Cs=true\/dZ b ent)/\eN b p then 0 else 2) by intro h;rw[<-C6.o];unfold jU;rw[if_pos h]);obtain⟨la,m5⟩:∃x,bA b.g p=x:=⟨_,rfl⟩;rw[m5]at Vj R2 vw;have RU:=H_ m5;clear m5;cases Cs with
 |true=>
 have lT:=H_ (dg kS.o jG.o jv.o kB.o);go_wp2_with (refine w_ 51 23 50 w.heap.size (1) _ lT.o bV Tryz.underlying23 ?_);refine(vw.o _).mono ?_;rintro e w4 ⟨rfl,bU⟩;have bD:=aR.trans (bU.mono aR.size);have oW:=k_ bU kS;by_cases iA:e1=0
 case neg=>
  have zq:=H_ (show OE=2 by rw[QI.o jI.o,if_neg (λh=>iA (qu.o.2 h.2))]);have hdp:(e1 !=0)=true:=by simpa using iA
  clear iA;go_wp2_with fail;go_ret2;exact .inl ⟨by rw[zq.o];decide,by rw[zq.o];first|done|rfl,bD⟩
 case pos=>
 subst iA;have zq:=H_ (show OE=0 by rw[QI.o jI.o,if_pos ⟨by simp,qu.o.1 rfl⟩]);obtain⟨DL,Mr⟩:∃L,(ew bl 0 p la (.map none) ⟨#[]⟩ false).toArray=L:=⟨_,rfl⟩;have XB:=H_ Mr;rw[Mr]at R2;clear Mr;go_upto_region 10 with(first|(refine W_ 58 36 4 (w.heap.size) oW.o (by rw[bF];exact congrArg some kY.o.symm) Tryz.underlying36 ?_)|(show wpList _ _ _ (Oper.mk (some 61) _ _ _ _ _::_) _ _;go_loud (refine iq rfl 103 _ rfl [(0,.agg bl.toArray),(2,.int .i64 p),(3,.int .i64 la)] (by simp[Act.eval]) DL R2.o ?_)))
 have H6:=heap_alloc_new w4 (.cells DL 103);have dK:=ai w4 (.cells DL 103);have my:=H_ (show w4.heap.size< (w4.alloc (.cells DL 103)).heap.size from ag H6);generalize w4.alloc (Obj.cells DL 103)=w6 at*;have QO:=bD.trans (dK.mono bD.size);have HDZ:=H_ bD.size;have vh:=H_ (show ev w6 w4.heap.size bl 0 p la (.map none) ⟨#[]⟩ false by unfold ev;rw[XB.o];exact H6);clear H6;go_wp2_with fail;go_ret2;exact .inr ⟨zq.o,w4.heap.size,rfl,HDZ.o,QO,by unfold rY;rw[if_pos rfl,RU.o];exact vh.o⟩
 |false=>
  have HH3':=kS.o;have Mp:=(ab HH3' 20).trans nF.o;clear HH3';by_cases zG:ent<0
  case pos=>
   have zq:=H_ (show OE=2 by rw[QI.o jI.o,if_neg (λh=>by rcases h.1 with h|h;exact absurd h (by decide);have:=h.1;omega)]);have hdq:decide (ent<0)=true:=decide_eq_true zG;clear zG;go_wp2_with fail;go_ret2;exact .inl ⟨by rw[zq.o];decide,by rw[zq.o];first|done|rfl,aR⟩
  case neg=>
   have hdq:decide (ent<0)=false:=decide_eq_false zG;by_cases mF:ent≥(b.g.entities.length:Int)
   case pos=>
    have zq:=H_ (show OE=2 by rw[QI.o jI.o,if_neg (λh=>by rcases h.1 with h|h;exact absurd h (by decide);have:=h.2;omega)]);have acG:decide (ent≥(b.g.entities.length:Int))=true:=decide_eq_true mF;clear zG mF;go_wp2_with fail;go_ret2;exact .inl ⟨by rw[zq.o];decide,by rw[zq.o];first|done|rfl,aR⟩
   case neg=>
    have acG:decide (ent≥(b.g.entities.length:Int))=false:=decide_eq_false mF;have HEO:=H_ (show dZ b ent from⟨by omega,by omega⟩);clear zG mF;have lT:=H_ (dg kS.o jG.o jv.o kB.o);go_wp2_with (refine w_ 51 23 50 w.heap.size (1) _ lT.o bV Tryz.underlying23 ?_);refine(vw.o _).mono ?_;rintro e w4 ⟨rfl,bU⟩;have bD:=aR.trans (bU.mono aR.size);have oW:=k_ bU kS;by_cases iA:e1=0
    case neg=>
     have zq:=H_ (show OE=2 by rw[QI.o jI.o,if_neg (λh=>iA (qu.o.2 h.2))]);have hdp:(e1 !=0)=true:=by simpa using iA
     clear iA;go_wp2_with fail;go_ret2;exact .inl ⟨by rw[zq.o];decide,by rw[zq.o];first|done|rfl,bD⟩
    case pos=>
    subst iA;have zq:=H_ (show OE=0 by rw[QI.o jI.o,if_pos ⟨by first|exact Or.inr HEO.o|simpa using HEO.o,qu.o.1 rfl⟩]);obtain⟨DL,Mr⟩:∃L,(ew bl 0 p la (.map none) ⟨#[]⟩ false).toArray=L:=⟨_,rfl⟩;have XB:=H_ Mr;rw[Mr]at R2;clear Mr;go_upto_region 10 with(first|(refine W_ 58 36 4 (w.heap.size) oW.o (by rw[bF];exact congrArg some kY.o.symm) Tryz.underlying36 ?_)|(show wpList _ _ _ (Oper.mk (some 61) _ _ _ _ _::_) _ _;go_loud (refine iq rfl 103 _ rfl [(0,.agg bl.toArray),(2,.int .i64 p),(3,.int .i64 la)] (by simp[Act.eval]) DL R2.o ?_)))
    have H6:=heap_alloc_new w4 (.cells DL 103);have dK:=ai w4 (.cells DL 103);have my:=H_ (show w4.heap.size< (w4.alloc (.cells DL 103)).heap.size from ag H6);generalize w4.alloc (Obj.cells DL 103)=w6 at*;have QO:=bD.trans (dK.mono bD.size);have HDZ:=H_ bD.size;have vh:=H_ (show ev w6 w4.heap.size bl 0 p la (.map none) ⟨#[]⟩ false by unfold ev;rw[XB.o];exact H6);clear H6;go_wp2_with fail;refine(Vj.o w6 w4.heap.size _ _ _ _ QO HDZ.o vh.o HEO.o).mono ?_;rintro e w7 ⟨⟨v7,rfl⟩,M,hM,hdM,hmM,hfM⟩;have fC:=QO.trans ((hfM.mono (λk (hk:k<w.heap.size)=>⟨Nat.lt_of_lt_of_le hk QO.size,by have:=HDZ.o;omega⟩)).below);go_wp2_with fail;go_ret2;exact .inr ⟨zq.o,w4.heap.size,rfl,HDZ.o,fC,by unfold rY kD;rw[if_neg (by decide),RU.o];exact⟨M,by have:=QO.size;omega,_,hdM,hmM,by have:=my.o;omega,λc v h=>by cases h⟩⟩
theorem agt {w:World} {Q:Nat->Prop} {bl gl tl:List Value} {b:XBk} {Ae Ar:Option Addr} {ce cr:Nat} (hk:BkC w Q bl b gl Ae ce Ar cr tl):
 Hd (bl.toArray.size=27)/\Hd (gl.length=21)/\Hd (∀(W2:World) (B:Nat),W2.heap[B]? =some (.cells bl.toArray 36 (0,0))->W2.rangeAt B 0 gl)/\Hd (∀i:Nat,i<21->bl.toArray[i]? =gl.toArray[i]?)/\
  Hd (bl.toArray[21]? =some (.slice Ae b.es.length ce)/\bl.toArray[22]? =some (.slice Ar b.rs.length cr))/\Hd (bl.toArray[0]? =some (.string b.g.currency))/\Hd (bl.toArray[1]? =some (.int .i64 b.g.calendar.year))/\Hd (bl.toArray[2]? =some (.int .i64 b.g.calendar.month))/\Hd (bl.toArray[3]? =some (.int .i64 b.g.calendar.periods))/\
  ∃(Ac:Option Addr) (cc:Nat) (Iy:Option Addr) (Ds:Nat),Hd (bl.toArray[20]? =some (.slice Iy b.g.entities.length Ds))/\Hd (bl.toArray[4]? =some (.slice Ac b.g.chart.length cc)):=by
 have xn:=λ(i:Nat) (hi:i<21)=>(show bl.toArray[i]? =gl.toArray[i]? by rw[List.getElem?_toArray,List.getElem?_toArray];exact hk.at_g hi)
 obtain⟨h0,h1,h2,h3,_⟩:=hk.g.cellsA;obtain⟨Ac,cc,Iy,Ds,_,LE,h4,_⟩:=hk.g.view;exact⟨H_ (by have:=hk.len;simpa using this),H_ hk.g.len,H_ (λW2 B h=>nQ h (λi hi=>by rw[List.getElem?_toArray];exact hk.at_g hi) hk.g.len),H_ xn,
  H_ (by rw[List.getElem?_toArray,List.getElem?_toArray];exact hk.at_e),H_ ((xn 0 (by omega)).trans h0),H_ ((xn 1 (by omega)).trans h1),H_ ((xn 2 (by omega)).trans h2),H_ ((xn 3 (by omega)).trans h3),
  Ac,cc,Iy,Ds,H_ ((xn 20 (by omega)).trans (show gl.toArray[20]? =some (.slice Iy b.g.entities.length Ds) by rw[List.getElem?_toArray];exact LE)),H_ ((xn 4 (by omega)).trans (show gl.toArray[4]? =some (.slice Ac b.g.chart.length cc) by rw[List.getElem?_toArray];exact h4))⟩
end
end Go.Proofs.YtibiddakakgakaaGreat
