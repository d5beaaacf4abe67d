/- The spot rate at a day: quote.Which, quote.Spot. Written by gen_x4.py. -/
import Derived.Test.YtibiddakakgakaaGreatQcV5X3
set_option linter.unusedVariables false
set_option linter.unusedSimpArgs false
set_option maxRecDepth 4000
attribute [local go_sem ↓] Go.wp_at_zero Go.wp_at_succ
set_option maxHeartbeats 16000000
namespace Go.Proofs.YtibiddakakgakaaGreat
section
open Go Go.RowKit Go.Shelf
attribute [local go_sem] Oper.semAt_some
def Jj (o:Option aC) (r:aC):Option aC:=if kJ o r=true then some r else o
theorem Il (rs:List aC) (c:ByteArray) (a b:Int):og rs c a b=(spW rs c a b).foldl Jj none:=by
 have h:∀(rs:List aC) (o:Option aC),rs.foldl (Ie c a b) o=(spW rs c a b).foldl Jj o:=by
  intro rs
  induction rs with
  |nil=>intro o;rfl
  |cons r rs ih=>
   intro o;rw[List.foldl_cons,ih];unfold spW;by_cases hw:inW c a b r
   ·rw[List.filter_cons_of_pos (by simpa using hw),List.foldl_cons]
    congr 1
    unfold Ie Jj;by_cases hl:kJ o r=true
    ·rw[if_pos ⟨hw,hl⟩,if_pos hl]
    ·rw[if_neg (λh=>hl h.2),if_neg hl]
   ·rw[List.filter_cons_of_neg (by simpa using hw)]
    congr 1
    unfold Ie;rw[if_neg (λh=>hw h.1)]
 exact h rs none
def mY (rs:List aC) (grp cur:ByteArray) (d:Int):aC × Int:=if cur=grp then(⟨cur,1,d,1000000⟩,0)else match og rs cur (d- 40) d with
 |some r=>(r,0)
 |none=>({},13)
def WhI (n₀ L:Nat) (w0:World) (pre:List aC) (W:World):Prop:=vG L (pre.foldl Jj none) W/\Below n₀ w0 W
theorem TC {n₀ L B:Nat} {w0:World} (hn:n₀<=w0.heap.size) (hB:n₀<=B):OwnFrom B (WhI n₀ L w0):=λpre W W' row hs hg hr=>by
 refine⟨?_,hs.2.grown hg (Nat.le_trans hn hs.2.size) (λk e=>Nat.le_trans hB (hr k e).1)⟩;have h:=hs.1;refine(hg.block L (ag h) (λe=>?_)).trans h;obtain⟨_,o,ho,hc⟩:=hr L e.symm;have h2:W.heap[L]? =some o:=ho;rw[show W.heap[L]? =_ from h]at h2;cases h2;cases hc
theorem pN (W:World) (a b c d:Obj):((((W.alloc a).alloc b).alloc c).alloc d).heap[W.heap.size]? =some a/\((((W.alloc a).alloc b).alloc c).alloc d).heap[W.heap.size+1]? =some b/\((((W.alloc a).alloc b).alloc c).alloc d).heap[W.heap.size+2]? =some c/\((((W.alloc a).alloc b).alloc c).alloc d).heap[W.heap.size+3]? =some d/\((((W.alloc a).alloc b).alloc c).alloc d).heap.size=W.heap.size+4/\Below W.heap.size W ((((W.alloc a).alloc b).alloc c).alloc d):=by
 have s1:(W.alloc a).heap.size=W.heap.size+1:=by simp
 have s2:((W.alloc a).alloc b).heap.size=W.heap.size+2:=by simp
 have s3:(((W.alloc a).alloc b).alloc c).heap.size=W.heap.size+3:=by simp
 have h1:=heap_alloc_new W a;have h2:=heap_alloc_new (W.alloc a) b;have h3:=heap_alloc_new ((W.alloc a).alloc b) c;have h4:=heap_alloc_new (((W.alloc a).alloc b).alloc c) d;rw[s1]at h2;rw[s2]at h3;rw[s3]at h4;exact⟨al (al (al h1 b) c) d,al (al h2 c) d,al h3 d,h4,by simp,(((ai W a).alloc (by simp) b).alloc (by simp;omega) c).alloc (by simp;omega) d⟩
theorem vM {B:Nat} {w w':World} (h:Below B w w') {l:Nat} (hl:B<=l) (o:Obj):Below B w (w'.putObj l o):=
 (Fr.trans (Fr.ofBelow h) (⟨rfl,rfl,rfl,by simp,λk hk=>World.putObj_heap_other (by omega)⟩:Fr (·<B) w' (w'.putObj l o))).below
theorem TD (gl:List Value) (grp cur:ByteArray) (rs:List aC) (A:Option Addr) (cc:Nat) (d:Int) (w:World) (fZ:gl.toArray.size=21) (nj:gl.toArray[0]? =some (.string grp)) (hl:aj bN 4 w (·<w.heap.size) [.slice A rs.length cc] rs) (bP:∀r∈rs,r.currency.size<=140737488355328) (kC:grp.size<=140737488355328) (hm:rs.length<=100000) (hv:dJ grp rs) (eh:cQ cur=true) (hd:inD d):
 Calls Tryz.prog 170 #[.agg gl.toArray,.slice A rs.length cc,cur,d] w (ap w (.tuple #[.agg (fN (mY rs grp cur d).1).toArray,.int .i64 (mY rs grp cur d).2])):=by
 obtain⟨R,hR⟩:=x_ (mY rs grp cur d);have HR:=H_ hR;rw[hR];have ft:cur.size<=140737488355328:=by
  unfold cQ at eh;simp only[Bool.and_eq_true,beq_iff_eq]at eh;omega
 have lg:=H_ (λ(w2:World) (hb:Below w.heap.size w w2) (g:Nat) (hg:w2.cell? ⟨g,0,none⟩=some (.string cur)) (aU:g<w2.heap.size)=>Pz gl grp cur rs A cc d g w2 fZ nj ((hl.fr (λh=>bN.fr h (Fr.ofBelow hb)) (Fr.ofBelow hb)).mono (λh=>bN.mono h (λq hq=>Nat.lt_of_lt_of_le hq hb.size)) (λq hq=>Nat.lt_of_lt_of_le hq hb.size)) bP kC hm hv eh hd hg aU ft);have fu:=H_ fZ;have lF:=H_ nj;have HL:=H_ hl;obtain⟨Fq,Re⟩:=hd;obtain⟨n,hn⟩:=x_ (rs.length);have HN:=H_ hn;rw[hn]at lg hm |-;clear fZ nj hl bP kC hv eh hR ft hn;refine callsIn_wide.1 (callsIn_of_wp_marks (n:=6) Tryz.func170 rfl trivial (wpIn_wide.2 ?_) rfl);simp only[Tryz.ntmps170,List.size_toArray,List.length_cons,List.length_nil,Nat.reduceAdd,Nat.reduceSub,Array.replicate_succ,Array.replicate_zero,List.push_toArray,List.append_toArray,List.nil_append,List.cons_append];go_upto_region 1 with fail;obtain⟨W,hW,H,HB,HS,ewx⟩:=B_ w (.cells gl.toArray 29);rw[hW];clear ewx;obtain⟨W2,fR,H2,dz,jK,ewx⟩:=B_ W (.cells #[.string ⟨#[]⟩,(),(),()] 70);rw[fR];replace H:=(dz.block _ (ag H)).trans H;clear ewx;clear fR;have eW:W.heap.size=w.heap.size+1:=by rw[<-hW];simp
 rw[eW]at H2;clear hW;have aH:=HB.trans (dz.mono HB.size);have dW:=dz.size;have lV:=ag H2;have nf:w.heap.size<W2.heap.size:=by omega
 have HH:=H_ H;have HZ:=H_ H2;have EW:=H_ eW;clear H H2 eW;go_wp2_with (refine W_ 13 29 4 (w.heap.size) HH.o (by rw[ay];exact congrArg some fu.o.symm) Tryz.underlying29 ?_);refine(lg.o _ (aH.trans ((ai W2 _).mono aH.size)) W2.heap.size (ab (heap_alloc_new W2 _) 0) (ag (heap_alloc_new W2 _))).mono ?_;rintro e w5 ⟨rfl,cP⟩;have Nf:Below W2.heap.size W2 w5:=(ai W2 _).trans (cP.mono (by simp));have fG:=H_ (aH.trans (Nf.mono aH.size));have QZ:=k_ Nf HH;have vv:=k_ Nf HZ;have My:=H_ (show w.heap.size+2<=w5.heap.size by have:=Nf.size;omega);clear cP Nf aH dW HB dz HS jK;obtain⟨q,hq⟩:=x_ (decide (cur=grp));have zT:(cur.toList==grp.toList)=q:=by rw[gI];exact hq
 have HQ:=H_ hq;have c0:=(ab QZ.o 0).trans lF.o;clear hq;cases q with
 |true=>
  have hf:=H_ (show R=(⟨cur,1,d,1000000⟩,0) by rw[<-HR.o];unfold mY;rw[if_pos (of_decide_eq_true HQ.o)]);go_wp2_with (show wpList _ _ _ (Oper.mk none (Op.store _ (Operand.tmp 8) _) _ _ _ _::_) _ _;go_loud (refine wpList_store_row rfl 70 (.tmp 8) (.tmp 29) rfl (w.heap.size+1) #[cur,(1:Int),d,(1000000:Int)] rfl rfl 70 #[.string ⟨#[]⟩,(),(),()] vv.o aT rfl (by simp[Value.oneCell']) ?_));exact⟨_,aA rfl _ _ (w.heap.size+1) 70 #[cur,(1:Int),d,(1000000:Int)] (0,0) _ rfl (aB vv.o _) Tryz.underlying70 rfl aT _ rfl,by rw[hf.o];rfl,aD fG.o (by omega) _⟩
 |false=>
  have eP:=H_ (of_decide_eq_false HQ.o);go_upto_region 7 with fail;have dK:=ai w5 (.cells #[.string ⟨#[]⟩,(),(),(),false] 245);have H6:=heap_alloc_new w5 (.cells #[.string ⟨#[]⟩,(),(),(),false] 245);generalize mC:w5.alloc (Obj.cells #[.string ⟨#[]⟩,(),(),(),false] 245)=W6 at*;have MV:W6.heap.size=w5.heap.size+1:=by rw[<-mC];simp
  clear mC c0;have my:=H_ MV;have Mq:=H_ (show vG w5.heap.size none W6 from H6);have aaL:=H_ dK;clear H6 dK MV;go_wp2_with fail;refine(JH A n cc cur (d- 40) d W6).mono ?_;rintro e w7 ⟨rfl,rfl⟩;obtain⟨E1,E2,E3,E4,E5,E6⟩:=pN W6 (.cells #[.slice A n cc] 31) (.cells #[cur] 9) (.cells #[(d- 40:Int)] 3) (.cells #[d] 3);generalize (((W6.alloc (.cells #[.slice A n cc] 31)).alloc (.cells #[cur] 9)).alloc (.cells #[(d- 40:Int)] 3)).alloc (.cells #[d] 3)=W7 at*;have HE1:=H_ E1;have YN:=H_ E2;have zA:=H_ E3;have Fo:=H_ E4;have rW:=H_ (show W7.heap.size=w5.heap.size+5 by rw[E5,my.o]);have yK:=H_ (show Below w5.heap.size w5 W7 from aaL.o.trans (E6.mono aaL.o.size));have TT:=H_ (show vG w5.heap.size none W7 from(E6.block _ (by have:=my.o;omega)).trans Mq.o);have RR:=t_ fG yK.o;clear E1 E2 E3 E4 E5 E6;go_wp2_with fail;have hq7:∀q,q<w.heap.size->q<W7.heap.size/\q≠w5.heap.size:=λq hq=>by have:=rW.o;have:=My.o;omega
  have Xs:Fr (λq=>q<w.heap.size) w W7:=Fr.ofBelow RR.o;have HSQ:=H_ (tp Fence.wide 5 trivial rfl (by omega) W6.heap.size (W6.heap.size+1) (W6.heap.size+2) (W6.heap.size+3) (λq=>q<W7.heap.size/\q≠w5.heap.size) rs A cc cur (d- 40) d 100000 W7 (λq hq=>hq.1) ⟨by have:=rW.o;have:=my.o;omega,by rw[HN.o];exact HE1.o⟩ ⟨by have:=rW.o;have:=my.o;omega,YN.o⟩ ⟨by have:=rW.o;have:=my.o;omega,zA.o⟩ ⟨by have:=rW.o;have:=my.o;omega,Fo.o⟩
   ((HL.o.fr (λh=>bN.fr h Xs) Xs).mono (λh=>bN.mono h hq7) hq7) (by
    have h1:(spW rs cur (d- 40) d).length<=rs.length:=List.length_filter_le _ _;have:=HN.o;omega))
  clear hq7 Xs;refine wpIn_wide.1 (zy (n:=6) rfl (by omega) (gf:=225) (lb:=#[.pointer (some ⟨W6.heap.size,0,none⟩),.pointer (some ⟨W6.heap.size+1,0,none⟩),.pointer (some ⟨W6.heap.size+2,0,none⟩),.pointer (some ⟨W6.heap.size+3,0,none⟩)]) rfl trivial (enters_of Tryz.func225 K_ rfl) HSQ.o (λh k=>h.trans k) (λW l o o' hl ho hc hw=>⟨rfl,rfl,rfl,by simp,λk hk=>World.putObj_heap_other (by omega)⟩) (λW W' hW hg=>(Fr.refl _ W).grown hg (λk hk=>by omega) (λk e=>by cases e)) (Below.refl _ _) (λ_=>rfl)
   (WhI w5.heap.size w5.heap.size w5) (TC (Nat.le_refl _) (by have:=rW.o;omega)) ⟨TT.o,yK.o⟩ (λx=>(fN x).toArray) 70 (λx b=>{tmps:=#[.agg gl.toArray,.slice A n cc,.string cur,.int .i64 d,.pointer (some ⟨w.heap.size,0,none⟩),undef,undef,undef,.pointer (some ⟨w.heap.size+1,0,none⟩),.int .i64 0,.int .i64 0,.pointer (some ⟨w5.heap.size,0,none⟩),.pointer (some ⟨b,0,none⟩),.agg gl.toArray,.slice A n cc,.int .i64 d,.string cur,.slice (some ⟨W2.heap.size,0,none⟩) 1 1,.int .i64 0,.int .i64 0,.bool false,undef,undef,.string cur,.pointer (some ⟨w.heap.size,0,none⟩),.string grp,.bool false,undef,undef,undef,.slice A n cc,.string cur,.int .i64 d,.int .i64 (d- 40),.int .i64 d,.func (.func 225) #[] #[.pointer (some ⟨W6.heap.size,0,none⟩),.pointer (some ⟨W6.heap.size+1,0,none⟩),.pointer (some ⟨W6.heap.size+2,0,none⟩),.pointer (some ⟨W6.heap.size+3,0,none⟩)],oa x,undef,undef,undef,undef,undef,undef,undef,undef],defers:=[]}) ?assign ?body ?done)
  case assign=>
   rintro l ⟨rc,rk,rt,rv⟩ W K hK;have HK:=H_ hK;clear hK;simp only[oa]
   gi_wp2_with (show wpListIn _ _ _ _ _ (Oper.mk none (Op.store _ (Operand.tmp 12) _) _ _ _ _::_) _ _;refine cX rfl 70 (.tmp 12) (.tmp 36) rfl rfl W #[.string ⟨#[]⟩,(),(),()] 70 #[rc,rk,rt,rv] rfl rfl rfl aT rfl (by simp[Value.oneCell']) ?_;intro w4 H4 iX Bo)
   exact HK.o w4 iX H4
  case body=>
   rintro l pre ⟨rc,rk,rt,rv⟩ b W ⟨hla,oQ⟩ eX tQ NB;have vw:=H_ hla;have Gf:=H_ oQ;have Kn:=H_ NB;clear hla oQ NB;simp only[oa]
   gi_wp2_with (show wpListIn _ _ _ _ _ (Oper.mk (some 37) _ _ _ _ _::_) _ _;refine lB rfl 70 (.tmp 12) rfl b rfl _ _ _ _ Kn.o Tryz.underlying70 rfl aT ?_)
   refine⟨trivial,(CallsIn.inRound l (callsIn_wide.2 (acj w5.heap.size _ rc rk rt rv W vw.o))).mono ?_⟩;rintro e w8 ⟨⟨v,rfl⟩,hl8,CE⟩;have HL8:=H_ hl8;have YT:=H_ CE;clear hl8 CE
   gi_wp2_with fail
   have Q6:=YT.o;have hL5:w5.heap.size<W.heap.size:=ag vw.o;have fC:W7.heap.size<W.heap.size:=by have:=ag Kn.o;omega
   refine(show KeepsFrom W7.heap.size W w8/\Fr (λq=>q<W7.heap.size/\q≠w5.heap.size) W w8/\WhI w5.heap.size w5.heap.size w5 (pre++[⟨rc,rk,rt,rv⟩]) w8 from⟨⟨Q6.size,λk o hk ho _=>(Q6.block k ⟨(Array.getElem?_eq_some_iff.1 ho).1,by have:=rW.o;omega⟩).trans ho⟩,Q6.mono (λq hq=>⟨by omega,hq.2⟩),?_,?_⟩)
   ·rw[List.foldl_append];exact HL8.o
   ·exact((Fr.ofBelow Gf.o).trans (Q6.mono (λq (hq:q<w5.heap.size)=>⟨by omega,by omega⟩))).below
  case done=>
   rintro D ys W0 hD rfl ⟨hla,oQ⟩ hD2;rw[<-Il]at hla;have Gf:=H_ oQ;have vh:=H_ hD2;have HDS:=H_ hD;have HZ0:=H_ ((oQ.block _ (show w.heap.size+1<w5.heap.size by have:=My.o;omega)).trans vv.o);have go:=t_ fG oQ;have R5:=H_ (show R=match og rs cur (d- 40) d with|some r=>(r,0)|none=>({},13) by rw[<-HR.o];unfold mY;rw[if_neg eP.o]);clear oQ hD2 hD;obtain⟨o,ho⟩:=x_ (og rs cur (d- 40) d);rw[ho]at hla R5;have vw:=H_ hla;clear hla ho;cases o with
   |none=>
    have hf:=H_ (show R=({},13)from R5.o);have l4:W0.cell? ⟨w5.heap.size,4,none⟩=some (.bool false):=ab vw.o 4;go_wp2_with (show wpList _ _ _ (Oper.mk none (Op.store _ (Operand.tmp 8) _) _ _ _ _::_) _ _;go_loud (refine wpList_store_row rfl 70 (.tmp 8) (.tmp 42) rfl (w.heap.size+1) #[.string ⟨#[]⟩,(),(),()] rfl rfl 70 #[.string ⟨#[]⟩,(),(),()] HZ0.o aT rfl (by simp[Value.oneCell']) ?_));refine⟨by simp,.inl ⟨_,_,rfl,run_takeDeferred (((cC _ _ _).block _ (show D≠w.heap.size+1 by have:=HDS.o;have:=rW.o;have:=My.o;omega)).trans vh.o),?_⟩⟩;exact⟨_,aA rfl _ _ (w.heap.size+1) 70 #[.string ⟨#[]⟩,(),(),()] (0,0) _ rfl ((World.putObj_heap_other (by have:=HDS.o;have:=rW.o;have:=My.o;omega)).trans (aB HZ0.o _)) Tryz.underlying70 rfl aT _ rfl,by rw[hf.o];rfl,vM (aD go.o (by omega) _) (by have:=HDS.o;have:=rW.o;have:=My.o;omega) _⟩
   |some r=>
    obtain⟨rc,rk,rt,rv⟩:=r;have hf:=H_ (show R=(⟨rc,rk,rt,rv⟩,0)from R5.o);have l4:W0.cell? ⟨w5.heap.size,4,none⟩=some (.bool true):=ab vw.o 4;have eZ:=H_ (show W0.rangeAt w5.heap.size 0 [rc,rk,rt,rv]from World.rangeAt_of_block vw.o 0 4);go_wp2_with (first|(refine w_ 44 70 43 w5.heap.size (0) [rc,rk,rt,rv] eZ.o aT Tryz.underlying70 ?_)|(show wpList _ _ _ (Oper.mk none (Op.store _ (Operand.tmp 8) _) _ _ _ _::_) _ _;go_loud (refine wpList_store_row rfl 70 (.tmp 8) (.tmp 44) rfl (w.heap.size+1) #[rc,rk,rt,rv] rfl rfl 70 #[.string ⟨#[]⟩,(),(),()] HZ0.o aT rfl (by simp[Value.oneCell']) ?_)));refine⟨by simp,.inl ⟨_,_,rfl,run_takeDeferred (((cC _ _ _).block _ (show D≠w.heap.size+1 by have:=HDS.o;have:=rW.o;have:=My.o;omega)).trans vh.o),?_⟩⟩;exact⟨_,aA rfl _ _ (w.heap.size+1) 70 #[rc,rk,rt,rv] (0,0) _ rfl ((World.putObj_heap_other (by have:=HDS.o;have:=rW.o;have:=My.o;omega)).trans (aB HZ0.o _)) Tryz.underlying70 rfl aT _ rfl,by rw[hf.o];rfl,vM (aD go.o (by omega) _) (by have:=HDS.o;have:=rW.o;have:=My.o;omega) _⟩
end
section
open Go Go.RowKit
theorem di {w w2:World} {A:Option Addr} {n c:Nat} {rs:List aC} (hl:aj bN 4 w (·<w.heap.size) [.slice A n c] rs) (hb:Below w.heap.size w w2):aj bN 4 w2 (·<w2.heap.size) [.slice A n c] rs:=(hl.fr (λh=>bN.fr h (Fr.ofBelow hb)) (Fr.ofBelow hb)).mono (λh=>bN.mono h (λq hq=>Nat.lt_of_lt_of_le hq hb.size)) (λq hq=>Nat.lt_of_lt_of_le hq hb.size)
def fO (rs:List aC) (grp cur:ByteArray) (d:Int):Int × Int:=if cur=grp then(1000000,0)else E8 rs cur d
theorem Iq (rs:List aC) (grp cur:ByteArray) (d:Int):((mY rs grp cur d).1.value,(mY rs grp cur d).2)=fO rs grp cur d:=by
 unfold mY fO E8;by_cases h:cur=grp
 ·rw[if_pos h,if_pos h]
 ·rw[if_neg h,if_neg h];cases og rs cur (d- 40) d<;>rfl
theorem ZU (gl:List Value) (grp cur:ByteArray) (rs:List aC) (A:Option Addr) (cc:Nat) (d:Int) (w:World) (fZ:gl.toArray.size=21) (nj:gl.toArray[0]? =some (.string grp)) (hl:aj bN 4 w (·<w.heap.size) [.slice A rs.length cc] rs) (bP:∀r∈rs,r.currency.size<=140737488355328) (kC:grp.size<=140737488355328) (hm:rs.length<=100000) (hv:dJ grp rs) (eh:cQ cur=true) (hd:inD d):
 Calls Tryz.prog 130 #[.agg gl.toArray,.slice A rs.length cc,cur,d] w (ap w (.tuple #[.int .i64 (fO rs grp cur d).1,.int .i64 (fO rs grp cur d).2])):=by
 have hw:=λ(w2:World) (hb:Below w.heap.size w w2)=>TD gl grp cur rs A cc d w2 fZ nj (di hl hb) bP kC hm hv eh hd
 rw[<-Iq];obtain⟨R,hR⟩:=x_ (mY rs grp cur d);rw[hR]at hw |-;obtain⟨⟨rc,rk,rt,rv⟩,re⟩:=R;have HW:=H_ hw;have fu:=H_ fZ;obtain⟨n,hn⟩:=x_ (rs.length);rw[hn]at HW |-;clear hw hR fZ nj hl bP kC hm hv eh hd hn;show Calls Tryz.prog 130 #[.agg gl.toArray,.slice A n cc,cur,d] w (ap w (.tuple #[rv,re]));go_enter Tryz.func130,Tryz.ntmps130;go_upto_region 1 with fail;obtain⟨W1,cS,H1,bC,dr,ewx⟩:=B_ w (.cells gl.toArray 29);rw[cS];clear ewx;clear cS;have fB:=H_ H1;clear H1;go_wp2_with (refine W_ 13 29 4 (w.heap.size) fB.o (by rw[ay];exact congrArg some fu.o.symm) Tryz.underlying29 ?_);refine(HW.o W1 bC).mono ?_;rintro e w2 ⟨rfl,aH⟩;have aF:=bC.trans (aH.mono bC.size);simp only[fN];go_upto_region 2 with fail
 have H3:=heap_alloc_new w2 (.cells #[rc,rk,rt,rv] 70);have eA:=aF.trans ((ai w2 (.cells #[rc,rk,rt,rv] 70)).mono aF.size);generalize hW3:w2.alloc (Obj.cells #[rc,rk,rt,rv] 70)=W3 at*;clear hW3;have c3:=ab H3 3;clear H3;go_wp2_with fail;go_ret2;exact⟨rfl,eA⟩
def fd (y m n p:Int):Int × Int:=if bo y m n p=0 then(da (bw y m (p- p%12)),0)else(0,bo y m n p)
theorem s8 {y m n p:Int} (h:bo y m n p=0):inY (bw y m (p- p%12) / 12)/\du y m n=true/\0<=p/\p<n:=by
 obtain⟨g1,g2,g3⟩:=kG h;have h2:=ig (q:=p- p%12) g1 (by omega) (by omega);exact⟨h2.2.2.2.2.2,g1,g2,g3⟩
theorem OH (y m n p:Int) (w:World) (hp:am p):Calls Tryz.prog 157 #[.agg #[y,m,n],p] w (ap w (.tuple #[.int .i64 (fd y m n p).1,.int .i64 (fd y m n p).2])):=by
 obtain⟨r,hr⟩:=x_ (fd y m n p);rw[hr];have HR:=H_ hr;clear hr;go_enter Tryz.func157,Tryz.ntmps157;go_upto_region 1 with fail;obtain⟨W1,cS,H1,bC,dr,ewx⟩:=B_ w (.cells #[y,m,n] 23);rw[cS];clear ewx;clear cS;have c0:=ab H1 0;have c1:=ab H1 1;have c2:=ab H1 2;have fB:=H_ H1;clear H1;go_wp2_with fail;refine(vO y m n p W1).mono ?_;rintro e w2 ⟨rfl,aH⟩;have dA:=bC.trans (aH.mono bC.size);have dn:=k_ aH fB;have d0:=ab dn.o 0;have d1:=ab dn.o 1;have d2:=ab dn.o 2;obtain⟨v,hv⟩:=x_ (bo y m n p);rw[hv];have HV:=H_ hv;clear hv c0 c1 c2;by_cases h0:v=0
 ·subst h0;obtain⟨q6,g1,g2,g3⟩:=s8 HV.o;obtain⟨q1,q2,q3,q4,q5,_⟩:=ig g1 g2 g3;have hf:=H_ (show r=(da (bw y m (p- p%12)),0) by rw[<-HR.o];unfold fd;rw[if_pos HV.o]);have FH:=H_ (show lI (bw y m (p- p%12))=(da (bw y m (p- p%12)),0)from if_pos q6);have Q1:=H_ q1;have hrm:p.tmod 12=p%12:=Int.tmod_eq_emod_of_nonneg g2;obtain⟨z,hz⟩:=x_ (p%12);have TV:0<=z/\z<12:=by omega
  rw[hz]at hrm hf FH;have hwz:IntKind.i64.wrap z=z:=by rw[IntKind.wrap_i64];omega
  have cP:0<=p- z/\p- z<=200:=by omega
  obtain⟨cP,dd⟩:=cP;have nA:=H_ (And.intro cP dd);have Q2:=H_ (And.intro q2 q3);clear g1 q1 q6 hz q2 q3;go_wp2_with fail;refine(BS y m n (p- z) w2 Q1.o Q2.o.1 Q2.o.2 nA.o.1 nA.o.2).mono ?_;rintro e w3 ⟨rfl,aZ⟩;rw[FH.o];go_wp2_with fail;go_ret2;exact⟨hf.o.symm▸rfl,dA.trans (aZ.mono dA.size)⟩
 ·have h1:(v==0)=false:=by simpa using h0
  have h2:(v !=0)=true:=by simpa using h0
  have hf:=H_ (show r=(0,v) by rw[<-HR.o];unfold fd;rw[HV.o,if_neg h0]);clear h0;go_wp2_with fail;go_ret2;exact⟨hf.o.symm▸rfl,dA⟩
theorem dg {w:World} {b:Nat} {C:Array Value} {t:TypeId} {y m n:Int} (hb:w.heap[b]? =some (.cells C t (0,0))) (h1:C[1]? =some (.int .i64 y)) (h2:C[2]? =some (.int .i64 m)) (h3:C[3]? =some (.int .i64 n)):w.rangeAt b 1 [y,m,n]:=λj v hj=>by
 rcases j with _|_|_|j
 ·simp at hj;subst hj;exact(ab hb 1).trans h1
 ·simp at hj;subst hj;exact(ab hb 2).trans h2
 ·simp at hj;subst hj;exact(ab hb 3).trans h3
 ·simp at hj
theorem Hn (gl:List Value) (grp cur:ByteArray) (rs:List aC) (A:Option Addr) (cc:Nat) (y m n q:Int) (w:World) (fZ:gl.toArray.size=21) (nj:gl.toArray[0]? =some (.string grp)) (jy:gl.toArray[1]? =some (.int .i64 y)) (hg2:gl.toArray[2]? =some (.int .i64 m)) (tT:gl.toArray[3]? =some (.int .i64 n))
 (hl:aj bN 4 w (·<w.heap.size) [.slice A rs.length cc] rs) (bP:∀r∈rs,r.currency.size<=140737488355328) (kC:grp.size<=140737488355328) (ft:cur.size<=140737488355328) (hm:rs.length<=100000) (hv:dJ grp rs) (eh:cQ cur=true) (eu:du y m n=true) (hq:0<=q/\q<n):
 Calls Tryz.prog 204 #[.agg gl.toArray,.slice A rs.length cc,cur,q] w (ap w (.tuple #[.int .i64 (aX y m n q).1,.int .i64 (bH y m n q).1,()])):=by
 have MA:bo y m n q=0:=by unfold bo;rw[if_pos eu,if_pos hq]
 have kV:=H_ (show(aX y m n q).2=0 by unfold aX;rw[if_pos MA]);have IP:=H_ (show(bH y m n q).2=0 by unfold bH;rw[if_pos MA]);obtain⟨f,hf⟩:=x_ (aX y m n q);obtain⟨la,hla⟩:∃f,bH y m n q=f:=⟨_,rfl⟩;have ny:=H_ (λ(w2:World)=>vP y m n q w2);have pb:=H_ (λ(w2:World)=>Af y m n q w2);rw[hf]at ny kV |-;rw[hla]at pb IP |-;obtain⟨f1,f2⟩:=f;obtain⟨l1,l2⟩:=la;obtain rfl:f2=0:=kV.o;obtain rfl:l2=0:=IP.o;simp only at ny pb |-;have HV:=H_ (λ(w2:World) (hb:Below w.heap.size w w2)=>show Calls Tryz.prog 79 #[grp,.slice A rs.length cc] w2 (ap w2 (.bool true)) by
  have h:=sK grp rs A cc w2 (di hl hb) bP kC hm
  rwa[decide_eq_true hv]at h)
 have HC:=H_ (λ(w2:World)=>show Calls Tryz.prog 112 #[cur] w2 (ap w2 (.bool true)) by
  have h:=BK cur w2 ft
  rwa[eh]at h)
 have Fl:=H_ (λ(w2:World)=>show Calls Tryz.prog 91 #[.agg #[y,m,n]] w2 (ap w2 (.bool true)) by
  have h:=mJ y m n w2
  rwa[eu]at h)
 have fu:=H_ fZ;have lF:=H_ nj;have Cv:=H_ (λ(w2:World) (h:w2.heap[w.heap.size]? =some (.cells gl.toArray 29 (0,0)))=>dg h jy hg2 tT);obtain⟨N,hN⟩:∃n,rs.length=n:=⟨_,rfl⟩;rw[hN]at HV |-;clear fZ nj jy hg2 tT hl bP kC ft hm hv eh eu hq MA hf hla hN kV IP;go_enter Tryz.func204,Tryz.ntmps204;go_upto_region 1 with fail;obtain⟨W1,cS,H1,bC,dr,ewx⟩:=B_ w (.cells gl.toArray 29);rw[cS];clear ewx;clear cS;have fB:=H_ H1;have c0:=(ab H1 0).trans lF.o;clear H1;go_wp2_with fail;refine(HV.o W1 bC).mono ?_;rintro e w2 ⟨rfl,aH⟩;have aF:=bC.trans (aH.mono bC.size);have dn:=k_ aH fB;clear c0;go_wp2_with fail;refine(HC.o w2).mono ?_;rintro e w3 ⟨rfl,aZ⟩;have aR:=aF.trans (aZ.mono aF.size);have kS:=H_ ((aZ.block _ (Nat.lt_of_lt_of_le dr aH.size)).trans dn.o);have lE:=Nat.lt_of_lt_of_le (Nat.lt_of_lt_of_le dr aH.size) aZ.size;have Xd:=H_ (Cv.o w3 kS.o);go_wp2_with (show wpList _ _ _ (Oper.mk (some 27) _ _ _ _ _::_) _ _;refine cO rfl 23 (.tmp 26) rfl (w.heap.size) 1 rfl [.int .i64 y,.int .i64 m,.int .i64 n] _ Xd.o Tryz.underlying23 rfl bV ?_);refine(Fl.o w3).mono ?_;rintro e w4 ⟨rfl,bU⟩;have bD:=aR.trans (bU.mono aR.size);have oW:=k_ bU kS;have yJ:=Nat.lt_of_lt_of_le lE bU.size;have N9:=H_ (Cv.o w4 oW.o);go_wp2_with (show wpList _ _ _ (Oper.mk (some 33) _ _ _ _ _::_) _ _;refine cO rfl 23 (.tmp 32) rfl (w.heap.size) 1 rfl [.int .i64 y,.int .i64 m,.int .i64 n] _ N9.o Tryz.underlying23 rfl bV ?_);refine(ny.o w4).mono ?_;rintro e w5 ⟨rfl,cP⟩;have fG:=bD.trans (cP.mono bD.size);have QZ:=k_ cP oW;have adl:=H_ (Cv.o w5 QZ.o);go_wp2_with (show wpList _ _ _ (Oper.mk (some 40) _ _ _ _ _::_) _ _;refine cO rfl 23 (.tmp 39) rfl (w.heap.size) 1 rfl [.int .i64 y,.int .i64 m,.int .i64 n] _ adl.o Tryz.underlying23 rfl bV ?_);refine(pb.o w5).mono ?_;rintro e w6 ⟨rfl,dd⟩;have fi:=fG.trans (dd.mono fG.size);go_wp2_with fail;go_ret3;exact⟨rfl,fi⟩
theorem Ze (a:ah) (g:Nat) (code:Int) (w:World) (hc:w.cell? ⟨g,0,none⟩=some (.int .i64 code)) (hg:g<w.heap.size):Calls Tryz.prog 159 #[.agg (bn a).toArray,.pointer (some ⟨g,0,none⟩)] w (ap w (.bool (a.code==code))):=by
 obtain⟨a1,a2,a3,a4⟩:=a;obtain⟨q,hq⟩:=x_ ((a1==code));show Calls Tryz.prog 159 #[.agg #[a1,a2,a3,a4],.pointer (some ⟨g,0,none⟩)] w (ap w (.bool (a1==code)));rw[hq];have HC:=H_ hc;have HG:=H_ hg;clear hc hg;go_enter Tryz.func159,Tryz.ntmps159;go_upto_region 1 with fail;obtain⟨W1,cS,H1,bC,dr,ewx⟩:=B_ w (.cells #[a1,a2,a3,a4] 78);rw[cS];clear ewx;clear cS;have c0:=ab H1 0;have cI:=(bC.cell (p:=⟨g,0,none⟩) HG.o).trans HC.o;clear H1;go_wp2_with fail;go_ret;exact⟨rfl,bC⟩
theorem SU (l:List ah) (A:Option Addr) (c g:Nat) (code:Int) (w:World) (hl:aj ar 4 w (·<w.heap.size) [.slice A l.length c] l) (hgc:w.cell? ⟨g,0,none⟩=some (.int .i64 code)) (hg:g<w.heap.size):Calls Tryz.prog 158 #[.slice A l.length c,.func (.func 159) #[] #[.pointer (some ⟨g,0,none⟩)]] w (ap w (.int .i64 (iB (λa=>a.code==code) l))):=by
 obtain⟨r,hr⟩:=x_ (iB (λa=>a.code==code) l);rw[hr];have HR:=H_ hr;have gr:=hl.cap;unfold maxLen at gr;obtain⟨n,bj⟩:=x_ (l.length);have HL:=H_ hl;have HN:=H_ bj;have FP:=H_ hgc;have HG:=H_ hg;rw[bj]at gr |-;clear hl bj hr hgc hg;go_enter Tryz.func158,Tryz.ntmps158;go_wp2_with fail
 go_loopw [8] (λi wr=>∃k:Nat,k<=n/\i=.int .i64 (k:Int)/\Below w.heap.size w wr/\∀j (hj:j<l.length),j<k->(l[j].code==code)=false) (λi _=>n- (intOf i).toNat)
 case atStart=>exact⟨0,by omega,rfl,Below.refl _ _,λj hj h=>by omega⟩
 case round=>
  obtain⟨k,hk,rfl,hb,hall⟩:=hrel;have HA:=H_ hall;clear hall;have bP:=hb.size;by_cases aU:k<n
  case pos=>
   have bq:(k:Int)< (n:Int):=by omega
   have gW:0<n:=by omega
   have bI:k<l.length:=by rw[HN.o];exact aU
   obtain⟨b,o,es,dj,ed,bL,aS⟩:=aj.get HL.o k bI;subst dj;obtain⟨bE,_⟩:=ar.lit bL;rw[bE]at aS;clear bE;obtain⟨q,hq⟩:=x_ ((l[k].code==code));have HQ:=H_ hq;obtain⟨x,hx⟩:=x_ (l[k]);rw[hx]at aS hq;obtain⟨a1,a2,a3,a4⟩:=x;have eZ:=H_ (show wr.rangeAt b (o+k*4) [a1,a2,a3,a4]from(aS.fr (Fr.ofBelow hb)).range);have cI:=(Ze ⟨a1,a2,a3,a4⟩ g code wr ((hb.cell (p:=⟨g,0,none⟩) HG.o).trans FP.o) (Nat.lt_of_lt_of_le HG.o hb.size));simp only at hq;rw[hq]at cI;have FK:=H_ cI;clear bL aS hx ed hq cI;go_wp2_with (refine w_ 15 78 14 b (o+k*4) [a1,a2,a3,a4] eZ.o gy Tryz.underlying78 ?_);refine FK.o.mono ?_;rintro e w2 ⟨rfl,aH⟩;have dA:=hb.trans (aH.mono hb.size);cases q with
   |true=>
    have hf:=H_ (show r=(k:Int) by rw[<-HR.o];exact nW bI HQ.o HA.o);go_wp2_with fail;go_ret;exact⟨hf.o.symm▸rfl,dA⟩
   |false=>
    go_wp2_with fail;go_roundw
    case rel=>exact⟨k+1,by omega,by go_num,dA,λj hj m7=>by
     rcases Nat.lt_or_ge j k with h|h
     ·exact HA.o j hj h
     ·obtain rfl:j=k:=by omega
      exact HQ.o⟩
    case measure=>first|exact aQ aU|(simp only[intOf];omega)
  case neg=>
   have bq:¬(k:Int)< (n:Int):=by omega
   have hf:=H_ (show r= -1 by rw[<-HR.o];exact mf (λj hj=>HA.o j hj (by have:=HN.o;omega)));go_wp2_with fail;go_ret;exact⟨hf.o.symm▸rfl,hb⟩
theorem Ll (l:List ah) (code:Int):(iB (λa=>a.code==code) l= -1/\aK l code=none)\/∃k,∃hk:k<l.length,iB (λa=>a.code==code) l=(k:Int)/\aK l code=some l[k]:=by
 unfold iB aK;cases h:l.findIdx? (λa=>a.code==code)with
 |none=>
  left;rw[List.findIdx?_eq_none_iff]at h;exact⟨rfl,List.find?_eq_none.2 (λx hx=>by rw[h x hx];simp)⟩
 |some k=>
  right;rw[List.findIdx?_eq_some_iff_getElem]at h;obtain⟨hk,h1,h2⟩:=h;exact⟨k,hk,rfl,List.find?_eq_some_iff_getElem.2 ⟨h1,k,hk,rfl,λj hj=>by have:=h2 j hj;simpa using this⟩⟩
theorem xq (g:au) (gl:List Value) (code:Int) (w:World) (hg:aL w (·<w.heap.size) gl g):Calls Tryz.prog 116 #[.agg gl.toArray,code] w (ap w (cF g.chart code)):=by
 obtain⟨Ac,cc,Ae,ce,eX,_,h4,_,_,_,ee,_⟩:=hg.view;have iX:=H_ (show gl.toArray[4]? =some (.slice Ac g.chart.length cc) by simpa using h4);have fu:=H_ (show gl.toArray.size=21 by simpa using eX);have Da:=H_ (λ(w2:World) (hb:Below w.heap.size w w2) (b:Nat) (hc:w2.cell? ⟨b,0,none⟩=some (.int .i64 code)) (aU:b<w2.heap.size)=>SU g.chart Ac cc b code w2 (az ee hb) hc aU);have HL:=H_ ee;have tW:=H_ (Ll g.chart code);have gr:=ee.cap;unfold maxLen at gr;obtain⟨ch,aa2⟩:=x_ (g.chart);rw[aa2]at iX Da HL tW gr |-;obtain⟨n,hn⟩:=x_ (ch.length);have HN:=H_ hn;obtain⟨ix,ja⟩:=x_ (iB (λa:ah=>a.code==code) ch);rw[ja]at Da tW;rw[hn]at iX Da gr;obtain⟨r1,qI⟩:∃r,aK ch code=r:=⟨_,rfl⟩;rw[qI]at tW;have ME:=H_ (show cF ch code=.tuple #[.agg (bn (gH r1)).toArray,r1.isSome] by unfold cF;rw[qI]);obtain⟨V,hV⟩:=x_ (cF ch code);rw[hV]at ME |-;clear hg eX h4 ee aa2 hn ja qI hV;go_enter Tryz.func116,Tryz.ntmps116;go_upto_region 1 with fail;obtain⟨E1,E2,E3,E4,E5,E6⟩:=pN w (.cells gl.toArray 29) (.cells #[code] 3) (.cells #[(),(),(),()] 78) (.cells #[] 0);clear E1 E2 E3 E4 E5 E6;have K1:=al (al (heap_alloc_new w (.cells gl.toArray 29)) (.cells #[code] 3)) (.cells #[(),(),(),()] 78);have K2:=al (heap_alloc_new (w.alloc (.cells gl.toArray 29)) (.cells #[code] 3)) (.cells #[(),(),(),()] 78);have K3:=heap_alloc_new ((w.alloc (.cells gl.toArray 29)).alloc (.cells #[code] 3)) (.cells #[(),(),(),()] 78);have KB:Below w.heap.size w (((w.alloc (.cells gl.toArray 29)).alloc (.cells #[code] 3)).alloc (.cells #[(),(),(),()] 78)):=(((ai w _).alloc (by simp) _).alloc (by simp;omega) _);have KS:(((w.alloc (.cells gl.toArray 29)).alloc (.cells #[code] 3)).alloc (.cells #[(),(),(),()] 78)).heap.size=w.heap.size+3:=by simp
 simp only[World.size_alloc,Nat.add_assoc,Nat.reduceAdd]at K2 K3;generalize ((w.alloc (Obj.cells gl.toArray 29)).alloc (Obj.cells #[code] 3)).alloc (Obj.cells #[(),(),(),()] 78)=W at*;have H1:=H_ K1;have H2:=H_ K2;have H3:=H_ K3;have KS:=H_ KS;have c4:=(ab K1 4).trans iX.o;clear K1 K2 K3;go_wp2_with fail;refine(Da.o W KB (w.heap.size+1) (ab H2.o 0) (by have:=KS.o;omega)).mono ?_;rintro e w2 ⟨rfl,aH⟩;have dA:=KB.trans (aH.mono KB.size);have G1:=(aH.block _ (show w.heap.size<W.heap.size by have:=KS.o;omega)).trans H1.o;have G3:=H_ ((aH.block _ (show w.heap.size+2<W.heap.size by have:=KS.o;omega)).trans H3.o);have d4:=(ab G1 4).trans iX.o;clear c4 G1;rcases tW.o with⟨ja,fg⟩|⟨k,hk,ja,Kf⟩
 ·subst ja fg;have hf:=H_ (show V=.tuple #[.agg #[(),(),(),()],false]from ME.o);go_wp2_with (show wpList _ _ _ (Oper.mk none (Op.store _ (Operand.tmp 4) _) _ _ _ _::_) _ _;go_loud (refine wpList_store_row rfl 78 (.tmp 4) (.tmp 13) rfl (w.heap.size+2) #[(),(),(),()] rfl rfl 78 #[(),(),(),()] G3.o (by rw[gy];rfl) rfl (by simp[Value.oneCell']) ?_));refine bodyPost_ret (v:=.tuple #[.agg #[(),(),(),()],false]) (aA rfl _ _ (w.heap.size+2) 78 #[(),(),(),()] (0,0) _ rfl (aB G3.o _) Tryz.underlying78 rfl (by rw[gy];rfl) _ rfl) rfl ?_;exact⟨hf.o.symm▸rfl,aD dA (by omega) _⟩
 ·subst ja;obtain⟨b,o,es,dj,ed,bL,aS⟩:=aj.get HL.o k hk;subst dj;obtain⟨bE,_⟩:=ar.lit bL;rw[bE]at aS;obtain⟨x,hx⟩:=x_ (ch[k]);rw[hx]at aS Kf;subst Kf;obtain⟨a1,a2,a3,a4⟩:=x;have eZ:=H_ (show w2.rangeAt b (o+k*4) [a1,a2,a3,a4]from(aS.fr (Fr.ofBelow dA)).range);have hf:=H_ (show V=.tuple #[.agg #[a1,a2,a3,a4],true]from ME.o);have hkI:(k:Int)< (n:Int):=by have:=HN.o;omega
  have Fm:¬(k:Int)<0:=by omega
  have Kz:k<n:=by have:=HN.o;omega
  clear bL bE aS hx ed;go_wp2_with (first|(refine w_ 18 78 17 b (o+k*4) [a1,a2,a3,a4] eZ.o gy Tryz.underlying78 ?_)|(show wpList _ _ _ (Oper.mk none (Op.store _ (Operand.tmp 4) _) _ _ _ _::_) _ _;go_loud (refine wpList_store_row rfl 78 (.tmp 4) (.tmp 18) rfl (w.heap.size+2) #[a1,a2,a3,a4] rfl rfl 78 #[(),(),(),()] G3.o (by rw[gy];rfl) rfl (by simp[Value.oneCell']) ?_)));refine bodyPost_ret (v:=.tuple #[.agg #[a1,a2,a3,a4],true]) (aA rfl _ _ (w.heap.size+2) 78 #[a1,a2,a3,a4] (0,0) _ rfl (aB G3.o _) Tryz.underlying78 rfl (by rw[gy];rfl) _ rfl) rfl ?_;exact⟨hf.o.symm▸rfl,aD dA (by omega) _⟩
theorem Lq (g:au) (gl:List Value) (code:Int) (w:World) (hg:aL w (·<w.heap.size) gl g):Calls Tryz.prog 160 #[.agg gl.toArray,code] w (ap w (.bool (xV g code))):=by
 have HC:=H_ (λ(w2:World) (hb:Below w.heap.size w w2)=>xq g gl code w2 (hg.keep hb));have fu:=H_ (show gl.toArray.size=21 by have:=hg.len;simpa using this);obtain⟨R,hR⟩:=x_ (xV g code);obtain⟨k,hk⟩:=x_ ((gH (aK g.chart code)).kind);have Vf:=H_ (show R=(decide (k=4)||decide (k=5)) by
  rw[<-hR,<-hk];unfold xV;cases aK g.chart code with
  |none=>rfl
  |some a=>rw[<-Bool.decide_or];rfl)
 rw[hR];have e0:cF g.chart code=.tuple #[.agg (bn (gH (aK g.chart code))).toArray,.bool (aK g.chart code).isSome]:=rfl;rw[e0]at HC;generalize (aK g.chart code).isSome=s at*;obtain⟨x,hx⟩:=x_ (gH (aK g.chart code));rw[hx]at HC hk;obtain⟨a1,a2,a3,a4⟩:=x;obtain rfl:a2=k:=hk;obtain⟨q1,mF⟩:∃q,(a2==4)=q:=⟨_,rfl⟩;obtain⟨q2,lc⟩:∃q,(a2==5)=q:=⟨_,rfl⟩;have HRQ:=H_ (show R=(q1||q2) by rw[Vf.o,<-mF,<-lc];rfl);clear hg hR hx e0 Vf;go_enter Tryz.func160,Tryz.ntmps160;go_upto_region 1 with fail;obtain⟨W1,cS,H1,bC,dr,ewx⟩:=B_ w (.cells gl.toArray 29);rw[cS];clear ewx;clear cS;have fB:=H_ H1;clear H1;go_wp2_with (refine W_ 8 29 2 (w.heap.size) fB.o (by rw[ay];exact congrArg some fu.o.symm) Tryz.underlying29 ?_);refine(HC.o W1 bC).mono ?_;rintro e w2 ⟨rfl,aH⟩;have aF:=bC.trans (aH.mono bC.size);show _;simp only[bn];go_upto_region 2 with fail
 have H3:=heap_alloc_new w2 (.cells #[a1,a2,a3,a4] 78);have eA:=aF.trans ((ai w2 (.cells #[a1,a2,a3,a4] 78)).mono aF.size);generalize hW3:w2.alloc (Obj.cells #[a1,a2,a3,a4] 78)=W3 at*;clear hW3;have c1:=ab H3 1;clear H3;cases q1 with
 |true=>
  have hf:=H_ (show R=true from HRQ.o);go_wp2_with fail;go_ret;exact⟨hf.o.symm▸rfl,eA⟩
 |false=>
  have hf:=H_ (show R=q2 from HRQ.o);go_wp2_with fail;go_ret;exact⟨hf.o.symm▸rfl,eA⟩
theorem I7 {g:au} (hg:bh g=true) {p:Int} (hp:0<=p/\p<g.calendar.periods):fd g.calendar.year g.calendar.month g.calendar.periods p=(tG g p,0):=by
 have hc:=fy hg;have MA:bo g.calendar.year g.calendar.month g.calendar.periods p=0:=by unfold bo;rw[if_pos hc,if_pos hp]
 unfold fd;rw[if_pos MA];unfold tG;rw[An hg (p:=p- p%12) (by omega)]
theorem OS (g:au) (gl:List Value) (code date beg:Int) (w:World) (hg:aL w (·<w.heap.size) gl g):Calls Tryz.prog 117 #[.agg gl.toArray,code,date,beg] w (ap w (.int .i64 (if date<beg/\xV g code=true then g.roles.retained else code))):=by
 have HC:=H_ (λ(w2:World) (hb:Below w.heap.size w w2)=>Lq g gl code w2 (hg.keep hb));have fu:=H_ (show gl.toArray.size=21 by have:=hg.len;simpa using this);have XQ:=H_ hg.cellsA.2.2.2.2;generalize g.roles.retained=ret at*;obtain⟨v,hv⟩:=x_ (xV g code);rw[hv]at HC |-;obtain⟨R,hR⟩:=x_ ((if date<beg/\v=true then ret else code));have HR:=H_ hR;rw[hR];clear hg hv hR;go_enter Tryz.func117,Tryz.ntmps117;go_upto_region 1 with fail;obtain⟨W1,cS,H1,bC,dr,ewx⟩:=B_ w (.cells gl.toArray 29);rw[cS];clear ewx;clear cS;have fB:=H_ H1;clear H1;by_cases aU:date<beg
 case neg=>
  have hf:=H_ (show R=code by rw[<-HR.o,if_neg (λh=>aU h.1)]);have hd:decide (date<beg)=false:=decide_eq_false aU;clear aU;go_wp2_with fail;go_ret;exact⟨hf.o.symm▸rfl,bC⟩
 case pos=>
  have HD:=H_ aU;have hd:decide (date<beg)=true:=decide_eq_true aU;clear aU;go_wp2_with (refine W_ 13 29 4 (w.heap.size) fB.o (by rw[ay];exact congrArg some fu.o.symm) Tryz.underlying29 ?_);refine(HC.o W1 bC).mono ?_;rintro e w2 ⟨rfl,aH⟩;have aF:=bC.trans (aH.mono bC.size);have Nt:=(ab ((aH.block _ dr).trans fB.o) 11).trans XQ.o;cases v with
  |true=>
   have hf:=H_ (show R=ret by rw[<-HR.o,if_pos ⟨HD.o,rfl⟩]);go_wp2_with fail;go_ret;exact⟨hf.o.symm▸rfl,aF⟩
  |false=>
   have hf:=H_ (show R=code by rw[<-HR.o,if_neg (λh=>by cases h.2)]);go_wp2_with fail;go_ret;exact⟨hf.o.symm▸rfl,aF⟩
theorem OJ (g:au) (gl:List Value) (p:Int) (w:World) (hg:aL w (·<w.heap.size) gl g) (ci:dQ g) (hv:bh g=true) (hp:0<=p/\p<g.calendar.periods) (lX:am p):Calls Tryz.prog 115 #[.agg gl.toArray,p] w (ap w (.tuple #[(tG g p),()])):=by
 have HV:=H_ (λ(w2:World) (hb:Below w.heap.size w w2)=>show Calls Tryz.prog 103 #[.agg gl.toArray] w2 (ap w2 (.bool true)) by
  have h:=BT hg ci w2 hb
  rwa[hv]at h)
 have HBG:=H_ (λ(w2:World)=>show Calls Tryz.prog 157 #[.agg #[g.calendar.year,g.calendar.month,g.calendar.periods],p] w2 (ap w2 (.tuple #[(tG g p),()])) by
  have h:=OH g.calendar.year g.calendar.month g.calendar.periods p w2 lX
  rwa[I7 hv hp]at h)
 have fu:=H_ (show gl.toArray.size=21 by have:=hg.len;simpa using this);obtain⟨h0,h1,h2,h3,dx⟩:=hg.cellsA;have Cv:=H_ (λ(w2:World) (h:w2.heap[w.heap.size]? =some (.cells gl.toArray 29 (0,0)))=>dg h h1 h2 h3);clear hg ci hv hp lX h0 h1 h2 h3 dx;generalize g.calendar.year=y at*;generalize g.calendar.month=m at*;generalize g.calendar.periods=n at*;generalize tG g p=bg at*;go_enter Tryz.func115,Tryz.ntmps115;go_upto_region 1 with fail;obtain⟨W1,cS,H1,bC,dr,ewx⟩:=B_ w (.cells gl.toArray 29);rw[cS];clear ewx;clear cS;have fB:=H_ H1;clear H1;go_wp2_with (refine W_ 8 29 2 (w.heap.size) fB.o (by rw[ay];exact congrArg some fu.o.symm) Tryz.underlying29 ?_);refine(HV.o W1 bC).mono ?_;rintro e w2 ⟨rfl,aH⟩;have aF:=bC.trans (aH.mono bC.size);have vq:=H_ (Cv.o w2 ((aH.block _ dr).trans fB.o));go_wp2_with (show wpList _ _ _ (Oper.mk (some 13) _ _ _ _ _::_) _ _;refine cO rfl 23 (.tmp 12) rfl (w.heap.size) 1 rfl [.int .i64 y,.int .i64 m,.int .i64 n] _ vq.o Tryz.underlying23 rfl bV ?_);refine(HBG.o w2).mono ?_;rintro e w3 ⟨rfl,aZ⟩;have aR:=aF.trans (aZ.mono aF.size);go_wp2_with fail;go_ret2;exact⟨rfl,aR⟩
theorem OR (g:au) (gl:List Value) (code date p:Int) (w:World) (hg:aL w (·<w.heap.size) gl g) (ci:dQ g) (hv:bh g=true) (hp:0<=p/\p<g.calendar.periods) (lX:am p) (Dv:(aK g.chart code).isSome=true):Calls Tryz.prog 82 #[.agg gl.toArray,code,date,p] w (ap w (.tuple #[(lK g code date p),()])):=by
 have lg:=H_ (λ(w2:World) (hb:Below w.heap.size w w2)=>OJ g gl p w2 (hg.keep hb) ci hv hp lX);have nH:=H_ (λ(w2:World) (hb:Below w.heap.size w w2)=>xq g gl code w2 (hg.keep hb));have RH:=H_ (λ(w2:World) (hb:Below w.heap.size w w2)=>show Calls Tryz.prog 117 #[.agg gl.toArray,code,date,(tG g p)] w2 (ap w2 (.int .i64 (lK g code date p)))from OS g gl code date (tG g p) w2 (hg.keep hb));have fu:=H_ (show gl.toArray.size=21 by have:=hg.len;simpa using this);have e0:cF g.chart code=.tuple #[.agg (bn (gH (aK g.chart code))).toArray,true]:=by unfold cF;rw[Dv]
 rw[e0]at nH;generalize gH (aK g.chart code)=x at*;obtain⟨a1,a2,a3,a4⟩:=x;generalize tG g p=bg at*;generalize lK g code date p=sh at*;clear hg ci hv hp lX Dv e0;go_enter Tryz.func82,Tryz.ntmps82;go_upto_region 1 with fail;obtain⟨W1,cS,H1,bC,dr,ewx⟩:=B_ w (.cells gl.toArray 29);rw[cS];clear ewx;clear cS;have fB:=H_ H1;clear H1;go_wp2_with (refine W_ 15 29 4 (w.heap.size) fB.o (by rw[ay];exact congrArg some fu.o.symm) Tryz.underlying29 ?_);refine(lg.o W1 bC).mono ?_;rintro e w2 ⟨rfl,aH⟩;have aF:=bC.trans (aH.mono bC.size);have dn:=k_ aH fB;have dW:=Nat.lt_of_lt_of_le dr aH.size;go_wp2_with (refine W_ 24 29 4 (w.heap.size) dn.o (by rw[ay];exact congrArg some fu.o.symm) Tryz.underlying29 ?_);refine(nH.o w2 aF).mono ?_;rintro e w3 ⟨rfl,aZ⟩;have aR:=aF.trans (aZ.mono aF.size);have kS:=k_ aZ dn;have lE:=Nat.lt_of_lt_of_le dW aZ.size;simp only[bn];go_upto_region 5 with fail
 have oW:=H_ (al kS.o (.cells #[a1,a2,a3,a4] 78));have gw:=aR.trans ((ai w3 (.cells #[a1,a2,a3,a4] 78)).mono aR.size);generalize JU:w3.alloc (Obj.cells #[a1,a2,a3,a4] 78)=W4 at*;clear JU;go_wp2_with (refine W_ 31 29 4 (w.heap.size) oW.o (by rw[ay];exact congrArg some fu.o.symm) Tryz.underlying29 ?_);refine(RH.o W4 gw).mono ?_;rintro e w5 ⟨rfl,cP⟩;go_wp2_with fail;go_ret2;exact⟨rfl,gw.trans (cP.mono gw.size)⟩
theorem Sv (x y:bu) (w:World):Calls Tryz.prog 128 #[.agg (eI x).toArray,.agg (eI y).toArray] w (ap w (.int .i64 (eG x.since y.since))):=by
 obtain⟨p1,p2,p3⟩:=x;obtain⟨y1,y2,y3⟩:=y;show Calls Tryz.prog 128 #[.agg #[p1,p2,p3],.agg #[y1,y2,y3]] w (ap w (.int .i64 (eG p3 y3)));obtain⟨r,hr⟩:=x_ (eG p3 y3);have HR:=H_ hr;rw[hr];clear hr;go_enter Tryz.func128,Tryz.ntmps128;go_upto_region 1 with fail;obtain⟨W,hW,H,HB,HS,ewx⟩:=B_ w (.cells #[p1,p2,p3] 154);rw[hW];clear ewx;obtain⟨W2,fR,H2,dz,jK,ewx⟩:=B_ W (.cells #[y1,y2,y3] 154);rw[fR];replace H:=(dz.block _ (ag H)).trans H;clear ewx;clear fR;have eW:W.heap.size=w.heap.size+1:=by rw[<-hW];simp
 rw[eW]at H2;clear hW;have aH:=HB.trans (dz.mono HB.size);have dW:=dz.size;have lV:=ag H2;have nf:w.heap.size<W2.heap.size:=by omega
 have HH:=H_ H;have HZ:=H_ H2;have EW:=H_ eW;clear H H2 eW;have aF:=aH;have ku:=nf;have kt:=lV;have dn:=HH;have qN:=HZ;have c2:=ab dn.o 2;have d2:=ab qN.o 2;by_cases h1:p3<y3
 case pos=>
  have hf:=H_ (show r= -1 by rw[<-HR.o];unfold eG;rw[if_pos h1]);have tR:decide (p3<y3)=true:=decide_eq_true h1;clear h1;go_wp2_with fail;go_ret;exact⟨hf.o.symm▸rfl,aF⟩
 case neg=>
  have tR:decide (p3<y3)=false:=decide_eq_false h1;by_cases h2:y3<p3
  case pos=>
   have hf:=H_ (show r=1 by rw[<-HR.o];unfold eG;rw[if_neg h1,if_pos h2]);have tt:decide (p3>y3)=true:=decide_eq_true h2;clear h1 h2;go_wp2_with fail;go_ret;exact⟨hf.o.symm▸rfl,aF⟩
  case neg=>
   have hf:=H_ (show r=0 by rw[<-HR.o];unfold eG;rw[if_neg h1,if_neg h2]);have tt:decide (p3>y3)=false:=decide_eq_false h2;clear h1 h2;go_wp2_with fail;go_ret;exact⟨hf.o.symm▸rfl,aF⟩
def nb (o:Option bu) (l:bu):Option bu:=if sn o l=true then some l else o
def spK (ls:List bu) (code gA:Int):List bu:=ls.filter (λl=>decide (l.from_=code/\l.since<=gA))
theorem GW (ls:List bu) (code gA:Int):js ls code gA=(spK ls code gA).foldl nb none:=by
 have h:∀(ls:List bu) (o:Option bu),ls.foldl (zw code gA) o=(spK ls code gA).foldl nb o:=by
  intro ls
  induction ls with
  |nil=>intro o;rfl
  |cons r rs ih=>
   intro o;rw[List.foldl_cons,ih];unfold spK;by_cases hw:r.from_=code/\r.since<=gA
   ·rw[List.filter_cons_of_pos (by simpa using hw),List.foldl_cons]
    congr 1
    unfold zw nb;by_cases hl:sn o r=true
    ·rw[if_pos ⟨hw.1,hw.2,hl⟩,if_pos hl]
    ·rw[if_neg (λh=>hl h.2.2),if_neg hl]
   ·rw[List.filter_cons_of_neg (by simpa using hw)]
    congr 1
    unfold zw;rw[if_neg (λh=>hw ⟨h.1,h.2.1⟩)]
 exact h ls none
theorem GV {ms:List bu} {k:Nat} (hk:k<ms.length) {s:bu} (h:(ms.take k).foldl nb none=some s):(ms.take (k+1)).foldl nb none=some (if s.since<ms[k].since then ms[k]else s):=by
 rw[List.take_add_one,List.getElem?_eq_getElem hk,List.foldl_append,h];show nb (some s) ms[k]=_;unfold nb sn;by_cases hl:s.since<ms[k].since
 ·rw[if_pos (decide_eq_true hl),if_pos hl]
 ·rw[if_neg (by simpa using hl),if_neg hl]
theorem SI (a b:Int):decide (eG a b>0)=decide (b<a):=by
 unfold eG;by_cases h1:a<b
 ·rw[if_pos h1,decide_eq_false (show ¬b<a by omega)];rfl
 ·by_cases h2:b<a
  ·rw[if_neg h1,if_pos h2,decide_eq_true h2];rfl
  ·rw[if_neg h1,if_neg h2,decide_eq_false h2];rfl
theorem acb (ms:List bu) (A:Option Addr) (cc:Nat) (w:World) (hl:aj bJ 3 w (·<w.heap.size) [.slice A ms.length cc] ms) (bT:0<ms.length):
 Calls Tryz.prog 127 #[.slice A ms.length cc,.func (.func 128) #[] #[]] w (λe w'=>∃s,ms.foldl nb none=some s/\e=.returned (.agg (eI s).toArray)/\Below w.heap.size w w'):=by
 obtain⟨b,o,dj,ed,hall⟩:=aj.base hl bT;subst dj;have eY:=H_ (λ(j:Nat) (hj:j<ms.length)=>show At w (·<w.heap.size) ⟨b,o+j*3,none⟩ (eI ms[j]) by
  obtain⟨es,h1,h2⟩:=hall j hj
  rwa[(bJ.lit h1).1]at h2)
 have go:=H_ ed;have gr:=hl.cap;unfold maxLen at gr;obtain⟨n,hn⟩:=x_ (ms.length);have HN:=H_ hn;rw[hn]at gr bT |-;clear hl hall hn ed;obtain⟨x,hx⟩:∃x,ms[0]'(by have:=HN.o;omega)=x:=⟨_,rfl⟩;have HX:=H_ hx;have h0:=eY.o 0 (by have:=HN.o;omega);rw[hx]at h0;obtain⟨p1,p2,p3⟩:=x;have Bl:=H_ (show w.rangeAt b o [p1,p2,p3] by have:=h0.range;simpa using this);have VE:¬(n:Int)<1:=by omega
 clear hx h0;go_enter Tryz.func127,Tryz.ntmps127;go_upto_region 1 with fail;obtain⟨W1,cS,H1,bC,dr,ewx⟩:=B_ w (.cells #[(),(),()] 154);rw[cS];clear ewx;have yN:=H_ (show W1.heap.size=w.heap.size+1 by rw[<-cS];simp);clear cS;have HZ1:=H_ H1;have Bx:=H_ (show W1.rangeAt b o [p1,p2,p3]from λj v hj=>(bC.cell (p:=⟨b,o+j,none⟩) go.o).trans (Bl.o j v hj));clear H1;go_upto_region 4 with(refine w_ 13 154 12 b (o) [p1,p2,p3] Bx.o dE Tryz.underlying154 ?_)
 have H2:=heap_alloc_new W1 (.cells #[p1,p2,p3] 154);have dz:=bC.trans ((ai W1 (.cells #[p1,p2,p3] 154)).mono bC.size);have qN:=H_ (al HZ1.o (.cells #[p1,p2,p3] 154));rw[yN.o]at H2;rw[yN.o];generalize W1.alloc (Obj.cells #[p1,p2,p3] 154)=W2 at*;have Oh:=H_ H2;have acz:=H_ dz;clear H2 dz bC dr;go_wp2_with fail
 go_loopw [6] (λi wr=>∃(k:Nat) (s:bu),1<=k/\k<=n/\i=.int .i64 (k:Int)/\(ms.take k).foldl nb none=some s/\Below w.heap.size w wr/\wr.heap[w.heap.size]? =some (.cells #[(),(),()] 154 (0,0))/\wr.heap[w.heap.size+1]? =some (.cells (eI s).toArray 154 (0,0))) (λi _=>n- (intOf i).toNat)
 case atStart=>
  refine⟨1,⟨p1,p2,p3⟩,Nat.le_refl _,by omega,rfl,?_,acz.o,qN.o,Oh.o⟩;rw[List.take_add_one,List.getElem?_eq_getElem (by have:=HN.o;omega)];exact congrArg some HX.o
 case round=>
  obtain⟨k,s,Dm,hk,rfl,hs,hb,hz,hm⟩:=hrel;obtain⟨s1,s2,s3⟩:=s;have HSX:=H_ hs;have HZ:=H_ hz;have HM5:=H_ (show wr.heap[w.heap.size+1]? =some (.cells #[s1,s2,s3] 154 (0,0))from hm);have HT5:=H_ (ag hm);have HT4:=H_ (ag hz);clear hs hz hm;by_cases aU:k<n
  case pos=>
   have bq:(k:Int)< (n:Int):=by omega
   have bI:k<ms.length:=by rw[HN.o];exact aU
   have oZ:=H_ (GV bI HSX.o);have aS:=eY.o k bI;obtain⟨x,hx⟩:=x_ (ms[k]);rw[hx]at aS oZ;obtain⟨p1,p2,p3⟩:=x;have rM:=H_ (show At wr (·<wr.heap.size) ⟨b,o+k*3,none⟩ [.int .i64 p1,.int .i64 p2,.int .i64 p3]from(aS.fr (Fr.ofBelow hb)).mono (λq hq=>Nat.lt_of_lt_of_le hq hb.size));obtain⟨c,hc⟩:=x_ (eG p3 s3);have XA:=H_ (λ(w2:World)=>show Calls Tryz.prog 128 #[.agg #[p1,p2,p3],.agg #[s1,s2,s3]] w2 (ap w2 (.int .i64 c)) by
    have h:=Sv ⟨p1,p2,p3⟩ ⟨s1,s2,s3⟩ w2
    rwa[show eG (bu.since ⟨p1,p2,p3⟩) (bu.since ⟨s1,s2,s3⟩)=c from hc]at h)
   have hq:=SI p3 s3;rw[hc]at hq;obtain⟨q,lc⟩:=x_ (decide (s3<p3));rw[lc]at hq;have HQ:=H_ lc;clear hx aS hc lc;go_upto_region 7 with fail;refine bp (Ks wr [.val (.func (.func 128) #[] #[]),.val (.slice (some ⟨b,o,none⟩) n cc),(k:Int),.val (.pointer (some ⟨b,o+k*3,none⟩)),.val (.agg #[p1,p2,p3]),.val (.agg #[s1,s2,s3]),c,q])
    (λw'=>Below wr.heap.size wr w') K_ K_ K_ (Below.refl _ _).drew ?_ ?_
   ·refine⟨b_ (q_ 1),b_ (q_ 0),b_ (q_ 6),c_ (p_ 1 21) (p_ 2 22),?_,?_,?_,b_ (p_ 6 26),trivial⟩
    ·refine O1_ (p_ 3 23) λA0 w2 K e0 hS hK=>?_;have aJ:w2.rangeAt b (o+k*3) [p1,p2,p3]:=(rM.o.fr (Fr.ofBelow hS)).range;have aI:=dE;refine wp_load_mid 154 (.tmp 23) rfl _ _ (v_ e0) _ _ aJ Tryz.underlying154 rfl aI ?_;exact kq hK hS rfl
    ·refine O1_ (q_ 5) λA0 w2 K e0 hS hK=>?_;have aJ:w2.rangeAt (w.heap.size+1) 0 [s1,s2,s3]:=World.rangeAt_of_block ((hS.block _ HT5.o).trans HM5.o) 0 3;have aI:=dE;refine wp_load_mid 154 (.tmp 5) rfl _ _ (v_ e0) _ _ aJ Tryz.underlying154 rfl aI ?_;exact kq hK hS rfl
    ·refine O3_ (p_ 0 20) (p_ 4 24) (p_ 5 25) λA0 w2 K e0 e1 e2 hS hK=>?_;go_simp;refine(XA.o w2).mono ?_;rintro e w3 ⟨rfl,h3⟩;exact hK.out _ _ (hS.trans (h3.mono hS.size)) (Ks.of rfl rfl) (Ks.keep h3)
   ·intro _ A0 w2 hI hall;have hS:=hI.world;have c9:=hI.ch hall [20,21,22,23,24,25,26,27];obtain⟨x0,x1,x2,x3,x4,x5,x6,x7,hA,hV⟩:=c9;obtain rfl:x7=.bool q:=hV 7 _ _ rfl _ rfl;clear hV hI hall;simp only[ba,List.foldl,List.setIfInBounds_toArray,List.set_cons_zero,List.set_cons_succ]at hA;rw[hA];clear hA;have aF:=hb.trans (hS.mono hb.size);have Oh:=H_ ((hS.block _ HT5.o).trans HM5.o);have qN:=H_ ((hS.block _ HT4.o).trans HZ.o);have vq:=H_ ((rM.o.fr (Fr.ofBelow hS)).range);clear hq;cases q with
    |false=>
     have jK:=H_ (show(ms.take (k+1)).foldl nb none=some ⟨s1,s2,s3⟩ by rw[oZ.o,if_neg (of_decide_eq_false HQ.o)]);go_wp2_with fail;go_roundw
     case rel=>exact⟨k+1,_,by omega,by omega,by go_num,jK.o,aF,qN.o,Oh.o⟩
     case measure=>first|exact aQ aU|(simp only[intOf];omega)
    |true=>
     have jK:=H_ (show(ms.take (k+1)).foldl nb none=some ⟨p1,p2,p3⟩ by rw[oZ.o,if_pos (of_decide_eq_true HQ.o)]);go_wp2_with (first|(refine w_ 31 154 30 b (o+k*3) [p1,p2,p3] vq.o dE Tryz.underlying154 ?_)|(show wpList _ _ _ (Oper.mk none (Op.store _ (Operand.tmp 5) _) _ _ _ _::_) _ _;go_loud (refine wpList_store_row rfl 154 (.tmp 5) (.tmp 31) rfl (w.heap.size+1) #[p1,p2,p3] rfl rfl 154 #[s1,s2,s3] Oh.o dE rfl (by simp[Value.oneCell']) ?_)));go_roundw
     case rel=>exact⟨k+1,_,by omega,by omega,by go_num,jK.o,aD aF (by omega) _,((cC _ _ _).block _ (show w.heap.size≠w.heap.size+1 by omega)).trans qN.o,aB Oh.o _⟩
     case measure=>first|exact aQ aU|(simp only[intOf];omega)
  case neg=>
   have bq:¬(k:Int)< (n:Int):=by omega
   have ac3:=H_ (show ms.foldl nb none=some ⟨s1,s2,s3⟩ by
    have h:=HSX.o
    rwa[List.take_of_length_le (by have:=HN.o;omega)]at h)
   go_wp2_with (first|(refine W_ 32 154 5 (w.heap.size+1) HM5.o dE Tryz.underlying154 ?_)|(show wpList _ _ _ (Oper.mk none (Op.store _ (Operand.tmp 4) _) _ _ _ _::_) _ _;go_loud (refine wpList_store_row rfl 154 (.tmp 4) (.tmp 32) rfl w.heap.size #[s1,s2,s3] rfl rfl 154 #[(),(),()] HZ.o dE rfl (by simp[Value.oneCell']) ?_)));refine bodyPost_ret (v:=_) (eT rfl _ _ w.heap.size 154 _ (0,0) _ rfl (aB HZ.o _) Tryz.underlying154 rfl dE) rfl ?_;exact⟨_,ac3.o,rfl,aD hb (Nat.le_refl _) _⟩
theorem Qd {ls:List bu} {k:Nat} (hk:k<ls.length) (code gA:Int):spK (ls.take (k+1)) code gA=if ls[k].from_=code/\ls[k].since<=gA then spK (ls.take k) code gA++[ls[k]]else spK (ls.take k) code gA:=by
 rw[List.take_add_one,List.getElem?_eq_getElem hk];unfold spK;rw[List.filter_append];split
 ·rename_i h;rw[show(some ls[k]).toList=[ls[k]]from rfl,List.filter_cons_of_pos (by simpa using h)];rfl
 ·rename_i h;rw[show(some ls[k]).toList=[ls[k]]from rfl,List.filter_cons_of_neg (by simpa using h)];simp
theorem GZ (a b c:Int) (w:World):(Instr.field 154 (.agg #[a,b,c]) 1).run Tryz.prog w=.ok (.int .i64 b) w:=by kernel_rfl
theorem LD (x:bu):(eI x).length=3:=rfl
theorem Zk (e:aV) (es:List Value) (code gA:Int) (w:World) (he:aN w (·<w.heap.size) es e) (ci:sF e) (lS:am code) (hd:inD gA):Calls Tryz.prog 93 #[.agg es.toArray,code,gA] w (ap w (.tuple #[.int .i64 (gz e code gA).1,.int .i64 (gz e code gA).2])):=by
 obtain⟨ia,oR,ge,gg,gh⟩:=info_parts pP;obtain⟨Ac,cc,Al,cl,rfl,ee,lP⟩:=he.lit;have C9:=H_ (show ∀r,gz e code gA=r->(aK e.chart code=none->r=(0,8))/\∀a,aK e.chart code=some a->r=(match js e.links code gA with|some l=>(l.to_,0)|none=>(0,15))from λr hr=>by
  unfold gz at hr;rw[if_neg (show ¬¬(-25567<=gA/\gA<=84005)from λh=>h hd)]at hr;refine⟨λh=>?_,λa h=>?_⟩
  ·rw[h]at hr;exact hr.symm
  ·rw[h]at hr;exact hr.symm)
 obtain⟨R,hR⟩:=x_ (gz e code gA);have HR:=H_ (C9.o R hR);rw[hR];have Xn:=H_ (λ(w2:World)=>show Calls Tryz.prog 125 #[gA] w2 (ap w2 (.bool true)) by
  have h:=nS gA w2
  rwa[show decide (inD gA)=true from decide_eq_true hd]at h)
 have ny:=H_ (λ(w2:World) (hb:Below w.heap.size w w2)=>mL e.chart Ac cc code w2 (az ee hb) lS ci.1);have sV:=H_ lP;have bj:=lP.cap;unfold maxLen at bj;have IV:=ci.2.1;obtain⟨nm,cur,ec,ls,jo⟩:=e;simp only at HR ny sV bj IV |-;obtain⟨s,hs⟩:=x_ (nm);obtain⟨cu,hcu⟩:∃s,cur=s:=⟨_,rfl⟩;subst hs hcu;obtain⟨n,hn⟩:=x_ (ec.length);obtain⟨nl,hl⟩:∃n,ls.length=n:=⟨_,rfl⟩;have jz:=H_ hl;rw[hn]at ny;rw[hl]at bj IV;obtain⟨fo,vx⟩:=x_ (aK ec code);have e0:cF ec code=.tuple #[.agg (bn (gH fo)).toArray,fo.isSome]:=by unfold cF;rw[vx]
 rw[e0]at ny;rw[vx]at HR;obtain⟨x,hx⟩:=x_ (gH fo);rw[hx]at ny;obtain⟨a1,a2,a3,a4⟩:=x;clear lP ee hR C9 hd lS ci he hx e0 vx;show Calls Tryz.prog 93 #[.agg #[nm,cur,.slice Ac ec.length cc,.slice Al ls.length cl,jo],code,gA] w _;rw[hn,hl];clear hn hl;have QO:=H_ (λ(x:bu) (hx:x∈ls)=>show mM x by
  obtain⟨j,hj,rfl⟩:=List.getElem_of_mem hx;obtain⟨b,o,MJ,_,_,h3,_⟩:=aj.get sV.o j hj;exact(bJ.lit h3).2)
 go_enter Tryz.func93,Tryz.ntmps93;go_upto_region 1 with fail;obtain⟨W1,cS,H1,bC,dr,ewx⟩:=B_ w (.cells #[nm,cur,.slice Ac n cc,.slice Al nl cl,jo] 74);rw[cS];clear ewx;clear cS;have fB:=H_ H1;clear H1;go_wp2_with fail;refine(Xn.o W1).mono ?_;rintro e w2 ⟨rfl,aH⟩;have aF:=bC.trans (aH.mono bC.size);have dn:=k_ aH fB;have dW:=Nat.lt_of_lt_of_le dr aH.size;have c2:=ab dn.o 2;go_wp2_with fail;refine(ny.o w2 aF).mono ?_;rintro e w3 ⟨rfl,aZ⟩;have aR:=aF.trans (aZ.mono aF.size);have kS:=k_ aZ dn;clear c2;simp only[bn];go_upto_region 4 with fail
 have oW:=H_ (al kS.o (.cells #[a1,a2,a3,a4] 78));have gw:=aR.trans ((ai w3 (.cells #[a1,a2,a3,a4] 78)).mono aR.size);generalize JU:w3.alloc (Obj.cells #[a1,a2,a3,a4] 78)=W4 at*;clear JU;cases fo with
 |none=>
  have hf:=H_ (HR.o.1 rfl);simp only[Option.isSome_none];go_wp2_with fail;go_ret2;exact⟨hf.o.symm▸rfl,gw⟩
 |some fa=>
 have V7:=H_ (HR.o.2 fa rfl);simp only[Option.isSome_some];have yJ:w.heap.size<W4.heap.size:=ag oW.o;have e3:=ab oW.o 3;go_wp2_with fail
 go_loopw [10,28] (λv i wr=>∃k:Nat,k<=nl/\i=.int .i64 (k:Int)/\Below W4.heap.size W4 wr/\wr.ownsRow W4.heap.size 154 3 v (spK (ls.take k) code gA).length ((spK (ls.take k) code gA).flatMap eI)) (λ_ i _=>nl- (intOf i).toNat)
 case atStart=>exact⟨0,by omega,rfl,Below.refl _ _,World.ownsRow_nil _ _ _ _⟩
 case round=>
  obtain⟨k,hk,rfl,hb,bv⟩:=hrel;have tz:=H_ bv;have el:=gw.trans (hb.mono gw.size);have bP:=hb.size;by_cases aU:k<nl
  case pos=>
   have bq:(k:Int)< (nl:Int):=by omega
   have gW:0<nl:=by omega
   have bI:k<ls.length:=by rw[jz.o];exact aU
   obtain⟨b,o,MJ,dj,ed,bL,aS⟩:=aj.get sV.o k bI;subst dj;rw[(bJ.lit bL).1]at aS;have oZ:=H_ (Qd bI code gA);obtain⟨x,hx⟩:=x_ (ls[k]);rw[hx]at aS oZ;obtain⟨l1,l2,l3⟩:=x;have eZ:=H_ (show wr.rangeAt b (o+k*3) [l1,l2,l3]from(aS.fr (Fr.ofBelow el)).range);have eX:(spK (ls.take k) code gA).length<=1000:=Nat.le_trans (List.length_filter_le _ _) (by rw[List.length_take];omega);have XV:=bv.alloc (.cells #[l1,l2,l3] 154);obtain⟨nt,hnt⟩:=x_ ((spK (ls.take k) code gA).length);rw[hnt]at XV eX;have HNT:=H_ hnt;clear bL aS hx ed bv hnt;go_upto_region 10 with(refine w_ 31 154 30 b (o+k*3) [l1,l2,l3] eZ.o dE Tryz.underlying154 ?_);have H6:=heap_alloc_new wr (.cells #[l1,l2,l3] 154);have dK:=ai wr (.cells #[l1,l2,l3] 154);have my:=ag H6;generalize mC:wr.alloc (Obj.cells #[l1,l2,l3] 154)=W6 at*;clear mC;have ga:=H_ XV;have sS:=H_ H6;have dd:=hb.trans (dK.mono hb.size);have c0:=ab H6 0;have c2:=ab H6 2;clear H6 XV;obtain⟨q1,mF⟩:∃q,(l1==code)=q:=⟨_,rfl⟩;obtain⟨q2,lc⟩:∃q,decide (l3<=gA)=q:=⟨_,rfl⟩;have HQ:=H_ (show(l1=code/\l3<=gA)↔(q1=true/\q2=true) by rw[<-mF,<-lc];simp);rcases(show q1=false\/(q1=true/\q2=false)\/(q1=true/\q2=true) by cases q1<;>cases q2<;>simp)with rfl|⟨rfl,rfl⟩|⟨rfl,rfl⟩
   ·have Cx:=H_ (show spK (ls.take (k+1)) code gA=spK (ls.take k) code gA by rw[oZ.o,if_neg (λh=>by have:=HQ.o.1 h;simp at this)]);go_wp2_with fail;go_roundw
    case rel=>exact⟨k+1,by omega,by go_num,dd,by rw[Cx.o,HNT.o];exact ga.o⟩
    case measure=>first|exact aQ aU|(simp only[intOf];omega)
   ·have Cx:=H_ (show spK (ls.take (k+1)) code gA=spK (ls.take k) code gA by rw[oZ.o,if_neg (λh=>by have:=HQ.o.1 h;simp at this)]);go_wp2_with fail;go_roundw
    case rel=>exact⟨k+1,by omega,by go_num,dd,by rw[Cx.o,HNT.o];exact ga.o⟩
    case measure=>first|exact aQ aU|(simp only[intOf];omega)
   ·have Cx:=H_ (show spK (ls.take (k+1)) code gA=spK (ls.take k) code gA++[⟨l1,l2,l3⟩] by rw[oZ.o,if_pos (HQ.o.2 ⟨rfl,rfl⟩)]);have MV:=dd.size;go_wp2_with (first|(refine W_ 43 154 12 (wr.heap.size) sS.o dE Tryz.underlying154 ?_)|(at_builtin;go_loud (refine cq _ rfl (.tmp 42) (.tmp 44) 72 rfl W4.heap.size 154 ia _ 3 24 oD oR ge gg gh rfl (by decide) u10 nt ((spK (ls.take k) code gA).flatMap eI) rfl (ga.o.alloc _) (λ_=>True) (some ⟨W6.heap.size,0,none⟩) 1 1 [l1,l2,l3] rfl (fq (heap_alloc_new _ _) rfl) (by simp[Value.oneCell']) (by simp only[maxLen];omega) (by omega) (by simp;omega) ?_);intro v9 w9 cj gk _));go_roundw
    case rel=>
     refine⟨k+1,by omega,by go_num,bK (dd.alloc (by omega) _) gk (λq hq=>(ga.o.lt _ hq).1) (Nat.le_refl _),?_⟩;rw[Cx.o,List.length_append,HNT.o,List.flatMap_append];exact cj
    case measure=>first|exact aQ aU|(simp only[intOf];omega)
  case neg=>
   have bq:¬(k:Int)< (nl:Int):=by omega
   have IA:ls.take k=ls:=List.take_of_length_le (by rw[jz.o];omega);rw[IA]at bv;obtain⟨A9,n9,c9,rfl⟩:=bS bv;obtain rfl:n9=(spK ls code gA).length:=fV bv;have HLO:=H_ (GW ls code gA);have aau:∀x∈spK ls code gA,x∈ls:=λx hx=>(List.mem_filter.1 hx).1
   have Bb:aj bJ 3 wr (·<wr.heap.size) [.slice A9 (spK ls code gA).length c9] (spK ls code gA):=mr (f:=eI) (size:=3) LD bv (λx hx=>by
    obtain⟨b1,b2,b3⟩:=QO.o x (aau x hx);exact⟨[.int .i64 x.from_],[.int .i64 x.to_],[.int .i64 x.since],rfl,⟨rfl,b1⟩,⟨rfl,b2⟩,⟨rfl,b3⟩⟩) (λg hg=>(bv.lt g hg).2)
   have pb:=H_ Bb;obtain⟨ms,hms⟩:=x_ (spK ls code gA);rw[hms]at pb HLO |-;have HMX:=H_ (λ(h:0<ms.length)=>acb ms A9 c9 wr pb.o h);obtain⟨m,hm⟩:=x_ (ms.length);have HM:=H_ hm;rw[hm]at HMX |-;clear Bb hms aau bv hm IA tz;by_cases hm0:m=0
   case pos=>
    subst hm0;have hf:=H_ (show R=(0,15) by rw[V7.o,HLO.o,List.eq_nil_of_length_eq_zero HM.o];rfl);go_wp2_with fail;go_ret2;exact⟨hf.o.symm▸rfl,el⟩
   case neg=>
    have hmb:((m:Int)==0)=false:=by simpa using hm0
    have hmp:0<m:=by omega
    have HMP:=H_ (HMX.o hmp);clear hm0;go_wp2_with fail;refine HMP.o.mono ?_;rintro e w9 ⟨⟨s1,s2,s3⟩,hs,rfl,kT⟩;have hf:=H_ (show R=(s2,0) by rw[V7.o,HLO.o,hs]);have Kk:=el.trans (kT.mono el.size);have hfd:=GZ s1 s2 s3 w9;clear hs;simp only[eI];go_wp2_with fail;go_ret2;exact⟨hf.o.symm▸rfl,Kk⟩
end
section
open Go Go.RowKit Go.Shelf Go.Lib
open Go.Sort hiding Below
theorem KU {α:Type} [Inhabited α] {enc:α->List Value} {sz:Nat} {w:World} {blk n:Nat} {d:Array α} {os:Array Obj}:Below w.heap.size w w->w.heap.size<=(sortWorldK enc sz w blk 0 n d os).heap.size/\∀k,k<w.heap.size->k≠blk->(sortWorldK enc sz w blk 0 n d os).heap[k]? =w.heap[k]? :=λ_=>by
 refine⟨size_sortWorldK_c _ _ _ _ _ _ _ _,λk hk bT=>?_⟩;unfold sortWorldK Go.Sort.grow putRowK putRow mapBlock Go.Sort.ahead;simp only;rw[Array.getElem?_append_left (by simpa using hk),Array.getElem?_modify,if_neg (λe=>bT e.symm)]
def OB {α:Type} (enc:α->List Value) (_:World) (_:Nat->Prop) (cs:List Value) (c:α):Prop:=cs=enc c
theorem E7 {α:Type} [Inhabited α] {ρ:Go.Shelf.Ren} (L:Go.Proofs.SlLaysF0.n6 Tryz.prog ρ) (sz:Nat) (aao:0<sz) (aE:∀w,(isAgg (ρ.t 24)).run Tryz.prog w=.ok true w) (zE:∀w,(Go.sizeOf (ρ.t 24)).run Tryz.prog w=.ok sz w) (enc:α->List Value) (hk:∀x,(enc x).length=sz) (h1:∀x,∀v∈enc x,v.oneCell'=true) (cf:α->α->Int) (hO:SWO (ltOf cf)) (gf:Nat)
 (eg:∀args w,(callFunc gf args).run Tryz.prog w=.ok (.enter gf args) w) (acN:∀x y w,Calls Tryz.prog gf #[.agg (enc x).toArray,.agg (enc y).toArray] w (λe w'=>e=.returned (.int .i64 (cf x y))/\gP w w'))
 (fj:List α) (v:Value) (base:Nat) (w:World) (T:TypeId) (bv:w.ownsRow base T sz v fj.length (fj.flatMap enc)) (hn:fj.length<=100000) (jR:base<=w.heap.size):
 Calls Tryz.prog (ρ.f 6) #[v,.func (.func gf) #[] #[]] w (λe w'=>e=.returned (.tuple #[])/\∃lZ:List α,lZ.Perm fj/\lZ.Pairwise (λx y=>ltOf cf y x=false)/\aj (OB enc) sz w' (λq=>base<=q/\q<w'.heap.size) [v] lZ/\Below base w w'/\w.heap.size<=w'.heap.size):=by
 rcases Nat.eq_zero_or_pos fj.length with h0|h0
 ·have he:fj=[]:=List.eq_nil_of_length_eq_zero h0;subst he;obtain⟨p,cap,rfl⟩:∃p cap,v=.slice p 0 cap:=by
   rcases bv.2 with⟨rfl,_⟩|⟨g,cap,cur,rfl,_⟩
   ·exact⟨_,_,rfl⟩
   ·exact⟨_,_,rfl⟩
  refine(AnyF.slices_SortFunc_none L p cap (.func (.func gf) #[] #[]) w).mono ?_;rintro e w' ⟨rfl,rfl⟩;refine⟨rfl,[],List.Perm.refl _,List.Pairwise.nil,?_,Below.refl _ _,Nat.le_refl _⟩;have hc:0<=cap/\cap<=maxLen:=by
   rcases bv.2 with⟨e,_⟩|⟨g,abp,cur,e,_,_,h1,h2,_⟩
   ·simp only[Value.slice.injEq]at e;obtain⟨_,_,rfl⟩:=e;exact⟨Nat.le_refl _,by unfold maxLen;decide⟩
   ·simp only[Value.slice.injEq]at e;obtain⟨_,_,rfl⟩:=e;exact⟨Nat.zero_le _,h2⟩
  exact⟨p,cap,rfl,hc.1,hc.2,λh=>absurd h (by simp)⟩
 ·obtain⟨g,cap,rfl,Va,RI,mH,hcm⟩:∃g cap,v=.slice (some ⟨g,0,none⟩) fj.length cap/\base<=g/\g<w.heap.size/\fj.length<=cap/\cap<=maxLen:=by
   rcases bv.2 with⟨_,hz⟩|⟨g,cap,cur,hv,h1,h2,h3,h4,_⟩
   ·omega
   ·exact⟨g,cap,hv,h1,ag h2,h3,h4⟩
  have hH:HoldsK enc sz w g 0 fj.toArray:=by
   intro j hj;rw[size_flatK]at hj;have hj':j<fj.length*sz:=by simpa using hj
   rw[get_flatK _ _ _ _ hj];have hg:=D7 (f:=enc) (k:=sz) aao hk fj j hj';have e1:fj.toArray[j/ sz]! =fj[j/ sz]! :=by simp
   have Kc:j%sz< (enc fj[j/ sz]!).length:=by rw[hk];exact Nat.mod_lt _ aao
   rw[List.getElem?_eq_getElem Kc]at hg;have hc:=bv.cells (g:=g) rfl j _ hg;have hf:=kc bv (g:=g) rfl j;rw[Addr.add_lit]at hc hf;rw[e1,getElem!_pos (enc fj[j/ sz]!) (j%sz) Kc];exact⟨hc,hf⟩
  have acI:CmpLays Tryz.prog gf (#[]:Array Value) enc sz cf g 0 fj.toArray.size w:=λm os dk MR x y=>acN x y _
  have aaa:=AnyQ.slices_SortFunc L sz aE zE enc hk h1 cf hO gf #[] g 0 cap fj.toArray w eg acI hH RI (by simp;omega);have bP:fj.toArray.size=fj.length:=by simp
  rw[bP]at aaa;refine aaa.mono ?_;rintro e w' ⟨rfl,d',n,os,hp,hs,rfl⟩;obtain⟨QQ,_,hp3⟩:=hp;have hd:d'.size=fj.length:=by simpa using QQ
  have zM:d'.toList.Perm fj:=by
   have e1:(d'.extract 0 fj.length).toList=d'.toList:=by rw[<-hd];simp
   have e2:(fj.toArray.extract 0 fj.length).toList=fj:=by simp
   rw[e1,e2]at hp3;exact hp3
  have hH':=holdsK_sortWorldK_c enc sz w g 0 fj.toArray d' n os hH RI QQ;obtain⟨IU,QH⟩:=KU (w:=w) (blk:=g) (n:=n) (d:=d') (os:=os) (Below.refl _ _);refine⟨rfl,d'.toList,zM,?_,?_,⟨rfl,rfl,rfl,IU,λk hk=>QH k (by omega) (by omega)⟩,IU⟩
  ·rw[List.pairwise_iff_getElem];intro i j hi hj Gb;have hi':i<d'.size:=by simpa using hi
   have hj':j<d'.size:=by simpa using hj
   have h1:=hs i j (Nat.zero_le _) Gb (by omega);rw[getElem!_pos d' i hi',getElem!_pos d' j hj']at h1;simpa using h1
  ·have eX:d'.toList.length=fj.length:=by simpa using hd
   rw[<-eX];refine⟨_,cap,rfl,by omega,hcm,λ_=>⟨g,0,rfl,⟨Va,by omega⟩,λi x hx=>?_⟩⟩;obtain⟨hi,R4⟩:=List.getElem?_eq_some_iff.1 hx;have hi':i<d'.size:=by simpa using hi
   refine⟨enc x,rfl,⟨⟨Va,by show g<_;omega⟩,λj u hj=>?_⟩⟩;have vn:j<sz:=by have:=(List.getElem?_eq_some_iff.1 hj).1;rwa[hk]at this
   have hc:=hH'.cell hi' vn;rw[getElem!_pos d' i hi']at hc;have hxd:d'[i]=x:=by rw[<-R4];simp
   rw[hxd,getElem!_pos (enc x) j (by rw[hk];exact vn)]at hc;rw[Addr.add_lit];obtain⟨_,hju⟩:=List.getElem?_eq_some_iff.1 hj;have adu:(enc x)[j]'(by rw[hk];exact vn)=u:=hju;exact⟨hc.1.trans (congrArg some adu),hc.2⟩
def Mh:Go.Shelf.Ren:=⟨λ|6=>224|15=>99|14=>230|28=>141|29=>142|20=>232|21=>233|22=>234|23=>235|24=>236|25=>237|26=>238|27=>239|46=>240|47=>175|48=>176|49=>241|50=>242|57=>243|n=>n,λ|22=>31|24=>70|25=>242|3=>3|39=>147|0=>0|53=>187|55=>189|4=>4|46=>180|45=>179|50=>184|5=>5|9=>9|66=>210|70=>214|76=>248|77=>249|n=>n,λ|n=>n⟩
theorem acm:Go.Proofs.SlLaysF0.n6 Tryz.prog Mh:={
 mixed:=by kernel_rfl,
 f6:=⟨Tryz.f224.name,by decide,Tryz.func224.trans (congrArg some K_)⟩,
 f14:=⟨Tryz.f230.name,by decide,Tryz.func230.trans (congrArg some K_)⟩,
 f15:=Tryz.func99.trans (congrArg some K_),
 f20:=⟨Tryz.f232.name,by decide,Tryz.func232.trans (congrArg some K_)⟩,
 f21:=⟨Tryz.f233.name,by decide,Tryz.func233.trans (congrArg some K_)⟩,
 f22:=⟨Tryz.f234.name,by decide,Tryz.func234.trans (congrArg some K_)⟩,
 f23:=⟨Tryz.f235.name,by decide,Tryz.func235.trans (congrArg some K_)⟩,
 f24:=⟨Tryz.f236.name,by decide,Tryz.func236.trans (congrArg some K_)⟩,
 f25:=⟨Tryz.f237.name,by decide,Tryz.func237.trans (congrArg some K_)⟩,
 f26:=⟨Tryz.f238.name,by decide,Tryz.func238.trans (congrArg some K_)⟩,
 f27:=⟨Tryz.f239.name,by decide,Tryz.func239.trans (congrArg some K_)⟩,
 f28:=Tryz.func141.trans (congrArg some K_),
 f29:=Tryz.func142.trans (congrArg some K_),
 f46:=⟨Tryz.f240.name,by decide,Tryz.func240.trans (congrArg some K_)⟩,
 f47:=Tryz.func175.trans (congrArg some K_),
 f48:=Tryz.func176.trans (congrArg some K_),
 f49:=⟨Tryz.f241.name,by decide,Tryz.func241.trans (congrArg some K_)⟩,
 f50:=⟨Tryz.f242.name,by decide,Tryz.func242.trans (congrArg some K_)⟩,
 f57:=⟨Tryz.f243.name,by decide,Tryz.func243.trans (congrArg some K_)⟩,
 t0:=Tryz.underlying0,
 a0:=Tryz.isAgg0,
 z0:=Tryz.sizeOf0,
 v0:=Tryz.zeroValue0,
 t3:=Tryz.underlying3,
 a3:=Tryz.isAgg3,
 z3:=Tryz.sizeOf3,
 v3:=Tryz.zeroValue3,
 t4:=Tryz.underlying4,
 a4:=Tryz.isAgg4,
 z4:=Tryz.sizeOf4,
 v4:=Tryz.zeroValue4,
 t5:=Tryz.underlying5,
 a5:=Tryz.isAgg5,
 z5:=Tryz.sizeOf5,
 v5:=Tryz.zeroValue5,
 t9:=Tryz.underlying9,
 a9:=Tryz.isAgg9,
 z9:=Tryz.sizeOf9,
 v9:=Tryz.zeroValue9,
 t22:=Tryz.underlying31,
 a22:=Tryz.isAgg31,
 z22:=Tryz.sizeOf31,
 v22:=Tryz.zeroValue31,
 t25:=Tryz.underlying242,
 a25:=Tryz.isAgg242,
 z25:=Tryz.sizeOf242,
 v25:=Tryz.zeroValue242,
 t39:=Tryz.underlying147,
 a39:=Tryz.isAgg147,
 z39:=Tryz.sizeOf147,
 v39:=Tryz.zeroValue147,
 t45:=Tryz.underlying179,
 a45:=Tryz.isAgg179,
 z45:=Tryz.sizeOf179,
 v45:=Tryz.zeroValue179,
 t46:=Tryz.underlying180,
 a46:=Tryz.isAgg180,
 z46:=Tryz.sizeOf180,
 v46:=Tryz.zeroValue180,
 t50:=Tryz.underlying184,
 a50:=Tryz.isAgg184,
 z50:=Tryz.sizeOf184,
 v50:=Tryz.zeroValue184,
 t53:=Tryz.underlying187,
 a53:=Tryz.isAgg187,
 z53:=Tryz.sizeOf187,
 v53:=Tryz.zeroValue187,
 t55:=Tryz.underlying189,
 a55:=Tryz.isAgg189,
 z55:=Tryz.sizeOf189,
 v55:=Tryz.zeroValue189,
 t66:=Tryz.underlying210,
 a66:=Tryz.isAgg210,
 z66:=Tryz.sizeOf210,
 v66:=Tryz.zeroValue210,
 t70:=Tryz.underlying214,
 a70:=Tryz.isAgg214,
 z70:=Tryz.sizeOf214,
 v70:=Tryz.zeroValue214,
 t76:=Tryz.underlying248,
 a76:=Tryz.isAgg248,
 z76:=Tryz.sizeOf248,
 v76:=Tryz.zeroValue248,
 t77:=Tryz.underlying249,
 a77:=Tryz.isAgg249,
 z77:=Tryz.sizeOf249,
 v77:=Tryz.zeroValue249}
def DO (x y:aC):Int:=eG x.when_ y.when_
theorem iO {α:Type} (f:α->Int) (x y:α):ltOf (λx y=>eG (f x) (f y)) x y=true↔f x<f y:=by
 unfold ltOf eG;rw[decide_eq_true_iff];by_cases h1:f x<f y
 ·simp[h1]
 ·by_cases h2:f y<f x<;>simp[h1,h2]
theorem aeA:SWO (ltOf DO) where
 irrefl x:=by
  cases h:ltOf DO x x with
  |false=>rfl
  |true=>have:=(iO (λx:aC=>x.when_) x x).1 h;omega
 trans x y z h1 h2:=by
  have a:=(iO (λx:aC=>x.when_) x y).1 h1;have b:=(iO (λx:aC=>x.when_) y z).1 h2;exact(iO (λx:aC=>x.when_) x z).2 (by omega)
 ntrans x y z h1 h2:=by
  cases h:ltOf DO x z with
  |false=>rfl
  |true=>
   have a:¬x.when_<y.when_:=λe=>by have h:=(iO (λx:aC=>x.when_) x y).2 e;rw[show ltOf DO x y=true from h]at h1;cases h1
   have b:¬y.when_<z.when_:=λe=>by have h:=(iO (λx:aC=>x.when_) y z).2 e;rw[show ltOf DO y z=true from h]at h2;cases h2
   have c:=(iO (λx:aC=>x.when_) x z).1 h;omega
instance:Inhabited aC:=⟨{}⟩
theorem SH (x y:aC) (w:World):Calls Tryz.prog 207 #[.agg (fN x).toArray,.agg (fN y).toArray] w (λe w'=>e=.returned (.int .i64 (DO x y))/\gP w w'):=by
 obtain⟨xc,xk,xt,xv⟩:=x;obtain⟨yc,yk,yt,yv⟩:=y;show Calls Tryz.prog 207 #[.agg #[xc,xk,xt,xv],.agg #[yc,yk,yt,yv]] w (λe w'=>e=.returned (.int .i64 (eG xt yt))/\gP w w');go_enter Tryz.func207,Tryz.ntmps207;go_upto_region 1 with fail;have K1:=al (heap_alloc_new w (.cells #[xc,xk,xt,xv] 70)) (.cells #[yc,yk,yt,yv] 70);have K2:=heap_alloc_new (w.alloc (.cells #[xc,xk,xt,xv] 70)) (.cells #[yc,yk,yt,yv] 70);have RL:=H_ (((gP.refl w).alloc (.cells #[xc,xk,xt,xv] 70)).alloc (.cells #[yc,yk,yt,yv] 70));simp only[World.size_alloc]at K2;generalize (w.alloc (Obj.cells #[xc,xk,xt,xv] 70)).alloc (Obj.cells #[yc,yk,yt,yv] 70)=W at*;have c2:=ab K1 2;have d2:=ab K2 2;clear K1 K2;go_wp2_with (go_at_call 61;refine(sf _ _ _).mono ?_;rintro e w' ⟨rfl,rfl⟩);go_ret;exact⟨rfl,RL.o⟩
theorem Tx (fj:List aC) (v:Value) (base:Nat) (w:World) (bv:w.ownsRow base 70 4 v fj.length (fj.flatMap fN)) (hn:fj.length<=100000) (jR:base<=w.heap.size):
 Calls Tryz.prog 224 #[v,.func (.func 207) #[] #[]] w (λe w'=>e=.returned (.tuple #[])/\∃lZ:List aC,lZ.Perm fj/\lZ.Pairwise (λx y=>ltOf DO y x=false)/\aj (OB fN) 4 w' (λq=>base<=q/\q<w'.heap.size) [v] lZ/\Below base w w'/\w.heap.size<=w'.heap.size):=
 E7 acm 4 (by omega) Tryz.isAgg70 Tryz.sizeOf70 fN (λ_=>rfl) (λx v hv=>by simp[fN]at hv;rcases hv with rfl|rfl|rfl|rfl<;>rfl) DO aeA 207 (enters_of Tryz.func207 K_ rfl) SH fj v base w _ bv hn jR
end
end Go.Proofs.YtibiddakakgakaaGreat
