/- The law ReserveSteady. Written by gen_p5.py. -/
import Derived.Test.YtibiddakakgakaaGreatQdR13Z8
set_option linter.unusedVariables false
set_option linter.unusedSimpArgs false
set_option maxRecDepth 4000
attribute [local go_sem ↓] Go.wp_at_zero Go.wp_at_succ
set_option maxHeartbeats 16000000
namespace Go.Proofs.YtibiddakakgakaaGreat
open Go Go.RowKit
theorem akA {w:World} {Q:Nat->Prop} {css:List (List Value)} {rs:List aC} (hl:css.length=rs.length) (h:∀(i:Nat) x,rs[i]? =some x->∃cs,css[i]? =some cs/\bN w Q cs x):css.flatten=rs.flatMap fN:=by
 have e:css=rs.map fN:=by
  refine List.ext_getElem? λi=>?_
  rw[List.getElem?_map];rcases Nat.lt_or_ge i rs.length with hi|hi
  ·obtain⟨cs,h1,h2⟩:=h i _ (List.getElem?_eq_getElem hi);rw[h1,List.getElem?_eq_getElem hi,(io h2).1];rfl
  ·rw[List.getElem?_eq_none (by omega),List.getElem?_eq_none hi];rfl
 rw[e,List.flatMap_def]
theorem akr:∀l:List aC,(l.flatMap fN).length=l.length*4
 |[]=>rfl
 |x::l=>by
  rw[List.flatMap_cons,List.length_append,akr l,List.length_cons];simp only[fN,List.length_cons,List.length_nil];omega
def gi (rs:List aC) (v:Int) (k:Nat):List aC:=(rs.take k).map (λr=>{r with value:=v})++rs.drop k
theorem akM (rs:List aC) (v:Int):gi rs v 0=rs:=by simp[gi]
theorem BA (rs:List aC) (v:Int) (k:Nat):(gi rs v k).length=rs.length:=by
 unfold gi;rw[List.length_append,List.length_map,List.length_take,List.length_drop];omega
theorem akV (rs:List aC) (v:Int):alw (gi rs v rs.length) v:=λr hr=>by
 unfold gi at hr;rw[List.take_length,List.drop_length,List.append_nil]at hr;obtain⟨x,_,rfl⟩:=List.mem_map.1 hr;rfl
theorem akv {rs:List aC} {v:Int} {k:Nat} {r:aC} (h:r∈gi rs v k):∃x∈rs,r.currency=x.currency/\r.kind=x.kind/\r.when_=x.when_/\(r.value=v\/r.value=x.value):=by
 rcases List.mem_append.1 h with h|h
 ·obtain⟨x,hx,rfl⟩:=List.mem_map.1 h;exact⟨x,List.mem_of_mem_take hx,rfl,rfl,rfl,.inl rfl⟩
 ·exact⟨r,List.mem_of_mem_drop h,rfl,rfl,rfl,.inr rfl⟩
theorem alh (rs:List aC) (v:Int) (k:Nat) (hk:k<rs.length):((gi rs v k).flatMap fN).set (k*4+3) (.int .i64 v)=(gi rs v (k+1)).flatMap fN:=by
 have hl:=akr;have e1:gi rs v k=(rs.take k).map (λr=>{r with value:=v})++rs[k]::rs.drop (k+1):=by
  unfold gi;rw[List.drop_eq_getElem_cons hk]
 have e2:gi rs v (k+1)=(rs.take k).map (λr=>{r with value:=v})++{rs[k]with value:=v}::rs.drop (k+1):=by
  unfold gi;rw[List.take_add_one,List.getElem?_eq_getElem hk,List.map_append];simp
 have h0:(((rs.take k).map (λr=>{r with value:=v})).flatMap fN).length=k*4:=by
  rw[hl,List.length_map,List.length_take,Nat.min_eq_left (by omega)]
 rw[e1,e2,List.flatMap_append,List.flatMap_append,List.set_append_right _ _ (by omega),h0,List.flatMap_cons,List.flatMap_cons,show k*4+3- k*4=3 by omega];rfl
theorem ak5 {rs:List aC} {v:Int} {k:Nat} (hk:k<rs.length):((gi rs v k).flatMap fN)[k*4+3]? =some (.int .i64 rs[k].value):=by
 have hl:=akr;have e1:gi rs v k=(rs.take k).map (λr=>{r with value:=v})++rs[k]::rs.drop (k+1):=by
  unfold gi;rw[List.drop_eq_getElem_cons hk]
 have h0:(((rs.take k).map (λr=>{r with value:=v})).flatMap fN).length=k*4:=by
  rw[hl,List.length_map,List.length_take,Nat.min_eq_left (by omega)]
 rw[e1,List.flatMap_append,List.getElem?_append_right (by omega),h0,List.flatMap_cons,show k*4+3- k*4=3 by omega];rfl
theorem alz {w:World} {Q:Nat->Prop} {bl gl tl:List Value} {b:XBk} {Ae Ar A2:Option Addr} {ce cr c2:Nat} {rs:List aC} (h:BkC w Q bl b gl Ae ce Ar cr tl) (hl:aj bN 4 w Q [.slice A2 rs.length c2] rs):
 BkC w Q (bl.set 22 (.slice A2 rs.length c2)) ⟨b.g,b.es,rs⟩ gl Ae ce A2 c2 tl:=by
 have hg:=h.g.len;refine⟨?_,h.tlen,h.one,h.g,h.es,?_⟩
 ·rw[h.eq,List.set_append_right _ _ (by omega),hg];simp
 ·exact hl
theorem akO {ops:Array Oper} {rest:List Oper} {o:Oper} {a:Act} {w:World} {Q':Exit->Act->World->Prop} (qE:o.guard=none) (s x:Operand) (t:TypeId)
 (ho:o.op=.call {callee:=.builtin .append,args:=#[s,x],argTypes:=#[t,t]})
 (base:Nat) (e:TypeId) (i:TypeInfo) (z:Value) (size fF:Nat) (ht:Tryz.prog.underlying t=some (.slice e)) (hi:Tryz.prog.info? e=some i) (hz:i.zero=some z)
 (lf:i.size=size) (MM:i.bytes=fF) (Ns:z.cells.size=size) (bP:0<size)
 (g:Nat) (hs:a.eval s=.slice (some ⟨g,0,none⟩) 0 0) (hg:w.heap[g]? =some (.cells #[] e (0,0))) (hgb:base<=g)
 (Q:Nat->Prop) (A:Option Addr) (m c:Nat) (gd:List Value) (hx:a.eval x=.slice A m c) (hr:Rd w Q A m size gd) (h1:∀u∈gd,u.oneCell'=true)
 (Mu:m<=maxLen) (jF:m*fF<=140737488355328) (jR:base<=w.heap.size)
 (h:∀v' w',w'.ownsRow base e size v' m gd->Below w.heap.size w w'->wpList Tryz.prog ops Q' rest (a.put o.dst v') w'):wpList Tryz.prog ops Q' (o::rest) a w:=
 wpList_plain qE λ_ hK=>ahc s x t ho base e i z size fF ht hi hz lf MM Ns bP g hs hg hgb Q A m c gd hx hr h1 Mu jF jR λv' w' h2 h3=>hK _ _ (h v' w' h2 h3)
theorem alM {w:World} {base:Nat} {T:TypeId} {size n c:Nat} {A:Option Addr} {xs:List Value} (h:w.ownsRow base T size (.slice A n c) n xs) (hn:0<n):∃g,A=some ⟨g,0,none⟩/\base<=g/\g<w.heap.size/\∀j u,xs[j]? =some u->w.cell? ⟨g,j,none⟩=some u/\w.frozen? ⟨g,j,none⟩=false:=by
 rcases h.2 with⟨e,h0⟩|⟨g,cap,aw,e,h1,h2,h3,h4,h5,h6⟩
 ·simp only[Value.slice.injEq]at e;omega
 ·simp only[Value.slice.injEq]at e;obtain⟨rfl,_,rfl⟩:=e;refine⟨g,rfl,h1,ag h2,λj u hu=>⟨?_,bB h2 j⟩⟩;rw[ab h2 j,<-Array.getElem?_toList];have hj:j<xs.length:=by
   rcases Nat.lt_or_ge j xs.length with h|h
   ·exact h
   ·rw[List.getElem?_eq_none h]at hu;cases hu
  rw[<-h6,List.getElem?_take_of_lt (by rw[<-h.1];exact hj)]at hu;exact hu
set_option maxRecDepth 100000 in
theorem akp (b:XBk) (bl gl tl:List Value) (Ae Ar:Option Addr) (ce cr:Nat) (a0 a1 v:Int) (w:World) (hk:BkC w (·<w.heap.size) bl b gl Ae ce Ar cr tl) (bP:Fb b) (hpp:cx a1) (hv:cx v):Calls Tryz.prog 12 #[.agg bl.toArray,.agg #[a0,a1],v] w (ap w (.bool true)):=by
 have CZ:=H_ (λ(w2:World) (hb:Below w.heap.size w w2)=>BQ b bl gl tl Ae Ar ce cr w2 (hk.keep hb) bP.1 bP.2.1);have kY:=H_ (show bl.toArray.size=27 by have:=hk.len;simpa using this);have HK:=H_ hk;have N2:=H_ bP;have ais:=H_ hpp;have jI:=H_ hv;obtain⟨ib,hib,X7,Xu,XU⟩:=info_parts GT;have HON:=H_ (show bl.toArray.all (·.oneCell')=true by have:=hk.ones;simpa using this);obtain⟨n9,Sb⟩:∃n,b.rs.length=n:=⟨_,rfl⟩;have HN9:=H_ Sb;have ajw:=H_ (show bl.toArray[22]? =some (.slice Ar n9 cr) by rw[List.getElem?_toArray,<-Sb];exact hk.at_e.2);have amE:=H_ (λ(v:Value)=>show(bl.set 22 v).toArray[22]? =some v by rw[List.getElem?_toArray,List.getElem?_set_self (by have:=hk.len;omega)]);obtain⟨fw,Od⟩:∃q:Prop,pI b=q:=⟨_,rfl⟩;rw[Od]at CZ;have Og:=H_ Od;clear hk bP Od hpp hv Sb;go_enter Tryz.func12,Tryz.ntmps12;go_upto_region 1 with fail;obtain⟨W1,cS,H1,bC,dr,ewx⟩:=B_ w (.cells bl.toArray 36);rw[cS];clear ewx;have yN:=H_ (show W1.heap.size=w.heap.size+1 by rw[<-cS];simp);clear cS;obtain⟨W2,fR,H2,dz,jK,ewx⟩:=B_ W1 (.cells #[a0,a1] 83);rw[fR];clear ewx;have Xo:=H_ (show W2.heap.size=W1.heap.size+1 by rw[<-fR];simp);clear fR;have NV:=H_ bC;have Vr:=t_ NV dz;have rP:=H_ (show W2.heap[w.heap.size]? =some (.cells bl.toArray 36 (0,0))from((dz.block _ (ag (H1))).trans (H1)));have alS:=H_ (show W2.heap[w.heap.size+1]? =some (.cells #[a0,a1] 83 (0,0)) by have h:=H2;rw[show W1.heap.size=w.heap.size+1 by rw[yN.o]]at h;exact h);clear H1 bC dr H2 dz jK;go_wp2_with fail;refine(akI W2).mono ?_;rintro e w3 ⟨rfl,aZ⟩;have Dq:=t_ Vr aZ;have sL:=k_ aZ rP;have alR:=k_ aZ alS;clear aZ rP alS;have NO:=Dq;have iY:=sL;have al6:=alR;clear Dq sL alR;go_wp2_with (refine W_ 14 36 3 (w.heap.size) iY.o (by rw[bF];exact congrArg some kY.o.symm) Tryz.underlying36 ?_);refine(CZ.o w3 NO.o).mono ?_;rintro e w4 ⟨bf,rfl,hf,bU⟩;have zn:=t_ NO bU;have i9:=k_ bU iY;have alv:=k_ bU al6;clear bU;cases bf with
 |false=>
  clear hf;go_wp2_with fail;go_ret;exact⟨rfl,zn.o⟩
 |true=>
 have Ov:=H_ (show pI b from Og.o▸hf rfl);have ML:=H_ (j9 Ov.o N2.o);clear hf;have H61:=H_ (show n9<=300 by rw[<-HN9.o];exact Ov.o.2);go_upto_region 6 with(first|(refine W_ 17 36 3 (w.heap.size) i9.o (by rw[bF];exact congrArg some kY.o.symm) Tryz.underlying36 ?_)|(show wpList _ _ _ (Oper.mk none (Op.store _ (Operand.tmp 7) _) _ _ _ _::_) _ _;go_loud (refine aO rfl 36 (.tmp 7) (.tmp 17) rfl rfl w4 #[.string ⟨#[]⟩,(),(),(),.slice none 0 0,(),(),(),(),(),(),(),(),(),(),(),(),(),(),(),.slice none 0 0,.slice none 0 0,.slice none 0 0,.slice none 0 0,.slice none 0 0,.slice none 0 0,.string ⟨#[]⟩] 36 bl.toArray rfl rfl rfl (by rw[bF];exact congrArg some kY.o.symm) kY.o.symm HON.o ?_);intro w5 H7 em HS7))
 have HD5:=H_ H7;have al8:=H_ em;have QT:=t_ zn em;have lW:=k_ em i9;have amH:=k_ em alv;have Sc:=HK.o.keep QT.o;obtain⟨css,mH,hc4,hcE,hrd⟩:=PT (λcs x h=>aiz h) (by omega) Sc.rs;have aht:=H_ (SJ (λ_ _ h=>aiA h) mH hcE);rw[akA mH hcE,HN9.o]at hrd;rw[akA mH hcE]at aht;have aiI:=H_ hrd;have KR:=(ab lW.o 22).trans ajw.o;have LTB:=ag lW.o;have IL:=ag HD5.o;clear Sc mH hc4 hcE hrd H7 em HS7;go_upto_region 7 with(show wpList _ _ _ (Oper.mk (some 21) _ _ _ _ _::_) _ _;go_loud (refine akO rfl (.tmp 18) (.tmp 20) 31 rfl w5.heap.size 70 ib _ 4 40 Hq hib X7 Xu XU rfl (by decide) w5.heap.size rfl (heap_alloc_new _ _) (Nat.le_refl _) (·<w5.heap.size) Ar n9 cr (b.rs.flatMap fN) rfl (aiI.o.fr (Fr.ofBelow (ai w5 _))) aht.o (by simp only[maxLen];have:=H61.o;omega) (by have:=H61.o;omega) (by simp) ?_);intro v9 w9 cj kT;obtain⟨A2,n2,c2,rfl⟩:=bS cj;obtain rfl:n9=n2:=(fV cj).symm;have al0:=H_ ((ai w5 (.cells #[] 70)).trans (kT.mono (by simp)));have FT:=H_ cj;have HD9:=k_ al0.o HD5;have d22:=(ab HD9.o 22).trans ajw.o;have z22:=bB HD9.o 22;clear cj kT)
 have amF:=H_ (show(w9.setCell ⟨w4.heap.size,22,none⟩ (.slice A2 n9 c2)).ownsRow w5.heap.size 70 4 (.slice A2 n9 c2) n9 (b.rs.flatMap fN)from cU FT.o (λg hg=>Below.heap_setCell w9 ⟨w4.heap.size,22,none⟩ _ g (by show g≠w4.heap.size;have:=(FT.o.lt _ hg).1;have:=ag HD5.o;omega)));have aiH:=H_ (show(w9.setCell ⟨w4.heap.size,22,none⟩ (.slice A2 n9 c2)).heap[w4.heap.size]? =some (.cells (bl.set 22 (.slice A2 n9 c2)).toArray 36 (0,0)) by
  have h:=aG HD9.o 22 (.slice A2 n9 c2)
  rwa[List.setIfInBounds_toArray]at h)
 have alq:=H_ (show Below w4.heap.size w4 (w9.setCell ⟨w4.heap.size,22,none⟩ (.slice A2 n9 c2))from((Fr.ofBelow (al8.o.trans (al0.o.mono al8.o.size))).setCell (p:=⟨w4.heap.size,22,none⟩) (λh=>Nat.lt_irrefl _ h) _).below);have ae7:=H_ (show w5.heap.size<=(w9.setCell ⟨w4.heap.size,22,none⟩ (.slice A2 n9 c2)).heap.size by have h:=al0.o.size;simpa using h);generalize w9.setCell ⟨w4.heap.size,22,none⟩ (.slice A2 n9 c2)=w10 at*;have ahj:=t_ zn alq.o;have ag5:=k_ alq.o i9;have amc:=k_ alq.o alv;have LT5:=H_ (ag HD5.o);clear KR LTB IL d22 z22;go_wp2_with fail
 go_loopw [8] (λi wr=>∃k:Nat,k<=n9/\i=.int .i64 (k:Int)/\Below w5.heap.size w10 wr/\wr.ownsRow w5.heap.size 70 4 (.slice A2 n9 c2) n9 ((gi b.rs v k).flatMap fN)) (λi _=>n9- (intOf i).toNat)
 case atStart=>exact⟨0,by omega,rfl,Below.refl _ _,by rw[akM];exact amF.o⟩
 case round=>
  obtain⟨k,hk,rfl,hb,ho⟩:=hrel;have zI:=H_ hb;have HOR:=H_ ho;have HDR:=H_ ((hb.block _ LT5.o).trans aiH.o);have hdr:=(ab HDR.o 22).trans (amE.o _);have ldr:=ag HDR.o;have HWR:=H_ (ahj.o.trans (hb.mono QT.o.size));have amb:=H_ ((hb.block _ (Nat.lt_trans (ag alv.o) LT5.o)).trans amc.o);clear hb ho;by_cases aU:k<n9
  case neg=>
   have Kz:n9=k:=by omega
   subst Kz;have bq:¬(n9:Int)< (n9:Int):=by omega
   have HL:=H_ (show aj bN 4 wr (·<wr.heap.size) [.slice A2 n9 c2] (gi b.rs v n9)from by
    have hrb:∀y∈b.rs,cx y.kind/\cx y.when_/\cx y.value:=λy hy=>by
     obtain⟨cs,h1⟩:=HK.o.rs.elt hy;exact(io h1).2
    refine AG (f:=fN) (base:=w5.heap.size) (e:=70) (λx=>rfl) (by rw[BA,HN9.o];exact HOR.o) (λx hx=>?_) (λg hg=>(HOR.o.lt g hg).2);obtain⟨y,hy,h1,h2,h3,h4⟩:=akv hx;obtain⟨b1,b2,b3⟩:=hrb y hy;exact⟨[_],[_],[_],[_],rfl,rfl,⟨rfl,by rw[h2];exact b1⟩,⟨rfl,by rw[h3];exact b2⟩,⟨rfl,by rcases h4 with h|h<;>rw[h];exact jI.o;exact b3⟩⟩)
   have HM:=H_ (show BkC wr (·<wr.heap.size) (bl.set 22 (.slice A2 n9 c2)) ⟨b.g,b.es,(gi b.rs v n9)⟩ gl Ae ce A2 c2 tl from by
    have h:=alz (HK.o.keep HWR.o) (A2:=A2) (c2:=c2) (rs:=(gi b.rs v n9)) (by rw[BA,HN9.o];exact HL.o)
    rwa[BA,HN9.o]at h)
   have HSN:=H_ (show okB ⟨b.g,b.es,(gi b.rs v n9)⟩from⟨ML.o.1,ML.o.2.1,λr hr=>by
    obtain⟨y,hy,h1,_⟩:=akv hr;rw[h1];exact ML.o.2.2.1 y hy,by show(gi b.rs v n9).length<=_;rw[BA];exact ML.o.2.2.2⟩)
   have Sg:=H_ (show pI ⟨b.g,b.es,(gi b.rs v n9)⟩from⟨Ov.o.1,by show(gi b.rs v n9).length<=300;rw[BA];exact Ov.o.2⟩);have eY:=H_ (show alw (gi b.rs v n9) v by have h:=akV b.rs v;rwa[HN9.o]at h);have HDS:=H_ (show(bl.set 22 (.slice A2 n9 c2)).toArray.size=27 by simpa using kY.o);have RN:=Qn ⟨b.g,b.es,(gi b.rs v n9)⟩ (bl.set 22 (.slice A2 n9 c2)) gl tl Ae A2 ce c2 a0 a1 wr HM.o HSN.o ais.o;have kW:=λh=>akC (b:=⟨b.g,b.es,(gi b.rs v n9)⟩) (ent:=a0) (p:=a1) eY.o h
   have ci:=te Sg.o a0 a1;obtain⟨I1,I2,hv⟩:∃I1 I2,pQ ⟨b.g,b.es,(gi b.rs v n9)⟩ a0 a1=(I1,I2):=⟨_,_,rfl⟩;unfold rX at RN;simp only[hv]at RN kW ci;have Bi:=KG ci I1.length (Nat.le_refl _);rw[List.take_length]at Bi;have hq6:=ci.2;obtain⟨q,hq⟩:=x_ (I1.length);have HQ:=H_ hq;rw[hq]at RN kW Bi hq6;have HIT:=H_ RN;have tA:=H_ kW;have sW:=H_ ci;have Dd:=H_ Bi;have HQ6:=H_ hq6;have r0:=ab amb.o 0;have r1:=ab amb.o 1;clear RN kW ci Bi hq6 hq hv;go_wp2_with (refine W_ 37 36 7 (w4.heap.size) HDR.o (by rw[bF];exact congrArg some HDS.o.symm) Tryz.underlying36 ?_);refine HIT.o.mono ?_;rintro e w11 ⟨A11,Nt,rfl,aiq,Np⟩;have HAM:=H_ (akg aiq HQ.o sW.o w11 (Below.refl _ _));have ahi:=t_ HWR Np;obtain⟨s,hs⟩:=x_ (-f9 I1);rw[hs]at HAM;have HS:=H_ hs;clear aiq Np r0 r1 hs hdr ldr;go_wp2_with fail;refine HAM.o.mono ?_;rintro e w12 ⟨rfl,adC⟩;have ah8:=t_ ahi adC;clear adC;by_cases h2:I2=0
   case neg=>
    have h2b:(I2 !=0)=true:=by simpa using h2
    clear h2;go_wp2_with fail;go_ret;exact⟨rfl,ah8.o⟩
   case pos=>
    have kW:=tA.o h2;have Bi:=Dd.o;have hq6:=HQ6.o;have hs:=HS.o;subst h2;have ir:IntKind.i64.wrap (2*s)=2*s:=by rw[IntKind.wrap_i64];omega
    have Vn:IntKind.i64.wrap (-2*s)= -2*s:=by rw[IntKind.wrap_i64];omega
    have Fq:decide (2*s<=(q:Int))=true:=decide_eq_true (by omega);have Re:decide (-2*s<=(q:Int))=true:=decide_eq_true (by omega);clear kW Bi hq6 hs;go_wp2_with fail;go_ret;exact⟨rfl,ah8.o⟩
  case pos=>
   have bq:(k:Int)< (n9:Int):=by omega
   obtain⟨g,hA,jy,f8,al9⟩:=alM HOR.o (by omega);subst hA;obtain⟨e3,z3⟩:=al9 _ _ (ak5 (by rw[HN9.o];exact aU));have h61:=H61.o;obtain⟨ov,Cy⟩:∃x,(b.rs[k]'(by rw[HN9.o];exact aU)).value=x:=⟨_,rfl⟩;rw[Cy]at e3;have Gg:=H_ jy;clear al9 Cy jy;go_wp2_with fail;go_roundw
   case rel=>exact⟨k+1,by omega,by go_num,zI.o.setCell (p:=⟨g,k*4+3,none⟩) Gg.o _,by rw[<-alh b.rs v k (by rw[HN9.o];exact aU)];exact alN HOR.o _ (by omega)⟩
   case measure=>first|exact aQ aU|(simp only[intOf];omega)
end Go.Proofs.YtibiddakakgakaaGreat
