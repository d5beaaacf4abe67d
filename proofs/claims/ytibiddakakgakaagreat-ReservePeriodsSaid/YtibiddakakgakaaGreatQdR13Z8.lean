/- Items of the reference. Written by gen_r13.py. -/
import Derived.Test.YtibiddakakgakaaGreatQdY16Y17
set_option linter.unusedVariables false
set_option linter.unusedSimpArgs false
set_option maxRecDepth 4000
attribute [local go_sem ↓] Go.wp_at_zero Go.wp_at_succ
set_option maxHeartbeats 16000000
namespace Go.Proofs.YtibiddakakgakaaGreat
open Go Go.RowKit
def BC (V:World) (G:List (bW × Int)) (K:Nat) (v:Value) (w:World):Prop:=
 G.length<=K/\(∀q∈G,q.2=0)/\w.ownsRow V.heap.size 42 7 v G.length ((G.map (·.1)).flatMap lq)/\Below V.heap.size V w
theorem BC.below {V:World} {G:List (bW × Int)} {K:Nat} {v:Value} {w w':World} (h:BC V G K v w) (hb:Below w.heap.size w w'):BC V G K v w':=
 ⟨h.1,h.2.1,bb h.2.2.1 hb,h.2.2.2.trans (hb.mono h.2.2.2.size)⟩
theorem BC.done {V:World} {G:List (bW × Int)} {K:Nat} {v:Value} {w:World} (h:BC V G K v w):∃A c,v=.slice A (kH G).1.length c/\(kH G).2=0/\ItV w (·<w.heap.size) (.slice A (kH G).1.length c) (kH G).1:=by
 obtain⟨h2,h4,h5,h6⟩:=h;rw[DP h4];have h5':w.ownsRow V.heap.size 42 7 v (G.map (·.1)).length ((G.map (·.1)).flatMap lq):=by rw[List.length_map];exact h5
 obtain⟨A,m,c,rfl⟩:=bS h5';obtain rfl:=fV h5';exact⟨A,c,rfl,rfl,AG (f:=lq) (λ_=>rfl) h5' (λ_ _=>rfl) (λq hq=>(h5'.lt q hq).2)⟩
theorem akD (b:XBk) (ent p:Int):∃x0 x1 x2 x3 c,akh b ent p=([x0,x1,x2,x3],c):=by
 unfold akh akn;split
 ·exact⟨_,_,_,_,_,rfl⟩
 ·split
  ·exact⟨_,_,_,_,_,rfl⟩
  ·exact⟨_,_,_,_,_,rfl⟩
theorem alf {b:XBk} {ent p:Int} {x0 x1 x2 x3 y0 y1 y2 y3:Int} (h1:akh b ent p=([x0,x1,x2,x3],0)) (h2:akh b ent (p+1)=([y0,y1,y2,y3],0)):(pQ b ent p).2=0/\x3= -f9 (pQ b ent p).1/\y0= -f9 (pQ b ent p).1:=by
 obtain⟨B,_,_,hi,he⟩:=akt (b:=b) (ent:=ent) (p:=p) (by rw[h1]);obtain⟨B2,_,hB,tV,Rx⟩:=akt (b:=b) (ent:=ent) (p:=p+1) (by rw[h2]);have hp:0<=p:=(vN (rl hi).1).2.2.1;have hB:=hB (by omega);rw[show p+1- 1=p by omega]at hB;rw[h1]at he;rw[h2]at Rx;unfold akn at he Rx;simp only[Prod.mk.injEq,List.cons.injEq,and_true]at he Rx;refine⟨hi,he.2.2.2,?_⟩;rw[Rx.1,hB]
theorem akm (b:XBk) (bl gl tl:List Value) (Ae Ar:Option Addr) (ce cr:Nat) (ent p:Int) (w:World) (hk:BkC w (·<w.heap.size) bl b gl Ae ce Ar cr tl) (bP:Fb b) (lX:cx p):Calls Tryz.prog 15 #[.agg bl.toArray,ent,p] w (ap w (.bool true)):=by
 have CZ:=H_ (λ(w2:World) (hb:Below w.heap.size w w2)=>BQ b bl gl tl Ae Ar ce cr w2 (hk.keep hb) bP.1 bP.2.1);have kY:=H_ (show bl.toArray.size=27 by have:=hk.len;simpa using this);have HK:=H_ hk;have N2:=H_ bP;have zU:=H_ (λ(w2:World) (hb:Below w.heap.size w w2) (hf:pI b)=>ak8 b bl gl tl Ae Ar ce cr ent p w2 (hk.keep hb) (j9 hf bP) lX hf);have sU:=H_ (λ(QQ:p<=1000) (w2:World) (hb:Below w.heap.size w w2) (hf:pI b)=>ak8 b bl gl tl Ae Ar ce cr ent (p+1) w2 (hk.keep hb) (j9 hf bP) (by unfold cx at*;omega) hf);have HIT:=H_ (λ(w2:World) (hb:Below w.heap.size w w2) (hf:pI b)=>Qn b bl gl tl Ae Ar ce cr ent p w2 (hk.keep hb) (j9 hf bP) lX);have Yf:=H_ lX;obtain⟨x0,x1,x2,x3,e1,hv⟩:=akD b ent p;obtain⟨y0,y1,y2,y3,e2,hu⟩:=akD b ent (p+1);obtain⟨L,le,hL⟩:∃L le,pQ b ent p=(L,le):=⟨_,_,rfl⟩;have HNX:=H_ (show e1=0->e2=0->le=0/\x3= -f9 L/\y0= -f9 L from λh1 h2=>by
  have h:=alf (by rw[hv,h1]) (by rw[hu,h2]);rw[hL]at h;exact h)
 have amz:=H_ (show pI b->aks L from λhf=>by
  have h:=te hf ent p;rw[hL]at h;exact h)
 unfold rX at HIT;simp only[hL]at HIT;simp only[hv,hu,exC,List.map_cons,List.map_nil]at zU sU;obtain⟨fw,Od⟩:∃q:Prop,pI b=q:=⟨_,rfl⟩;rw[Od]at CZ;have Og:=H_ Od;clear hk bP Od lX hv hu hL;go_enter Tryz.func15,Tryz.ntmps15;go_upto_region 1 with fail;obtain⟨W1,cS,H1,bC,dr,ewx⟩:=B_ w (.cells bl.toArray 36);rw[cS];clear ewx;have yN:=H_ (show W1.heap.size=w.heap.size+1 by rw[<-cS];simp);clear cS;have NV:=H_ bC;have akW:=H_ (show W1.heap[w.heap.size]? =some (.cells bl.toArray 36 (0,0))from H1);clear H1 bC dr;go_wp2_with fail;refine(akI W1).mono ?_;rintro e w3 ⟨rfl,aZ⟩;have Dq:=t_ NV aZ;have sL:=k_ aZ akW;clear aZ akW;have NO:=Dq;have iY:=sL;clear Dq sL;go_wp2_with (refine W_ 15 36 3 (w.heap.size) iY.o (by rw[bF];exact congrArg some kY.o.symm) Tryz.underlying36 ?_);refine(CZ.o w3 NO.o).mono ?_;rintro e w4 ⟨bf,rfl,hf,bU⟩;have zn:=t_ NO bU;have i9:=k_ bU iY;clear bU;cases bf with
 |false=>
  clear hf;go_wp2_with fail;go_ret;exact⟨rfl,zn.o⟩
 |true=>
 have Ov:=H_ (show pI b from Og.o▸hf rfl);have ML:=H_ (j9 Ov.o N2.o);clear hf;by_cases hp:p>1000
 case pos=>
  have lX:decide (p>1000)=true:=decide_eq_true hp;clear hp;go_wp2_with fail;go_ret;exact⟨rfl,zn.o⟩
 case neg=>
 have HP1:=H_ (show p<=1000 by omega);have sQ:decide (p>1000)=false:=decide_eq_false hp;have hwp:IntKind.i64.wrap (p+1)=p+1:=by rw[IntKind.wrap_i64];have:=Yf.o;unfold cx at this;omega
 clear hp;go_wp2_with (refine W_ 23 36 3 (w.heap.size) i9.o (by rw[bF];exact congrArg some kY.o.symm) Tryz.underlying36 ?_);refine(zU.o w4 zn.o Ov.o).mono ?_;rintro e w5 ⟨rfl,cP⟩;have QT:=t_ zn cP;have lW:=k_ cP i9;clear cP;go_upto_region 6 with(show wpList _ _ _ (Oper.mk none (Op.store _ (Operand.tmp 7) _) _ _ _ _::_) _ _;refine aO rfl 88 (.tmp 7) (.tmp 27) rfl rfl w5 #[(),(),(),()] 88 #[x0,x1,x2,x3] rfl rfl rfl p7 rfl (by simp[Value.oneCell']) ?_;intro W6 H6 dK my)
 have Y9:=H_ H6;have TR:=t_ QT dK;have px:=k_ dK lW;clear H6 dK my;go_wp2_with (refine W_ 30 36 3 (w.heap.size) px.o (by rw[bF];exact congrArg some kY.o.symm) Tryz.underlying36 ?_);refine(sU.o HP1.o W6 TR.o Ov.o).mono ?_;rintro e w7 ⟨rfl,fC⟩;have HW7:=t_ TR fC;have pB:=k_ fC px;have XP:=k_ fC Y9;clear fC;go_upto_region 7 with(show wpList _ _ _ (Oper.mk none (Op.store _ (Operand.tmp 9) _) _ _ _ _::_) _ _;refine aO rfl 88 (.tmp 9) (.tmp 35) rfl rfl w7 #[(),(),(),()] 88 #[y0,y1,y2,y3] rfl rfl rfl p7 rfl (by simp[Value.oneCell']) ?_;intro W8 H8 o9 XW)
 have HY8:=H_ H8;have HX8:=k_ o9 XP;have NJ:=k_ o9 pB;have HW8:=t_ HW7 o9;clear H8 o9 XW;go_wp2_with (refine W_ 38 36 3 (w.heap.size) NJ.o (by rw[bF];exact congrArg some kY.o.symm) Tryz.underlying36 ?_);refine(HIT.o W8 HW8.o Ov.o).mono ?_;rintro e w9 ⟨A9,c9,rfl,NW,kT⟩;have HL9:=H_ NW;have HW9:=t_ HW8 kT;have ad2:=k_ kT NJ;have HX9:=k_ kT HX8;have HY9:=k_ kT HY8;clear kT;clear NW;by_cases h1:e1=0
 case neg=>
  have h1b:(e1 !=0)=true:=by simpa using h1
  clear h1;go_wp2_with fail;go_ret;exact⟨rfl,HW9.o⟩
 case pos=>
 subst h1;by_cases h2:e2=0
 case neg=>
  have h2b:(e2 !=0)=true:=by simpa using h2
  clear h2;go_wp2_with fail;go_ret;exact⟨rfl,HW9.o⟩
 case pos=>
 subst h2;obtain⟨hz,Bq,kz⟩:=HNX.o (by first|rfl|trivial) (by first|rfl|trivial);subst hz;have sW:=H_ (amz.o Ov.o);obtain⟨s,hs⟩:=x_ (-f9 L);rw[hs]at Bq kz;have Bq:=Bq.symm;have kz:=kz.symm;subst Bq;subst kz;obtain⟨q,hq⟩:=x_ (L.length);have HAM:=H_ (akg HL9.o rfl sW.o);rw[hs,hq]at HAM;rw[hq];have KX3:=H_ (ab HX9.o 3);have KY0:=H_ (ab HY9.o 0);have LTX:=H_ (ag HX9.o);have LTY:=H_ (ag HY9.o);clear hs hq;go_upto_region 10 with fail;refine bk (Ks w9 [(),true,true,.val (.pointer (some ⟨w5.heap.size,3,none⟩)),s,.val (.pointer (some ⟨w7.heap.size,0,none⟩)),s,true,true,true,.val (.pointer (some ⟨w5.heap.size,3,none⟩)),s,.val (.slice A9 q c9),s,true,true,true])
  (λw'=>Below w9.heap.size w9 w') K_ K_ K_ (Below.refl _ _).drew ?_ ?_
 ·refine⟨b_ (q_ 12),b_ (p_ 0 50),b_ (p_ 1 51),f_ (q_ 7),h_ (p_ 3 53) λ_ h=>l_ h LTX.o KX3.o,f_ (q_ 9),h_ (p_ 5 55) (p:=⟨w7.heap.size,0,none⟩) λ_ h=>l_ h LTY.o KY0.o,g_ (p_ 4 54) (p_ 6 56),c_ (p_ 2 52) (p_ 7 57),b_ (p_ 8 58),f_ (q_ 7),h_ (p_ 10 60) λ_ h=>l_ h LTX.o KX3.o,f_ (q_ 11),?_,g_ (p_ 11 61) (p_ 13 63),c_ (p_ 9 59) (p_ 14 64),b_ (p_ 15 65),trivial⟩
  ·refine P1_ (p_ 12 62) λA0 w2 K e0 hS hK=>?_;go_simp
   go_at_call 38
   refine(HAM.o _ hS).mono ?_;rintro e w3 ⟨rfl,h3⟩;exact hK.out _ _ (hS.trans (h3.mono hS.size)) (Ks.of rfl rfl) (Ks.keep h3)
 ·intro _ A0 w2 hI hall;have hS:=hI.world;have c9:=hI.ch hall [50,51,52,53,54,55,56,57,58,59,60,61,62,63,64,65,6];obtain⟨x0,x1,x2,x3,x4,x5,x6,x7,x8,x9,dN,ef,fh,gU,LR,jH,jZ,hA,hV⟩:=c9;obtain rfl:jH=.bool true:=hV 15 _ _ rfl _ rfl;obtain rfl:jZ=.bool true:=hV 16 _ _ rfl _ rfl;clear hV hI hall;simp only[ba,List.foldl,List.setIfInBounds_toArray,List.set_cons_zero,List.set_cons_succ]at hA;rw[hA];clear hA;have HBN:=t_ HW9 hS;clear hS;go_wp2_with fail;go_ret;exact⟨rfl,HBN.o⟩
end Go.Proofs.YtibiddakakgakaaGreat
