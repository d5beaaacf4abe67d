/- Charts: Valid. Written by gen_b15.py. -/
import Derived.Test.YtibiddakakgakaaGreatQdB13B14
set_option linter.unusedVariables false
set_option linter.unusedSimpArgs false
set_option maxRecDepth 4000
attribute [local go_sem ↓] Go.wp_at_zero Go.wp_at_succ
set_option maxHeartbeats 16000000
namespace Go.Proofs.YtibiddakakgakaaGreat
open Go Go.RowKit
section
variable (l:List ah) (A:Option Addr) (c n:Nat) (w:World) (hN:l.length=n) (hl:aj ar 4 w (·<w.heap.size) [.slice A l.length c] l) (hn:l.length<=1000)
include hN hl hn in
theorem rq (a:ah) (g:Bool) (m3:pG a) (lN:(aK l a.code).isSome=true):Calls Tryz.prog 212 #[.slice A n c,.agg (bn a).toArray,g] w (ap w (.bool (dF l g a))):=by
 subst hN;exact Px l A c a g w hl m3 hn lN
include hN hl hn in
theorem kp (a:ah) (g:Bool) (m3:pG a):Calls Tryz.prog 220 #[.slice A n c,.agg (bn a).toArray,g] w (ap w (.bool (ea l g a))):=by
 subst hN;exact L9 l A c a g w hl m3 hn
end
theorem Ck {l:List ah} {g:Bool} {i:Nat} {a:ah} (h:l[i]? =some a):tI l g i=(!(decide (0<i)&&decide ((l.getD (i- 1) {}).code≥a.code))&&dF l g a):=by unfold tI;rw[h]
theorem vf {l:List ah} {g:Bool} {i:Nat} {a:ah} (h:l[i]? =some a):sE l g i=(ea l g a&&!(decide (0<i)&&decide (a.code<=(l.getD (i- 1) {}).code))&&decide ((upR l (l.length+1) [] a.code).length<=l.length)):=by unfold sE;rw[h]
theorem HU {l:List ah} {g:Bool} {j:Nat} {a b:ah} (h:l[j+1]? =some a) (hb:l[j]? =some b) (ho:a.code<=b.code):tI l g (j+1)=false:=by
 rw[Ck h,Nat.add_sub_cancel,List.getD_eq_getElem?_getD,hb,Option.getD_some,decide_eq_true ho,decide_eq_true (Nat.succ_pos j)];rfl
theorem AQ {l:List ah} {g:Bool} {j:Nat} {a b:ah} (h:l[j+1]? =some a) (hb:l[j]? =some b) (ho:¬a.code<=b.code):tI l g (j+1)=dF l g a:=by
 rw[Ck h,Nat.add_sub_cancel,List.getD_eq_getElem?_getD,hb,Option.getD_some,decide_eq_false (show ¬b.code≥a.code by omega)];simp
theorem yj {l:List ah} {g:Bool} {a:ah} (h:l[0]? =some a):tI l g 0=dF l g a:=by
 rw[Ck h];simp
theorem Qv {j:Nat} (h:j<=1000):IntKind.i64.wrap (j:Int)=(j:Int):=by
 rw[IntKind.wrap_i64];omega
theorem qQ (l:List ah) (A:Option Addr) (c:Nat) (g:Bool) (w:World) (hl:aj ar 4 w (·<w.heap.size) [.slice A l.length c] l) (hn:l.length<=1000):Calls Tryz.prog 179 #[.slice A l.length c,g] w (ap w (.bool (ej l g))):=by
 obtain⟨r,hr⟩:=x_ (ej l g);rw[hr];have HR:=H_ hr;clear hr;obtain⟨n,bj⟩:=x_ (l.length);have rC:=H_ hn;rw[bj]at hn;have HL:=H_ hl;have HN:=H_ bj;rw[bj];clear hl bj;go_enter Tryz.func179,Tryz.ntmps179;go_wp2_with fail
 go_loopw [9] (λi wr=>∃k:Nat,k<=n/\i=.int .i64 (k:Int)/\Below w.heap.size w wr/\∀j,j<k->tI l g j=true) (λi _=>n- (intOf i).toNat)
 case atStart=>exact⟨0,by omega,rfl,Below.refl _ _,λj hj=>by omega⟩
 case round=>
  obtain⟨k,hk,rfl,hb,hall⟩:=hrel;have HA:=H_ hall;clear hall;have bP:=hb.size;by_cases aU:k<n
  case pos=>
   have bq:(k:Int)< (n:Int):=by omega
   have bI:k<l.length:=by rw[HN.o];exact aU
   obtain⟨b,o,dj,ed,hall⟩:=aj.base HL.o (by omega);subst dj;obtain⟨es,bL,aS⟩:=hall k bI;obtain⟨bE,m3⟩:=ar.lit bL;rw[bE]at aS;have eY:=H_ hall;clear hall;obtain⟨ac,ni⟩:=x_ (l[k]);rw[ni]at aS m3;have lL:=H_ (show(aK l ac.code).isSome=true by rw[<-ni];exact qT (List.getElem_mem bI));have nH:=H_ (show l[k]? =some ac by rw[List.getElem?_eq_getElem bI,ni]);have eZ:=H_ ((aS.fr (Fr.ofBelow hb)).range);have zQ:=H_ m3;clear bL bE aS ni m3;obtain⟨c1,c2,c3,c4⟩:=ac;obtain⟨V,hV⟩:=x_ (wr.alloc (.cells #[c1,c2,c3,c4] 78));have h6:=heap_alloc_new wr (.cells #[c1,c2,c3,c4] 78);rw[hV]at h6;have Ku:Below w.heap.size w V:=by rw[<-hV];exact hb.alloc bP _
   have hrV:Below wr.heap.size wr V:=by rw[<-hV];exact ai _ _
   have HV6:=H_ (ag h6);have K6:=H_ (ab h6 0);have H6:=H_ h6;have qu:=H_ (az HL.o Ku);have lU:=H_ (show b<V.heap.size by have:=Ku.size;omega);have Ys:=H_ hV;clear h6 hV;rcases Nat.eq_zero_or_pos k with Fm|Fm
   ·subst Fm;cases hp:dF l g ⟨c1,c2,c3,c4⟩with
    |true=>
     have HP:=H_ hp;have gc:=H_ (show tI l g 0=true by rw[yj nH.o];exact hp);clear hp;go_upto_region 4 with(refine w_ 13 78 12 b (o+0*4) (bn ⟨c1,c2,c3,c4⟩) eZ.o (cG _) Tryz.underlying78 ?_);rw[Ys.o];refine bk (Ks V [(),false,false,undef,undef,undef,undef,undef,undef,undef,undef,undef,false,false,.val (.slice (some ⟨b,o,none⟩) n c),.val (.agg (bn ⟨c1,c2,c3,c4⟩).toArray),g,true,false,false])
      (λw'=>Below V.heap.size V w') K_ K_ K_ (Below.refl _ _).drew ?_ ?_
     ·refine⟨b_ (q_ 5),b_ (p_ 0 14),b_ (p_ 1 15),n_,n_,n_,n_,n_,n_,n_,n_,n_,c_ (p_ 2 16) (p_ 11 25),b_ (p_ 12 26),f_ (q_ 0),?_,f_ (q_ 1),?_,f_ (p_ 17 31),c_ (p_ 13 27) (p_ 18 32),trivial⟩
      ·refine P1_ (q_ 6) λA0 w2 K e0 hS hK=>?_;have aJ:=((dO (cs:=bn ⟨c1,c2,c3,c4⟩) H6.o).fr (Fr.ofBelow hS)).range;have aI:=cG ⟨c1,c2,c3,c4⟩;refine wp_load_mid 78 (.tmp 6) rfl _ _ (v_ e0) _ _ aJ Tryz.underlying78 rfl aI ?_;exact kq hK hS rfl
      ·refine P3_ (p_ 14 28) (p_ 15 29) (p_ 16 30) λA0 w2 K e0 e1 e2 hS hK=>?_;go_simp
       go_at_call 212
       refine(rq l _ c n w2 HN.o (az qu.o hS) rC.o ⟨c1,c2,c3,c4⟩ g zQ.o lL.o).mono ?_;rintro e w3 ⟨rfl,h3⟩;exact hK.out _ _ (hS.trans (h3.mono hS.size)) (Ks.of rfl (congrArg Value.bool HP.o)) (Ks.keep h3)
     ·intro _ A0 w2 hI hall;have hS:=hI.world;have c9:=hI.ch hall [14,15,16,17,18,19,20,21,22,23,24,25,26,27,28,29,30,31,32,33];obtain⟨x0,x1,x2,x3,x4,x5,x6,x7,x8,x9,dN,ef,fh,gU,LR,jH,jZ,kv,lR,kh,hA,hV⟩:=c9;obtain rfl:kh=.bool false:=hV 19 _ _ rfl _ rfl;clear hV hI hall;simp only[ba,List.foldl,List.setIfInBounds_toArray,List.set_cons_zero,List.set_cons_succ]at hA;rw[hA];clear hA;go_wp2_with fail;go_roundw
      case rel=>exact⟨0+1,by omega,by go_num,Ku.trans (hS.mono Ku.size),λi hi=>by
       rcases Nat.lt_or_ge i (0)with h|h
       ·exact HA.o i h
       ·have:i=0:=by omega
        subst this;exact gc.o⟩
      case measure=>
       have e:wrap64 ((0:Int)+1)=((0+1:Nat):Int):=by unfold wrap64;omega
       simp only[intOf,e];omega
    |false=>
     have HP:=H_ hp;have hf:=H_ (show r=false by rw[<-HR.o];unfold ej;rw[bt bI (by rw[yj nH.o];exact hp)];rfl);clear hp;go_upto_region 4 with(refine w_ 13 78 12 b (o+0*4) (bn ⟨c1,c2,c3,c4⟩) eZ.o (cG _) Tryz.underlying78 ?_);rw[Ys.o];refine bk (Ks V [(),false,false,undef,undef,undef,undef,undef,undef,undef,undef,undef,false,false,.val (.slice (some ⟨b,o,none⟩) n c),.val (.agg (bn ⟨c1,c2,c3,c4⟩).toArray),g,false,true,true])
      (λw'=>Below V.heap.size V w') K_ K_ K_ (Below.refl _ _).drew ?_ ?_
     ·refine⟨b_ (q_ 5),b_ (p_ 0 14),b_ (p_ 1 15),n_,n_,n_,n_,n_,n_,n_,n_,n_,c_ (p_ 2 16) (p_ 11 25),b_ (p_ 12 26),f_ (q_ 0),?_,f_ (q_ 1),?_,f_ (p_ 17 31),c_ (p_ 13 27) (p_ 18 32),trivial⟩
      ·refine P1_ (q_ 6) λA0 w2 K e0 hS hK=>?_;have aJ:=((dO (cs:=bn ⟨c1,c2,c3,c4⟩) H6.o).fr (Fr.ofBelow hS)).range;have aI:=cG ⟨c1,c2,c3,c4⟩;refine wp_load_mid 78 (.tmp 6) rfl _ _ (v_ e0) _ _ aJ Tryz.underlying78 rfl aI ?_;exact kq hK hS rfl
      ·refine P3_ (p_ 14 28) (p_ 15 29) (p_ 16 30) λA0 w2 K e0 e1 e2 hS hK=>?_;go_simp
       go_at_call 212
       refine(rq l _ c n w2 HN.o (az qu.o hS) rC.o ⟨c1,c2,c3,c4⟩ g zQ.o lL.o).mono ?_;rintro e w3 ⟨rfl,h3⟩;exact hK.out _ _ (hS.trans (h3.mono hS.size)) (Ks.of rfl (congrArg Value.bool HP.o)) (Ks.keep h3)
     ·intro _ A0 w2 hI hall;have hS:=hI.world;have c9:=hI.ch hall [14,15,16,17,18,19,20,21,22,23,24,25,26,27,28,29,30,31,32,33];obtain⟨x0,x1,x2,x3,x4,x5,x6,x7,x8,x9,dN,ef,fh,gU,LR,jH,jZ,kv,lR,kh,hA,hV⟩:=c9;obtain rfl:kh=.bool true:=hV 19 _ _ rfl _ rfl;clear hV hI hall;simp only[ba,List.foldl,List.setIfInBounds_toArray,List.set_cons_zero,List.set_cons_succ]at hA;rw[hA];clear hA;go_wp2_with fail;go_ret;exact⟨hf.o.symm▸rfl,Ku.trans (hS.mono Ku.size)⟩
   ·obtain⟨j,rfl⟩:∃j,k=j+1:=⟨k- 1,by omega⟩;have FE:j<n:=by omega
    have XS:=H_ (Qv (j:=j) (by omega));obtain⟨MJ,iy,dt⟩:=eY.o j (by omega);obtain⟨qp,_⟩:=ar.lit iy;rw[qp]at dt;obtain⟨pr,Kd⟩:=x_ (l[j]'(by omega));rw[Kd]at dt;have zU:=H_ (show l[j]? =some pr by rw[List.getElem?_eq_getElem (by omega),Kd]);have KP:=H_ (((dt.fr (Fr.ofBelow Ku)).c (j:=0) rfl:_));clear iy qp dt Kd;obtain⟨p1,p2,p3,p4⟩:=pr;by_cases ho:c1<=p1
    ·have hf:=H_ (show r=false by rw[<-HR.o];unfold ej;rw[bt bI (HU nH.o zU.o ho)];rfl);go_upto_region 4 with(refine w_ 13 78 12 b (o+(j+1)*4) (bn ⟨c1,c2,c3,c4⟩) eZ.o (cG _) Tryz.underlying78 ?_);rw[Ys.o];refine bk (Ks V [((j+1:Nat):Int),true,true,.val (.slice (some ⟨b,o,none⟩) n c),((j+1:Nat):Int),(j:Int),.val (.pointer (some ⟨b,o+j*4,none⟩)),.val (.pointer (some ⟨b,o+j*4,none⟩)),p1,.val (.pointer (some ⟨wr.heap.size,0,none⟩)),c1,true,true,true,undef,undef,undef,undef,undef,true])
      (λw'=>Below V.heap.size V w') K_ K_ K_ (Below.refl _ _).drew ?_ ?_
     ·refine⟨b_ (q_ 5),b_ (p_ 0 14),b_ (p_ 1 15),f_ (q_ 0),f_ (q_ 5),?_,g_ (p_ 3 17) (p_ 5 19),f_ (p_ 6 20),h_ (p_ 7 21) (p:=⟨b,o+j*4,none⟩) λ_ h=>l_ h lU.o KP.o,f_ (q_ 6),h_ (p_ 9 23) (p:=⟨wr.heap.size,0,none⟩) λ_ h=>l_ h HV6.o K6.o,g_ (p_ 8 22) (p_ 10 24),c_ (p_ 2 16) (p_ 11 25),b_ (p_ 12 26),n_,n_,n_,n_,n_,c_ (p_ 13 27) (p_ 18 32),trivial⟩
      ·refine P1_ (p_ 4 18) λA0 w2 K e0 hS hK=>?_;go_simp;exact hK.out _ _ hS (Ks.of rfl (congrArg (Value.int .i64) XS.o)) (λ_ _ h=>h)
     ·intro _ A0 w2 hI hall;have hS:=hI.world;have c9:=hI.ch hall [14,15,16,17,18,19,20,21,22,23,24,25,26,27,28,29,30,31,32,33];obtain⟨x0,x1,x2,x3,x4,x5,x6,x7,x8,x9,dN,ef,fh,gU,LR,jH,jZ,kv,lR,kh,hA,hV⟩:=c9;obtain rfl:kh=.bool true:=hV 19 _ _ rfl _ rfl;clear hV hI hall;simp only[ba,List.foldl,List.setIfInBounds_toArray,List.set_cons_zero,List.set_cons_succ]at hA;rw[hA];clear hA;go_wp2_with fail;go_ret;exact⟨hf.o.symm▸rfl,Ku.trans (hS.mono Ku.size)⟩
    ·cases hp:dF l g ⟨c1,c2,c3,c4⟩with
     |true=>
      have HP:=H_ hp;have gc:=H_ (show tI l g (j+1)=true by rw[AQ nH.o zU.o ho];exact hp);clear hp;go_upto_region 4 with(refine w_ 13 78 12 b (o+(j+1)*4) (bn ⟨c1,c2,c3,c4⟩) eZ.o (cG _) Tryz.underlying78 ?_);rw[Ys.o];refine bk (Ks V [((j+1:Nat):Int),true,true,.val (.slice (some ⟨b,o,none⟩) n c),((j+1:Nat):Int),(j:Int),.val (.pointer (some ⟨b,o+j*4,none⟩)),.val (.pointer (some ⟨b,o+j*4,none⟩)),p1,.val (.pointer (some ⟨wr.heap.size,0,none⟩)),c1,false,false,false,.val (.slice (some ⟨b,o,none⟩) n c),.val (.agg (bn ⟨c1,c2,c3,c4⟩).toArray),g,true,false,false])
       (λw'=>Below V.heap.size V w') K_ K_ K_ (Below.refl _ _).drew ?_ ?_
      ·refine⟨b_ (q_ 5),b_ (p_ 0 14),b_ (p_ 1 15),f_ (q_ 0),f_ (q_ 5),?_,g_ (p_ 3 17) (p_ 5 19),f_ (p_ 6 20),h_ (p_ 7 21) (p:=⟨b,o+j*4,none⟩) λ_ h=>l_ h lU.o KP.o,f_ (q_ 6),h_ (p_ 9 23) (p:=⟨wr.heap.size,0,none⟩) λ_ h=>l_ h HV6.o K6.o,g_ (p_ 8 22) (p_ 10 24),c_ (p_ 2 16) (p_ 11 25),b_ (p_ 12 26),f_ (q_ 0),?_,f_ (q_ 1),?_,f_ (p_ 17 31),c_ (p_ 13 27) (p_ 18 32),trivial⟩
       ·refine P1_ (p_ 4 18) λA0 w2 K e0 hS hK=>?_;go_simp;exact hK.out _ _ hS (Ks.of rfl (congrArg (Value.int .i64) XS.o)) (λ_ _ h=>h)
       ·refine P1_ (q_ 6) λA0 w2 K e0 hS hK=>?_;have aJ:=((dO (cs:=bn ⟨c1,c2,c3,c4⟩) H6.o).fr (Fr.ofBelow hS)).range;have aI:=cG ⟨c1,c2,c3,c4⟩;refine wp_load_mid 78 (.tmp 6) rfl _ _ (v_ e0) _ _ aJ Tryz.underlying78 rfl aI ?_;exact kq hK hS rfl
       ·refine P3_ (p_ 14 28) (p_ 15 29) (p_ 16 30) λA0 w2 K e0 e1 e2 hS hK=>?_;go_simp
        go_at_call 212
        refine(rq l _ c n w2 HN.o (az qu.o hS) rC.o ⟨c1,c2,c3,c4⟩ g zQ.o lL.o).mono ?_;rintro e w3 ⟨rfl,h3⟩;exact hK.out _ _ (hS.trans (h3.mono hS.size)) (Ks.of rfl (congrArg Value.bool HP.o)) (Ks.keep h3)
      ·intro _ A0 w2 hI hall;have hS:=hI.world;have c9:=hI.ch hall [14,15,16,17,18,19,20,21,22,23,24,25,26,27,28,29,30,31,32,33];obtain⟨x0,x1,x2,x3,x4,x5,x6,x7,x8,x9,dN,ef,fh,gU,LR,jH,jZ,kv,lR,kh,hA,hV⟩:=c9;obtain rfl:kh=.bool false:=hV 19 _ _ rfl _ rfl;clear hV hI hall;simp only[ba,List.foldl,List.setIfInBounds_toArray,List.set_cons_zero,List.set_cons_succ]at hA;rw[hA];clear hA;go_wp2_with fail;go_roundw
       case rel=>exact⟨j+1+1,by omega,by go_num,Ku.trans (hS.mono Ku.size),λi hi=>by
        rcases Nat.lt_or_ge i (j+1)with h|h
        ·exact HA.o i h
        ·have:i=j+1:=by omega
         subst this;exact gc.o⟩
       case measure=>
        have e:wrap64 ((((j+1:Nat):Int):Int)+1)=((j+1+1:Nat):Int):=by unfold wrap64;omega
        simp only[intOf,e];omega
     |false=>
      have HP:=H_ hp;have hf:=H_ (show r=false by rw[<-HR.o];unfold ej;rw[bt bI (by rw[AQ nH.o zU.o ho];exact hp)];rfl);clear hp;go_upto_region 4 with(refine w_ 13 78 12 b (o+(j+1)*4) (bn ⟨c1,c2,c3,c4⟩) eZ.o (cG _) Tryz.underlying78 ?_);rw[Ys.o];refine bk (Ks V [((j+1:Nat):Int),true,true,.val (.slice (some ⟨b,o,none⟩) n c),((j+1:Nat):Int),(j:Int),.val (.pointer (some ⟨b,o+j*4,none⟩)),.val (.pointer (some ⟨b,o+j*4,none⟩)),p1,.val (.pointer (some ⟨wr.heap.size,0,none⟩)),c1,false,false,false,.val (.slice (some ⟨b,o,none⟩) n c),.val (.agg (bn ⟨c1,c2,c3,c4⟩).toArray),g,false,true,true])
       (λw'=>Below V.heap.size V w') K_ K_ K_ (Below.refl _ _).drew ?_ ?_
      ·refine⟨b_ (q_ 5),b_ (p_ 0 14),b_ (p_ 1 15),f_ (q_ 0),f_ (q_ 5),?_,g_ (p_ 3 17) (p_ 5 19),f_ (p_ 6 20),h_ (p_ 7 21) (p:=⟨b,o+j*4,none⟩) λ_ h=>l_ h lU.o KP.o,f_ (q_ 6),h_ (p_ 9 23) (p:=⟨wr.heap.size,0,none⟩) λ_ h=>l_ h HV6.o K6.o,g_ (p_ 8 22) (p_ 10 24),c_ (p_ 2 16) (p_ 11 25),b_ (p_ 12 26),f_ (q_ 0),?_,f_ (q_ 1),?_,f_ (p_ 17 31),c_ (p_ 13 27) (p_ 18 32),trivial⟩
       ·refine P1_ (p_ 4 18) λA0 w2 K e0 hS hK=>?_;go_simp;exact hK.out _ _ hS (Ks.of rfl (congrArg (Value.int .i64) XS.o)) (λ_ _ h=>h)
       ·refine P1_ (q_ 6) λA0 w2 K e0 hS hK=>?_;have aJ:=((dO (cs:=bn ⟨c1,c2,c3,c4⟩) H6.o).fr (Fr.ofBelow hS)).range;have aI:=cG ⟨c1,c2,c3,c4⟩;refine wp_load_mid 78 (.tmp 6) rfl _ _ (v_ e0) _ _ aJ Tryz.underlying78 rfl aI ?_;exact kq hK hS rfl
       ·refine P3_ (p_ 14 28) (p_ 15 29) (p_ 16 30) λA0 w2 K e0 e1 e2 hS hK=>?_;go_simp
        go_at_call 212
        refine(rq l _ c n w2 HN.o (az qu.o hS) rC.o ⟨c1,c2,c3,c4⟩ g zQ.o lL.o).mono ?_;rintro e w3 ⟨rfl,h3⟩;exact hK.out _ _ (hS.trans (h3.mono hS.size)) (Ks.of rfl (congrArg Value.bool HP.o)) (Ks.keep h3)
      ·intro _ A0 w2 hI hall;have hS:=hI.world;have c9:=hI.ch hall [14,15,16,17,18,19,20,21,22,23,24,25,26,27,28,29,30,31,32,33];obtain⟨x0,x1,x2,x3,x4,x5,x6,x7,x8,x9,dN,ef,fh,gU,LR,jH,jZ,kv,lR,kh,hA,hV⟩:=c9;obtain rfl:kh=.bool true:=hV 19 _ _ rfl _ rfl;clear hV hI hall;simp only[ba,List.foldl,List.setIfInBounds_toArray,List.set_cons_zero,List.set_cons_succ]at hA;rw[hA];clear hA;go_wp2_with fail;go_ret;exact⟨hf.o.symm▸rfl,Ku.trans (hS.mono Ku.size)⟩
  case neg=>
   have bq:¬(k:Int)< (n:Int):=by omega
   have hall:(List.range l.length).all (tI l g)=true:=bQ (λj hj=>HA.o j (by have:=HN.o;omega));have HF:=H_ (show r=decide (n<=200) by rw[<-HR.o];unfold ej;rw[hall,HN.o];rfl);clear hall;by_cases h2:n<=200
   ·have yX:(n:Int)<=200:=by omega
    have hf:=H_ (show r=true by rw[HF.o];exact decide_eq_true h2);go_wp2_with fail;go_ret;exact⟨hf.o.symm▸rfl,hb⟩
   ·have yX:¬(n:Int)<=200:=by omega
    have hf:=H_ (show r=false by rw[HF.o];exact decide_eq_false h2);go_wp2_with fail;go_ret;exact⟨hf.o.symm▸rfl,hb⟩
end Go.Proofs.YtibiddakakgakaaGreat
