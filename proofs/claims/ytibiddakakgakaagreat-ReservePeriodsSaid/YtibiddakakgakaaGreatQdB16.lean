/- Charts: Valid, in the reference. Written by gen_b16.py. -/
import Derived.Test.YtibiddakakgakaaGreatQdB11
import Derived.Test.YtibiddakakgakaaGreatQdB15
set_option linter.unusedVariables false
set_option linter.unusedSimpArgs false
set_option maxRecDepth 4000
attribute [local go_sem ↓] Go.wp_at_zero Go.wp_at_succ
set_option maxHeartbeats 16000000
namespace Go.Proofs.YtibiddakakgakaaGreat
open Go Go.RowKit
theorem Inv.yieldU {md:Region.Mode} {ops:Array Oper} {W:World} {ks:List VV} {S:World->Prop} {a0:Act} {listed:Array Bool} {a:Act} {w:World} (hI:Inv md ops (Ks W ks) S a0 listed a w) {o:Oper} (hd:∀e∈o.after,Region.binds md e=true->aW listed e.on) (j d:Nat) {oj:Oper} (hk:ks[j]? =some (.val undef)) (hj:ops[j]? =some oj) (jx:oj.dst=some d)
 (h:(o.after.toList.any λe=>Region.binds md e&&e.on==j)=true):yielded ops a.tmps j=none:=by
 simp only[List.any_eq_true,Bool.and_eq_true,beq_iff_eq]at h;obtain⟨e,he,hb,rfl⟩:=h;obtain⟨v,hv,hV⟩:=hI.got e.on oj d hj jx (hd e (by simpa using he) hb);have h2:v=undef:=hV _ hk;subst h2;simp[yielded,hj,jx,hv,undef]
theorem cp {P:Program} {o:Oper} {a:Act} {w:World} {K:Act->World->Prop} {Q:Exit->Act->World->Prop} {E:Prop} {y:Nat->Option Bool} {j:Nat} {b:Bool} (hg:o.guard=some (j,b)) (hy:y j=none) (h:E):if Region.wanted o y=true then o.wp P a w K Q else E:=by
 rw[if_neg (by simp[Region.wanted,hg,hy])];exact h
theorem Eu {n k:Nat} (h:k<n):n- (((k+1:Nat):Int)).toNat<n- ((k:Int)).toNat:=by omega
def l8 (m:Nat) (v:Value) (_:World):Prop:=∃A c,v=.slice A m c
theorem l8.keep (m:Nat):∀v w w',Below w.heap.size w w'->l8 m v w->l8 m v w':=λ_ _ _ _ h=>h
theorem LO {w:World} {base:Nat} {e:TypeId} {size n:Nat} {v:Value} {xs:List Value} (h:w.ownsRow base e size v n xs) (w':World):l8 n v w':=by
 rcases h.2 with⟨rfl,rfl⟩|⟨g,cap,aw,rfl,_⟩
 ·exact⟨_,_,rfl⟩
 ·exact⟨_,_,rfl⟩
section
variable (l:List ah) (A:Option Addr) (c n m:Nat) (w:World) (hN:l.length=n) (hl:aj ar 4 w (·<w.heap.size) [.slice A l.length c] l) (hn:l.length<=1000)
include hN hl hn in
theorem ru (code:Int) (hc:cx code) (hm:(upR l (l.length+1) [] code).length=m):Calls Tryz.prog 221 #[.slice A n c,code] w (λe w'=>∃v,e=.returned v/\l8 m v w'/\Below w.heap.size w w'):=by
 subst hN hm;refine(PR l A c code w hl hc hn).mono ?_;rintro e w' ⟨v,h1,h2,h3⟩;exact⟨v,h1,LO h2 w',h3⟩
end
section
variable {l:List ah} {g:Bool} {i j:Nat} {a b:ah}
theorem ZQ (h:l[i]? =some a) (hp:ea l g a=false):sE l g i=false:=by rw[vf h,hp];rfl
theorem ZP (h:l[i]? =some a) (hi:i=j+1) (hb:l[j]? =some b) (ho:a.code<=b.code):sE l g i=false:=by
 subst hi;rw[vf h,Nat.add_sub_cancel,List.getD_eq_getElem?_getD,hb,Option.getD_some,decide_eq_true ho,decide_eq_true (Nat.succ_pos j)];simp
theorem JD (h:l[i]? =some a) (hi:i=0) (hp:ea l g a=true):sE l g i=decide ((upR l (l.length+1) [] a.code).length<=l.length):=by
 subst hi;rw[vf h,hp];simp
theorem JE (h:l[i]? =some a) (hi:i=j+1) (hb:l[j]? =some b) (ho:¬a.code<=b.code) (hp:ea l g a=true):sE l g i=decide ((upR l (l.length+1) [] a.code).length<=l.length):=by
 subst hi;rw[vf h,hp,Nat.add_sub_cancel,List.getD_eq_getElem?_getD,hb,Option.getD_some,decide_eq_false ho];simp
end
theorem pv (l:List ah) (A:Option Addr) (c:Nat) (g:Bool) (w:World) (hl:aj ar 4 w (·<w.heap.size) [.slice A l.length c] l) (hn:l.length<=1000):Calls Tryz.prog 199 #[.slice A l.length c,g] w (ap w (.bool (lG l g))):=by
 obtain⟨r,hr⟩:=x_ (lG l g);rw[hr];have HR:=H_ hr;clear hr;obtain⟨n,bj⟩:=x_ (l.length);have rC:=H_ hn;rw[bj]at hn;have HL:=H_ hl;have HN:=H_ bj;rw[bj];clear hl bj;go_enter Tryz.func199,Tryz.ntmps199;by_cases h2:n<=200
 case neg=>
  have yX:(200:Int)< (n:Int):=by omega
  have hf:=H_ (show r=false by rw[<-HR.o];unfold lG;rw[HN.o,decide_eq_false h2];rfl);go_wp2_with fail;go_ret;exact⟨hf.o.symm▸rfl,Below.refl _ _⟩
 case pos=>
 have yX:¬(200:Int)< (n:Int):=by omega
 go_wp2_with fail
 go_loopw [5] (λi wr=>∃k:Nat,k<=n/\i=.int .i64 (k:Int)/\Below w.heap.size w wr/\∀j,j<k->sE l g j=true) (λi _=>n- (intOf i).toNat)
 case atStart=>exact⟨0,by omega,rfl,Below.refl _ _,λj hj=>by omega⟩
 case round=>
  obtain⟨k,hk,rfl,hb,hall⟩:=hrel;have HA:=H_ hall;clear hall;have bP:=hb.size;by_cases aU:k<n
  case pos=>
   have bq:(k:Int)< (n:Int):=by omega
   have bI:k<l.length:=by rw[HN.o];exact aU
   obtain⟨b,o,dj,ed,hall⟩:=aj.base HL.o (by omega);subst dj;obtain⟨es,bL,aS⟩:=hall k bI;obtain⟨bE,m3⟩:=ar.lit bL;rw[bE]at aS;have eY:=H_ hall;clear hall;obtain⟨ac,ni⟩:=x_ (l[k]);rw[ni]at aS m3;have nH:=H_ (show l[k]? =some ac by rw[List.getElem?_eq_getElem bI,ni]);have Ym:=aS.fr (Fr.ofBelow hb);have Bv:=H_ (Ym.mono (Q':=(·<wr.heap.size)) (λk hk=>by omega));have zQ:=H_ m3;have KC:=H_ (Ym.c (j:=0) rfl);clear bL bE aS ni m3 Ym;obtain⟨c1,c2,c3,c4⟩:=ac;have qu:=H_ (az HL.o hb);have lU:=H_ (show b<wr.heap.size by omega);cases hp:ea l g ⟨c1,c2,c3,c4⟩with
   |false=>
    have HP:=H_ hp;have hf:=H_ (show r=false by rw[<-HR.o];unfold lG;rw[bt bI (ZQ nH.o hp),Bool.and_false]);clear hp;go_upto_region 6 with fail;refine bk (Ks wr (.val (.slice (some ⟨b,o,none⟩) n c)::.val (.slice (some ⟨b,o,none⟩) n c)::(k:Int)::.val (.pointer (some ⟨b,o+k*4,none⟩))::.val (.agg (bn ⟨c1,c2,c3,c4⟩).toArray)::g::false::true::true::undef::undef::undef::undef::undef::undef::undef::undef::undef::undef::undef::undef::undef::undef::undef::undef::true::true::undef::undef::undef::undef::undef::undef::undef::undef::undef::undef::undef::true::[]))
     (λw'=>Below wr.heap.size wr w') K_ K_ K_ (Below.refl _ _).drew ?_ ?_
    ·refine⟨b_ (q_ 0),b_ (q_ 0),b_ (q_ 5),c_ (p_ 1 16) (p_ 2 17),?_,b_ (q_ 1),?_,b_ (p_ 6 21),b_ (p_ 7 22),n_,n_,n_,?_,?_,?_,?_,?_,?_,?_,?_,?_,?_,?_,?_,n_,c_ (p_ 8 23) (p_ 24 39),b_ (p_ 25 40),n_,n_,n_,n_,n_,n_,n_,n_,n_,n_,n_,c_ (p_ 26 41) (p_ 37 52),trivial⟩
     ·refine O1_ (p_ 3 18) λA0 w2 K e0 hS hK=>?_;have aJ:w2.rangeAt b (o+k*4) (bn ⟨c1,c2,c3,c4⟩):=(Bv.o.fr (Fr.ofBelow hS)).range;have aI:=cG ⟨c1,c2,c3,c4⟩;refine wp_load_mid 78 (.tmp 18) rfl _ _ (v_ e0) _ _ aJ Tryz.underlying78 rfl aI ?_;exact kq hK hS rfl
     ·refine O3_ (p_ 0 15) (p_ 4 19) (p_ 5 20) λA0 w2 K e0 e1 e2 hS hK=>?_;go_simp
      go_at_call 220
      refine(kp l _ c n w2 HN.o (az qu.o hS) rC.o ⟨c1,c2,c3,c4⟩ g zQ.o).mono ?_;rintro e w3 ⟨rfl,h3⟩;exact hK.out _ _ (hS.trans (h3.mono hS.size)) (Ks.of rfl (congrArg Value.bool HP.o)) (Ks.keep h3)
     iterate 12 (·intro _ A0 w2 hI hd hnd K hK;have hS:=hI.world;refine cp rfl (hI.yieldU hd 11 26 rfl rfl rfl K_) ?_;exact kq hK hS rfl)
    ·intro _ A0 w2 hI hall;have hS:=hI.world;have c9:=hI.ch hall [15,16,17,18,19,20,21,22,23,24,25,26,27,28,29,30,31,32,33,34,35,36,37,38,39,40,41,42,43,44,45,46,47,48,49,50,51,52,53];obtain⟨x0,x1,x2,x3,x4,x5,x6,x7,x8,x9,dN,ef,fh,gU,LR,jH,jZ,kv,lR,kh,rB,vz,vr,zW,zP,zK,zz,By,Bf,vy,N7,Ot,Nh,Nz,M9,N3,NU,Oc,C7,hA,hV⟩:=c9;obtain rfl:C7=.bool true:=hV 38 _ _ rfl _ rfl;clear hV hI hall;simp only[ba,List.foldl,List.setIfInBounds_toArray,List.set_cons_zero,List.set_cons_succ]at hA;rw[hA];clear hA;go_wp2_with fail;go_ret;exact⟨hf.o.symm▸rfl,hb.trans (hS.mono hb.size)⟩
   |true=>
    have HP:=H_ hp;clear hp;obtain⟨m,hm⟩:=x_ ((upR l (l.length+1) [] c1).length);have HM:=H_ hm;clear hm;rcases Nat.eq_zero_or_pos k with Fm|Fm
    ·have Ga:=H_ (show decide (0<k)=false from decide_eq_false (by omega));have Q0:=H_ Fm;clear Fm;rcases Nat.lt_or_ge n m with nz|nz
     ·have hmI:(n:Int)< (m:Int):=by omega
      have hf:=H_ (show r=false by rw[<-HR.o];unfold lG;rw[bt bI (by rw[JD nH.o Q0.o HP.o,HM.o];exact decide_eq_false (by have:=HN.o;omega)),Bool.and_false]);go_upto_region 6 with fail;refine bk (Ks wr (.val (.slice (some ⟨b,o,none⟩) n c)::.val (.slice (some ⟨b,o,none⟩) n c)::(k:Int)::.val (.pointer (some ⟨b,o+k*4,none⟩))::.val (.agg (bn ⟨c1,c2,c3,c4⟩).toArray)::g::true::false::false::(k:Int)::false::false::undef::undef::undef::undef::undef::undef::undef::undef::undef::undef::undef::undef::false::false::false::.val (.slice (some ⟨b,o,none⟩) n c)::.val (.slice (some ⟨b,o,none⟩) n c)::(k:Int)::.val (.pointer (some ⟨b,o+k*4,none⟩))::.val (.pointer (some ⟨b,o+k*4,none⟩))::c1::.own (l8 m) (l8.keep m)::(m:Int)::.val (.slice (some ⟨b,o,none⟩) n c)::(n:Int)::true::true::[]))
       (λw'=>Below wr.heap.size wr w') K_ K_ K_ (Below.refl _ _).drew ?_ ?_
      ·refine⟨b_ (q_ 0),b_ (q_ 0),b_ (q_ 5),c_ (p_ 1 16) (p_ 2 17),?_,b_ (q_ 1),?_,b_ (p_ 6 21),b_ (p_ 7 22),f_ (q_ 5),?_,f_ (p_ 10 25),n_,n_,n_,n_,n_,n_,n_,n_,n_,n_,n_,n_,g_ (p_ 11 26) (p_ 23 38),c_ (p_ 8 23) (p_ 24 39),b_ (p_ 25 40),f_ (q_ 0),f_ (q_ 0),f_ (q_ 5),g_ (p_ 28 43) (p_ 29 44),f_ (p_ 30 45),h_ (p_ 31 46) (p:=⟨b,o+k*4,none⟩) λ_ h=>l_ h lU.o KC.o,?_,?_,f_ (q_ 0),f_ (p_ 35 50),g_ (p_ 34 49) (p_ 36 51),c_ (p_ 26 41) (p_ 37 52),trivial⟩
       ·refine O1_ (p_ 3 18) λA0 w2 K e0 hS hK=>?_;have aJ:w2.rangeAt b (o+k*4) (bn ⟨c1,c2,c3,c4⟩):=(Bv.o.fr (Fr.ofBelow hS)).range;have aI:=cG ⟨c1,c2,c3,c4⟩;refine wp_load_mid 78 (.tmp 18) rfl _ _ (v_ e0) _ _ aJ Tryz.underlying78 rfl aI ?_;exact kq hK hS rfl
       ·refine O3_ (p_ 0 15) (p_ 4 19) (p_ 5 20) λA0 w2 K e0 e1 e2 hS hK=>?_;go_simp
        go_at_call 220
        refine(kp l _ c n w2 HN.o (az qu.o hS) rC.o ⟨c1,c2,c3,c4⟩ g zQ.o).mono ?_;rintro e w3 ⟨rfl,h3⟩;exact hK.out _ _ (hS.trans (h3.mono hS.size)) (Ks.of rfl (congrArg Value.bool HP.o)) (Ks.keep h3)
       ·refine P1_ (p_ 9 24) λA0 w2 K e0 hS hK=>?_;go_simp;exact hK.out _ _ hS (Ks.of rfl (congrArg Value.bool Ga.o)) (λ_ _ h=>h)
       ·refine P2_ (p_ 27 42) (p_ 32 47) λA0 w2 K e0 e1 hS hK=>?_;go_simp
        go_at_call 221
        refine(ru l _ c n m w2 HN.o (az qu.o hS) rC.o c1 zQ.o.1 HM.o).mono ?_;rintro e w3 ⟨v,rfl,h1,h3⟩;exact hK.out _ _ (hS.trans (h3.mono hS.size)) (Ks.of rfl h1) (Ks.keep h3)
       ·intro _ A0 w2 hI hd hnd K hK;obtain⟨x0,e0,h0⟩:=hI.dep hd 33 48 rfl rfl rfl K_;have hS:=hI.world;obtain⟨Ab,cb,rfl⟩:=h0;exact hI.z1 hK (hI.r hd 26 41 false)
      ·intro _ A0 w2 hI hall;have hS:=hI.world;have c9:=hI.ch hall [15,16,17,18,19,20,21,22,23,24,25,26,27,28,29,30,31,32,33,34,35,36,37,38,39,40,41,42,43,44,45,46,47,48,49,50,51,52,53];obtain⟨x0,x1,x2,x3,x4,x5,x6,x7,x8,x9,dN,ef,fh,gU,LR,jH,jZ,kv,lR,kh,rB,vz,vr,zW,zP,zK,zz,By,Bf,vy,N7,Ot,Nh,Nz,M9,N3,NU,Oc,C7,hA,hV⟩:=c9;obtain rfl:C7=.bool true:=hV 38 _ _ rfl _ rfl;clear hV hI hall;simp only[ba,List.foldl,List.setIfInBounds_toArray,List.set_cons_zero,List.set_cons_succ]at hA;rw[hA];clear hA;go_wp2_with fail;go_ret;exact⟨hf.o.symm▸rfl,hb.trans (hS.mono hb.size)⟩
     ·have hmI:¬(n:Int)< (m:Int):=by omega
      have gc:=H_ (show sE l g k=true by rw[JD nH.o Q0.o HP.o,HM.o];exact decide_eq_true (by have:=HN.o;omega));go_upto_region 6 with fail;refine bk (Ks wr (.val (.slice (some ⟨b,o,none⟩) n c)::.val (.slice (some ⟨b,o,none⟩) n c)::(k:Int)::.val (.pointer (some ⟨b,o+k*4,none⟩))::.val (.agg (bn ⟨c1,c2,c3,c4⟩).toArray)::g::true::false::false::(k:Int)::false::false::undef::undef::undef::undef::undef::undef::undef::undef::undef::undef::undef::undef::false::false::false::.val (.slice (some ⟨b,o,none⟩) n c)::.val (.slice (some ⟨b,o,none⟩) n c)::(k:Int)::.val (.pointer (some ⟨b,o+k*4,none⟩))::.val (.pointer (some ⟨b,o+k*4,none⟩))::c1::.own (l8 m) (l8.keep m)::(m:Int)::.val (.slice (some ⟨b,o,none⟩) n c)::(n:Int)::false::false::[]))
       (λw'=>Below wr.heap.size wr w') K_ K_ K_ (Below.refl _ _).drew ?_ ?_
      ·refine⟨b_ (q_ 0),b_ (q_ 0),b_ (q_ 5),c_ (p_ 1 16) (p_ 2 17),?_,b_ (q_ 1),?_,b_ (p_ 6 21),b_ (p_ 7 22),f_ (q_ 5),?_,f_ (p_ 10 25),n_,n_,n_,n_,n_,n_,n_,n_,n_,n_,n_,n_,g_ (p_ 11 26) (p_ 23 38),c_ (p_ 8 23) (p_ 24 39),b_ (p_ 25 40),f_ (q_ 0),f_ (q_ 0),f_ (q_ 5),g_ (p_ 28 43) (p_ 29 44),f_ (p_ 30 45),h_ (p_ 31 46) (p:=⟨b,o+k*4,none⟩) λ_ h=>l_ h lU.o KC.o,?_,?_,f_ (q_ 0),f_ (p_ 35 50),g_ (p_ 34 49) (p_ 36 51),c_ (p_ 26 41) (p_ 37 52),trivial⟩
       ·refine O1_ (p_ 3 18) λA0 w2 K e0 hS hK=>?_;have aJ:w2.rangeAt b (o+k*4) (bn ⟨c1,c2,c3,c4⟩):=(Bv.o.fr (Fr.ofBelow hS)).range;have aI:=cG ⟨c1,c2,c3,c4⟩;refine wp_load_mid 78 (.tmp 18) rfl _ _ (v_ e0) _ _ aJ Tryz.underlying78 rfl aI ?_;exact kq hK hS rfl
       ·refine O3_ (p_ 0 15) (p_ 4 19) (p_ 5 20) λA0 w2 K e0 e1 e2 hS hK=>?_;go_simp
        go_at_call 220
        refine(kp l _ c n w2 HN.o (az qu.o hS) rC.o ⟨c1,c2,c3,c4⟩ g zQ.o).mono ?_;rintro e w3 ⟨rfl,h3⟩;exact hK.out _ _ (hS.trans (h3.mono hS.size)) (Ks.of rfl (congrArg Value.bool HP.o)) (Ks.keep h3)
       ·refine P1_ (p_ 9 24) λA0 w2 K e0 hS hK=>?_;go_simp;exact hK.out _ _ hS (Ks.of rfl (congrArg Value.bool Ga.o)) (λ_ _ h=>h)
       ·refine P2_ (p_ 27 42) (p_ 32 47) λA0 w2 K e0 e1 hS hK=>?_;go_simp
        go_at_call 221
        refine(ru l _ c n m w2 HN.o (az qu.o hS) rC.o c1 zQ.o.1 HM.o).mono ?_;rintro e w3 ⟨v,rfl,h1,h3⟩;exact hK.out _ _ (hS.trans (h3.mono hS.size)) (Ks.of rfl h1) (Ks.keep h3)
       ·intro _ A0 w2 hI hd hnd K hK;obtain⟨x0,e0,h0⟩:=hI.dep hd 33 48 rfl rfl rfl K_;have hS:=hI.world;obtain⟨Ab,cb,rfl⟩:=h0;exact hI.z1 hK (hI.r hd 26 41 false)
      ·intro _ A0 w2 hI hall;have hS:=hI.world;have c9:=hI.ch hall [15,16,17,18,19,20,21,22,23,24,25,26,27,28,29,30,31,32,33,34,35,36,37,38,39,40,41,42,43,44,45,46,47,48,49,50,51,52,53];obtain⟨x0,x1,x2,x3,x4,x5,x6,x7,x8,x9,dN,ef,fh,gU,LR,jH,jZ,kv,lR,kh,rB,vz,vr,zW,zP,zK,zz,By,Bf,vy,N7,Ot,Nh,Nz,M9,N3,NU,Oc,C7,hA,hV⟩:=c9;obtain rfl:C7=.bool false:=hV 38 _ _ rfl _ rfl;clear hV hI hall;simp only[ba,List.foldl,List.setIfInBounds_toArray,List.set_cons_zero,List.set_cons_succ]at hA;rw[hA];clear hA;go_wp2_with fail;go_roundw
       case rel=>exact⟨k+1,by omega,by go_num,hb.trans (hS.mono hb.size),λi hi=>by
        rcases Nat.lt_or_ge i k with h|h
        ·exact HA.o i h
        ·have:i=k:=by omega
         subst this;exact gc.o⟩
       case measure=>
        have e:wrap64 ((k:Int)+1)=((k+1:Nat):Int):=by unfold wrap64;omega
        simp only[intOf,e];exact Eu aU
    ·have Ga:=H_ (show decide (0<k)=true from decide_eq_true (by omega));obtain⟨j,hj⟩:∃j,k=j+1:=⟨k- 1,by omega⟩;have FE:j<n:=by omega
     have XS:=H_ (show IntKind.i64.wrap ((k:Int) - 1)=(j:Int) by rw[show(k:Int) - 1=(j:Int) by omega];exact Qv (by omega));obtain⟨MJ,iy,dt⟩:=eY.o j (by omega);obtain⟨qp,adt⟩:=ar.lit iy;clear adt;rw[qp]at dt;obtain⟨pr,Kd⟩:=x_ (l[j]'(by omega));rw[Kd]at dt;have zU:=H_ (show l[j]? =some pr by rw[List.getElem?_eq_getElem (by omega),Kd]);have KP:=H_ ((dt.fr (Fr.ofBelow hb)).c (j:=0) rfl);have HJ:=H_ hj;clear iy qp dt Kd hj Fm;obtain⟨p1,p2,p3,p4⟩:=pr;by_cases ho:c1<=p1
     ·have hf:=H_ (show r=false by rw[<-HR.o];unfold lG;rw[bt bI (ZP nH.o HJ.o zU.o ho),Bool.and_false]);go_upto_region 6 with fail;refine bk (Ks wr (.val (.slice (some ⟨b,o,none⟩) n c)::.val (.slice (some ⟨b,o,none⟩) n c)::(k:Int)::.val (.pointer (some ⟨b,o+k*4,none⟩))::.val (.agg (bn ⟨c1,c2,c3,c4⟩).toArray)::g::true::false::false::(k:Int)::true::true::.val (.slice (some ⟨b,o,none⟩) n c)::(k:Int)::.val (.pointer (some ⟨b,o+k*4,none⟩))::.val (.pointer (some ⟨b,o+k*4,none⟩))::c1::.val (.slice (some ⟨b,o,none⟩) n c)::(k:Int)::(j:Int)::.val (.pointer (some ⟨b,o+j*4,none⟩))::.val (.pointer (some ⟨b,o+j*4,none⟩))::p1::true::true::true::true::undef::undef::undef::undef::undef::undef::undef::undef::undef::undef::undef::true::[]))
       (λw'=>Below wr.heap.size wr w') K_ K_ K_ (Below.refl _ _).drew ?_ ?_
      ·refine⟨b_ (q_ 0),b_ (q_ 0),b_ (q_ 5),c_ (p_ 1 16) (p_ 2 17),?_,b_ (q_ 1),?_,b_ (p_ 6 21),b_ (p_ 7 22),f_ (q_ 5),?_,f_ (p_ 10 25),f_ (q_ 0),f_ (q_ 5),g_ (p_ 12 27) (p_ 13 28),f_ (p_ 14 29),h_ (p_ 15 30) (p:=⟨b,o+k*4,none⟩) λ_ h=>l_ h lU.o KC.o,f_ (q_ 0),f_ (q_ 5),?_,g_ (p_ 17 32) (p_ 19 34),f_ (p_ 20 35),h_ (p_ 21 36) (p:=⟨b,o+j*4,none⟩) λ_ h=>l_ h lU.o KP.o,g_ (p_ 16 31) (p_ 22 37),g_ (p_ 11 26) (p_ 23 38),c_ (p_ 8 23) (p_ 24 39),b_ (p_ 25 40),n_,n_,n_,n_,n_,n_,n_,n_,n_,n_,n_,c_ (p_ 26 41) (p_ 37 52),trivial⟩
       ·refine O1_ (p_ 3 18) λA0 w2 K e0 hS hK=>?_;have aJ:w2.rangeAt b (o+k*4) (bn ⟨c1,c2,c3,c4⟩):=(Bv.o.fr (Fr.ofBelow hS)).range;have aI:=cG ⟨c1,c2,c3,c4⟩;refine wp_load_mid 78 (.tmp 18) rfl _ _ (v_ e0) _ _ aJ Tryz.underlying78 rfl aI ?_;exact kq hK hS rfl
       ·refine O3_ (p_ 0 15) (p_ 4 19) (p_ 5 20) λA0 w2 K e0 e1 e2 hS hK=>?_;go_simp
        go_at_call 220
        refine(kp l _ c n w2 HN.o (az qu.o hS) rC.o ⟨c1,c2,c3,c4⟩ g zQ.o).mono ?_;rintro e w3 ⟨rfl,h3⟩;exact hK.out _ _ (hS.trans (h3.mono hS.size)) (Ks.of rfl (congrArg Value.bool HP.o)) (Ks.keep h3)
       ·refine P1_ (p_ 9 24) λA0 w2 K e0 hS hK=>?_;go_simp;exact hK.out _ _ hS (Ks.of rfl (congrArg Value.bool Ga.o)) (λ_ _ h=>h)
       ·refine P1_ (p_ 18 33) λA0 w2 K e0 hS hK=>?_;go_simp;exact hK.out _ _ hS (Ks.of rfl (congrArg (Value.int .i64) XS.o)) (λ_ _ h=>h)
      ·intro _ A0 w2 hI hall;have hS:=hI.world;have c9:=hI.ch hall [15,16,17,18,19,20,21,22,23,24,25,26,27,28,29,30,31,32,33,34,35,36,37,38,39,40,41,42,43,44,45,46,47,48,49,50,51,52,53];obtain⟨x0,x1,x2,x3,x4,x5,x6,x7,x8,x9,dN,ef,fh,gU,LR,jH,jZ,kv,lR,kh,rB,vz,vr,zW,zP,zK,zz,By,Bf,vy,N7,Ot,Nh,Nz,M9,N3,NU,Oc,C7,hA,hV⟩:=c9;obtain rfl:C7=.bool true:=hV 38 _ _ rfl _ rfl;clear hV hI hall;simp only[ba,List.foldl,List.setIfInBounds_toArray,List.set_cons_zero,List.set_cons_succ]at hA;rw[hA];clear hA;go_wp2_with fail;go_ret;exact⟨hf.o.symm▸rfl,hb.trans (hS.mono hb.size)⟩
     ·have HO:=H_ ho;rcases Nat.lt_or_ge n m with nz|nz
      ·have hmI:(n:Int)< (m:Int):=by omega
       have hf:=H_ (show r=false by rw[<-HR.o];unfold lG;rw[bt bI (by rw[JE nH.o HJ.o zU.o HO.o HP.o,HM.o];exact decide_eq_false (by have:=HN.o;omega)),Bool.and_false]);go_upto_region 6 with fail;refine bk (Ks wr (.val (.slice (some ⟨b,o,none⟩) n c)::.val (.slice (some ⟨b,o,none⟩) n c)::(k:Int)::.val (.pointer (some ⟨b,o+k*4,none⟩))::.val (.agg (bn ⟨c1,c2,c3,c4⟩).toArray)::g::true::false::false::(k:Int)::true::true::.val (.slice (some ⟨b,o,none⟩) n c)::(k:Int)::.val (.pointer (some ⟨b,o+k*4,none⟩))::.val (.pointer (some ⟨b,o+k*4,none⟩))::c1::.val (.slice (some ⟨b,o,none⟩) n c)::(k:Int)::(j:Int)::.val (.pointer (some ⟨b,o+j*4,none⟩))::.val (.pointer (some ⟨b,o+j*4,none⟩))::p1::false::false::false::false::.val (.slice (some ⟨b,o,none⟩) n c)::.val (.slice (some ⟨b,o,none⟩) n c)::(k:Int)::.val (.pointer (some ⟨b,o+k*4,none⟩))::.val (.pointer (some ⟨b,o+k*4,none⟩))::c1::.own (l8 m) (l8.keep m)::(m:Int)::.val (.slice (some ⟨b,o,none⟩) n c)::(n:Int)::true::true::[]))
        (λw'=>Below wr.heap.size wr w') K_ K_ K_ (Below.refl _ _).drew ?_ ?_
       ·refine⟨b_ (q_ 0),b_ (q_ 0),b_ (q_ 5),c_ (p_ 1 16) (p_ 2 17),?_,b_ (q_ 1),?_,b_ (p_ 6 21),b_ (p_ 7 22),f_ (q_ 5),?_,f_ (p_ 10 25),f_ (q_ 0),f_ (q_ 5),g_ (p_ 12 27) (p_ 13 28),f_ (p_ 14 29),h_ (p_ 15 30) (p:=⟨b,o+k*4,none⟩) λ_ h=>l_ h lU.o KC.o,f_ (q_ 0),f_ (q_ 5),?_,g_ (p_ 17 32) (p_ 19 34),f_ (p_ 20 35),h_ (p_ 21 36) (p:=⟨b,o+j*4,none⟩) λ_ h=>l_ h lU.o KP.o,g_ (p_ 16 31) (p_ 22 37),g_ (p_ 11 26) (p_ 23 38),c_ (p_ 8 23) (p_ 24 39),b_ (p_ 25 40),f_ (q_ 0),f_ (q_ 0),f_ (q_ 5),g_ (p_ 28 43) (p_ 29 44),f_ (p_ 30 45),h_ (p_ 31 46) (p:=⟨b,o+k*4,none⟩) λ_ h=>l_ h lU.o KC.o,?_,?_,f_ (q_ 0),f_ (p_ 35 50),g_ (p_ 34 49) (p_ 36 51),c_ (p_ 26 41) (p_ 37 52),trivial⟩
        ·refine O1_ (p_ 3 18) λA0 w2 K e0 hS hK=>?_;have aJ:w2.rangeAt b (o+k*4) (bn ⟨c1,c2,c3,c4⟩):=(Bv.o.fr (Fr.ofBelow hS)).range;have aI:=cG ⟨c1,c2,c3,c4⟩;refine wp_load_mid 78 (.tmp 18) rfl _ _ (v_ e0) _ _ aJ Tryz.underlying78 rfl aI ?_;exact kq hK hS rfl
        ·refine O3_ (p_ 0 15) (p_ 4 19) (p_ 5 20) λA0 w2 K e0 e1 e2 hS hK=>?_;go_simp
         go_at_call 220
         refine(kp l _ c n w2 HN.o (az qu.o hS) rC.o ⟨c1,c2,c3,c4⟩ g zQ.o).mono ?_;rintro e w3 ⟨rfl,h3⟩;exact hK.out _ _ (hS.trans (h3.mono hS.size)) (Ks.of rfl (congrArg Value.bool HP.o)) (Ks.keep h3)
        ·refine P1_ (p_ 9 24) λA0 w2 K e0 hS hK=>?_;go_simp;exact hK.out _ _ hS (Ks.of rfl (congrArg Value.bool Ga.o)) (λ_ _ h=>h)
        ·refine P1_ (p_ 18 33) λA0 w2 K e0 hS hK=>?_;go_simp;exact hK.out _ _ hS (Ks.of rfl (congrArg (Value.int .i64) XS.o)) (λ_ _ h=>h)
        ·refine P2_ (p_ 27 42) (p_ 32 47) λA0 w2 K e0 e1 hS hK=>?_;go_simp
         go_at_call 221
         refine(ru l _ c n m w2 HN.o (az qu.o hS) rC.o c1 zQ.o.1 HM.o).mono ?_;rintro e w3 ⟨v,rfl,h1,h3⟩;exact hK.out _ _ (hS.trans (h3.mono hS.size)) (Ks.of rfl h1) (Ks.keep h3)
        ·intro _ A0 w2 hI hd hnd K hK;obtain⟨x0,e0,h0⟩:=hI.dep hd 33 48 rfl rfl rfl K_;have hS:=hI.world;obtain⟨Ab,cb,rfl⟩:=h0;exact hI.z1 hK (hI.r hd 26 41 false)
       ·intro _ A0 w2 hI hall;have hS:=hI.world;have c9:=hI.ch hall [15,16,17,18,19,20,21,22,23,24,25,26,27,28,29,30,31,32,33,34,35,36,37,38,39,40,41,42,43,44,45,46,47,48,49,50,51,52,53];obtain⟨x0,x1,x2,x3,x4,x5,x6,x7,x8,x9,dN,ef,fh,gU,LR,jH,jZ,kv,lR,kh,rB,vz,vr,zW,zP,zK,zz,By,Bf,vy,N7,Ot,Nh,Nz,M9,N3,NU,Oc,C7,hA,hV⟩:=c9;obtain rfl:C7=.bool true:=hV 38 _ _ rfl _ rfl;clear hV hI hall;simp only[ba,List.foldl,List.setIfInBounds_toArray,List.set_cons_zero,List.set_cons_succ]at hA;rw[hA];clear hA;go_wp2_with fail;go_ret;exact⟨hf.o.symm▸rfl,hb.trans (hS.mono hb.size)⟩
      ·have hmI:¬(n:Int)< (m:Int):=by omega
       have gc:=H_ (show sE l g k=true by rw[JE nH.o HJ.o zU.o HO.o HP.o,HM.o];exact decide_eq_true (by have:=HN.o;omega));go_upto_region 6 with fail;refine bk (Ks wr (.val (.slice (some ⟨b,o,none⟩) n c)::.val (.slice (some ⟨b,o,none⟩) n c)::(k:Int)::.val (.pointer (some ⟨b,o+k*4,none⟩))::.val (.agg (bn ⟨c1,c2,c3,c4⟩).toArray)::g::true::false::false::(k:Int)::true::true::.val (.slice (some ⟨b,o,none⟩) n c)::(k:Int)::.val (.pointer (some ⟨b,o+k*4,none⟩))::.val (.pointer (some ⟨b,o+k*4,none⟩))::c1::.val (.slice (some ⟨b,o,none⟩) n c)::(k:Int)::(j:Int)::.val (.pointer (some ⟨b,o+j*4,none⟩))::.val (.pointer (some ⟨b,o+j*4,none⟩))::p1::false::false::false::false::.val (.slice (some ⟨b,o,none⟩) n c)::.val (.slice (some ⟨b,o,none⟩) n c)::(k:Int)::.val (.pointer (some ⟨b,o+k*4,none⟩))::.val (.pointer (some ⟨b,o+k*4,none⟩))::c1::.own (l8 m) (l8.keep m)::(m:Int)::.val (.slice (some ⟨b,o,none⟩) n c)::(n:Int)::false::false::[]))
        (λw'=>Below wr.heap.size wr w') K_ K_ K_ (Below.refl _ _).drew ?_ ?_
       ·refine⟨b_ (q_ 0),b_ (q_ 0),b_ (q_ 5),c_ (p_ 1 16) (p_ 2 17),?_,b_ (q_ 1),?_,b_ (p_ 6 21),b_ (p_ 7 22),f_ (q_ 5),?_,f_ (p_ 10 25),f_ (q_ 0),f_ (q_ 5),g_ (p_ 12 27) (p_ 13 28),f_ (p_ 14 29),h_ (p_ 15 30) (p:=⟨b,o+k*4,none⟩) λ_ h=>l_ h lU.o KC.o,f_ (q_ 0),f_ (q_ 5),?_,g_ (p_ 17 32) (p_ 19 34),f_ (p_ 20 35),h_ (p_ 21 36) (p:=⟨b,o+j*4,none⟩) λ_ h=>l_ h lU.o KP.o,g_ (p_ 16 31) (p_ 22 37),g_ (p_ 11 26) (p_ 23 38),c_ (p_ 8 23) (p_ 24 39),b_ (p_ 25 40),f_ (q_ 0),f_ (q_ 0),f_ (q_ 5),g_ (p_ 28 43) (p_ 29 44),f_ (p_ 30 45),h_ (p_ 31 46) (p:=⟨b,o+k*4,none⟩) λ_ h=>l_ h lU.o KC.o,?_,?_,f_ (q_ 0),f_ (p_ 35 50),g_ (p_ 34 49) (p_ 36 51),c_ (p_ 26 41) (p_ 37 52),trivial⟩
        ·refine O1_ (p_ 3 18) λA0 w2 K e0 hS hK=>?_;have aJ:w2.rangeAt b (o+k*4) (bn ⟨c1,c2,c3,c4⟩):=(Bv.o.fr (Fr.ofBelow hS)).range;have aI:=cG ⟨c1,c2,c3,c4⟩;refine wp_load_mid 78 (.tmp 18) rfl _ _ (v_ e0) _ _ aJ Tryz.underlying78 rfl aI ?_;exact kq hK hS rfl
        ·refine O3_ (p_ 0 15) (p_ 4 19) (p_ 5 20) λA0 w2 K e0 e1 e2 hS hK=>?_;go_simp
         go_at_call 220
         refine(kp l _ c n w2 HN.o (az qu.o hS) rC.o ⟨c1,c2,c3,c4⟩ g zQ.o).mono ?_;rintro e w3 ⟨rfl,h3⟩;exact hK.out _ _ (hS.trans (h3.mono hS.size)) (Ks.of rfl (congrArg Value.bool HP.o)) (Ks.keep h3)
        ·refine P1_ (p_ 9 24) λA0 w2 K e0 hS hK=>?_;go_simp;exact hK.out _ _ hS (Ks.of rfl (congrArg Value.bool Ga.o)) (λ_ _ h=>h)
        ·refine P1_ (p_ 18 33) λA0 w2 K e0 hS hK=>?_;go_simp;exact hK.out _ _ hS (Ks.of rfl (congrArg (Value.int .i64) XS.o)) (λ_ _ h=>h)
        ·refine P2_ (p_ 27 42) (p_ 32 47) λA0 w2 K e0 e1 hS hK=>?_;go_simp
         go_at_call 221
         refine(ru l _ c n m w2 HN.o (az qu.o hS) rC.o c1 zQ.o.1 HM.o).mono ?_;rintro e w3 ⟨v,rfl,h1,h3⟩;exact hK.out _ _ (hS.trans (h3.mono hS.size)) (Ks.of rfl h1) (Ks.keep h3)
        ·intro _ A0 w2 hI hd hnd K hK;obtain⟨x0,e0,h0⟩:=hI.dep hd 33 48 rfl rfl rfl K_;have hS:=hI.world;obtain⟨Ab,cb,rfl⟩:=h0;exact hI.z1 hK (hI.r hd 26 41 false)
       ·intro _ A0 w2 hI hall;have hS:=hI.world;have c9:=hI.ch hall [15,16,17,18,19,20,21,22,23,24,25,26,27,28,29,30,31,32,33,34,35,36,37,38,39,40,41,42,43,44,45,46,47,48,49,50,51,52,53];obtain⟨x0,x1,x2,x3,x4,x5,x6,x7,x8,x9,dN,ef,fh,gU,LR,jH,jZ,kv,lR,kh,rB,vz,vr,zW,zP,zK,zz,By,Bf,vy,N7,Ot,Nh,Nz,M9,N3,NU,Oc,C7,hA,hV⟩:=c9;obtain rfl:C7=.bool false:=hV 38 _ _ rfl _ rfl;clear hV hI hall;simp only[ba,List.foldl,List.setIfInBounds_toArray,List.set_cons_zero,List.set_cons_succ]at hA;rw[hA];clear hA;go_wp2_with fail;go_roundw
        case rel=>exact⟨k+1,by omega,by go_num,hb.trans (hS.mono hb.size),λi hi=>by
         rcases Nat.lt_or_ge i k with h|h
         ·exact HA.o i h
         ·have:i=k:=by omega
          subst this;exact gc.o⟩
        case measure=>
         have e:wrap64 ((k:Int)+1)=((k+1:Nat):Int):=by unfold wrap64;omega
         simp only[intOf,e];exact Eu aU
  case neg=>
   have bq:¬(k:Int)< (n:Int):=by omega
   have hall:(List.range l.length).all (sE l g)=true:=bQ (λj hj=>HA.o j (by have:=HN.o;omega));have hf:=H_ (show r=true by rw[<-HR.o];unfold lG;rw[hall,HN.o,decide_eq_true h2];rfl);clear hall;go_wp2_with fail;go_ret;exact⟨hf.o.symm▸rfl,hb⟩
end Go.Proofs.YtibiddakakgakaaGreat
