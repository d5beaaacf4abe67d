/- The reference's Post. Written by gen_i12.py. -/
import Derived.Test.YtibiddakakgakaaGreatQdI10I11
set_option linter.unusedVariables false
set_option linter.unusedSimpArgs false
set_option maxRecDepth 4000
attribute [local go_sem ↓] Go.wp_at_zero Go.wp_at_succ
set_option maxHeartbeats 16000000
namespace Go.Proofs.YtibiddakakgakaaGreat
open Go Go.RowKit
theorem j8 {w w':World} {cs:List Value} {l:List ak} (h:aj ax 7 w (·<w.heap.size) cs l) (hb:Below w.heap.size w w'):aj ax 7 w' (·<w'.heap.size) cs l:=
 (h.fr (λh=>ax.fr h (Fr.ofBelow hb)) (Fr.ofBelow hb)).mono (λh=>ax.mono h (λq hq=>Nat.lt_of_lt_of_le hq hb.size)) (λq hq=>Nat.lt_of_lt_of_le hq hb.size)
theorem Ju {g:au} {es:List ak} {x:ak} {R:Int} (h:dh g x=R) (h0:R≠0):eF g es x=R:=by
 unfold eF;rw[h,if_pos h0]
theorem Jv {g:au} {es:List ak} {x:ak} {k:Nat} (h:dh g x=0) (h2:eH es x.id=some k):eF g es x=9:=by
 unfold eF;rw[h,h2];rfl
theorem mQ {g:au} {es:List ak} {x:ak} {R:Int} (h:dh g x=0) (h2:eH es x.id=none) (h3:x.kind=3) (h4:qg es x=R) (h5:R≠0):eF g es x=R:=by
 unfold eF;rw[h,h2,h4,if_neg (by decide),if_neg (by decide),if_pos ⟨h3,h5⟩]
theorem vc {g:au} {es:List ak} {x:ak} (h:dh g x=0) (h2:eH es x.id=none) (h3:x.kind=3->qg es x=0):eF g es x=if 2000<=es.length then 6 else 0:=by
 unfold eF;rw[h,h2,if_neg (by decide),if_neg (by decide),if_neg (λhh=>hh.2 (h3 hh.1))]
theorem AR {es:List ak} {x:ak} (h:eH es x.of_=none):qg es x=8:=by
 unfold qg;rw[h]
theorem AS {es:List ak} {x y:ak} {k:Nat} (h:eH es x.of_=some k) (hk:es[k]? =some y):qg es x=if y.kind=3\/eJ es x.of_≠0 then 7 else if y.entity≠x.entity\/x.date<y.date\/xM x.lines y.lines=false then 18 else 0:=by
 unfold qg;rw[h];simp only[List.getD_eq_getElem?_getD,hk,Option.getD_some]
theorem Jf {es:List ak} {id:Int}:(eH es id=none/\zs es id= -1)\/∃k,eH es id=some k/\zs es id=k:=by
 unfold zs;cases h:eH es id with
 |none=>exact .inl ⟨rfl,rfl⟩
 |some k=>exact .inr ⟨k,rfl,rfl⟩
theorem Tr (g:au) (es:List ak) (x:ak) (gl ex:List Value) (A:Option Addr) (c:Nat) (w:World) (hg:aL w (·<w.heap.size) gl g) (ci:dQ g) (hl:aj ax 7 w (·<w.heap.size) [.slice A es.length c] es) (hx:ax w (·<w.heap.size) ex x) (ry:x.text.size<=140737488355327) (mG:okJ g es):
 Calls Tryz.prog 23 #[.agg gl.toArray,.slice A es.length c,.agg ex.toArray] w (ap w (.int .i64 (eF g es x))):=by
 have lg:=H_ (λ(w2:World) (hb:Below w.heap.size w w2)=>PQ g x gl ex w2 (hg.keep hb) ci (hx.keep hb) ry);have alV:=H_ (λ(id:Int) (w2:World) (hb:Below w.heap.size w w2)=>PU es A c id w2 (j8 hl hb));have abg:=H_ (λ(id:Int) (w2:World) (hb:Below w.heap.size w w2)=>ZR es A c id w2 (j8 hl hb));obtain⟨r,hr⟩:=x_ (eF g es x);rw[hr];have HR:=H_ hr;obtain⟨R,hR⟩:=x_ (dh g x);rw[hR]at lg;have MG:=H_ hR;have fZ:gl.toArray.size=21:=by have:=hg.len;simpa using this
 have fu:=H_ fZ;obtain⟨Al,cl,YX,oY,TM⟩:=hx.lit;subst YX;have Rh:=H_ TM;have ML:=H_ mG;have jw:=hl.cap;have HL:=H_ hl;obtain⟨n,bj⟩:=x_ (es.length);have HN:=H_ bj;rw[bj]at alV abg jw |-;unfold maxLen at jw;have Sb:n<=9223372036854775807:=by omega
 obtain⟨xi,xe,xd,xk,xo,xt,ls⟩:=x;simp only at oY ry lg Rh |-;obtain⟨nl,nC⟩:∃n,ls.length=n:=⟨_,rfl⟩;have jz:=H_ nC;rw[nC]at lg |-;clear hg ci hl hx mG hr hR fZ TM bj nC jw oY ry;show Calls Tryz.prog 23 #[.agg gl.toArray,.slice A n c,.agg #[xi,xe,xd,xk,xo,xt,.slice Al nl cl]] w (ap w (.int .i64 r));go_enter Tryz.func23,Tryz.ntmps23;go_upto_region 1 with fail;obtain⟨W,hW,H,HB,HS,ewx⟩:=B_ w (.cells gl.toArray 29);rw[hW];clear ewx;obtain⟨W2,fR,H2,dz,jK,ewx⟩:=B_ W (.cells #[xi,xe,xd,xk,xo,xt,.slice Al nl cl] 51);rw[fR];replace H:=(dz.block _ (ag H)).trans H;clear ewx;clear fR;have eW:W.heap.size=w.heap.size+1:=by rw[<-hW];simp
 rw[eW]at H2;clear hW;have aH:=HB.trans (dz.mono HB.size);have dW:=dz.size;have lV:=ag H2;have nf:w.heap.size<W2.heap.size:=by omega
 have HH:=H_ H;have HZ:=H_ H2;have EW:=H_ eW;clear H H2 eW;go_wp2_with (first|(refine W_ 9 29 3 (w.heap.size) HH.o (by rw[ay];exact congrArg some fu.o.symm) Tryz.underlying29 ?_)|(refine W_ 10 51 5 (w.heap.size+1) HZ.o aY Tryz.underlying51 ?_));refine(lg.o W2 aH).mono ?_;rintro e w3 ⟨rfl,aZ⟩;have aF:=aH;have ku:=nf;have kt:=lV;have dn:=HH;have qN:=HZ;have aR:=aF.trans (aZ.mono aF.size);have lE:=aZ.size;have nD:=Nat.lt_of_lt_of_le ku lE;have nK:=Nat.lt_of_lt_of_le kt lE;have kS:=k_ aZ dn;have l7:=k_ aZ qN;by_cases pD:R=0
 case neg=>
  have hq:(R==0)=false:=by simp[pD]
  have lc:(R !=0)=true:=by simp[pD]
  have hf:=H_ (show r=R from HR.o.symm.trans (Ju MG.o pD));clear pD;go_wp2_with fail;go_ret;exact⟨hf.o.symm▸rfl,aR⟩
 case pos=>
 have lc:(R !=0)=false:=by simp[pD]
 have qo:=H_ (show dh g ⟨xi,xe,xd,xk,xo,xt,ls⟩=0 from MG.o.trans pD);clear pD;have e0:=ab l7.o 0;go_wp2_with fail;refine(alV.o xi w3 aR).mono ?_;rintro e w4 ⟨rfl,bU⟩;have bD:=aR.trans (bU.mono aR.size);have yJ:=bU.size;have tx:=Nat.lt_of_lt_of_le nD yJ;have rR:=Nat.lt_of_lt_of_le nK yJ;have oW:=k_ bU kS;have kX:=k_ bU l7;clear e0 lc;rcases Jf (es:=es) (id:=xi)with⟨yZ,tV⟩|⟨k0,yZ,tV⟩
 case inr=>
  rw[tV];have hf:=H_ (show r=9 from HR.o.symm.trans (Jv qo.o yZ));have jy:(0:Int)<=(k0:Int):=by omega
  clear yZ tV;go_wp2_with fail;go_ret;exact⟨hf.o.symm▸rfl,bD⟩
 rw[tV];have lL:=H_ yZ;clear yZ tV;have e3:=ab kX.o 3;by_cases lO:xk=3
 case neg=>
  have Sa:(xk==3)=false:=by simpa using lO
  have hf:=H_ (show r=if 2000<=es.length then 6 else 0 from HR.o.symm.trans (vc qo.o lL.o (λh=>absurd h lO)));rw[HN.o]at hf;clear lO;by_cases mz:2000<=n
  case pos=>
   have Bg:decide ((2000:Int)<=(n:Int))=true:=decide_eq_true (by omega);replace hf:=H_ (hf.o.trans (if_pos mz));clear mz;go_wp2_with fail;go_ret;exact⟨hf.o.symm▸rfl,bD⟩
  case neg=>
   have Bg:decide ((2000:Int)<=(n:Int))=false:=decide_eq_false (by omega);replace hf:=H_ (hf.o.trans (if_neg mz));clear mz;go_wp2_with fail;go_ret;exact⟨hf.o.symm▸rfl,bD⟩
 case pos=>
 have Sa:(xk==3)=true:=by simpa using lO
 have zH:=H_ lO;clear lO;have e4:=ab kX.o 4;go_wp2_with fail;refine(alV.o xo w4 bD).mono ?_;rintro e w5 ⟨rfl,cP⟩;have fG:=bD.trans (cP.mono bD.size);have QU:=cP.size;have aa1:=Nat.lt_of_lt_of_le tx QU;have abq:=Nat.lt_of_lt_of_le rR QU;have QZ:=k_ cP oW;have vv:=k_ cP kX;clear e3 e4 Sa;rcases Jf (es:=es) (id:=xo)with⟨yZ,tV⟩|⟨kk,yZ,tV⟩
 case inl=>
  rw[tV];have hf:=H_ (show r=8 from HR.o.symm.trans (mQ qo.o lL.o zH.o (AR yZ) (by decide)));clear yZ tV;go_wp2_with fail;go_ret;exact⟨hf.o.symm▸rfl,fG⟩
 rw[tV];obtain⟨bI,YR⟩:=sg yZ;obtain⟨b,o,cs,dj,ed,bL,aS⟩:=aj.get HL.o kk bI;subst dj;obtain⟨y,hy⟩:=x_ (es[kk]);have mG:=mn ML.o (List.getElem_mem bI);rw[hy]at bL mG;have NM:=H_ (AS (x:=⟨xi,xe,xd,xk,xo,xt,ls⟩) yZ ((List.getElem?_eq_getElem bI).trans (congrArg some hy)));have Fu:=H_ (vU mG);have HLN:=H_ (BJ mG);obtain⟨Rb,Q9,ft,_,hly⟩:=ax.lit bL;subst ft;have RL:=H_ hly;have Na:=aS.fr (Fr.ofBelow fG);obtain⟨yi,ye,yd,yk,yo,yt,ly⟩:=y;simp only at Na NM Fu HLN RL;obtain⟨Yn,Gu⟩:∃n,ly.length=n:=⟨_,rfl⟩;have YS:=H_ Gu;rw[Gu]at Na;have rH:=H_ Na;have Kz:kk<n:=by rw[<-HN.o];exact bI
 have acx:(kk:Int)< (n:Int):=by omega
 have ae3:(0:Int)<=(kk:Int):=by omega
 have afk:¬(kk:Int)<0:=by omega
 have TN:0<n:=by omega
 have y3:=Na.c (j:=3) rfl;clear yZ tV YR bL mG hy aS hly Na Gu bI;by_cases J6:yk=3
 case pos=>
  have R9:(yk==3)=true:=by simpa using J6
  have hf:=H_ (show r=7 from HR.o.symm.trans (mQ qo.o lL.o zH.o (NM.o.trans (if_pos (.inl J6))) (by decide)));clear J6;go_wp2_with fail;go_ret;exact⟨hf.o.symm▸rfl,fG⟩
 case neg=>
 have R9:(yk==3)=false:=by simpa using J6
 have HYK:=H_ J6;clear J6;have e4:=ab vv.o 4;go_wp2_with fail;refine(abg.o xo w5 fG).mono ?_;rintro e V ⟨rfl,dd⟩;have fi:=fG.trans (dd.mono fG.size);have MV:=dd.size;have aaE:=Nat.lt_of_lt_of_le aa1 MV;have acw:=Nat.lt_of_lt_of_le abq MV;have sS:=k_ dd QZ;have pz:=k_ dd vv;clear e4 y3 R9;obtain⟨rv,IB⟩:=x_ (eJ es xo);rw[IB]at NM |-;clear IB;by_cases JT:rv=0
 case neg=>
  have hrb:(rv !=0)=true:=by simpa using JT
  have hf:=H_ (show r=7 from HR.o.symm.trans (mQ qo.o lL.o zH.o (NM.o.trans (if_pos (.inr JT))) (by decide)));clear JT;go_wp2_with fail;go_ret;exact⟨hf.o.symm▸rfl,fi⟩
 case pos=>
 have hrb:(rv !=0)=false:=by simpa using JT
 have tE:=H_ (NM.o.trans (if_neg (λh=>h.elim HYK.o (λh=>h JT))));clear JT
 try simp only at tE
 have FF:=H_ (λ(w2:World) (hS:Below V.heap.size V w2)=>show Calls Tryz.prog 53 #[.slice Al nl cl,.slice Rb Yn Q9] w2 (ap w2 (.bool (xM ls ly))) by
  have hb:=fi.trans (hS.mono fi.size);have h:=ZO ls ly Al Rb cl Q9 w2 (eR Rh.o hb) (eR RL.o hb) Fu.o (by have:=HLN.o;omega)
  rwa[jz.o,YS.o]at h)
 obtain⟨ob,JS⟩:=x_ (xM ls ly);rw[JS]at FF tE;clear JS;have tD:=rH.o.fr (Fr.ofBelow (dd.mono (fG.size)));have HY1:=H_ (tD.c (j:=1) rfl);have HY2:=H_ (tD.c (j:=2) rfl);have HY6:=H_ (tD.c (j:=6) rfl);have HX1:=H_ (ab pz.o 1);have Fv:=H_ (ab pz.o 2);have Y9:=H_ (ab pz.o 6);have tN:=H_ (show b<V.heap.size from Nat.lt_of_lt_of_le ed fi.size);have Rk:=H_ acw;have dK:=H_ fi;clear tD;by_cases JW:ye=xe
 case neg=>
  have YF:(ye !=xe)=true:=by simpa using JW
  have Qz:=H_ (tE.o.trans (if_pos (.inl JW)));clear JW;go_upto_region 12 with fail;refine bk (Ks V [.val (.slice (some ⟨b,o,none⟩) n c),(kk:Int),.val (.pointer (some ⟨b,o+kk*7,none⟩)),.val (.pointer (some ⟨b,o+kk*7+1,none⟩)),ye,.val (.pointer (some ⟨(w.heap.size+1),1,none⟩)),xe,true,true,undef,undef,undef,undef,undef,undef,undef,undef,true,true,undef,undef,undef,undef,undef,undef,undef,undef,undef,true,true])
   (λw'=>Below V.heap.size V w') K_ K_ K_ (Below.refl _ _).drew ?_ ?_
  ·exact⟨b_ (q_ 1),b_ (q_ 8),c_ (p_ 0 45) (p_ 1 46),b_ (p_ 2 47),e_ (p_ 3 48) λ_ h=>l_ h tN.o HY1.o,b_ (q_ 5),e_ (p_ 5 50) λ_ h=>l_ h Rk.o HX1.o,c_ (p_ 4 49) (p_ 6 51),b_ (p_ 7 52),n_,n_,n_,n_,n_,n_,n_,n_,c_ (p_ 8 53) (p_ 16 61),b_ (p_ 17 62),n_,n_,n_,n_,n_,n_,n_,n_,n_,c_ (p_ 18 63) (p_ 27 72),b_ (p_ 28 73),trivial⟩
  ·intro _ A0 w2 hI hall;have hS:=hI.world;have c9:=hI.ch hall [45,46,47,48,49,50,51,52,53,54,55,56,57,58,59,60,61,62,63,64,65,66,67,68,69,70,71,72,73,44];obtain⟨x0,x1,x2,x3,x4,x5,x6,x7,x8,x9,dN,ef,fh,gU,LR,jH,jZ,kv,lR,kh,rB,vz,vr,zW,zP,zK,zz,By,Bf,vy,hA,hV⟩:=c9;obtain rfl:vy=.bool true:=hV 29 _ _ rfl _ rfl;clear hV hI hall;simp only[ba,List.foldl,List.setIfInBounds_toArray,List.set_cons_zero,List.set_cons_succ]at hA;rw[hA];clear hA;have kT:=dK.o.trans (hS.mono dK.o.size);have hf:=H_ (show r=18 from(HR.o.symm.trans (mQ qo.o lL.o zH.o Qz.o (by decide))));go_wp2_with fail;go_ret;exact⟨hf.o.symm▸rfl,kT⟩
 case pos=>
 have YF:(ye !=xe)=false:=by simpa using JW
 have HYE:=H_ JW;clear JW;by_cases M6:xd<yd
 case pos=>
  have XT:decide (xd<yd)=true:=decide_eq_true M6;have Qz:=H_ (tE.o.trans (if_pos (.inr (.inl M6))));go_upto_region 12 with fail;refine bk (Ks V [.val (.slice (some ⟨b,o,none⟩) n c),(kk:Int),.val (.pointer (some ⟨b,o+kk*7,none⟩)),.val (.pointer (some ⟨b,o+kk*7+1,none⟩)),ye,.val (.pointer (some ⟨(w.heap.size+1),1,none⟩)),xe,false,false,.val (.slice (some ⟨b,o,none⟩) n c),(kk:Int),.val (.pointer (some ⟨b,o+kk*7,none⟩)),.val (.pointer (some ⟨b,o+kk*7+2,none⟩)),yd,.val (.pointer (some ⟨(w.heap.size+1),2,none⟩)),xd,true,true,true,undef,undef,undef,undef,undef,undef,undef,undef,undef,true,true])
   (λw'=>Below V.heap.size V w') K_ K_ K_ (Below.refl _ _).drew ?_ ?_
  ·exact⟨b_ (q_ 1),b_ (q_ 8),c_ (p_ 0 45) (p_ 1 46),b_ (p_ 2 47),e_ (p_ 3 48) λ_ h=>l_ h tN.o HY1.o,b_ (q_ 5),e_ (p_ 5 50) λ_ h=>l_ h Rk.o HX1.o,c_ (p_ 4 49) (p_ 6 51),b_ (p_ 7 52),f_ (q_ 1),f_ (q_ 8),g_ (p_ 9 54) (p_ 10 55),f_ (p_ 11 56),h_ (p_ 12 57) λ_ h=>l_ h tN.o HY2.o,f_ (q_ 5),h_ (p_ 14 59) λ_ h=>l_ h Rk.o Fv.o,g_ (p_ 13 58) (p_ 15 60),c_ (p_ 8 53) (p_ 16 61),b_ (p_ 17 62),n_,n_,n_,n_,n_,n_,n_,n_,n_,c_ (p_ 18 63) (p_ 27 72),b_ (p_ 28 73),trivial⟩
  ·intro _ A0 w2 hI hall;have hS:=hI.world;have c9:=hI.ch hall [45,46,47,48,49,50,51,52,53,54,55,56,57,58,59,60,61,62,63,64,65,66,67,68,69,70,71,72,73,44];obtain⟨x0,x1,x2,x3,x4,x5,x6,x7,x8,x9,dN,ef,fh,gU,LR,jH,jZ,kv,lR,kh,rB,vz,vr,zW,zP,zK,zz,By,Bf,vy,hA,hV⟩:=c9;obtain rfl:vy=.bool true:=hV 29 _ _ rfl _ rfl;clear hV hI hall;simp only[ba,List.foldl,List.setIfInBounds_toArray,List.set_cons_zero,List.set_cons_succ]at hA;rw[hA];clear hA;have kT:=dK.o.trans (hS.mono dK.o.size);have hf:=H_ (show r=18 from(HR.o.symm.trans (mQ qo.o lL.o zH.o Qz.o (by decide))));go_wp2_with fail;go_ret;exact⟨hf.o.symm▸rfl,kT⟩
 case neg=>
 have XT:decide (xd<yd)=false:=decide_eq_false M6;have HYD:=H_ M6;cases ob with
 |false=>
  have Qz:=H_ (tE.o.trans (if_pos (.inr (.inr rfl))));go_upto_region 12 with fail;refine bk (Ks V [.val (.slice (some ⟨b,o,none⟩) n c),(kk:Int),.val (.pointer (some ⟨b,o+kk*7,none⟩)),.val (.pointer (some ⟨b,o+kk*7+1,none⟩)),ye,.val (.pointer (some ⟨(w.heap.size+1),1,none⟩)),xe,false,false,.val (.slice (some ⟨b,o,none⟩) n c),(kk:Int),.val (.pointer (some ⟨b,o+kk*7,none⟩)),.val (.pointer (some ⟨b,o+kk*7+2,none⟩)),yd,.val (.pointer (some ⟨(w.heap.size+1),2,none⟩)),xd,false,false,false,.val (.pointer (some ⟨(w.heap.size+1),6,none⟩)),.val (.slice Al nl cl),.val (.slice (some ⟨b,o,none⟩) n c),(kk:Int),.val (.pointer (some ⟨b,o+kk*7,none⟩)),.val (.pointer (some ⟨b,o+kk*7+6,none⟩)),.val (.slice Rb Yn Q9),false,true,true,true])
   (λw'=>Below V.heap.size V w') K_ K_ K_ (Below.refl _ _).drew ?_ ?_
  ·refine⟨b_ (q_ 1),b_ (q_ 8),c_ (p_ 0 45) (p_ 1 46),b_ (p_ 2 47),e_ (p_ 3 48) λ_ h=>l_ h tN.o HY1.o,b_ (q_ 5),e_ (p_ 5 50) λ_ h=>l_ h Rk.o HX1.o,c_ (p_ 4 49) (p_ 6 51),b_ (p_ 7 52),f_ (q_ 1),f_ (q_ 8),g_ (p_ 9 54) (p_ 10 55),f_ (p_ 11 56),h_ (p_ 12 57) λ_ h=>l_ h tN.o HY2.o,f_ (q_ 5),h_ (p_ 14 59) λ_ h=>l_ h Rk.o Fv.o,g_ (p_ 13 58) (p_ 15 60),c_ (p_ 8 53) (p_ 16 61),b_ (p_ 17 62),f_ (q_ 5),h_ (p_ 19 64) λ_ h=>l_ h Rk.o Y9.o,f_ (q_ 1),f_ (q_ 8),g_ (p_ 21 66) (p_ 22 67),f_ (p_ 23 68),h_ (p_ 24 69) λ_ h=>l_ h tN.o HY6.o,?_,f_ (p_ 26 71),c_ (p_ 18 63) (p_ 27 72),b_ (p_ 28 73),trivial⟩
   ·refine P2_ (p_ 20 65) (p_ 25 70) λA0 w2 K e0 e1 hS hK=>?_;go_simp
    go_at_call 53
    refine(FF.o w2 hS).mono ?_;rintro e w3 ⟨rfl,h3⟩;exact hK.out _ _ (hS.trans (h3.mono hS.size)) (Ks.of rfl rfl) (Ks.keep h3)
  ·intro _ A0 w2 hI hall;have hS:=hI.world;have c9:=hI.ch hall [45,46,47,48,49,50,51,52,53,54,55,56,57,58,59,60,61,62,63,64,65,66,67,68,69,70,71,72,73,44];obtain⟨x0,x1,x2,x3,x4,x5,x6,x7,x8,x9,dN,ef,fh,gU,LR,jH,jZ,kv,lR,kh,rB,vz,vr,zW,zP,zK,zz,By,Bf,vy,hA,hV⟩:=c9;obtain rfl:vy=.bool true:=hV 29 _ _ rfl _ rfl;clear hV hI hall;simp only[ba,List.foldl,List.setIfInBounds_toArray,List.set_cons_zero,List.set_cons_succ]at hA;rw[hA];clear hA;have kT:=dK.o.trans (hS.mono dK.o.size);have hf:=H_ (show r=18 from(HR.o.symm.trans (mQ qo.o lL.o zH.o Qz.o (by decide))));go_wp2_with fail;go_ret;exact⟨hf.o.symm▸rfl,kT⟩
 |true=>
  have Qz:=H_ (tE.o.trans (if_neg (λh=>by
   rcases h with h|h|h
   ·exact h HYE.o
   ·exact HYD.o h
   ·cases h)))
  go_upto_region 12 with fail;refine bk (Ks V [.val (.slice (some ⟨b,o,none⟩) n c),(kk:Int),.val (.pointer (some ⟨b,o+kk*7,none⟩)),.val (.pointer (some ⟨b,o+kk*7+1,none⟩)),ye,.val (.pointer (some ⟨(w.heap.size+1),1,none⟩)),xe,false,false,.val (.slice (some ⟨b,o,none⟩) n c),(kk:Int),.val (.pointer (some ⟨b,o+kk*7,none⟩)),.val (.pointer (some ⟨b,o+kk*7+2,none⟩)),yd,.val (.pointer (some ⟨(w.heap.size+1),2,none⟩)),xd,false,false,false,.val (.pointer (some ⟨(w.heap.size+1),6,none⟩)),.val (.slice Al nl cl),.val (.slice (some ⟨b,o,none⟩) n c),(kk:Int),.val (.pointer (some ⟨b,o+kk*7,none⟩)),.val (.pointer (some ⟨b,o+kk*7+6,none⟩)),.val (.slice Rb Yn Q9),true,false,false,false])
   (λw'=>Below V.heap.size V w') K_ K_ K_ (Below.refl _ _).drew ?_ ?_
  ·refine⟨b_ (q_ 1),b_ (q_ 8),c_ (p_ 0 45) (p_ 1 46),b_ (p_ 2 47),e_ (p_ 3 48) λ_ h=>l_ h tN.o HY1.o,b_ (q_ 5),e_ (p_ 5 50) λ_ h=>l_ h Rk.o HX1.o,c_ (p_ 4 49) (p_ 6 51),b_ (p_ 7 52),f_ (q_ 1),f_ (q_ 8),g_ (p_ 9 54) (p_ 10 55),f_ (p_ 11 56),h_ (p_ 12 57) λ_ h=>l_ h tN.o HY2.o,f_ (q_ 5),h_ (p_ 14 59) λ_ h=>l_ h Rk.o Fv.o,g_ (p_ 13 58) (p_ 15 60),c_ (p_ 8 53) (p_ 16 61),b_ (p_ 17 62),f_ (q_ 5),h_ (p_ 19 64) λ_ h=>l_ h Rk.o Y9.o,f_ (q_ 1),f_ (q_ 8),g_ (p_ 21 66) (p_ 22 67),f_ (p_ 23 68),h_ (p_ 24 69) λ_ h=>l_ h tN.o HY6.o,?_,f_ (p_ 26 71),c_ (p_ 18 63) (p_ 27 72),b_ (p_ 28 73),trivial⟩
   ·refine P2_ (p_ 20 65) (p_ 25 70) λA0 w2 K e0 e1 hS hK=>?_;go_simp
    go_at_call 53
    refine(FF.o w2 hS).mono ?_;rintro e w3 ⟨rfl,h3⟩;exact hK.out _ _ (hS.trans (h3.mono hS.size)) (Ks.of rfl rfl) (Ks.keep h3)
  ·intro _ A0 w2 hI hall;have hS:=hI.world;have c9:=hI.ch hall [45,46,47,48,49,50,51,52,53,54,55,56,57,58,59,60,61,62,63,64,65,66,67,68,69,70,71,72,73,44];obtain⟨x0,x1,x2,x3,x4,x5,x6,x7,x8,x9,dN,ef,fh,gU,LR,jH,jZ,kv,lR,kh,rB,vz,vr,zW,zP,zK,zz,By,Bf,vy,hA,hV⟩:=c9;obtain rfl:vy=.bool false:=hV 29 _ _ rfl _ rfl;clear hV hI hall;simp only[ba,List.foldl,List.setIfInBounds_toArray,List.set_cons_zero,List.set_cons_succ]at hA;rw[hA];clear hA;have kT:=dK.o.trans (hS.mono dK.o.size);have hf:=H_ (show r=(if 2000<=n then 6 else 0)from by rw[<-HN.o];exact HR.o.symm.trans (vc qo.o lL.o (λ_=>Qz.o)));by_cases mz:2000<=n
   case pos=>
    have Bg:decide ((2000:Int)<=(n:Int))=true:=decide_eq_true (by omega);replace hf:=H_ (hf.o.trans (if_pos mz));clear mz;go_wp2_with fail;go_ret;exact⟨hf.o.symm▸rfl,kT⟩
   case neg=>
    have Bg:decide ((2000:Int)<=(n:Int))=false:=decide_eq_false (by omega);replace hf:=H_ (hf.o.trans (if_neg mz));clear mz;go_wp2_with fail;go_ret;exact⟨hf.o.symm▸rfl,kT⟩
end Go.Proofs.YtibiddakakgakaaGreat
