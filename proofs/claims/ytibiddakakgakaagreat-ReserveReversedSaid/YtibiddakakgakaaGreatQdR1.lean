/- Lists of rates that are valid: the reference. Written by gen_r1.py. -/
import Derived.Test.YtibiddakakgakaaGreatQdY4P9
set_option linter.unusedVariables false
set_option linter.unusedSimpArgs false
set_option maxRecDepth 4000
attribute [local go_sem ↓] Go.wp_at_zero Go.wp_at_succ
set_option maxHeartbeats 16000000
namespace Go.Proofs.YtibiddakakgakaaGreat
open Go Go.RowKit
theorem yq (grp:ByteArray) (rs:List aC) (A:Option Addr) (cc:Nat) (w:World) (hl:aj bN 4 w (·<w.heap.size) [.slice A rs.length cc] rs) (bP:∀r∈rs,r.currency.size<=140737488355328) (kC:grp.size<=140737488355328) (hm:rs.length<=100000):
 Calls Tryz.prog 31 #[grp,.slice A rs.length cc] w (ap w (.bool (decide (dJ grp rs)))):=by
 obtain⟨R,hR⟩:∃b:Bool,decide (dJ grp rs)=b:=⟨_,rfl⟩;have HR:=H_ hR;rw[hR];clear hR;have HL:=H_ hl;have N2:=H_ bP;have fu:=H_ kC;obtain⟨n,hn⟩:=x_ (rs.length);have HN:=H_ hn;rw[hn]at hm |-;clear hl hn bP kC;go_enter Tryz.func31,Tryz.ntmps31;go_wp2_with fail
 go_loopw [5] (λi wr=>∃k:Nat,k<=n/\i=.int .i64 (k:Int)/\Below w.heap.size w wr/\(∀j (hj:j<rs.length),j<k->eO grp rs[j]=true)/\((rs.take k).map cW).Nodup) (λi _=>n- (intOf i).toNat)
 case atStart=>exact⟨0,by omega,rfl,Below.refl _ _,λj hj h=>by omega,by simp⟩
 case round=>
  obtain⟨k,hk,rfl,hb,hall,N4⟩:=hrel;generalize wr=w3 at*;have HA:=H_ hall;have Vi:=H_ N4;have bP:=hb.size;clear hall N4;by_cases aU:k<n
  case pos=>
   have bq:(k:Int)< (n:Int):=by omega
   have gW:0<n:=by omega
   have bI:k<rs.length:=by rw[HN.o];exact aU
   obtain⟨b,o,es,dj,ed,bL,aS⟩:=aj.get HL.o k bI;subst dj;obtain⟨bE,_⟩:=io bL;rw[bE]at aS;have T2:=N2.o _ (List.getElem_mem bI);have acB:=H_ (λ(j:Nat) (hj:j<rs.length)=>show At w (·<w.heap.size) ⟨b,o+j*4,none⟩ (fN rs[j]) by
    obtain⟨b2,o2,MJ,hA2,_,h3,h4⟩:=aj.get HL.o j hj;simp only[Option.some.injEq,Addr.mk.injEq,and_true]at hA2;obtain⟨rfl,rfl⟩:=hA2
    rwa[(io h3).1]at h4)
   obtain⟨x,hx⟩:=x_ (rs[k]);rw[hx]at aS T2;have HX:=H_ hx;obtain⟨rc,rk,rt,rv⟩:=x;have Dh:=H_ (show At w (·<w.heap.size) ⟨b,o+k*4,none⟩ [.string rc,.int .i64 rk,.int .i64 rt,.int .i64 rv]from aS);have eZ:=H_ ((Dh.o.fr (Fr.ofBelow hb)).range);obtain⟨v,hv⟩:=x_ (eO grp ⟨rc,rk,rt,rv⟩);have Y8:=EQ grp rc rk rt rv w3 T2;rw[hv]at Y8;have rD:=H_ Y8;have HV:=H_ (show eO grp rs[k]=v by rw[HX.o];exact hv);have HHB:=H_ ed;clear bL bE aS hx ed T2 Y8 hv;go_wp2_with (refine w_ 17 70 16 b (o+k*4) [rc,rk,rt,rv] eZ.o aT Tryz.underlying70 ?_);refine rD.o.mono ?_;rintro e w7 ⟨rfl,fC⟩;have gb:=hb.trans (fC.mono hb.size);cases v with
   |false=>
    have hf:=H_ (show R=false by rw[<-HR.o];exact decide_eq_false (AY bI HV.o));go_wp2_with fail;go_ret;exact⟨hf.o.symm▸rfl,gb⟩
   |true=>
    go_wp2_with fail
    go_loopw [6] (λi wr=>∃j:Nat,j<=k/\i=.int .i64 (j:Int)/\Below w.heap.size w wr/\∀i (hi:i<rs.length),i<j->cW rs[i]≠cW rs[k]) (λi _=>k- (intOf i).toNat)
    case atStart=>exact⟨0,by omega,rfl,gb,λi hi h=>by omega⟩
    case round=>
     obtain⟨j,hj,rfl,jX,bT⟩:=hrel;have eP:=H_ bT;clear bT;by_cases hlj:j<k
     case pos=>
      have adV:(j:Int)< (k:Int):=by omega
      have aeP:(j:Int)< (n:Int):=by omega
      have vn:j<rs.length:=by omega
      have Yv:=acB.o j vn;obtain⟨y,hy⟩:=x_ (rs[j]);rw[hy]at Yv;have HY:=H_ hy;obtain⟨sc,sk,st,sv⟩:=y;have acL:=H_ (show At wr (·<wr.heap.size) ⟨b,o+j*4,none⟩ [.string sc,.int .i64 sk,.int .i64 st,.int .i64 sv]from(Yv.fr (Fr.ofBelow jX)).mono (λq hq=>Nat.lt_of_lt_of_le hq jX.size));have aef:=H_ (show At wr (·<wr.heap.size) ⟨b,o+k*4,none⟩ [.string rc,.int .i64 rk,.int .i64 rt,.int .i64 rv]from(Dh.o.fr (Fr.ofBelow jX)).mono (λq hq=>Nat.lt_of_lt_of_le hq jX.size));obtain⟨q,hq⟩:=x_ (decide (sc=rc/\sk=rk/\st=rt));have J5:=H_ (λ(w2:World)=>show Calls Tryz.prog 68 #[.agg #[sc,sk,st,sv],.agg #[rc,rk,rt,rv]] w2 (ap w2 (.bool q)) by rw[<-hq];exact AT sc rc sk st sv rk rt rv w2);have HQ:=H_ (show q=true↔cW rs[j]=cW rs[k] by
       rw[HX.o,HY.o,<-hq];unfold cW;simp only[decide_eq_true_eq,Prod.mk.injEq])
      clear hy Yv hq;go_upto_region 9 with fail;refine bp (Ks wr [.val (.slice (some ⟨b,o,none⟩) n cc),(j:Int),.val (.pointer (some ⟨b,o+j*4,none⟩)),.val (.agg #[sc,sk,st,sv]),.val (.slice (some ⟨b,o,none⟩) n cc),(k:Int),.val (.pointer (some ⟨b,o+k*4,none⟩)),.val (.agg #[rc,rk,rt,rv]),q])
       (λw'=>Below wr.heap.size wr w') K_ K_ K_ (Below.refl _ _).drew ?_ ?_
      ·refine⟨b_ (q_ 1),b_ (q_ 6),c_ (p_ 0 25) (p_ 1 26),?_,b_ (q_ 1),b_ (q_ 5),c_ (p_ 4 29) (p_ 5 30),?_,?_,trivial⟩
       ·refine O1_ (p_ 2 27) λA0 w2 K e0 hS hK=>?_;have aJ:w2.rangeAt b (o+j*4) [sc,sk,st,sv]:=(acL.o.fr (Fr.ofBelow hS)).range;have aI:=aT;refine wp_load_mid 70 (.tmp 27) rfl _ _ (v_ e0) _ _ aJ Tryz.underlying70 rfl aI ?_;exact kq hK hS rfl
       ·refine O1_ (p_ 6 31) λA0 w2 K e0 hS hK=>?_;have aJ:w2.rangeAt b (o+k*4) [rc,rk,rt,rv]:=(aef.o.fr (Fr.ofBelow hS)).range;have aI:=aT;refine wp_load_mid 70 (.tmp 31) rfl _ _ (v_ e0) _ _ aJ Tryz.underlying70 rfl aI ?_;exact kq hK hS rfl
       ·refine O2_ (p_ 3 28) (p_ 7 32) λA0 w2 K e0 e1 hS hK=>?_;go_simp
        go_at_call 68
        refine(J5.o w2).mono ?_;rintro e w3 ⟨rfl,h3⟩;exact hK.out _ _ (hS.trans (h3.mono hS.size)) (Ks.of rfl (rfl)) (Ks.keep h3)
      ·intro _ A0 w2 hI hall;have hS:=hI.world;have c9:=hI.ch hall [25,26,27,28,29,30,31,32,33];obtain⟨x0,x1,x2,x3,x4,x5,x6,x7,x8,hA,hV⟩:=c9;obtain rfl:x8=.bool q:=hV 8 _ _ rfl _ rfl;clear hV hI hall;simp only[ba,List.foldl,List.setIfInBounds_toArray,List.set_cons_zero,List.set_cons_succ]at hA;rw[hA];clear hA;have Kk:=jX.trans (hS.mono jX.size);cases q with
       |true=>
        have hf:=H_ (show R=false by
         rw[<-HR.o];refine decide_eq_false (AZ bI (List.any_eq_true.2 ⟨rs[j],List.mem_take_iff_getElem.2 ⟨j,by omega,rfl⟩,decide_eq_true (HQ.o.1 rfl)⟩)))
        go_wp2_with fail;go_ret;exact⟨hf.o.symm▸rfl,Kk⟩
       |false=>
        have rN:=H_ (show ∀i (hi:i<rs.length),i<j+1->cW rs[i]≠cW rs[k]from λi hi Gb=>by
         rcases Nat.lt_or_ge i j with h|h
         ·exact eP.o i hi h
         ·obtain rfl:i=j:=by omega
          exact λh=>by have:=HQ.o.2 h;cases this)
        go_wp2_with fail;go_roundw
        case rel=>exact⟨j+1,by omega,by go_num,Kk,rN.o⟩
        case measure=>first|exact aQ hlj|(simp only[intOf];omega)
     case neg=>
      have adV:¬(j:Int)< (k:Int):=by omega
      have HNS:=H_ (show((rs.take k).any λx=>decide (cW x=cW rs[k]))=false by
       rw[List.any_eq_false];intro x hx;obtain⟨i,hi,rfl⟩:=List.mem_take_iff_getElem.1 hx;simpa using eP.o i (by omega) (by omega))
      go_wp2_with fail;go_roundw
      case rel=>
       refine⟨k+1,by omega,by go_num,jX,λi hi TG=>?_,ace bI Vi.o HNS.o⟩;rcases Nat.lt_or_ge i k with h|h
       ·exact HA.o i hi h
       ·obtain rfl:i=k:=by omega
        exact HV.o
      case measure=>first|exact aQ aU|(simp only[intOf];omega)
  case neg=>
   have bq:¬(k:Int)< (n:Int):=by omega
   obtain⟨v,hv⟩:=x_ (cQ grp);have cI:=xU grp w3 fu.o;rw[hv]at cI;have FK:=H_ cI;have HV:=H_ hv;have eY:=H_ (show(∀r∈rs,eO grp r=true)/\(rs.map cW).Nodup by
    refine⟨λr hr=>?_,?_⟩
    ·obtain⟨j,hj,rfl⟩:=List.getElem_of_mem hr;exact HA.o j hj (by have:=HN.o;omega)
    ·have:=Vi.o
     rwa[List.take_of_length_le (by have:=HN.o;omega)]at this)
   clear cI hv;go_wp2_with fail;refine FK.o.mono ?_;rintro e w7 ⟨rfl,fC⟩;have gb:=hb.trans (fC.mono hb.size);cases v with
   |false=>
    have hf:=H_ (show R=false by rw[<-HR.o];exact decide_eq_false (λh=>by have:=h.2.2.1;rw[HV.o]at this;cases this));go_wp2_with fail;go_ret;exact⟨hf.o.symm▸rfl,gb⟩
   |true=>
    by_cases rJ:n<=1000
    case pos=>
     have hf:=H_ (show R=true by rw[<-HR.o];exact decide_eq_true ⟨eY.o.1,eY.o.2,HV.o,by rw[HN.o];exact rJ⟩);have FS_:decide ((n:Int)<=1000)=true:=decide_eq_true (by omega);clear rJ;go_wp2_with fail;go_ret;exact⟨hf.o.symm▸rfl,gb⟩
    case neg=>
     have hf:=H_ (show R=false by rw[<-HR.o];exact decide_eq_false (λh=>rJ (by have:=h.2.2.2;rw[HN.o]at this;exact this)));have FS_:decide ((n:Int)<=1000)=false:=decide_eq_false (by omega);clear rJ;go_wp2_with fail;go_ret;exact⟨hf.o.symm▸rfl,gb⟩
end Go.Proofs.YtibiddakakgakaaGreat
