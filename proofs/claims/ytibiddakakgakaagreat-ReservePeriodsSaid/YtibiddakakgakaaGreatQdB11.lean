/- Charts: the way up, in the reference. Written by gen_b11.py. -/
import Derived.Test.YtibiddakakgakaaGreatQdB5B12
set_option linter.unusedVariables false
set_option linter.unusedSimpArgs false
set_option maxRecDepth 4000
attribute [local go_sem ↓] Go.wp_at_zero Go.wp_at_succ
set_option maxHeartbeats 16000000
namespace Go.Proofs.YtibiddakakgakaaGreat
open Go Go.RowKit
theorem S5 {n k:Nat} (h:k<=n):n+1- (((k+1:Nat):Int)).toNat<n+1- ((k:Int)).toNat:=by omega
theorem Qq {l:List ah} {c:Int} {f:Nat} {acc:List Int} (h:aK l c=none):upR l (f+1) acc c=acc:=by unfold upR;rw[h]
theorem ZX {l:List ah} {c:Int} {f:Nat} {acc:List Int} {a:ah} (h:aK l c=some a):upR l (f+1) acc c=upR l f (acc++[c]) a.parent:=by
 conv=>lhs;unfold upR
 rw[h]
theorem PR (l:List ah) (A:Option Addr) (c:Nat) (code:Int) (w:World) (hl:aj ar 4 w (·<w.heap.size) [.slice A l.length c] l) (hc:cx code) (hn:l.length<=1000):
 Calls Tryz.prog 221 #[.slice A l.length c,code] w (λe w'=>∃v,e=.returned v/\w'.ownsRow w.heap.size 3 1 v (upR l (l.length+1) [] code).length (iv (upR l (l.length+1) [] code))/\Below w.heap.size w w'):=by
 obtain⟨i0,Y5,hz0,IU,QH⟩:=info_parts Ee;obtain⟨R,hR⟩:=x_ (upR l (l.length+1) [] code);rw[hR];have HR:=H_ hR;clear hR;obtain⟨n,bj⟩:=x_ (l.length);rw[bj]at hn;have HL:=H_ hl;have HN:=H_ bj;have HC:=H_ hc;rw[bj];clear hl bj hc;go_enter Tryz.func221,Tryz.ntmps221;go_wp2_with fail
 go_loopw [5,6,1] (λo j i wr=>∃(acc:List Int) (c':Int) (k f:Nat),wr.ownsRow w.heap.size 3 1 o acc.length (iv acc)/\j=.int .i64 (k:Int)/\i=.int .i64 c'/\cx c'/\Below w.heap.size w wr/\acc.length<=k/\k+f=n+1/\upR l f acc c'=R) (λ_ j _ _=>n+1- (intOf j).toNat)
 case atStart=>exact⟨[],code,0,n+1,World.ownsRow_nil _ _ _ _,rfl,rfl,HC.o,Below.refl _ _,Nat.le_refl _,by omega,by rw[<-HN.o];exact HR.o⟩
 case round=>
  obtain⟨acc,c',k,f,bv,rfl,rfl,hc',hb,hal,hf,hup⟩:=hrel;have V6:=H_ hup;have HC':=H_ hc';have HO:=H_ bv;have MO:=H_ hal;have Vw:=H_ (az HL.o hb);have bP:=hb.size;clear hup hal;obtain⟨fP,gn⟩:=hc';by_cases aU:k<=n
  case pos=>
   have bq:(k:Int)<=(n:Int):=by omega
   obtain⟨f,rfl⟩:∃g,f=g+1:=⟨f- 1,by omega⟩;go_wp2_with fail;have aM:=mU l A c c' wr Vw.o HC'.o (by rw[HN.o];exact hn);rw[HN.o]at aM;refine aM.mono ?_;clear aM;rintro e w2 ⟨rfl,aH⟩;have tv:=hb.trans (aH.mono hb.size);cases ha:aK l c' with
   |none=>
    have e0:cF l c'=.tuple #[.agg (bn {}).toArray,false]:=fJ ha;rw[e0];clear e0;have HA:=H_ ha;clear ha;go_wp2_with fail;go_ret;have e1:R=acc:=by rw[<-V6.o,Qq HA.o]
    rw[e1];exact⟨_,rfl,(bb HO.o aH).alloc _,tv.alloc tv.size _⟩
   |some a=>
    have e0:cF l c'=.tuple #[.agg (bn a).toArray,true]:=eD ha;rw[e0];clear e0;have HA:=H_ ha;have m3:=HL.o.accB a (cJ ha).1;clear ha;obtain⟨c1,c2,c3,c4⟩:=a;have XJ:=H_ m3.2.2.2;clear m3;go_upto_region 6 with fail;obtain⟨W7,F8,H7,em,yG,ewx⟩:=B_ w2 (.cells #[c1,c2,c3,c4] 78);rw[F8];clear ewx yG;clear F8;have fC:=tv.trans (em.mono tv.size);have IQ:=bb (bb HO.o aH) em;have G7:=H_ H7;clear H7;have dW:=aH.size;have QN:=em.size;go_wp2_with (at_builtin;go_loud (refine wpList_append_own _ rfl (.tmp 23) (.tmp 25) _ rfl w.heap.size 3 i0 _ 1 8 Tryz.underlying148 Y5 hz0 IU QH rfl (by have:=MO.o;omega) _ acc.length (iv acc) rfl (IQ.alloc _) ⟨W7.heap.size,0,none⟩ 1 1 [c'] rfl rfl (cell_one_new _ _ _) (by simp[Value.oneCell']) (by have:=MO.o;simp only[maxLen];omega) (by have:=MO.o;omega) (by have:=MO.o;simp;omega) ?_);intro v9 w9 cj gk _;have d3:=ab (VN G7.o gk (λe=>by have:=(HO.o.lt _ e.symm).2;omega)) 3);go_roundw
    case rel=>
     refine⟨acc++[c'],c4,k+1,f,?_,by go_num,rfl,XJ.o,?_,?_,?_,?_⟩
     ·have e1:iv (acc++[c'])=iv acc++[.int .i64 c']:=by simp[iv]
      rw[e1,List.length_append];exact cj
     ·exact bK (fC.alloc (by omega) _) gk (λk hk=>by have:=(HO.o.lt _ hk).1;omega) (Nat.le_refl _)
     ·have:=MO.o;simp only[List.length_append,List.length_cons,List.length_nil];omega
     ·omega
     ·rw[<-V6.o];exact(ZX HA.o).symm
    case measure=>
     have e:wrap64 ((k:Int)+1)=((k+1:Nat):Int):=by unfold wrap64;omega
     simp only[intOf,e];exact S5 aU
  case neg=>
   have bq:¬(k:Int)<=(n:Int):=by omega
   have Qz:f=0:=by omega
   have HF0:=H_ Qz;clear Qz;go_wp2_with fail;go_ret;have e1:R=acc:=by rw[<-V6.o,HF0.o];rfl
   rw[e1];exact⟨_,rfl,HO.o,hb⟩
end Go.Proofs.YtibiddakakgakaaGreat
