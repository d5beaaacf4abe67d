/- The reference's Get and Reversal. Written by gen_i10.py. -/
import Derived.Test.YtibiddakakgakaaGreatQbI3I12
set_option linter.unusedVariables false
set_option linter.unusedSimpArgs false
set_option maxRecDepth 4000
attribute [local go_sem ↓] Go.wp_at_zero Go.wp_at_succ
set_option maxHeartbeats 16000000
namespace Go.Proofs.YtibiddakakgakaaGreat
open Go Go.RowKit
def zs (es:List ak) (id:Int):Int:=match eH es id with|some k=>(k:Int)|none=> -1
theorem Lp {es:List ak} {id:Int} {k:Nat} (hk:k<es.length) (h:es[k].id=id) (hall:∀j (hj:j<k),es[j].id≠id):zs es id=k:=by
 have:eH es id=some k:=by
  unfold eH;rw[List.findIdx?_eq_some_iff_getElem];exact⟨hk,by simpa using h,λj hj=>by simpa using hall j hj⟩
 unfold zs;rw[this]
theorem Lo {es:List ak} {id:Int} (hall:∀j (hj:j<es.length),es[j].id≠id):zs es id= -1:=by
 have:eH es id=none:=by
  unfold eH;rw[List.findIdx?_eq_none_iff];intro x hx;obtain⟨j,hj,rfl⟩:=List.getElem_of_mem hx;simpa using hall j hj
 unfold zs;rw[this]
theorem PU (es:List ak) (A:Option Addr) (c:Nat) (id:Int) (w:World) (hl:aj ax 7 w (·<w.heap.size) [.slice A es.length c] es):Calls Tryz.prog 21 #[.slice A es.length c,id] w (ap w (.int .i64 (zs es id))):=by
 obtain⟨r,hr⟩:=x_ (zs es id);rw[hr];have HR:=H_ hr;have jw:=hl.cap;obtain⟨n,bj⟩:=x_ (es.length);have HL:=H_ hl;have HN:=H_ bj;rw[bj]at jw |-;unfold maxLen at jw;have Sb:n<=9223372036854775807:=by omega
 clear hr hl bj jw;go_enter Tryz.func21,Tryz.ntmps21;go_wp2_with fail
 go_loopw [5] (λi wr=>∃k:Nat,k<=n/\i=.int .i64 (k:Int)/\Below w.heap.size w wr/\∀j (hj:j<es.length),j<k->es[j].id≠id) (λi _=>n- (intOf i).toNat)
 case atStart=>exact⟨0,by omega,rfl,Below.refl _ _,λj hj h=>by omega⟩
 case round=>
  obtain⟨k,hk,rfl,hb,hall⟩:=hrel;have eY:=H_ hall;clear hall;by_cases aU:k<n
  case pos=>
   have bq:(k:Int)< (n:Int):=by omega
   have bI:k<es.length:=by rw[HN.o];exact aU
   obtain⟨b,o,cs,dj,ed,bL,aS⟩:=aj.get HL.o k bI;subst dj;obtain⟨Al,cl,ft,_⟩:=ax.lit bL;subst ft;have c0:wr.cell? ⟨b,o+k*7,none⟩=_:=(aS.fr (Fr.ofBelow hb)).c (j:=0) rfl;obtain⟨xi,R4⟩:=x_ (es[k].id);rw[R4]at c0;have VA:=H_ R4;have TN:0<n:=by omega
   clear bL aS R4;by_cases he:xi=id
   case pos=>
    have X3:(xi==id)=true:=by simpa using he
    have hf:=H_ (show r=(k:Int) by rw[<-HR.o];exact Lp bI (VA.o.trans he) (λj hj=>eY.o j (by omega) hj));clear he;go_wp2_with fail;go_ret;exact⟨hf.o.symm▸rfl,hb⟩
   case neg=>
    have X3:(xi==id)=false:=by simpa using he
    have eP:=H_ he;clear he;go_wp2_with fail;go_roundw
    case rel=>exact⟨k+1,by omega,by go_num,hb,λj hj h=>by
     rcases Nat.lt_or_ge j k with h1|h1
     ·exact eY.o j hj h1
     ·have:j=k:=by omega
      subst this;rw[VA.o];exact eP.o⟩
    case measure=>first|exact aQ aU|(simp only[intOf];omega)
  case neg=>
   have bq:¬(k:Int)< (n:Int):=by omega
   have hf:=H_ (show r= -1 from HR.o.symm.trans (Lo (λj hj=>eY.o j hj (by have:=HN.o;omega))));go_wp2_with fail;go_ret;exact⟨hf.o.symm▸rfl,hb⟩
end Go.Proofs.YtibiddakakgakaaGreat
