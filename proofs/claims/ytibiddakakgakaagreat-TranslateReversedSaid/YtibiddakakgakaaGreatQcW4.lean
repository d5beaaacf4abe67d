/- Translation: years, reversals, equal rates. -/
import Derived.Test.YtibiddakakgakaaGreatQcI21I22
import Derived.Test.YtibiddakakgakaaGreatQcV5X3
set_option linter.unusedVariables false
set_option linter.unusedSimpArgs false
set_option maxHeartbeats 16000000
namespace Go.Proofs.YtibiddakakgakaaGreat
open Go Go.RowKit
theorem aiv {l:List bG} {j:Nat} (hj:j<l.length):(l.map nu).getD j {}=nu (l.getD j {}):=by
 rw[List.getD_eq_getElem?_getD,List.getD_eq_getElem?_getD,List.getElem?_eq_getElem (by simpa using hj),List.getElem?_eq_getElem hj];simp
theorem aie (b:XBk) (x:ak) (id:Int) {j:Nat} (hj:j<x.lines.length) (p:Int):
 (jr b (agW x id x.date) j p).2=(jr b x j p).2/\(jr b (agW x id x.date) j p).1.account=(jr b x j p).1.account/\(jr b (agW x id x.date) j p).1.amount= -(jr b x j p).1.amount/\
  (jr b (agW x id x.date) j p).1.partner=(jr b x j p).1.partner/\(jr b (agW x id x.date) j p).1.date=(jr b x j p).1.date:=by
 unfold jr agW;simp only;rw[aiv hj];unfold nu;simp only;rw[Lc];simp only;split
 ·simp
 ·split
  ·simp
  ·simp
theorem aig {b:XBk} (hb:cE b) {x:ak} (hx:x∈b.es) {id:Int} (hpo:eF b.g b.es (agW x id x.date)=0) {j:Nat} (hj:j<x.lines.length) (p:Int) (c:XBk) (hc:c=⟨b.g,b.es++[agW x id x.date],b.rs⟩):
 (pm c id j p).2=(pm c x.id j p).2/\(pm c id j p).1.account=(pm c x.id j p).1.account/\(pm c id j p).1.amount= -(pm c x.id j p).1.amount/\
  (pm c id j p).1.partner=(pm c x.id j p).1.partner/\(pm c id j p).1.date=(pm c x.id j p).1.date:=by
 have mG:okJ c.g c.es:=by rw[hc];exact EA hb.2.1 hpo
 obtain⟨i,hi,R4⟩:=List.getElem_of_mem hx;have e1:eH c.es x.id=some i:=by
  have h1:=ah6 mG (i:=i) (by rw[hc];simp;omega);have e:c.es[i]'(by rw[hc];simp;omega)=x:=by
   subst hc;show(b.es++[agW x id x.date])[i]'(by simp;omega)=x;rw[List.getElem_append_left hi];exact R4
  rw[e]at h1;exact h1
 have e2:eH c.es id=some b.es.length:=by
  have h1:=ah6 mG (i:=b.es.length) (by rw[hc];simp);have e:c.es[b.es.length]'(by rw[hc];simp)=agW x id x.date:=by
   subst hc;show(b.es++[agW x id x.date])[b.es.length]'(by simp)=agW x id x.date;simp
  rw[e]at h1;exact h1
 have g1:c.es.getD i {}=x:=by
  subst hc;show(b.es++[agW x id x.date]).getD i {}=x;rw[List.getD_eq_getElem?_getD,List.getElem?_append_left hi,List.getElem?_eq_getElem hi,R4];rfl
 have g2:c.es.getD b.es.length {}=agW x id x.date:=by
  subst hc;show(b.es++[agW x id x.date]).getD b.es.length {}=agW x id x.date;rw[List.getD_eq_getElem?_getD,List.getElem?_append_right (Nat.le_refl _)];simp
 unfold pm;by_cases h:fH c 0 p=0
 ·rw[if_pos h,if_pos h,e1,e2];simp only;rw[g1,g2];have hl:(agW x id x.date).lines.length=x.lines.length:=by unfold agW;simp
  have hd:(agW x id x.date).date=x.date:=rfl;rw[hl,hd];by_cases h2:(j:Int)<0\/(x.lines.length:Int)<=(j:Int)\/bA c.g p<x.date
  ·rw[if_pos h2,if_pos h2];simp
  ·rw[if_neg h2,if_neg h2,Int.toNat_natCast];exact aie c x id hj p
 ·rw[if_neg h,if_neg h];simp
end Go.Proofs.YtibiddakakgakaaGreat
