/- Translation: what does not change the items. -/
import Derived.Test.YtibiddakakgakaaGreatQbW1X5
set_option linter.unusedVariables false
set_option linter.unusedSimpArgs false
set_option maxHeartbeats 16000000
namespace Go.Proofs.YtibiddakakgakaaGreat
open Go Go.RowKit
def ltI (x y:bW):Prop:=x.entity<y.entity\/x.entity=y.entity/\(x.date<y.date\/x.date=y.date/\(x.ref.entry<y.ref.entry\/x.ref.entry=y.ref.entry/\x.ref.line<y.ref.line))
theorem p8 {b:XBk} {ent p:Int} (h:(pQ b ent p).2=0):(pQ b ent p).1.Pairwise ltI:=by
 obtain⟨h1,h2,h3⟩:=j3 h;obtain⟨hb,he,hp⟩:=vN h1;rw[h3,List.pairwise_flatMap];have hi:∀x∈Je b ent p,∀j<x.lines.length,(jr b x j p).1.entity=ent/\(jr b x j p).1.date=x.date/\(jr b x j p).1.ref=⟨x.id,(j:Int)⟩:=λx hx j hj=>by
  rw[(lv (h2 x hx j hj)).2.2];exact⟨((Lj (p:=p) (ent:=ent) hb).1 hx).2.1,rfl,rfl⟩
 refine⟨λx hx=>?_,?_⟩
 ·rw[List.pairwise_map,List.pairwise_iff_getElem];intro i j tV tP Gb;simp only[List.length_range]at tV tP;simp only[List.getElem_range];obtain⟨a1,a2,a3⟩:=hi x hx i tV;obtain⟨c1,c2,c3⟩:=hi x hx j tP;exact .inr ⟨a1.trans c1.symm,.inr ⟨rfl.trans (a2.trans c2.symm),.inr ⟨by rw[a3,c3],by rw[a3,c3];exact Int.ofNat_lt.2 Gb⟩⟩⟩
 ·refine((OY hb ent p).2.imp_of_mem (S:=λx y=>∀u∈(List.range x.lines.length).map (λj=>(jr b x j p).1),∀v∈(List.range y.lines.length).map (λj=>(jr b y j p).1),ltI u v) (λ{x y} hx hy hl u hu v hv=>?_));obtain⟨i,yZ,rfl⟩:=List.mem_map.1 hu;obtain⟨j,Fp,rfl⟩:=List.mem_map.1 hv;obtain⟨a1,a2,a3⟩:=hi x hx i (List.mem_range.1 yZ);obtain⟨c1,c2,c3⟩:=hi y hy j (List.mem_range.1 Fp);refine .inr ⟨a1.trans c1.symm,?_⟩;rcases hl with hl|⟨hl,vl⟩
  ·exact .inl (by rw[a2,c2];exact hl)
  ·exact .inr ⟨by rw[a2,c2];exact hl,.inl (by rw[a3,c3];exact vl)⟩
theorem K0 {b:XBk} {e l p:Int} (h:(pm b e l p).2=0):
 ∃(x:ak) (y:bG) (k:Nat),eH b.es e=some k/\b.es[k]? =some x/\0<=l/\x.lines[l.toNat]? =some y/\(pm b e l p).1.entity=x.entity/\(pm b e l p).1.date=x.date/\(rr b x.entity y.account x.date p).2=0/\
  (pm b e l p).1.amount=(cN y.amount (rr b x.entity y.account x.date p).1).1/\(cN y.amount (rr b x.entity y.account x.date p).1).2=0:=by
 unfold pm at h |-;by_cases h1:fH b 0 p=0
 case neg=>rw[if_neg h1]at h;exact absurd h h1
 rw[if_pos h1]at h |-;obtain⟨hb,_,hp⟩:=vN h1;cases hi:eH b.es e with
 |none=>rw[hi]at h;cases h
 |some k=>
  rw[hi]at h;simp only at h |-;by_cases h2:l<0\/((b.es.getD k {}).lines.length:Int)<=l\/bA b.g p< (b.es.getD k {}).date
  ·rw[if_pos h2]at h;cases h
  rw[if_neg h2]at h |-;obtain⟨hk,_⟩:=sg hi;have ex:b.es.getD k {}=b.es[k]:=by rw[List.getD_eq_getElem?_getD,List.getElem?_eq_getElem hk];rfl
  rw[ex]at h h2 |-;have hl:l.toNat<b.es[k].lines.length:=by omega
  have hm:=List.getElem_mem hk;obtain⟨i1,i2,i3⟩:=lv h;have ey:b.es[k].lines.getD l.toNat {}=b.es[k].lines[l.toNat]:=by rw[List.getD_eq_getElem?_getD,List.getElem?_eq_getElem hl];rfl
  rw[ey]at i1 i2 i3;have er:rr b b.es[k].entity b.es[k].lines[l.toNat].account b.es[k].date p=((dM b b.es[k].entity b.es[k].lines[l.toNat].account b.es[k].date p).2.1,(dM b b.es[k].entity b.es[k].lines[l.toNat].account b.es[k].date p).2.2):=by
   unfold rr;rw[if_pos (SA hb (Am hb hm) hp),if_pos (oz hb hm)]
  refine⟨b.es[k],b.es[k].lines[l.toNat],k,rfl,List.getElem?_eq_getElem hk,by omega,List.getElem?_eq_getElem hl,?_⟩;rw[i3,er];exact⟨rfl,rfl,i1,rfl,i2⟩
end Go.Proofs.YtibiddakakgakaaGreat
