/- Translation: years, reversals, equal rates. -/
import Derived.Test.YtibiddakakgakaaGreatQbW1X5
set_option linter.unusedVariables false
set_option linter.unusedSimpArgs false
set_option maxHeartbeats 16000000
namespace Go.Proofs.YtibiddakakgakaaGreat
open Go Go.RowKit
theorem LT {g:au} (h:bh g=true) {q:dp} (hq:q∈cY g.roles):∃a,aK g.chart q.code=some a/\a.kind=q.kind:=by
 have h1:=(AL h).2.2;obtain⟨k,hk,rfl⟩:=List.getElem_of_mem hq;have h2:=Ad h1 hk;unfold fz at h2;rw[List.getElem?_eq_getElem hk]at h2;simp only at h2;cases hf:aK g.chart (cY g.roles)[k].code with
 |none=>rw[hf]at h2;cases h2
 |some a=>
  rw[hf]at h2;simp only[Bool.and_eq_true,beq_iff_eq]at h2;exact⟨a,rfl,h2.1.1⟩
theorem np {g:au} (h:bh g=true):∃a,aK g.chart g.roles.retained=some a/\a.kind=3:=by
 obtain⟨q,hq,hc,hk⟩:∃q∈cY g.roles,q.code=g.roles.retained/\q.kind=3:=by
  unfold cY jM;refine⟨_,List.getElem_mem (n:=6) (by simp),?_,?_⟩
  ·rfl
  ·rfl
 obtain⟨a,ha,hak⟩:=LT h hq;rw[hc]at ha;exact⟨a,ha,hak.trans hk⟩
theorem xj {b:XBk} {ent p:Int} (h:(pQ b ent p).2=0) {i:bW} (hi:i∈(pQ b ent p).1):∃a,aK b.g.chart i.account=some a/\((a.kind=4\/a.kind=5)->tG b.g p<=i.date):=by
 obtain⟨h1,h2,h3⟩:=j3 h;obtain⟨hb,he,hp⟩:=vN h1;rw[h3]at hi;obtain⟨x,hx,hi⟩:=List.mem_flatMap.1 hi;obtain⟨j,hj,rfl⟩:=List.mem_map.1 hi;obtain⟨i1,i2,i3⟩:=lv (h2 x hx j (List.mem_range.1 hj));obtain⟨QJ,rQ,hxd⟩:=(Lj (p:=p) (ent:=ent) hb).1 hx;have hL:=agx hb (Am hb QJ) i1;obtain⟨a,ha,hl⟩:=hL.acc;rw[i3];show ∃a,aK b.g.chart (lK b.g (dM b x.entity (x.lines.getD j {}).account x.date p).1 x.date p)=some a/\((a.kind=4\/a.kind=5)->tG b.g p<=x.date);rw[hl];unfold lK;simp only;split
 ·obtain⟨r,hr,hk⟩:=np hb.1;exact⟨r,hr,λh=>by omega⟩
 ·rename_i fg;refine⟨a,ha,λhk=>?_⟩;refine Decidable.byContradiction λaU=>fg ⟨by omega,?_⟩
  unfold xV;rw[ha];exact decide_eq_true hk
end Go.Proofs.YtibiddakakgakaaGreat
