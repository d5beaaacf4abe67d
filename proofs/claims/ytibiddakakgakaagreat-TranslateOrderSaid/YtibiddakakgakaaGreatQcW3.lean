/- Translation: what does not change the items. -/
import Derived.Test.YtibiddakakgakaaGreatQcV5X3
set_option linter.unusedVariables false
set_option linter.unusedSimpArgs false
set_option maxHeartbeats 16000000
namespace Go.Proofs.YtibiddakakgakaaGreat
open Go Go.RowKit
theorem ahb {b c:XBk} {p:Int} {l:List ak} (h:∀x∈l,∀j<x.lines.length,jr b x j p=jr c x j p):ZA b p l=ZA c p l:=by
 unfold ZA;have e:l.flatMap (cB b p)=l.flatMap (cB c p):=by
  rw[List.flatMap_def,List.flatMap_def]
  congr 1
  refine List.map_congr_left (λx hx=>?_);unfold cB;exact List.map_congr_left (λj hj=>h x hx j (List.mem_range.1 hj))
 rw[e]
theorem ahK {b c:XBk} {ent p:Int} (hg:c.g=b.g) (hr:c.rs=b.rs) (hb:cE b) (hc:cE c) (hp:(gJ c.es ent (bA b.g p)).Perm (gJ b.es ent (bA b.g p))):pQ c ent p=pQ b ent p:=by
 obtain⟨g,es,rs⟩:=b;obtain⟨g',Ft,rs'⟩:=c;simp only at hg hr;subst hg hr;have e1:fH ⟨g',Ft,rs'⟩ ent p=fH ⟨g',es,rs'⟩ ent p:=by
  unfold fH;rw[if_pos hb,if_pos hc];rfl
 unfold pQ;rw[e1];by_cases h:fH ⟨g',es,rs'⟩ ent p=0
 ·rw[if_pos h,if_pos h];have h1:=OY hb ent p;have h2:=OY hc ent p;have h3:j5 (gJ es ent (bA g' p)) (Je ⟨g',Ft,rs'⟩ ent p):=⟨h2.1.trans hp,h2.2⟩;rw[h3.uniq h1];exact ahb (λx hx j hj=>rfl)
 ·rw[if_neg h,if_neg h]
theorem ag7 {rs:List aC} {x:aC} {c:ByteArray} {a d:Int} (h:¬inW c a d x):og (rs++[x]) c a d=og rs c a d:=by
 rw[Im];unfold Ie;rw[if_neg (λhh=>h hh.1)]
theorem ahs {rs:List aC} {x:aC} {c:ByteArray} {k w:Int} (h:cW x≠(c,k,w)):dq (rs++[x]) c k w=dq rs c k w:=by
 unfold dq;rw[List.find?_append];cases rs.find? (λr=>decide (cW r=(c,k,w)))with
 |some r=>rfl
 |none=>rw[Option.none_or,List.find?_cons_of_neg (by simpa using h)];rfl
theorem ahw {rs:List aC} {x:aC} {c:ByteArray} {a d:Int} (h:¬inW c a d x):qh (rs++[x]) c a d=qh rs c a d/\ml (rs++[x]) c a d=ml rs c a d:=by
 unfold qh ml;rw[List.filter_append,List.filter_cons_of_neg (by simpa using h),List.filter_nil,List.append_nil];exact⟨rfl,rfl⟩
def ahO (b:XBk) (ent p:Int) (x:aC):Prop:=x.currency=(b.g.entities.getD ent.toNat {}).currency->x.kind=1/\bA b.g p<x.when_
theorem aiT {g:au} (hg:bh g=true) {p q:Int} (hp:0<=p/\p<g.calendar.periods) (hq:0<=q/\q<g.calendar.periods) (h:lJ g q<=bA g p):bA g q<=bA g p:=by
 rw[Ei hg hp,Ei hg hq];rw[An hg hq,Ei hg hp]at h;have hpY:=Tm hg hp;have hqY:=Tm hg hq;rcases Int.lt_or_le (bw g.calendar.year g.calendar.month p) (bw g.calendar.year g.calendar.month q)with h1|h1
 ·have:=Hh hpY hqY h1;omega
 ·rcases Int.lt_or_le (bw g.calendar.year g.calendar.month q) (bw g.calendar.year g.calendar.month p)with h2|h2
  ·have:=Hh hqY hpY h2;have:=Jl hpY;omega
  ·rw[Int.le_antisymm h1 h2];exact Int.le_refl _
theorem ahZ {b:XBk} (hb:cE b) {ent p:Int} (he:dZ b ent) (hp:eN b p) {x:aC} (hx:ahO b ent p x) {basis date:Int} (hd:(cT b.g.calendar.year b.g.calendar.month b.g.calendar.periods date).2=0) (hl:date<=bA b.g p):
 kP ⟨b.g,b.es,b.rs++[x]⟩ (b.g.entities.getD ent.toNat {}).currency basis date p=kP b (b.g.entities.getD ent.toNat {}).currency basis date p:=by
 obtain⟨q1,q2,q3,q4⟩:=Js hb.1 hd;have rJ:=aiT hb.1 hp q1 (Int.le_trans q2 hl);unfold ahO at hx;generalize (b.g.entities.getD ent.toNat {}).currency=cur at*;have hx:x.currency=cur->x.kind=1/\bA b.g p<x.when_:=hx;have fg:∀a d,d<=bA b.g p->¬inW cur a d x:=λa d hd hw=>by
  have:=(hx hw.1).2;have:=hw.2.2.2;omega
 unfold kP;simp only;by_cases h1:cur=b.g.currency
 ·rw[if_pos h1,if_pos h1]
 rw[if_neg h1,if_neg h1];by_cases h2:basis=2
 ·rw[if_pos h2,if_pos h2];unfold DG;rw[ahs (λhk=>by
   unfold cW at hk;simp only[Prod.mk.injEq]at hk;have:=(hx hk.1).1;omega),(ahw (fg _ _ rJ)).1,(ahw (fg _ _ rJ)).2]
 ·rw[if_neg h2,if_neg h2];unfold E8;by_cases h3:basis=1
  ·rw[if_pos h3,ag7 (fg _ _ (Int.le_refl _))]
  ·rw[if_neg h3,ag7 (fg _ _ hl)]
theorem ahL {b:XBk} (hb:cE b) {ent p:Int} (he:dZ b ent) {x:aC} (hv:dJ b.g.currency (b.rs++[x])) (hx:ahO b ent p x):pQ ⟨b.g,b.es,b.rs++[x]⟩ ent p=pQ b ent p:=by
 have hc:cE ⟨b.g,b.es,b.rs++[x]⟩:=⟨hb.1,hb.2.1,hv⟩;have e1:fH ⟨b.g,b.es,b.rs++[x]⟩ ent p=fH b ent p:=by
  unfold fH;rw[if_pos hb,if_pos hc];rfl
 unfold pQ;rw[e1];by_cases h:fH b ent p=0
 ·rw[if_pos h,if_pos h];obtain⟨_,_,hp⟩:=vN h;refine ahb (λy hy j hj=>?_);obtain⟨h1,h2,h3⟩:=(Lj (p:=p) (ent:=ent) hb).1 hy;have e2:∀code,dM ⟨b.g,b.es,b.rs++[x]⟩ y.entity code y.date p=dM b y.entity code y.date p:=λcode=>by
   rw[h2];unfold dM;simp only;cases aK b.g.chart (gz (b.g.entities.getD ent.toNat {}) code (bA b.g p)).1 with
   |none=>rfl
   |some a=>simp only;rw[ahZ hb he hp hx (oz hb h1) h3]
  unfold jr;simp only[e2]
 ·rw[if_neg h,if_neg h]
end Go.Proofs.YtibiddakakgakaaGreat
