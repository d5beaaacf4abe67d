/- Translation: years, reversals, equal rates. -/
import Derived.Test.YtibiddakakgakaaGreatQdW2X6
set_option linter.unusedVariables false
set_option linter.unusedSimpArgs false
set_option maxHeartbeats 16000000
namespace Go.Proofs.YtibiddakakgakaaGreat
open Go Go.RowKit
theorem aiv {l:List bG} {j:Nat} (hj:j<l.length):(l.map nu).getD j {}=nu (l.getD j {}):=by
 rw[List.getD_eq_getElem?_getD,List.getD_eq_getElem?_getD,List.getElem?_eq_getElem (by simpa using hj),List.getElem?_eq_getElem hj];simp
theorem aie (b:XBk) (x:ak) (id:Int) {j:Nat} (hj:j<x.lines.length) (p:Int):
 (jr b (agW x id x.date) j p).2=(jr b x j p).2/\(jr b (agW x id x.date) j p).1.account=(jr b x j p).1.account/\(jr b (agW x id x.date) j p).1.amount= -(jr b x j p).1.amount/\
  (jr b (agW x id x.date) j p).1.partner=(jr b x j p).1.partner/\(jr b (agW x id x.date) j p).1.date=(jr b x j p).1.date:=by
 unfold jr agW;simp only;rw[aiv hj];unfold nu;simp only;rw[Lc];simp only;split
 ·simp
 ·split
  ·simp
  ·simp
theorem alD (a b:List bW):f9 (a++b)=f9 a+f9 b:=by unfold f9;simp
theorem akG {α:Type} (f:α->List bW) (l:List α):f9 (l.flatMap f)=(l.map (λx=>f9 (f x))).sum:=by
 induction l with
 |nil=>rfl
 |cons x l ih=>rw[List.flatMap_cons,alD,ih,List.map_cons,List.sum_cons]
theorem akS (v:Int):∀(l:List bG) (f:bG->Int),(∀y∈l,-1000000<=2*(f y*1000000- y.amount*v)/\2*(f y*1000000- y.amount*v)<=1000000)-> -1000000*(l.length:Int)<=2*((l.map f).sum*1000000- iS l*v)/\2*((l.map f).sum*1000000- iS l*v)<=1000000*(l.length:Int)
 |[],f,_=>by simp[iS]
 |y::l,f,h=>by
  have h1:=h y (List.mem_cons_self ..);have h2:=akS v l f (λz hz=>h z (List.mem_cons_of_mem _ hz));rw[List.map_cons,List.sum_cons,alo,List.length_cons,Int.add_mul (y.amount)];generalize y.amount*v=u at*;generalize iS l*v=s at*;omega
def alw (rs:List aC) (v:Int):Prop:=∀r∈rs,r.value=v
theorem alE {rs:List aC} {v:Int} (h:alw rs v) (c:ByteArray) (a b:Int):qh rs c a b=ml rs c a b*v:=by
 unfold qh ml;have ir:∀l:List aC,(∀r∈l,r.value=v)->(l.map (·.value)).sum=l.length*v:=by
  intro l
  induction l with
  |nil=>intro _;simp
  |cons r l ih=>
   intro h;rw[List.map_cons,List.sum_cons,ih (λs hs=>h s (List.mem_cons_of_mem _ hs)),h r (List.mem_cons_self ..),List.length_cons];rw[Int.natCast_add,Int.add_mul];omega
 exact ir _ (λr hr=>h r (List.mem_filter.1 hr).1)
theorem akF {b:XBk} {v:Int} (h:alw b.rs v) {aw:ByteArray} {basis date p:Int} (mG:(kP b aw basis date p).2=0):(kP b aw basis date p).1=if aw=b.g.currency then 1000000 else v:=by
 unfold kP at mG |-;by_cases h1:aw=b.g.currency
 ·rw[if_pos h1,if_pos h1]
 rw[if_neg h1]at mG |-;rw[if_neg h1];by_cases h2:basis=2
 ·rw[if_pos h2]at mG |-;unfold DG at mG |-;cases hf:dq b.rs aw 2 (iC b.g date)with
  |some w=>
   obtain⟨r,hr,_,hv⟩:=pM hf;show w=v;rw[<-hv];exact h r hr
  |none=>
   rw[hf]at mG;simp only at mG |-;by_cases h3:ml b.rs aw (lJ b.g (iC b.g date)) (bA b.g (iC b.g date))=0
   ·rw[if_pos h3]at mG;cases mG
   ·rw[if_neg h3,alE h];simp only;have hn:(0:Int)< (ml b.rs aw (lJ b.g (iC b.g date)) (bA b.g (iC b.g date)):Int):=by omega
    generalize (ml b.rs aw (lJ b.g (iC b.g date)) (bA b.g (iC b.g date)):Int)=n at*;have e:2*(n*v)+n=n+v*(2*n):=by
     rw[Int.mul_comm v,Int.mul_assoc];omega
    rw[e,Int.add_mul_ediv_right _ _ (by omega),Int.ediv_eq_zero_of_lt (by omega) (by omega)];omega
 ·rw[if_neg h2]at mG |-;unfold E8 at mG |-;cases ho:og b.rs aw ((if basis=1 then bA b.g p else date) - 40) (if basis=1 then bA b.g p else date)with
  |none=>rw[ho]at mG;cases mG
  |some r=>
   have:=E9 aw ((if basis=1 then bA b.g p else date) - 40) (if basis=1 then bA b.g p else date) b.rs;rw[ho]at this;exact h r this.1
theorem ak4 {l:List bG} (f:bG->Int):(List.range l.length).map (λj=>f (l.getD j {}))=l.map f:=by
 refine List.ext_getElem (by simp) (λi h1 h2=>?_);have hi:i<l.length:=by simpa using h2
 simp only[List.getElem_map,List.getElem_range];rw[List.getD_eq_getElem?_getD,List.getElem?_eq_getElem hi];rfl
theorem akC {b:XBk} {ent p v:Int} (hv:alw b.rs v) (h:(pQ b ent p).2=0): -((pQ b ent p).1.length:Int)<=2*f9 (pQ b ent p).1/\2*f9 (pQ b ent p).1<=((pQ b ent p).1.length:Int):=by
 obtain⟨h1,h2,h3⟩:=rl h;obtain⟨hb,he,hp⟩:=vN h1;rw[h3,akG];obtain⟨v0,zL⟩:=x_ ((if(b.g.entities.getD ent.toNat {}).currency=b.g.currency then 1000000 else v));have J4:∀x∈Je b ent p,-(x.lines.length:Int)<=2*f9 ((List.range x.lines.length).map (λj=>(jr b x j p).1))/\2*f9 ((List.range x.lines.length).map (λj=>(jr b x j p).1))<=(x.lines.length:Int):=by
  intro x hx;obtain⟨QJ,rQ,hxd⟩:=(Lj (p:=p) (ent:=ent) hb).1 hx;have e:f9 ((List.range x.lines.length).map (λj=>(jr b x j p).1))=(x.lines.map (λy=>(cN y.amount v0).1)).sum:=by
   unfold f9;rw[List.map_map,<-ak4 (l:=x.lines) (λy=>(cN y.amount v0).1)]
   congr 1
   refine List.map_congr_left (λj hj=>?_);have hj:=List.mem_range.1 hj;obtain⟨i1,i2,i3⟩:=aki (h2 x hx j hj);have hL:=agx hb (Am hb QJ) i1;obtain⟨a,ha,hl⟩:=hL.acc;have hr:=i1;rw[hl]at hr;have h5:=akF hv hr;rw[rQ,zL]at h5;show(jr b x j p).1.amount=_;rw[i3];simp only;rw[hl];simp only;rw[rQ,h5]
  have hn:∀y∈x.lines,-1000000<=2*((cN y.amount v0).1*1000000- y.amount*v0)/\2*((cN y.amount v0).1*1000000- y.amount*v0)<=1000000:=by
   intro y hy;obtain⟨j,hj,rfl⟩:=List.getElem_of_mem hy;obtain⟨i1,i2,i3⟩:=aki (h2 x hx j hj);have hL:=agx hb (Am hb QJ) i1;obtain⟨a,ha,hl⟩:=hL.acc;have hr:=i1;rw[hl]at hr;have h5:=akF hv hr;rw[rQ,zL]at h5;rw[hl]at i2;simp only at i2;rw[rQ,h5]at i2;have ey:x.lines.getD j {}=x.lines[j]:=by rw[List.getD_eq_getElem?_getD,List.getElem?_eq_getElem hj];rfl
   rw[ey]at i2;exact akY i2
  have h6:=akS v0 x.lines (λy=>(cN y.amount v0).1) hn;rw[(zx hb.j QJ).2.2]at h6;rw[e];simp only[Int.zero_mul]at h6;omega
 generalize Je b ent p=l at*;clear h h1 h2 h3
 induction l with
 |nil=>simp
 |cons x l ih=>
  have i1:=J4 x (List.mem_cons_self ..);have i2:=ih (λy hy=>J4 y (List.mem_cons_of_mem _ hy));rw[List.map_cons,List.sum_cons,List.flatMap_cons,List.length_append,List.length_map,List.length_range];omega
end Go.Proofs.YtibiddakakgakaaGreat
