/- The plain law of the reversal; append to an empty slice that was made. Written by gen_h2.py. -/
import Derived.Test.YtibiddakakgakaaGreatQdE5I2
set_option linter.unusedVariables false
set_option linter.unusedSimpArgs false
set_option maxRecDepth 4000
set_option maxHeartbeats 16000000
namespace Go.Proofs.YtibiddakakgakaaGreat
open Go Go.RowKit
theorem alc {g:au} {x:ak} (h:dh g x=0):agS (bh g) g.entities.length x=true/\dY (g.entities.getD x.entity.toNat {}).chart x.lines=true/\jL g.calendar.year g.calendar.month g.calendar.periods x.date=true/\iS x.lines=0:=by
 unfold dh at h;by_cases h1:agS (bh g) g.entities.length x=true
 ·rw[if_pos h1]at h;by_cases h2:dY (g.entities.getD x.entity.toNat {}).chart x.lines=true
  ·rw[if_pos h2]at h;by_cases h3:jL g.calendar.year g.calendar.month g.calendar.periods x.date=true
   ·rw[if_pos h3]at h;by_cases h4:iS x.lines=0
    ·exact⟨h1,h2,h3,h4⟩
    ·rw[if_neg h4]at h;omega
   ·rw[if_neg h3]at h;omega
  ·rw[if_neg h2]at h;omega
 ·rw[if_neg h1]at h;omega
def agW (x:ak) (nid nd:Int):ak:=⟨nid,x.entity,nd,3,x.id,x.text,x.lines.map nu⟩
section
variable {P:Program} (w:World)
theorem ahT {o:Oper} {a:Act} {K:Act->World->Prop} {Q':Exit->Act->World->Prop} (s x:Operand) (t:TypeId)
 (ho:o.op=.call {callee:=.builtin .append,args:=#[s,x],argTypes:=#[t,t]})
 (base:Nat) (e:TypeId) (i:TypeInfo) (z:Value) (size fF:Nat) (ht:P.underlying t=some (.slice e)) (hi:P.info? e=some i) (hz:i.zero=some z)
 (lf:i.size=size) (MM:i.bytes=fF) (Ns:z.cells.size=size) (bP:0<size)
 (g:Nat) (hs:a.eval s=.slice (some ⟨g,0,none⟩) 0 0) (hg:w.heap[g]? =some (.cells #[] e (0,0))) (hgb:base<=g)
 (Q:Nat->Prop) (A:Option Addr) (m c:Nat) (gd:List Value) (hx:a.eval x=.slice A m c) (hr:Rd w Q A m size gd) (h1:∀u∈gd,u.oneCell'=true)
 (hm:0<m) (Mu:m<=maxLen) (jF:m*fF<=140737488355328) (jR:base<=w.heap.size)
 (h:∀v' w',w'.ownsRow base e size v' m gd->Below w.heap.size w w'->K (a.put o.dst v') w'):o.wp P a w K Q':=by
 have bv:w.ownsRow base e size (.slice (some ⟨g,0,none⟩) 0 0) 0 []:=⟨by simp,.inr ⟨g,0,#[],rfl,hgb,hg,Nat.le_refl _,by simp[maxLen],by simp,by simp⟩⟩;obtain⟨v',w',eC,h2,_,_⟩:=JF (P:=P) w base t o.type e i z size fF ht hi hz lf MM Ns bP _ 0 [] bv Q A m c gd hr h1 (by omega) (by simpa using jF) jR;obtain⟨ad,hA,hc⟩:=hr.2 hm;subst hA;have aaI:=run_append_grow (P:=P) w t o.type e i z ht hi hz ⟨g,0,none⟩ 0 0 [] (by simp) (by simp) ad m c gd (by rw[lf];exact hr.1) (λj u hu=>(hc.2 j u hu).1) (by omega) (by unfold maxLen at Mu;omega) (by rw[MM];exact growslice_fits (by omega) (by simpa using jF));obtain⟨ob,hw⟩:∃ob,w'=w.drew.alloc ob:=by
  have:=eC.symm.trans aaI;simp only[Result.ok.injEq]at this;exact⟨_,this.2⟩
 have hb:Below w.heap.size w w':=by rw[hw];exact((Below.refl _ _).drew).alloc (Nat.le_refl _) _
 unfold Oper.wp execOp;simp only[ho,resolve,invoke,builtin,Sem.run_bind,Sem.run_pure,Result.andThen_ok,List.map_toArray,List.map_cons,List.map_nil,hs,hx,eC];exact h v' w' (by simpa using h2) hb
end
end Go.Proofs.YtibiddakakgakaaGreat
