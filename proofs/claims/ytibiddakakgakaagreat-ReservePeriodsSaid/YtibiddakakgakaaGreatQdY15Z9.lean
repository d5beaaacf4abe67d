/- Item of the program. Written by gen_y15.py. -/
import Derived.Test.YtibiddakakgakaaGreatQdY13R9
set_option linter.unusedVariables false
set_option linter.unusedSimpArgs false
set_option maxRecDepth 4000
attribute [local go_sem ↓] Go.wp_at_zero Go.wp_at_succ
set_option maxHeartbeats 16000000
namespace Go.Proofs.YtibiddakakgakaaGreat
open Go Go.RowKit
def ItS (V:World) (M B:Nat) (z N:Array Value) (c s:Nat) (listed:Array Bool) (w:World):Prop:=
 Fr (λq=>q<V.heap.size/\q≠M/\q≠B) V w/\(listed.getD c false=false->w.heap[M]? =V.heap[M]?)/\w.heap[B]? =some (.cells (if listed.getD s false=true then N else z) 42 (0,0))
section
variable {V w:World} {M B c s:Nat} {z N:Array Value} {listed:Array Bool}
theorem ItS.other (h:ItS V M B z N c s listed w) (i:Nat) (h1:i≠c) (h2:i≠s):ItS V M B z N c s (listed.setIfInBounds i true) w:=by
 unfold ItS;rw[fK h1,fK h2];exact h
theorem ItS.call (h:ItS V M B z N c s listed w) {w2:World} (hc:c<listed.size) (ft:c≠s) (hM:B≠M) (hB:B<V.heap.size) (hf:Fr (λq=>q<w.heap.size/\q≠M) w w2):ItS V M B z N c s (listed.setIfInBounds c true) w2:=by
 refine⟨h.1.trans (hf.mono (λq hq=>⟨Nat.lt_of_lt_of_le hq.1 h.1.size,hq.2.1⟩)),λhd=>?_,?_⟩
 ·rw[Ap hc]at hd;cases hd
 ·rw[fK ft];exact(hf.block B ⟨Nat.lt_of_lt_of_le hB h.1.size,hM⟩).trans h.2.2
theorem ItS.store (h:ItS V M B z N c s listed w) (hs:s<listed.size) (ft:s≠c) (hM:B≠M:=by assumption):ItS V M B z N c s (listed.setIfInBounds s true) (w.setRow B N):=by
 refine⟨h.1.trans ((cC w B N).mono (λq hq=>hq.2.2)),λhd=>?_,?_⟩
 ·rw[fK ft]at hd;exact((cC w B N).block M hM.symm).trans (h.2.1 hd)
 ·rw[Ap hs,if_pos rfl];exact aB h.2.2 _
end
theorem aiz {w:World} {Q:Nat->Prop} {cs:List Value} {x:aC} (h:bN w Q cs x):cs.length=4:=by rw[(io h).1];rfl
theorem aiA {w:World} {Q:Nat->Prop} {cs:List Value} {x:aC} (h:bN w Q cs x):∀u∈cs,u.oneCell'=true:=λu hu=>by
 rw[(io h).1]at hu;unfold fN at hu;simp only[List.mem_cons,List.not_mem_nil,or_false]at hu;rcases hu with rfl|rfl|rfl|rfl<;>rfl
end Go.Proofs.YtibiddakakgakaaGreat
