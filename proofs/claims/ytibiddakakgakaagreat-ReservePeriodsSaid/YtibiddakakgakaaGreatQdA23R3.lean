/- A list of entries in memory, two neighbours exchanged. -/
import Derived.Test.YtibiddakakgakaaGreatQdJ12W1
set_option linter.unusedVariables false
set_option linter.unusedSimpArgs false
set_option maxRecDepth 4000
attribute [local go_sem ↓] Go.wp_at_zero Go.wp_at_succ
set_option maxHeartbeats 16000000
namespace Go.Proofs.YtibiddakakgakaaGreat
open Go Go.RowKit
def ZZ (css:List (List Value)) (k:Nat) (p q:Bool):List (List Value):=
 (λr:List (List Value)=>if q=true then r.set (k+1) (css.getD k [])else r) (if p=true then css.set k (css.getD (k+1) [])else css)
def KF (B gm n c:Nat) (css:List (List Value)) (k:Nat) (V:World) (listed:Array Bool) (w:World):Prop:=
 Fr (λq=>q≠gm) V w/\w.ownsRow B 51 7 (.slice (some ⟨gm,0,none⟩) n c) n (ZZ css k (listed.getD 15 false) (listed.getD 17 false)).flatten
section
variable {B gm n c k:Nat} {css:List (List Value)} {V w:World} {listed:Array Bool}
theorem KF.other (h:KF B gm n c css k V listed w) (i:Nat) (h1:i≠15) (h2:i≠17):KF B gm n c css k V (listed.setIfInBounds i true) w:=by
 unfold KF;rw[fK h1,fK h2];exact h
theorem KF.there (h:KF B gm n c css k V listed w) (j:Nat) (hj:j<n):w.there gm (j*7) 7:=λi hi=>by
 have hl:(ZZ css k (listed.getD 15 false) (listed.getD 17 false)).flatten.length=n*7:=h.2.1;have aS:=xN h.2 (Q:=λ_=>True) trivial;have h2:j*7+i< (ZZ css k (listed.getD 15 false) (listed.getD 17 false)).flatten.length:=by omega
 have h1:=aS.2 (j*7+i) _ (List.getElem?_eq_getElem h2);rw[Addr.add_lit,Nat.zero_add]at h1;exact⟨by rw[h1.1];simp,h1.2⟩
end
theorem GT:(Tryz.prog.info? 70).map (λi=>(i.zero,i.size,i.bytes))=some (some (.agg #[.string ⟨#[]⟩,(),(),()]),4,40):=by kernel_rfl
theorem Hq:Tryz.prog.underlying 31=some (.slice 70):=by kernel_rfl
end Go.Proofs.YtibiddakakgakaaGreat
