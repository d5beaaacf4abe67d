/- The reference of mapping.At. Written by gen_x10.py. -/
import Derived.Test.YtibiddakakgakaaGreatQdJ12W1
set_option linter.unusedVariables false
set_option linter.unusedSimpArgs false
set_option maxRecDepth 4000
attribute [local go_sem ↓] Go.wp_at_zero Go.wp_at_succ
set_option maxHeartbeats 16000000
namespace Go.Proofs.YtibiddakakgakaaGreat
open Go Go.RowKit
theorem xC {ls:List bu} {k:Nat} (hk:k<ls.length) (code gA:Int):js (ls.take (k+1)) code gA=zw code gA (js (ls.take k) code gA) ls[k]:=by
 rw[List.take_add_one,List.getElem?_eq_getElem hk];exact GX _ _ _ _
def qO (ls:List bu) (k:Nat) (code gA bi:Int):Prop:=(bi= -1/\js (ls.take k) code gA=none)\/∃(j:Nat) (hj:j<ls.length),j<k/\bi=(j:Int)/\js (ls.take k) code gA=some ls[j]
theorem qO.take {ls:List bu} {k:Nat} {code gA:Int} (hk:k<ls.length) (h:ls[k].from_=code/\ls[k].since<=gA/\sn (js (ls.take k) code gA) ls[k]=true):qO ls (k+1) code gA (k:Int):=by
 refine .inr ⟨k,hk,by omega,rfl,?_⟩;rw[xC hk];unfold zw;rw[if_pos h]
end Go.Proofs.YtibiddakakgakaaGreat
