/- Average rates of a period: the reference. Written by gen_r3.py. -/
import Derived.Test.YtibiddakakgakaaGreatQcV5X3
set_option linter.unusedVariables false
set_option linter.unusedSimpArgs false
set_option maxRecDepth 4000
attribute [local go_sem ↓] Go.wp_at_zero Go.wp_at_succ
set_option maxHeartbeats 16000000
namespace Go.Proofs.YtibiddakakgakaaGreat
open Go Go.RowKit
theorem GT:(Tryz.prog.info? 70).map (λi=>(i.zero,i.size,i.bytes))=some (some (.agg #[.string ⟨#[]⟩,(),(),()]),4,40):=by kernel_rfl
theorem Hq:Tryz.prog.underlying 31=some (.slice 70):=by kernel_rfl
theorem Pt {y m n q:Int} (eu:du y m n=true) (hq:0<=q/\q<n):(aX y m n q).2=0/\(bH y m n q).2=0/\inD (aX y m n q).1/\inD (bH y m n q).1/\(aX y m n q).1<=(bH y m n q).1:=by
 have MA:bo y m n q=0:=by unfold bo;rw[if_pos eu,if_pos hq]
 have hY:=(ig eu hq.1 hq.2).2.2.2.2.2;unfold aX bH;rw[if_pos MA,if_pos MA];exact⟨rfl,rfl,oE hY,(B6 hY).1,(B6 hY).2⟩
end Go.Proofs.YtibiddakakgakaaGreat
