/- A pair of numbers, opened. -/
import Derived.Test.YtibiddakakgakaaGreatQdE5I2
set_option linter.unusedVariables false
set_option linter.unusedSimpArgs false
set_option maxHeartbeats 16000000
namespace Go.Proofs.YtibiddakakgakaaGreat
open Go Go.ChangeShapes Go.WideShapes Go.ChangeAt Go.RowKit
theorem alk {l:List Value} {a b:Int} {c:Nat} (hc:c=1) (hl:l.length=2) (h0:(l.drop (0*c)).take c=[.int .i64 a]) (h1:(l.drop (1*c)).take c=[.int .i64 b]):l=[.int .i64 a,.int .i64 b]:=by
 subst hc
 match l,hl with
 |[u,v],_=>
  simp at h0 h1;rw[h0,h1]
set_option maxRecDepth 100000 in
theorem alm {H:Type} {enc:TypeId × Value->H} {W:World} {base:Nat} {ame:Nat->Bool} {amu:Bool} {bZ:Nat} {cs:Array Value} {x:DataW H × List MemPlace}
 (h:DataW.trod enc Tryz.prog W base ame amu bZ 83 cs.toList=some x):∃a b:Int,cs=#[.int .i64 a,.int .i64 b]/\cx a/\cx b:=by
 obtain⟨xs,n,_,hx,mH,eV,kZ⟩:=DataW.trod_array Tryz.underlying83 h;have e0:=(kZ 0 (by decide)).trans (List.getElem?_eq_getElem (show 0<xs.length by rw[eV];decide));have e1:=(kZ 1 (by decide)).trans (List.getElem?_eq_getElem (show 1<xs.length by rw[eV];decide));have c1:Tryz.prog.cellsOf 3=1:=by kernel_rfl
 obtain⟨za,q1,_,w1⟩:=DataW.trod_int Tryz.underlying3 e0;obtain⟨zb,q2,_,w2⟩:=DataW.trod_int Tryz.underlying3 e1;have akw:cs.toList.length=2:=mH.trans K_;have hp:=alk c1 akw q1 q2;clear c1 e0 e1 hx kZ mH akw q1 q2;simp only[Lit.wf,IntKind.min,IntKind.max,Bool.and_eq_true,decide_eq_true_eq]at w1 w2;simp[IntKind.signed,IntKind.bits]at w1 w2;exact⟨za,zb,Array.ext' hp,by unfold cx;omega,by unfold cx;omega⟩
end Go.Proofs.YtibiddakakgakaaGreat
