/- The closed facts of a row, one by one; those of the program alone. Written by gen_d1.py. -/
import Derived.Test.YtibiddakakgakaaGreatQdI16A1
import Derived.Test.YtibiddakakgakaaGreatRows
import Derived.Test.YtibiddakakgakaaGreatChecked
import Derived.JoinedOf
set_option linter.unusedVariables false
set_option maxHeartbeats 16000000
namespace Go.Proofs.YtibiddakakgakaaGreat
open Go
theorem sm {P:Program} {f:FuncId} {fn:Func} {s:ChangeSpec} {c:OpenClaim}
 (h1:c.wf (OpenSpec.ofChange s)=true)
 (h2:laidOutB P=true)
 (h3:mapsRowed P=true)
 (h4:fn.params.all (P.readableRec ·)=true)
 (h5:namedTie P c.named s.vars=true)
 (h6:(c.stops==[])=true)
 (h7:(P.stops==[])=true)
 (h8:(c.knobs==[])=true)
 (h9:(P.stopKnobs==[])=true)
 (dl:(c.inPlace==P.inPlace f)=true)
 (dx:(c.unfollowed==P.unfollowed f)=true)
 (et:(c.recurses==P.recurses f)=true)
 (fA:(c.named==P.varsNamed f)=true)
 (gQ:(c.maps==(fn.params.toList++s.plain.varTypes P).any (P.mapsRec ·))=true)
 (jQ:(c.ifaces==(fn.params.toList++s.plain.varTypes P).any (P.ifacesRec ·))=true)
 (kf:(c.mapsOut==P.mapsAmong fn.resultTypes.toList)=true)
 (ke:(c.loops==(fn.params.toList++s.plain.varTypes P).any (P.loopsFrom ·))=true)
 (mx:(c.wideKeys==(fn.params.toList++s.plain.varTypes P++fn.resultTypes.toList).any (P.wideKeysFrom ·))=true)
 (kg:s.vars.all (P.varReadable ·)=true)
 (LE:fn.resultTypes.all (λt=>P.readableRec t&&decide (t<P.types.size))=true)
 (tO:(c.ifacesOut==fn.resultTypes.toList.any (P.ifacesRec ·))=true)
 (tS:(c.loopsOut==fn.resultTypes.toList.any (P.loopsFrom ·))=true)
 (yR:(c.plainKeys==P.plainKeys)=true)
 (yY:c.shortTexts.isNone=true)
 (zj:P.stopsHeard=true)
 (zc:P.mayEnter=true)
 (zh:(c.lifted==P.liftsFinal)=true)
 (zm:(P.make==some c.make)=true)
 (tF:(c.kinds==(if c.domain.isEmpty then[]else fn.params.toList.map λt=>match P.underlying t with|some (.int k)=>some k|_=>none))=true)
 (Km:(c.pinned==c.pinnedBy)=true)
 (Kg:(c.veiled==(fn.params.toList++s.plain.varTypes P++fn.resultTypes.toList).any (P.veiledRec ·))=true)
 (Kv:c.veiledFits P fn.params.toList (fn.params.toList++s.plain.varTypes P++fn.resultTypes.toList)=true):joinedFacts P f fn s c=true:=by
 simp only[joinedFacts,Bool.and_eq_true];exact⟨⟨⟨⟨⟨⟨⟨⟨⟨⟨⟨⟨⟨⟨⟨⟨⟨⟨⟨⟨⟨⟨⟨⟨⟨⟨⟨⟨⟨⟨⟨h1,h2⟩,h3⟩,h4⟩,h5⟩,h6⟩,h7⟩,h8⟩,h9⟩,dl⟩,dx⟩,et⟩,fA⟩,gQ⟩,jQ⟩,kf⟩,ke⟩,mx⟩,kg⟩,LE⟩,tO⟩,tS⟩,yR⟩,yY⟩,zj⟩,zc⟩,zh⟩,zm⟩,tF⟩,Km⟩,Kg⟩,Kv⟩
theorem BW:laidOutB Tryz.pinned.checked.prog=true:=by kernel_rfl
theorem BY:mapsRowed Tryz.pinned.checked.prog=true:=by kernel_rfl
theorem xA:(Tryz.pinned.checked.prog.stops==[])=true:=by kernel_rfl
theorem xy:(Tryz.pinned.checked.prog.stopKnobs==[])=true:=by kernel_rfl
theorem xx:Tryz.pinned.checked.prog.stopsHeard=true:=by kernel_rfl
theorem BV:Rows.translateItemRow.plainKeys=Tryz.pinned.checked.prog.plainKeys:=by kernel_rfl
end Go.Proofs.YtibiddakakgakaaGreat
