/- Part N of a proof. -/
import Derived.Test.YtfioheedknfjnaaGreatDoorCards
import Derived.Test.YtfioheedknfjnaaGreatDoorTie
import Derived.JoinedCond
import Derived.Test.YtfioheedknfjnaaGreatDoorPcC
import Derived.Test.YtfioheedknfjnaaGreatDoorPcA
set_option linter.unusedVariables false
set_option linter.unusedSimpArgs false
set_option linter.unusedSectionVars false
set_option linter.constructorNameAsVariable false
set_option linter.unnecessarySimpa false
set_option maxRecDepth 100000
namespace Go.Proofs.YtfioheedknfjnaaGreatDoor.PredicateCounts
open Go Go.Proofs
theorem XN{a b:Bool}(h1:a=true)(h2:b=true):(a&&b)=true:=by rw[h1,h2];rfl
abbrev cE:OpenClaim:=Rows.predicateCountsUptoRow
abbrev sE:ChangeSpec:=(Rows.OpenSpec.upto Rows.predicateCountsSpec).bare
theorem fact1:(cE.wf (OpenSpec.ofChange sE))=true:=kR
theorem fact2:(laidOutB Tryz.prog)=true:=kR
theorem fact3:(mapsRowed Tryz.prog)=true:=kR
theorem fact4:(Tryz.f3.params.all (Tryz.prog.readableRec ·))=true:=kR
theorem fact5:(namedTie Tryz.prog cE.named sE.vars)=true:=kR
theorem fact6:((cE.stops==[]))=true:=kR
theorem fact7:((Tryz.prog.stops==[]))=true:=kR
theorem fact8:((cE.knobs==[]))=true:=kR
theorem fact9:((Tryz.prog.stopKnobs==[]))=true:=kR
theorem fact10:((cE.inPlace==Tryz.prog.inPlace 3))=true:=kR
theorem fact11:((cE.unfollowed==Tryz.prog.unfollowed 3))=true:=kR
theorem fact12:((cE.recurses==Tryz.prog.recurses 3))=true:=kR
theorem fact13:((cE.named==Tryz.prog.varsNamed 3))=true:=kR
theorem fact14:((cE.maps==(Tryz.f3.params.toList++sE.plain.varTypes Tryz.prog).any (Tryz.prog.mapsRec ·)))=true:=kR
theorem fact15:((cE.ifaces==(Tryz.f3.params.toList++sE.plain.varTypes Tryz.prog).any (Tryz.prog.ifacesRec ·)))=true:=kR
theorem fact16:((cE.mapsOut==Tryz.prog.mapsAmong Tryz.f3.resultTypes.toList))=true:=kR
theorem fact17:((cE.loops==(Tryz.f3.params.toList++sE.plain.varTypes Tryz.prog).any (Tryz.prog.loopsFrom ·)))=true:=kR
theorem fact18:((cE.wideKeys==(Tryz.f3.params.toList++sE.plain.varTypes Tryz.prog++Tryz.f3.resultTypes.toList).any (Tryz.prog.wideKeysFrom ·)))=true:=kR
theorem fact19:(sE.vars.all (Tryz.prog.varReadable ·))=true:=kR
theorem fact20:(Tryz.f3.resultTypes.all (fun t=>Tryz.prog.readableRec t&&decide (t<Tryz.prog.types.size)))=true:=kR
theorem fact21:((cE.ifacesOut==Tryz.f3.resultTypes.toList.any (Tryz.prog.ifacesRec ·)))=true:=kR
theorem fact22:((cE.loopsOut==Tryz.f3.resultTypes.toList.any (Tryz.prog.loopsFrom ·)))=true:=kR
theorem fact23:((cE.plainKeys==Tryz.prog.plainKeys))=true:=kR
theorem fact24:(cE.shortTexts.isNone)=true:=kR
theorem fact25:(Tryz.prog.stopsHeard)=true:=kR
theorem fact26:(Tryz.prog.mayEnter)=true:=kR
theorem fact27:((cE.lifted==Tryz.prog.liftsFinal))=true:=kR
theorem fact28:((Tryz.prog.make==some cE.make))=true:=kR
theorem fact29:((cE.kinds==(if cE.domain.isEmpty then[]else Tryz.f3.params.toList.map fun t=>match Tryz.prog.underlying t with|some (.int k)=>some k|_=>none)))=true:=kR
theorem fact30:((cE.pinned==cE.pinnedBy))=true:=kR
theorem fact31:((cE.veiled==(Tryz.f3.params.toList++sE.plain.varTypes Tryz.prog++Tryz.f3.resultTypes.toList).any (Tryz.prog.veiledRec ·)))=true:=kR
theorem fact32:(cE.veiledFits Tryz.prog Tryz.f3.params.toList (Tryz.f3.params.toList++sE.plain.varTypes Tryz.prog++Tryz.f3.resultTypes.toList))=true:=kR
theorem facts:joinedFacts Tryz.prog 3 Tryz.f3 sE cE=true:=by
 unfold joinedFacts;exact(XN (XN (XN (XN (XN (XN (XN (XN (XN (XN (XN (XN (XN (XN (XN (XN (XN (XN (XN (XN (XN (XN (XN (XN (XN (XN (XN (XN (XN (XN (XN fact1 fact2) fact3) fact4) fact5) fact6) fact7) fact8) fact9) fact10) fact11) fact12) fact13) fact14) fact15) fact16) fact17) fact18) fact19) fact20) fact21) fact22) fact23) fact24) fact25) fact26) fact27) fact28) fact29) fact30) fact31) fact32)
end Go.Proofs.YtfioheedknfjnaaGreatDoor.PredicateCounts
