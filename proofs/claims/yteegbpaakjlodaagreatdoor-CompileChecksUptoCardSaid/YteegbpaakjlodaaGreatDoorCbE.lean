/- Part E of a proof. -/
import Derived.Test.YteegbpaakjlodaaGreatDoorCbD
import Derived.OpenShut
import Derived.Carry
import Derived.LaidMore
import Derived.Deep.DeepWitnessRowRef
import Derived.ChangeAt
import Derived.RowKit
import Derived.Deep.DeepLaidRun
import Derived.Test.YteegbpaakjlodaaGreatDoorCbC
import Derived.Test.YteegbpaakjlodaaGreatDoorCbA
set_option linter.unusedVariables false
set_option linter.unusedSimpArgs false
set_option linter.unusedSectionVars false
set_option linter.constructorNameAsVariable false
set_option linter.unnecessarySimpa false
set_option maxRecDepth 100000
namespace Go.Proofs.YteegbpaakjlodaaGreatDoor
open Go Go.Proofs Av Go.ChangeShapes Go.WideShapes Go.ChangeAt Go.RowKit
theorem own:ownKnob Tryz.prog.godebug=none:=kR
noncomputable def Ys(os:Os):World:=
 {World.doorLaid Tryz.prog 72 os with heap:=(World.doorLaid Tryz.prog 72 os).heap.modify 0 fun
   |.cells _ t fr=>.cells (Pinned.utf8FirstZ.map fun n:Nat=>Value.int .u8 (n:Int)).toArray t fr
   |o=>o}
theorem JMw(os:Os)(args:Array Value):laidMet Tryz.prog Rows.compileChecksUptoRow.laid ((Ys os).forCall (fun _ _=>0) ⟨#[],args,[]⟩).memory:=
 laidMet_of_run3 6 kR kR kR
def YO:Array Value:=#[.agg #[.slice none 0 0,.int .u8 0,.slice none 0 0],.slice none 0 0]
theorem reads(os:Os){H:Type}(enc:TypeId×Value→H):DataW.whole enc Tryz.prog ((Ys os).forCall (fun _ _=>0) ⟨#[],YO,[]⟩).memory Tryz.f4.params.toList Rows.compileChecksSpec.vars false YO.toList 8=some ([.agg [.nil,.lit (.int .u8 0),.nil],.nil],[],[]):=kR
theorem JR5(os:Os):((Ys os).forCall (fun _ _=>0) ⟨#[],YO,[]⟩).variablesRefB Tryz.prog=true:=kR
theorem JR6(os:Os):(((Ys os).forCall (fun _ _=>0) ⟨#[],YO,[]⟩).heap.toList.drop Tryz.prog.globals.size).take ((begin Tryz.prog (fun _ _=>0) default).world.heap.size-Tryz.prog.globals.size)=
   (begin Tryz.prog (fun _ _=>0) default).world.heap.toList.drop Tryz.prog.globals.size:=kR
theorem w_ok(os:Os):Input.okWideB Tryz.prog ((Ys os).forCall (fun _ _=>0) ⟨#[],YO,[]⟩) 4 ⟨#[],YO,[]⟩=true:=kR
end Go.Proofs.YteegbpaakjlodaaGreatDoor
