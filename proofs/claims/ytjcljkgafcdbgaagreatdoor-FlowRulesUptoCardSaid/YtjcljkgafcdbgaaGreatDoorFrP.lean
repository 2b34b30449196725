/- Part P of a proof. -/
import Derived.Test.YtjcljkgafcdbgaaGreatDoorFrO
import Derived.OpenShut
import Derived.Carry
import Derived.LaidMore
import Derived.Deep.DeepWitnessRowRef
import Derived.ChangeAt
import Derived.RowKit
import Derived.Deep.DeepLaidRun
import Derived.Test.YtjcljkgafcdbgaaGreatDoorFrC
import Derived.Test.YtjcljkgafcdbgaaGreatDoorFrA
set_option linter.unusedVariables false
set_option linter.unusedSimpArgs false
set_option linter.unusedSectionVars false
set_option linter.constructorNameAsVariable false
set_option linter.unnecessarySimpa false
set_option maxRecDepth 100000
namespace Go.Proofs.YtjcljkgafcdbgaaGreatDoor
open Go Go.Proofs Av Go.ChangeShapes Go.WideShapes Go.ChangeAt Go.RowKit
theorem own:ownKnob Tryz.prog.godebug=none:=kR
noncomputable def Ye(os:Os):World:=
 {World.doorLaid Tryz.prog 72 os with heap:=(World.doorLaid Tryz.prog 72 os).heap.modify 1 fun
   |.cells _ t fr=>.cells (Pinned.utf8FirstZ.map fun n:Nat=>Value.int .u8 (n:Int)).toArray t fr
   |o=>o}
theorem JN2(os:Os)(args:Array Value):laidMet Tryz.prog Rows.flowRulesUptoRow.laid ((Ye os).forCall (fun _ _=>0) ⟨#[],args,[]⟩).memory:=
 laidMet_of_run3 6 kR kR kR
def YE:Array Value:=#[.agg #[.slice none 0 0],.int .u8 0]
theorem reads(os:Os){H:Type}(enc:TypeId×Value→H):DataW.whole enc Tryz.prog ((Ye os).forCall (fun _ _=>0) ⟨#[],YE,[]⟩).memory Tryz.f3.params.toList Rows.flowRulesSpec.vars false YE.toList 8=some ([.agg [.nil],.lit (.int .u8 0)],[],[]):=kR
theorem w_vars(os:Os):((Ye os).forCall (fun _ _=>0) ⟨#[],YE,[]⟩).variablesRefB Tryz.prog=true:=kR
theorem w_rest(os:Os):(((Ye os).forCall (fun _ _=>0) ⟨#[],YE,[]⟩).heap.toList.drop Tryz.prog.globals.size).take ((begin Tryz.prog (fun _ _=>0) default).world.heap.size-Tryz.prog.globals.size)=
   (begin Tryz.prog (fun _ _=>0) default).world.heap.toList.drop Tryz.prog.globals.size:=kR
theorem w_ok(os:Os):Input.okWideB Tryz.prog ((Ye os).forCall (fun _ _=>0) ⟨#[],YE,[]⟩) 3 ⟨#[],YE,[]⟩=true:=kR
end Go.Proofs.YtjcljkgafcdbgaaGreatDoor
