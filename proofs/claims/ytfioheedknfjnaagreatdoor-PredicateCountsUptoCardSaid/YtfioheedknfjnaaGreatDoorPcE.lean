/- Part E of a proof. -/
import Derived.Test.YtfioheedknfjnaaGreatDoorPcD
import Derived.OpenShut
import Derived.Carry
import Derived.LaidMore
import Derived.Deep.DeepWitnessRowRef
import Derived.ChangeAt
import Derived.RowKit
import Derived.Deep.DeepLaidRun
import Derived.Test.YtfioheedknfjnaaGreatDoorPcC
import Derived.Test.YtfioheedknfjnaaGreatDoorPcA
set_option linter.unusedVariables false
set_option linter.unusedSimpArgs false
set_option linter.unusedSectionVars false
set_option linter.constructorNameAsVariable false
set_option linter.unnecessarySimpa false
set_option maxRecDepth 100000
namespace Go.Proofs.YtfioheedknfjnaaGreatDoor
open Go Go.Proofs Av Go.ChangeShapes Go.WideShapes Go.ChangeAt Go.RowKit
theorem own:ownKnob Tryz.prog.godebug=none:=kR
noncomputable def YX(os:Os):World:=
 {World.doorLaid Tryz.prog 72 os with heap:=(World.doorLaid Tryz.prog 72 os).heap.modify 0 fun
   |.cells _ t fr=>.cells (Pinned.utf8FirstZ.map fun n:Nat=>Value.int .u8 (n:Int)).toArray t fr
   |o=>o}
theorem JNl(os:Os)(args:Array Value):laidMet Tryz.prog Rows.predicateCountsUptoRow.laid ((YX os).forCall (fun _ _=>0) ⟨#[],args,[]⟩).memory:=
 laidMet_of_run3 6 kR kR kR
def X7:Array Value:=#[.agg #[.int .i64 0,.int .i64 0,.int .i64 0,.int .i64 0,.slice none 0 0,.slice none 0 0,.slice none 0 0],.slice none 0 0]
theorem reads(os:Os){H:Type}(enc:TypeId×Value→H):DataW.whole enc Tryz.prog ((YX os).forCall (fun _ _=>0) ⟨#[],X7,[]⟩).memory Tryz.f3.params.toList Rows.predicateCountsSpec.vars false X7.toList 8=some ([.agg [.lit (.int .i64 0),.lit (.int .i64 0),.lit (.int .i64 0),.lit (.int .i64 0),.nil,.nil,.nil],.nil],[],[]):=kR
theorem w_vars(os:Os):((YX os).forCall (fun _ _=>0) ⟨#[],X7,[]⟩).variablesRefB Tryz.prog=true:=kR
theorem w_rest(os:Os):(((YX os).forCall (fun _ _=>0) ⟨#[],X7,[]⟩).heap.toList.drop Tryz.prog.globals.size).take ((begin Tryz.prog (fun _ _=>0) default).world.heap.size-Tryz.prog.globals.size)=
   (begin Tryz.prog (fun _ _=>0) default).world.heap.toList.drop Tryz.prog.globals.size:=kR
theorem w_ok(os:Os):Input.okWideB Tryz.prog ((YX os).forCall (fun _ _=>0) ⟨#[],X7,[]⟩) 3 ⟨#[],X7,[]⟩=true:=kR
end Go.Proofs.YtfioheedknfjnaaGreatDoor
