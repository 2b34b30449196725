/- Part S of a proof. -/
import Derived.Test.YtpncocdpglfifaaGreatDoorCfQ
import Derived.OpenShut
import Derived.Carry
import Derived.LaidMore
import Derived.Deep.DeepWitnessRowRef
import Derived.ChangeAt
import Derived.RowKit
import Derived.Deep.DeepLaidRun
import Derived.Test.YtpncocdpglfifaaGreatDoorCfC
import Derived.Test.YtpncocdpglfifaaGreatDoorCfA
set_option linter.unusedVariables false
set_option linter.unusedSimpArgs false
set_option linter.unusedSectionVars false
set_option linter.constructorNameAsVariable false
set_option linter.unnecessarySimpa false
set_option maxRecDepth 100000
namespace Go.Proofs.YtpncocdpglfifaaGreatDoor
open Go Go.Proofs Av Go.ChangeShapes Go.WideShapes Go.ChangeAt Go.RowKit
theorem own:ownKnob Tryz.prog.godebug=none:=kR
noncomputable def Yw(os:Os):World:=
 {World.doorLaid Tryz.prog 72 os with heap:=(World.doorLaid Tryz.prog 72 os).heap.modify 0 fun
   |.cells _ t fr=>.cells (Pinned.utf8FirstZ.map fun n:Nat=>Value.int .u8 (n:Int)).toArray t fr
   |o=>o}
theorem JM6(os:Os)(args:Array Value):laidMet Tryz.prog Rows.compileLookupsUptoRow.laid ((Yw os).forCall (fun _ _=>0) ⟨#[],args,[]⟩).memory:=
 laidMet_of_run3 6 kR kR kR
def YQ:Array Value:=#[.agg #[.slice none 0 0,.int .u8 0,.slice none 0 0],.slice none 0 0,.agg #[.int .u8 0,.int .u8 0,.int .i64 0,.string ⟨#[]⟩]]
theorem reads(os:Os){H:Type}(enc:TypeId×Value→H):DataW.whole enc Tryz.prog ((Yw os).forCall (fun _ _=>0) ⟨#[],YQ,[]⟩).memory Tryz.f3.params.toList Rows.compileLookupsSpec.vars false YQ.toList 8=some ([.agg [.nil,.lit (.int .u8 0),.nil],.nil,.agg [.lit (.int .u8 0),.lit (.int .u8 0),.lit (.int .i64 0),.lit (.string [])]],[],[]):=kR
theorem JSS(os:Os):((Yw os).forCall (fun _ _=>0) ⟨#[],YQ,[]⟩).variablesRefB Tryz.prog=true:=kR
theorem JST(os:Os):(((Yw os).forCall (fun _ _=>0) ⟨#[],YQ,[]⟩).heap.toList.drop Tryz.prog.globals.size).take ((begin Tryz.prog (fun _ _=>0) default).world.heap.size-Tryz.prog.globals.size)=
   (begin Tryz.prog (fun _ _=>0) default).world.heap.toList.drop Tryz.prog.globals.size:=kR
theorem w_ok(os:Os):Input.okWideB Tryz.prog ((Yw os).forCall (fun _ _=>0) ⟨#[],YQ,[]⟩) 3 ⟨#[],YQ,[]⟩=true:=kR
end Go.Proofs.YtpncocdpglfifaaGreatDoor
