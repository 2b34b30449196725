/- Part K of a proof. -/
import Derived.Test.YtokdogomolegnaaGreatDoorZJ
import Derived.Deep.DeepLaidRun
set_option linter.unusedVariables false
set_option linter.unusedSimpArgs false
set_option linter.unusedSectionVars false
set_option linter.constructorNameAsVariable false
set_option linter.unnecessarySimpa false
set_option maxRecDepth 100000
namespace Go.Proofs.YtokdogomolegnaaGreatDoor
open Go Go.Proofs Av Go.ChangeShapes Go.WideShapes Go.ChangeAt Go.RowKit

theorem own : ownKnob Tryz.prog.godebug = none := by kernel_rfl
noncomputable def laidWorld (os : Os) : World :=
  { World.doorLaid Tryz.prog 72 os with heap := (World.doorLaid Tryz.prog 72 os).heap.modify 0 fun
      | .cells _ t fr => .cells (Pinned.utf8FirstZ.map fun n : Nat => Value.int .u8 (n : Int)).toArray t fr
      | o => o }
theorem laid_met (os : Os) (args : Array Value) : laidMet Tryz.prog Rows.compileLimitRow.laid ((laidWorld os).forCall (fun _ _ => 0) ⟨#[], args, []⟩).memory :=
  laidMet_of_run3 6 (by kernel_rfl) (by kernel_rfl) (by kernel_rfl)
def pathArgs : Array Value := #[.int .u8 0]
theorem reads (os : Os) {H : Type} (enc : TypeId × Value → H) : DataW.whole enc Tryz.prog ((laidWorld os).forCall (fun _ _ => 0) ⟨#[], pathArgs, []⟩).memory Tryz.f3.params.toList Rows.compileLimitSpec.vars false pathArgs.toList 8 = some ([.lit (.int .u8 0)], [], []) := by kernel_rfl
theorem w_vars (os : Os) : ((laidWorld os).forCall (fun _ _ => 0) ⟨#[], pathArgs, []⟩).variablesRefB Tryz.prog = true := by kernel_rfl
theorem w_rest (os : Os) : (((laidWorld os).forCall (fun _ _ => 0) ⟨#[], pathArgs, []⟩).heap.toList.drop Tryz.prog.globals.size).take ((begin Tryz.prog (fun _ _ => 0) default).world.heap.size - Tryz.prog.globals.size) =
      (begin Tryz.prog (fun _ _ => 0) default).world.heap.toList.drop Tryz.prog.globals.size := by kernel_rfl
theorem w_ok (os : Os) : Input.okWideB Tryz.prog ((laidWorld os).forCall (fun _ _ => 0) ⟨#[], pathArgs, []⟩) 3 ⟨#[], pathArgs, []⟩ = true := by kernel_rfl
end Go.Proofs.YtokdogomolegnaaGreatDoor
