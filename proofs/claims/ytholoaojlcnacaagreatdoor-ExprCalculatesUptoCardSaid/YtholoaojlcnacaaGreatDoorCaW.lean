/- ExprCalculates: an input that fits. -/
import Derived.Test.YtholoaojlcnacaaGreatDoorCaE
set_option linter.unusedVariables false
set_option linter.unusedSimpArgs false
set_option linter.unusedSectionVars false
set_option linter.unusedSimpArgs false
set_option maxRecDepth 100000
namespace Go.Proofs.YtholoaojlcnacaaGreatDoor
open Go Go.Proofs Av Go.ChangeShapes Go.WideShapes Go.ChangeAt Go.RowKit

theorem own : ownKnob Tryz.prog.godebug = none := by kernel_rfl
noncomputable def laidWorld (os : Os) : World :=
  { World.doorLaid Tryz.prog 72 os with heap := (World.doorLaid Tryz.prog 72 os).heap.modify 0 fun
      | .cells _ t fr => .cells (Pinned.utf8FirstZ.map fun n : Nat => Value.int .u8 (n : Int)).toArray t fr
      | o => o }
theorem laid_met (os : Os) (args : Array Value) : laidMet Tryz.prog Rows.exprCalculatesUptoRow.laid ((laidWorld os).forCall (fun _ _ => 0) ⟨#[], args, []⟩).memory :=
  laidMet_of_run' 5 (by kernel_rfl) (by kernel_rfl)
def calcArgs : Array Value := #[.agg #[.int .i64 0, .int .i64 0], .agg #[.int .i64 0, .int .i64 0], .int .i64 0]
theorem reads (os : Os) {H : Type} (enc : TypeId × Value → H) : DataW.whole enc Tryz.prog ((laidWorld os).forCall (fun _ _ => 0) ⟨#[], calcArgs, []⟩).memory Tryz.f5.params.toList Rows.exprCalculatesSpec.vars false calcArgs.toList 8 = some ([.agg [.lit (.int .i64 0), .lit (.int .i64 0)], .agg [.lit (.int .i64 0), .lit (.int .i64 0)], .lit (.int .i64 0)], [], []) := by kernel_rfl
theorem w_vars (os : Os) : ((laidWorld os).forCall (fun _ _ => 0) ⟨#[], calcArgs, []⟩).variablesRefB Tryz.prog = true := by kernel_rfl
theorem w_rest (os : Os) : (((laidWorld os).forCall (fun _ _ => 0) ⟨#[], calcArgs, []⟩).heap.toList.drop Tryz.prog.globals.size).take ((begin Tryz.prog (fun _ _ => 0) default).world.heap.size - Tryz.prog.globals.size) =
      (begin Tryz.prog (fun _ _ => 0) default).world.heap.toList.drop Tryz.prog.globals.size := by kernel_rfl
theorem w_ok (os : Os) : Input.okWideB Tryz.prog ((laidWorld os).forCall (fun _ _ => 0) ⟨#[], calcArgs, []⟩) 5 ⟨#[], calcArgs, []⟩ = true := by kernel_rfl
end Go.Proofs.YtholoaojlcnacaaGreatDoor
