/- Part R of a proof. -/
import Derived.Test.YtjcljkgafcdbgaaGreatDoorFrO
import Derived.OpenShut
import Derived.Carry
import Derived.LaidMore
import Derived.Deep.DeepWitnessRowRef
import Derived.ChangeAt
import Derived.RowKit
import Derived.Test.YtjcljkgafcdbgaaGreatDoorFrC
import Derived.Test.YtjcljkgafcdbgaaGreatDoorFrA
set_option linter.unusedVariables false
set_option linter.unusedSimpArgs false
set_option linter.unusedSectionVars false
set_option linter.constructorNameAsVariable false
set_option linter.unnecessarySimpa false
set_option maxRecDepth 10000
namespace Go.Proofs.YtjcljkgafcdbgaaGreatDoor
open Go Go.Proofs Av Go.ChangeShapes Go.WideShapes Go.ChangeAt Go.RowKit
theorem JN6(w:World)(hg:∀g cs,YK g=some cs→JAx (Av.old w) w g cs):Core (fun _=>(⟨none,[]⟩:BK)) (Av.old w) w (get []):=
 ⟨(by intro i o hi;cases hi),(by intro i j o o' b hi;cases hi),(by intro i o b hi;cases hi),fun _ h=>h,hg⟩
theorem JFU{P:Program}{f:Nat}{ds:List Dat}{b:Bool}(h:Jz P f ds (.d (.bool b))){w:World}{vs:Array Value}(hg:∀g cs,YK g=some cs→JAx (Av.old w) w g cs)(hl:ds.length=vs.size)
  (hv:∀(i:Nat) d v,ds[i]? =some d→vs[i]? =some v→Rep (Av.old w) w d v):
  Calls P f vs w fun e w'=>e=.returned (.bool b)∧Below w.heap.size w w':=by
 refine(h.2 (fun _=>(⟨none,[]⟩:BK)) (Av.old w) w vs (JN6 w hg) ⟨by simpa using hl,?_⟩).mono ?_
 ·intro i c v hc hv';rw[Vo]at hc;cases e:ds[i]? with
  |none=>rw[e]at hc;cases hc
  |some d=>
   rw[e]at hc;cases hc;exact .d _ _ (hv i d v e hv')
 ·rintro e w' ⟨u,β',A',rfl,hs,_,hu⟩;have:=hu.JU;cases this;exact⟨rfl,hs.os,hs.tape,hs.output,hs.size,fun k hk=>hs.same k hk (by intro i o hi;cases hi)⟩
theorem laidOut:laidOutB Tryz.prog=true:=kR
theorem JIJ{H:Type}(l r:List (DataW H)):Rows.uptoBulkAll (l++r)=Rows.uptoBulkAll l+Rows.uptoBulkAll r:=by
 induction l with
 |nil=>simp[Rows.uptoBulkAll]
 |cons x l ih=>simp only[List.cons_append,Rows.uptoBulkAll,ih];omega
end Go.Proofs.YtjcljkgafcdbgaaGreatDoor
