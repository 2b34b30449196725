/- Part Q of a proof. -/
import Derived.Test.YtfioheedknfjnaaGreatDoorPcE
import Derived.Test.YtfioheedknfjnaaGreatDoorPcM
import Derived.Test.YtfioheedknfjnaaGreatDoorPcO
import Derived.Test.YtfioheedknfjnaaGreatDoorPcP
import Derived.SevenTiedAt
import Derived.Test.YtfioheedknfjnaaGreatDoorPcC
import Derived.Test.YtfioheedknfjnaaGreatDoorPcA
set_option linter.unusedVariables false
set_option linter.unusedSimpArgs false
set_option linter.unusedSectionVars false
set_option linter.constructorNameAsVariable false
set_option linter.unnecessarySimpa false
set_option maxRecDepth 100000
namespace Go.Proofs.YtfioheedknfjnaaGreatDoor.PredicateCounts
open Go Go.Proofs Av Go.ChangeShapes Go.WideShapes Go.ChangeAt Go.RowKit
theorem JJ4(os:Os)(started:os.Started)(H:Type)(enc:TypeId×Value→H)(F:Stop.Interp):
  ReturnsInHanded {} Tryz.checked os 3 .any ((Rows.OpenSpec.upto Rows.predicateCountsSpec).preRow enc Tryz.prog Tryz.f3 Rows.predicateCountsUptoRow.domain false Rows.predicateCountsUptoRow.laid) (((Rows.OpenSpec.upto Rows.predicateCountsSpec).at F).post enc Tryz.prog Tryz.f3 false true false false):=by
 refine returnsInHanded_of_row (C:=Tryz.checked) (s:=Rows.OpenSpec.upto Rows.predicateCountsSpec) own started noInit Tryz.func3
  (witness_row_atRef (enc:=enc) (C:=Tryz.checked) false (YX os) X7 rfl (w_vars os) (w_rest os) (w_ok os)
   (OpenSpec.preRow_of_cond 6 (reads os enc) (by as_aux_lemma=>kernel_rfl) (fun k hk=>by cases hk;kernel_rfl) (by as_aux_lemma=>kernel_rfl) (JNl os X7))) ?_
 intro W base args ds gs before hval hW _ hcond _ hL _ _;exact JMQ H enc W base args ds gs before hval hW (hcond _ rfl) hL
theorem JO7:Rows.PredicateCountsUptoSaid:=
 OpenClaim.holds_of_cond 3 Tryz.f3 rfl rfl rfl rfl rfl rfl rfl ⟨rfl,rfl,rfl,rfl,rfl⟩ rfl rfl rfl rfl rfl JO4 Tryz.func3 facts isInst isWrap
  (fun os started H enc _ F=>by rw[OpenClaim.pre_eq_preRow];exact JJ4 os started H enc F)
theorem plain(f:FuncId)(fn:Func)(hf:Tryz.pinned.checked.prog.funcNamed "manifold/manifoldlaw20.PredicateCounts" =some f)(hfn:Tryz.pinned.checked.prog.funcs[f]? =some fn):
  true=Tryz.pinned.checked.prog.looks []∧∀(j:Nat) t,fn.params[j]? =some t→Tryz.pinned.checked.prog.wantsStandIn t=false:=by
 obtain rfl:f=3:=Option.some.inj (JO4.symm.trans hf) |>.symm;obtain rfl:fn=Tryz.f3:=(Option.some.inj (Tryz.func3.symm.trans hfn)).symm;refine⟨JR2,fun j t ht=>?_⟩;rw[Tryz.params3]at ht
 match j,ht with
 |0,ht=>cases ht;exact JO5
 |1,ht=>cases ht;exact JO6
 |j+2,ht=>simp at ht
theorem holds:Rows.PredicateCountsUptoCardSaid:=
 Claim7.holds_tied_plain_at .later [] _ _ (true, "57bb0cebb806fd9a4889d0ec11d5bf2467506f127e1da0b8a263b3bb379178c3") true JO7 (fun _ h=>by cases h) wfText (fun _ h=>by cases h) predicateCountsUpto_row_tie rfl ⟨rfl,rfl⟩ mainIs rfl plain JR3
end Go.Proofs.YtfioheedknfjnaaGreatDoor.PredicateCounts
