/- Part N of a proof. -/
import Derived.Test.YtjcljkgafcdbgaaGreatDoorFrD
import Derived.Test.YtjcljkgafcdbgaaGreatDoorFrE
import Derived.Test.YtjcljkgafcdbgaaGreatDoorFrF
import Derived.Test.YtjcljkgafcdbgaaGreatDoorFrG
import Derived.Test.YtjcljkgafcdbgaaGreatDoorFrH
import Derived.Test.YtjcljkgafcdbgaaGreatDoorFrI
import Derived.Test.YtjcljkgafcdbgaaGreatDoorFrJ
import Derived.Test.YtjcljkgafcdbgaaGreatDoorFrK
import Derived.Test.YtjcljkgafcdbgaaGreatDoorFrL
import Derived.Test.YtjcljkgafcdbgaaGreatDoorFrM
import Derived.Test.YtjcljkgafcdbgaaGreatDoorFrC
import Derived.Test.YtjcljkgafcdbgaaGreatDoorFrA
import Derived.Below
import Derived.Shelf.SlGeneric
import Derived.Shelf.Unicode.ValidAny
import Derived.Ground.Names2Prog
import Derived.Test.YtjcljkgafcdbgaaGreatDoorProg
set_option linter.unusedVariables false
set_option linter.unusedSimpArgs false
set_option linter.unusedSectionVars false
set_option linter.constructorNameAsVariable false
set_option linter.unnecessarySimpa false
set_option maxRecDepth 10000
namespace Go.Proofs.YtjcljkgafcdbgaaGreatDoor
open Go
theorem tie:Tryz.prog.laidByTextLater JMJ tieK true:=Program.laidByTextLater_by_run 400 8 tie1 tie2 tie3 tie4 tie5 tie6 tie7 tie8 tie9
theorem Z2:Rows.flowRulesUptoRow.laidByTextAt .later Tryz.pinned [.pinned,.data,.data,.data,.data,.sentinel,.sentinel] true:=
 OpenClaim.laidByTextAt_pinned rfl rfl tie rfl rfl rfl rfl (fun y hy _e=>by
  simp only[Rows.flowRulesUptoRow,List.zip_cons_cons,List.zip_nil_right,VA,List.mem_nil_iff,or_false]at hy;rcases hy with rfl|rfl|rfl|rfl|rfl|rfl|rfl
  ·exact⟨YX,kR⟩
  ·cases _e
  ·cases _e
  ·cases _e
  ·cases _e
  ·cases _e
  ·cases _e) fits1
end Go.Proofs.YtjcljkgafcdbgaaGreatDoor
namespace Av
open Go Go.RowKit
variable [Glb][Rls]
theorem JC.JJN{P:Program}{f:Nat}{ds:List Dat}{v:Av}(hh:Has P f)
  (h:∀(A:Nat→Prop) (w:World) (vs:Array Value),ds.length=vs.size→(∀(i:Nat) d u,ds[i]? =some d→vs[i]? =some u→Rep A w d u)→
   Calls P f vs w fun e w'=>∃u,e=.returned u∧Below w.heap.size w w'∧∀β H,VRep β (fun b=>A b) w' H v u):JC P f (ds.map .d) [] v []:=by
 intro β A w H vs _ hc hvs;have hl:ds.length=vs.size:=sX hvs.1;refine .inl ⟨hh,(h A w vs hl ?_).mono ?_⟩
 ·intro i d u hd hu;have:=hvs.2 i (.d d) u (by rw[Vo,hd];rfl) hu;exact this.JU
 ·rintro e w' ⟨u,rfl,hb,hr⟩;refine⟨u,rfl,β,A,?_,hr β _⟩;exact Stp.new hc hb.os hb.tape hb.output hb.size hb.block (fun _ h=>h) (fun _ h=>.inl h) (fun b hA=>Nat.lt_of_lt_of_le (hc.old b hA) hb.size)
theorem JC.JGQ{P:Program}{f:Nat}{ds:List Dat}{v:Av}(hh:Has P f)
  (h:∀(A:Nat→Prop) (w:World) (vs:Array Value),(∀g cs,YK g=some cs→JAx A w g cs)→ds.length=vs.size→(∀(i:Nat) d u,ds[i]? =some d→vs[i]? =some u→Rep A w d u)→
   Calls P f vs w fun e w'=>∃u,e=.returned u∧Below w.heap.size w w'∧∀β H,VRep β (fun b=>A b) w' H v u):JC P f (ds.map .d) [] v []:=by
 intro β A w H vs _ hc hvs;have hl:ds.length=vs.size:=sX hvs.1;refine .inl ⟨hh,(h A w vs hc.glob hl ?_).mono ?_⟩
 ·intro i d u hd hu;have:=hvs.2 i (.d d) u (by rw[Vo,hd];rfl) hu;exact this.JU
 ·rintro e w' ⟨u,rfl,hb,hr⟩;refine⟨u,rfl,β,A,?_,hr β _⟩;exact Stp.new hc hb.os hb.tape hb.output hb.size hb.block (fun _ h=>h) (fun _ h=>.inl h) (fun b hA=>Nat.lt_of_lt_of_le (hc.old b hA) hb.size)
end Av
namespace Go.Proofs
open Go.Shelf
def Tryz.ZH:Go.Shelf.Ren:=⟨fun|196=>292|259=>373|n=>n,fun|9=>9|4=>4|3=>3|5=>5|12=>12|119=>466|0=>0|46=>231|139=>469|138=>468|53=>320|n=>n,fun|3=>1|4=>2|n=>n⟩
theorem Tryz.JAw:Go.Proofs.Lays.n196 Tryz.prog Tryz.ZH:={
 mixed:=kR
 f196:=Tryz.func292.trans (congrArg some kR)
 f259:=Tryz.func373.trans (congrArg some kR)
 t0:=Tryz.underlying0
 a0:=Tryz.isAgg0
 z0:=Tryz.sizeOf0
 v0:=Tryz.zeroValue0
 t3:=Tryz.underlying3
 a3:=Tryz.isAgg3
 z3:=Tryz.sizeOf3
 v3:=Tryz.zeroValue3
 t4:=Tryz.underlying4
 a4:=Tryz.isAgg4
 z4:=Tryz.sizeOf4
 v4:=Tryz.zeroValue4
 t5:=Tryz.underlying5
 a5:=Tryz.isAgg5
 z5:=Tryz.sizeOf5
 v5:=Tryz.zeroValue5
 t9:=Tryz.underlying9
 a9:=Tryz.isAgg9
 z9:=Tryz.sizeOf9
 v9:=Tryz.zeroValue9
 t12:=Tryz.underlying12
 a12:=Tryz.isAgg12
 z12:=Tryz.sizeOf12
 v12:=Tryz.zeroValue12
 t46:=Tryz.underlying231
 a46:=Tryz.isAgg231
 z46:=Tryz.sizeOf231
 v46:=Tryz.zeroValue231
 t53:=Tryz.underlying320
 a53:=Tryz.isAgg320
 z53:=Tryz.sizeOf320
 v53:=Tryz.zeroValue320
 t119:=Tryz.underlying466
 a119:=Tryz.isAgg466
 z119:=Tryz.sizeOf466
 t138:=Tryz.underlying468
 a138:=Tryz.isAgg468
 z138:=Tryz.sizeOf468
 v138:=Tryz.zeroValue468
 t139:=Tryz.underlying469
 a139:=Tryz.isAgg469
 z139:=Tryz.sizeOf469
 v139:=Tryz.zeroValue469
 g3:=kR
 g4:=by kernel_rfl}
end Go.Proofs
