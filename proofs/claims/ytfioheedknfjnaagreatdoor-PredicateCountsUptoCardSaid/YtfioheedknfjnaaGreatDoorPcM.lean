/- Part M of a proof. -/
import Derived.Test.YtfioheedknfjnaaGreatDoorPcH
import Derived.Test.YtfioheedknfjnaaGreatDoorPcL
import Derived.Test.YtfioheedknfjnaaGreatDoorPcC
import Derived.Test.YtfioheedknfjnaaGreatDoorPcA
set_option linter.unusedVariables false
set_option linter.unusedSimpArgs false
set_option linter.unusedSectionVars false
set_option linter.constructorNameAsVariable false
set_option linter.unnecessarySimpa false
set_option maxRecDepth 10000
namespace Go.Proofs.YtfioheedknfjnaaGreatDoor
open Go Go.Proofs Av Go.ChangeShapes Go.WideShapes Go.ChangeAt Go.RowKit
theorem JMQ(H:Type)(enc:TypeId×Value→H)(W:World)(base:Nat)(args:Array Value)(ds gs:List (DataW H))(before:List MemPlace)
  (hval:∀(j:Nat) t v,Tryz.f3.params[j]? =some t→args[j]? =some v→Value.okWide Tryz.prog W .any base t v)
  (hW:DataW.Whole enc Tryz.prog Tryz.f3.params.toList Rows.predicateCountsSpec.vars false W args.toList ds gs before)(hk:Rows.uptoSmall H (ds++gs)=true)(hL:laidMetH Tryz.prog Rows.predicateCountsUptoRow.laid W):
  Calls Tryz.prog 3 args W fun e W'=>∃v,e=.returned v∧Rows.predicateCountsSpec.post enc Tryz.prog Tryz.f3 false true false false W args v W':=by
 have hW':=hW;have hk':Rows.uptoBulkAll (ds++gs)≤1048576:=of_decide_eq_true hk;rw[JIk]at hk';obtain⟨p,q,hA0,hV,rfl,hfz,hnd⟩:=hW;have hA:DataW.TrodAll enc Tryz.prog W 0 (fun _=>true) true Tryz.f3.params.toList args.toList ds p:=hA0;rw[Tryz.params3]at hA hval;obtain⟨v0,vs0,d0,ds0,p0,q0,hargs0,rfl,rfl,h0,r0⟩:=trodAll_cons hA;obtain⟨v1,vs1,d1,ds1,p1,q1,hargs1,rfl,rfl,h1,r1⟩:=trodAll_cons r0;obtain⟨rfl,rfl,rfl⟩:=trodAll_nil r1;subst hargs1;obtain rfl:args=#[v0,v1]:=by cases args;simp_all
 obtain⟨rfl,rfl⟩:=trodVars_none hV;simp only[Rows.uptoBulkAll]at hk';obtain⟨t0,r0⟩:=JOq (hval 0 26 v0 rfl rfl) h0 oM;obtain⟨l1,r1⟩:=JMK (hval 1 27 v1 rfl rfl) h1 oM;refine(JFL (walk3 walk6 t0 l1) (vs:=#[v0,v1]) (globs hL) rfl ?_).mono ?_
 ·intro i d v hd hv
  match i,hd,hv with
  |0,hd,hv=>cases hd;cases hv;exact r0
  |1,hd,hv=>cases hd;cases hv;exact r1
 ·rintro e W' ⟨rfl,hbel⟩;have hlt:∀x∈p0++(p1++[]),x.block<W.heap.size:=fun x hx=>by simpa using hW'.lt x (sX hx)
  refine⟨.bool true,rfl,[d0,d1],[],_,[],p0++(p1++[]),[],hW',?_,?_,?_,hbel.frame _,fun h=>by cases h⟩
  ·exact trodAll_mk1 (shut_bool kR _)
  ·have a0:=Below.trod laidOut kR (of_decide_eq_true kR) h0 hbel (fun x hx=>hlt x (by simp[hx]));have a1:=Below.trod laidOut kR (of_decide_eq_true kR) h1 hbel (fun x hx=>hlt x (by simp[hx]));show DataW.TrodAll enc Tryz.prog W' 0 _ true Tryz.f3.params.toList [v0,v1] [d0,d1] _;rw[Tryz.params3];exact trodAll_cons_mk a0 (trodAll_cons_mk a1 trodAll_mk0)
  ·rfl
end Go.Proofs.YtfioheedknfjnaaGreatDoor
