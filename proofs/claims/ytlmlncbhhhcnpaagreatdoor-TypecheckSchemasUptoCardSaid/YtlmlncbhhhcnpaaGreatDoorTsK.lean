/- Part K of a proof. -/
import Derived.Test.YtlmlncbhhhcnpaaGreatDoorTsH
import Derived.Test.YtlmlncbhhhcnpaaGreatDoorTsJ
import Derived.Test.YtlmlncbhhhcnpaaGreatDoorTsC
import Derived.Test.YtlmlncbhhhcnpaaGreatDoorTsA
import Derived.Test.YtlmlncbhhhcnpaaGreatDoorTsF
set_option linter.unusedVariables false
set_option linter.unusedSimpArgs false
set_option linter.unusedSectionVars false
set_option linter.constructorNameAsVariable false
set_option linter.unnecessarySimpa false
set_option maxRecDepth 10000
namespace Go.Proofs
open Go Av
set_option maxHeartbeats 4000000 in
theorem walk3(p:Prg):PT 3 [encPg p] (.d (.bool true)):=by
 refine ok3.pc ?_;have c4:=(walk4 p).call trivial;have hsz:=shP_sz p;have hwt:=shP_wt p;generalize shP p=q at*;have c5:=(walk5 q hsz hwt).call trivial;have c6:=(walk6 q hsz hwt).call trivial;have c7:=walk7.call trivial;have c8:=(walk8 q hsz hwt).call trivial;have c9:=(walk9 q hsz).call trivial;have hl:=law_ok q;simp only[encPg]at c4 c5 c6 c8 c9;simp only[go_sem,ir3,encPg,simprocAttr];refine wc c4 ?_;refine wpsL_call rfl c5 trivial ?_;refine zz ?_;refine wpsL_call rfl c6 trivial ?_;refine zz ?_;refine⟨dC,wn c7 ?_⟩;simp only[go_sem,Bool.not_true,Bool.false_eq_true,simprocAttr];refine wn c8 ?_;cases hP:(prbS q).isEmpty with
 |false=>
  have hv:visP q=[]:=by
   unfold visP;rw[if_neg];intro e;rw[e]at hP;cases hP
  rw[hv];have hd:(((0:Nat):Int)==0)=true:=dC;simp only[go_sem,hP,Bool.not_false,List.map_nil,List.length_nil,hd,simprocAttr]
 |true=>
  have hPe:prbS q=[]:=List.isEmpty_iff.1 hP;obtain⟨l1,l2⟩:=hl hPe;rw[l1,l2];simp only[go_sem,hP,Bool.not_true,Bool.false_eq_true,simprocAttr];refine wc c9 ?_;have c10:∀a:List Int,CT (.fn 10) [.d (.list 1 (a.map (.int .i64))),.d (.list 1 (a.map (.int .i64)))] [] (.d (.bool true)) []:=by
   intro a;have:=(walk10 a a).call trivial;rw[beq_self_eq_true]at this;exact this
  refine wc (c10 _) ?_;refine wc (c10 _) trivial
end Go.Proofs
namespace Go.Proofs.YtlmlncbhhhcnpaaGreatDoor
open Go Go.Proofs Av Go.ChangeShapes Go.WideShapes Go.ChangeAt Go.RowKit
theorem contractX(H:Type)(enc:TypeId×Value→H)(W:World)(base:Nat)(args:Array Value)(ds gs:List (DataW H))(before:List MemPlace)
  (hval:∀(j:Nat) t v,Tryz.f3.params[j]? =some t→args[j]? =some v→Value.okWide Tryz.prog W .any base t v)
  (hW:DataW.Whole enc Tryz.prog Tryz.f3.params.toList Rows.typecheckSchemasSpec.vars false W args.toList ds gs before)(hk:Rows.uptoSmall H (ds++gs)=true)(hL:laidMetH Tryz.prog Rows.typecheckSchemasUptoRow.laid W):
  Calls Tryz.prog 3 args W fun e W'=>∃v,e=.returned v∧Rows.typecheckSchemasSpec.post enc Tryz.prog Tryz.f3 false true false false W args v W':=by
 have hW':=hW;have hk':Rows.uptoBulkAll (ds++gs)≤1048576:=of_decide_eq_true hk;rw[bulk_append]at hk';obtain⟨p,q,hA0,hV,rfl,hfz,hnd⟩:=hW;have hA:DataW.TrodAll enc Tryz.prog W 0 (fun _=>true) true Tryz.f3.params.toList args.toList ds p:=hA0;rw[Tryz.params3]at hA hval;obtain⟨v0,vs0,d0,ds0,p0,q0,hargs,rfl,rfl,h0,r0⟩:=trodAll_cons hA;obtain⟨rfl,rfl,rfl⟩:=trodAll_nil r0;obtain rfl:args=#[v0]:=by cases args;simp_all
 obtain⟨rfl,rfl⟩:=trodVars_none hV;simp only[Rows.uptoBulkAll]at hk';obtain⟨o,ro⟩:=open_prg (hval 0 27 v0 rfl rfl) h0 oM;refine(calls_of_pcon (walk3 o) (vs:=#[v0]) (globs hL) rfl ?_).mono ?_
 ·intro i d v hd hv
  match i,hd,hv with
  |0,hd,hv=>cases hd;cases hv;exact ro
 ·rintro e W' ⟨rfl,hbel⟩;have hlt:∀x∈p0++[],x.block<W.heap.size:=fun x hx=>by simpa using hW'.lt x (sX hx)
  refine⟨.bool true,rfl,[d0],[],_,[],p0++[],[],hW',?_,?_,?_,hbel.frame _,fun h=>by cases h⟩
  ·exact trodAll_mk1 (shut_bool kR _)
  ·have a0:=Below.trod laidOut kR (of_decide_eq_true kR) h0 hbel (fun x hx=>hlt x (by simp[hx]));show DataW.TrodAll enc Tryz.prog W' 0 _ true Tryz.f3.params.toList [v0] [d0] _;rw[Tryz.params3];exact trodAll_cons_mk a0 trodAll_mk0
  ·rfl
end Go.Proofs.YtlmlncbhhhcnpaaGreatDoor
