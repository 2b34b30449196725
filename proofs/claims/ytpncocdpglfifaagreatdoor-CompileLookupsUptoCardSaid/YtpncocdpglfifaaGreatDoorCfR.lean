/- Part R of a proof. -/
import Derived.Test.YtpncocdpglfifaaGreatDoorCfQ
import Derived.OpenShut
import Derived.Carry
import Derived.LaidMore
import Derived.Deep.DeepWitnessRowRef
import Derived.ChangeAt
import Derived.RowKit
import Derived.Test.YtpncocdpglfifaaGreatDoorCfC
import Derived.Test.YtpncocdpglfifaaGreatDoorCfA
import Derived.Test.YtpncocdpglfifaaGreatDoorCfP
set_option linter.unusedVariables false
set_option linter.unusedSimpArgs false
set_option linter.unusedSectionVars false
set_option linter.constructorNameAsVariable false
set_option linter.unnecessarySimpa false
set_option maxRecDepth 10000
namespace Go.Proofs.YtpncocdpglfifaaGreatDoor
open Go Go.Proofs Av Go.ChangeShapes Go.WideShapes Go.ChangeAt Go.RowKit
theorem JO9(w:World)(hg:∀g cs,Yy g=some cs→JBk (Av.old w) w g cs):Core (fun _=>(⟨none,[]⟩:BK)) (Av.old w) w (get []):=
 ⟨(by intro i o hi;cases hi),(by intro i j o o' b hi;cases hi),(by intro i o b hi;cases hi),fun _ h=>h,hg⟩
theorem JFF{P:Program}{f:Nat}{ds:List Dat}{b:Bool}(h:J3 P f ds (.d (.bool b))){w:World}{vs:Array Value}(hg:∀g cs,Yy g=some cs→JBk (Av.old w) w g cs)(hl:ds.length=vs.size)
  (hv:∀(i:Nat) d v,ds[i]? =some d→vs[i]? =some v→Rep (Av.old w) w d v):
  Calls P f vs w fun e w'=>e=.returned (.bool b)∧Below w.heap.size w w':=by
 refine(h.2 (fun _=>(⟨none,[]⟩:BK)) (Av.old w) w vs (JO9 w hg) ⟨by simpa using hl,?_⟩).mono ?_
 ·intro i c v hc hv';rw[Vo]at hc;cases e:ds[i]? with
  |none=>rw[e]at hc;cases hc
  |some d=>
   rw[e]at hc;cases hc;exact .d _ _ (hv i d v e hv')
 ·rintro e w' ⟨u,β',A',rfl,hs,_,hu⟩;have:=hu.Ja;cases this;exact⟨rfl,hs.os,hs.tape,hs.output,hs.size,fun k hk=>hs.same k hk (by intro i o hi;cases hi)⟩
theorem laidOut:laidOutB Tryz.prog=true:=kR
theorem JIH{H:Type}(l r:List (DataW H)):Rows.uptoBulkAll (l++r)=Rows.uptoBulkAll l+Rows.uptoBulkAll r:=by
 induction l with
 |nil=>simp[Rows.uptoBulkAll]
 |cons x l ih=>simp only[List.cons_append,Rows.uptoBulkAll,ih];omega
theorem JLg(H:Type)(enc:TypeId×Value→H)(W:World)(base:Nat)(args:Array Value)(ds gs:List (DataW H))(before:List MemPlace)
  (hval:∀(j:Nat) t v,Tryz.f3.params[j]? =some t→args[j]? =some v→Value.okWide Tryz.prog W .any base t v)
  (hW:DataW.Whole enc Tryz.prog Tryz.f3.params.toList Rows.compileLookupsSpec.vars false W args.toList ds gs before)(hk:Rows.uptoSmall H (ds++gs)=true)(hL:laidMetH Tryz.prog Rows.compileLookupsUptoRow.laid W):
  Calls Tryz.prog 3 args W fun e W'=>∃v,e=.returned v∧Rows.compileLookupsSpec.post enc Tryz.prog Tryz.f3 false true false false W args v W':=by
 have hW':=hW;have hk':Rows.uptoBulkAll (ds++gs)≤1048576:=of_decide_eq_true hk;rw[JIH]at hk';obtain⟨p,q,hA0,hV,rfl,hfz,hnd⟩:=hW;have hA:DataW.TrodAll enc Tryz.prog W 0 (fun _=>true) true Tryz.f3.params.toList args.toList ds p:=hA0;rw[Tryz.params3]at hA hval;obtain⟨v0,vs0,d0,ds0,p0,q0,hargs0,rfl,rfl,h0,r0⟩:=trodAll_cons hA;obtain⟨v1,vs1,d1,ds1,p1,q1,hargs1,rfl,rfl,h1,r1⟩:=trodAll_cons r0;obtain⟨v2,vs2,d2,ds2,p2,q2,hargs2,rfl,rfl,h2,r2⟩:=trodAll_cons r1;obtain⟨rfl,rfl,rfl⟩:=trodAll_nil r2;subst hargs1 hargs2;obtain rfl:args=#[v0,v1,v2]:=by cases args;simp_all
 obtain⟨rfl,rfl⟩:=trodVars_none hV;simp only[Rows.uptoBulkAll]at hk';obtain⟨rs0,ch0,ev0,ok0,r0⟩:=JJK (hval 0 25 v0 rfl rfl) h0 oM;obtain⟨cs1,ok1,r1⟩:=JLf (hval 1 26 v1 rfl rfl) h1 oM;obtain⟨x2,ok2,r2⟩:=JO8 (hval 2 28 v2 rfl rfl) h2 oM;refine(JFF (walk3 rs0 ok0 ch0 ev0 cs1 ok1 x2) (vs:=#[v0,v1,v2]) (globs hL) rfl ?_).mono ?_
 ·intro i d v hd hv
  match i,hd,hv with
  |0,hd,hv=>cases hd;cases hv;exact r0
  |1,hd,hv=>cases hd;cases hv;exact r1
  |2,hd,hv=>cases hd;cases hv;exact r2
 ·rintro e W' ⟨rfl,hbel⟩;have hlt:∀x∈p0++(p1++(p2++[])),x.block<W.heap.size:=fun x hx=>by simpa using hW'.lt x (sX hx)
  refine⟨.bool true,rfl,[d0,d1,d2],[],_,[],p0++(p1++(p2++[])),[],hW',?_,?_,?_,hbel.frame _,fun h=>by cases h⟩
  ·exact trodAll_mk1 (shut_bool kR _)
  ·have a0:=Below.trod laidOut kR (of_decide_eq_true kR) h0 hbel (fun x hx=>hlt x (by simp[hx]));have a1:=Below.trod laidOut kR (of_decide_eq_true kR) h1 hbel (fun x hx=>hlt x (by simp[hx]));have a2:=Below.trod laidOut kR (of_decide_eq_true kR) h2 hbel (fun x hx=>hlt x (by simp[hx]));show DataW.TrodAll enc Tryz.prog W' 0 _ true Tryz.f3.params.toList [v0,v1,v2] [d0,d1,d2] _;rw[Tryz.params3];exact trodAll_cons_mk a0 (trodAll_cons_mk a1 (trodAll_cons_mk a2 trodAll_mk0))
  ·rfl
end Go.Proofs.YtpncocdpglfifaaGreatDoor
