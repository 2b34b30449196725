/- Part H of a proof. -/
import Derived.Test.YtfioheedknfjnaaGreatDoorPcG
import Derived.Test.YtfioheedknfjnaaGreatDoorPcC
import Derived.Test.YtfioheedknfjnaaGreatDoorPcA
import Derived.Test.YtfioheedknfjnaaGreatDoorPcF
import Derived.Test.YtfioheedknfjnaaGreatDoorProg
import Derived.ChangeAt
import Derived.RowKit
import Derived.Test.YtfioheedknfjnaaGreatDoorPcD
import Derived.OpenShut
import Derived.Carry
import Derived.LaidMore
import Derived.Deep.DeepWitnessRowRef
import Derived.Shelf.SlMaps.Clone
import Derived.Shelf.SlGeneric
import Derived.Ground.SlmcProg
import Derived.Shelf.SlIter.Sorted
import Derived.Ground.GgzProg
import Derived.Lib.Bytealg
import Derived.Shelf.Slices.Clone
set_option linter.unusedVariables false
set_option linter.unusedSimpArgs false
set_option linter.unusedSectionVars false
set_option linter.constructorNameAsVariable false
set_option linter.unnecessarySimpa false
set_option maxRecDepth 100000
namespace Go.Proofs
open Go Av
theorem JE1{l:List Rz}{k:Nat}(h:k<l.length):nth (l.map JC) k=JC l[k]:=Yz JC h
theorem walk84(r:Rz):PT 84 [JC r] (.d (.bool (r.t.kind !=1))):=by
 refine ok84.pc ?_;simp only[go_sem,ir84,JC,Vv,Vc,simprocAttr]
theorem ex267(l:List Rz):∃x:Int,True∧PT 137 [.list 9 (l.map JC),.fn (.func 84) [] []] (.d (.int .i64 x)):=by
 refine ok137.JIu (fun x:Int=>.d (.int .i64 x)) (fun x:Int=>True) (0) (trivial) (Nat.le_of_ble_eq_true rfl) (fun _ _=>by simp[Uv,JT,JN]) fun hfit=>?_
 have f1:l.length≤68719476736:=by have:=(hfit (.list 9 (l.map JC)) sP).1;simpa using this
 simp only[go_sem,JSr,Vv,Vc,simprocAttr];refine JJ (fun n s=>∃k:Nat,k≤l.length∧n=l.length-k∧s=⟨[(0,.d (.list 9 (l.map JC))),(1,.d (.fn (.func 84) [] [])),(7,.d (.int .i64 l.length)),(8,.d (.int .i64 k))],[]⟩) ?_ ?_
 ·refine⟨_,_,Wk.less ?_,0,Nat.zero_le _,rfl,rfl⟩;simp[go_sem]
 rintro n s ⟨k,hk,rfl,rfl⟩;by_cases hlt:k<l.length
 ·have hx:=JE1 hlt;have hd:=dT hlt;have c:=(walk84 l[k]).call trivial;simp only[JC]at hx c;simp only[go_sem,hx,hd,JS k oM,Vv,Vc,simprocAttr]
  repeat with_reducible refine And.intro (by first|decide|omega|(simp;done)|(simp;omega)) ?_
  refine wn c ?_;simp only[go_sem,JS k oM,Vv,Vc,simprocAttr];refine JD (fun h=>?_) (fun h=>?_)
  ·exact⟨_,rfl⟩
  try simp only[go_sem,JS k oM,Vv,Vc,simprocAttr]
  exact⟨l.length-(k+1),_,oM,Wk.refl _,k+1,oM,rfl,rfl⟩
 ·have hd:=dF hlt;simp only[go_sem,hd,Vv,Vc,simprocAttr];exact⟨_,rfl⟩
theorem c137(l:List Rz):CT 137 [.d (.list 9 (l.map JC)),.d (.fn (.func 84) [] [])] [] (.d (.int .i64 (PA (ex267 l)))) []:=(UQ (ex267 l)).call (by simp[Jl])
theorem JIf(l:List Rz):∃x:Bool,True∧PT 83 [.list 9 (l.map JC),.fn (.func 84) [] []] (.d (.bool x)):=by
 refine ok83.pex (fun x:Bool=>.d (.bool x)) (fun x:Bool=>True) (Nat.le_of_ble_eq_true rfl) (fun _ _=>by simp[Uv,JT,JN]) ?_;simp only[go_sem,ir83,Vv,Vc,simprocAttr];refine wn (c137 l) ?_;simp only[go_sem,Vv,Vc,simprocAttr];exact⟨_,rfl⟩
theorem c83(l:List Rz):CT 83 [.d (.list 9 (l.map JC)),.d (.fn (.func 84) [] [])] [] (.d (.bool (PA (JIf l)))) []:=(UQ (JIf l)).call (by simp[Jl])
theorem con79(l:List Rz)(i:Nat)(hi:i<l.length):KT 79 [.d (.int .i64 i),.ref 1000 0] [(1000,.box [.d (.list 9 (l.map JC))])] (.d (.int .i64 l[i].t.kind)) []:=by
 refine ok79.con (k:=some false) (Nat.le_of_ble_eq_true rfl) (Jj (by simp[J6,put,Jc,J0,JN,JT,Av.get])) trivial ?_;have hx:=JE1 hi;simp only[JC]at hx;simp only[go_sem,ir79,hx,Vv,Vc,Nat.reduceAdd,Nat.reduceEqDiff,Nat.reduceBEq,Nat.reduceLeDiff,reduceCtorEq,↓reduceIte]
 repeat with_reducible refine And.intro (by first|decide|omega|(simp;done)|(simp;omega)) ?_
 simp
theorem c79(l:List Rz)(i:Nat)(hi:i<l.length):CT 79 [.d (.int .i64 i),.ref 5 0] [(5,some (.box [.d (.list 9 (l.map JC))]))] (.d (.int .i64 l[i].t.kind)) []:=by
 have:=(con79 l i hi).JIv (fun _=>5) [1000] rfl dC sP sP (by simp[JT,JN,Av.get]) (by simp[Jc,J0,JN,JT,Av.get]) (by simp[J6,put,Jc,J0,JN,JT,Av.get]) trivial;simp only[Va,Vb,Av.ren,Obj.ren,J7]at this;exact this
theorem ex96_1(e:Exp)(l:List Rz)(v:Val)(vs:List Val)(hv:e.value=v::vs)(hvk:1≤v.kind)(hop:e.op=1)(env:Typ)(x:Int):TEx 54 [JL e,.list 9 (l.map JC)] env x:=by
 refine Xh.Us (k:=some false) (fun z:Rz×Int=>.d (JC z.1)) (fun z:Rz×Int=>[(1000,tO env z.2)]) (fun z:Rz×Int=>z.2=0→1≤z.1.t.kind) (rz0,1) (fun h=>by cases h) (Nat.le_of_ble_eq_true rfl) (fun _ _=>JU _ _ _) (fun _ _=>trivial) fun hfit=>?_
 have ce:JL e=.agg [.int .i64 e.op,.int .i64 e.int,.str e.text,.list 6 (e.value.map JM),.list 5 (e.args.map JL)]:=JF e;rw[ce];have c:=c80 v hvk;have h0:nth (e.value.map JM) 0=JM v:=by rw[hv];rfl
 have hn:e.value.length=vs.length+1:=by rw[hv];rfl
 have gT:=UW (JLG v hvk);generalize PA (JLG v hvk)=T at c gT;rw[JI]at c h0;rw[JA]at c;rw[hop];simp only[go_sem,tO,Xf,h0,hn,Int.reduceBEq,Int.reduceToNat,Vv,Vc,simprocAttr]
 repeat with_reducible refine And.intro (by first|decide|omega|(simp;done)|(simp;omega)) ?_
 refine wn c ?_;simp only[go_sem,Vv,Vc,simprocAttr];exact J8 (hk:=fun _=>gT)
theorem ex96_2(e:Exp)(l:List Rz)(hop:e.op=2)(env:Typ)(x:Int):TEx 54 [JL e,.list 9 (l.map JC)] env x:=by
 refine Xh.Us (k:=some false) (fun z:Rz×Int=>.d (JC z.1)) (fun z:Rz×Int=>[(1000,tO env z.2)]) (fun z:Rz×Int=>z.2=0→1≤z.1.t.kind) (rz0,1) (fun h=>by cases h) (Nat.le_of_ble_eq_true rfl) (fun _ _=>JU _ _ _) (fun _ _=>trivial) fun hfit=>?_
 have ce:JL e=.agg [.int .i64 e.op,.int .i64 e.int,.str e.text,.list 6 (e.value.map JM),.list 5 (e.args.map JL)]:=JF e;rw[ce];have c:=(JF0 e.text env x).call;have gZ:=TEx.JAv (JF0 e.text env x);generalize TA (JF0 e.text env x)=Z at c gZ;rw[hop];simp only[go_sem,tO,Xf,Int.reduceBEq,Vv,Vc,simprocAttr];refine wn c ?_;simp only[go_sem,JC,Vv,Vc,simprocAttr];exact J8
theorem JRB(e:Exp)(l:List Rz)(hop:e.op=22)(env:Typ)(x:Int):TEx 54 [JL e,.list 9 (l.map JC)] env x:=by
 refine Xh.Us (k:=some false) (fun z:Rz×Int=>.d (JC z.1)) (fun z:Rz×Int=>[(1000,tO env z.2)]) (fun z:Rz×Int=>z.2=0→1≤z.1.t.kind) (rz0,1) (fun h=>by cases h) (Nat.le_of_ble_eq_true rfl) (fun _ _=>JU _ _ _) (fun _ _=>trivial) fun hfit=>?_
 have ce:JL e=.agg [.int .i64 e.op,.int .i64 e.int,.str e.text,.list 6 (e.value.map JM),.list 5 (e.args.map JL)]:=JF e;rw[ce];have c:=(JF0 e.text env x).call;have gZ:=TEx.JAv (JF0 e.text env x);generalize TA (JF0 e.text env x)=Z at c gZ;rw[hop];simp only[go_sem,tO,Xf,Int.reduceBEq,Vv,Vc,simprocAttr];refine wn c ?_;simp only[go_sem,JC,Vv,Vc,simprocAttr];exact Yo
theorem JRC(e:Exp)(l:List Rz)(hop:e.op=26)(env:Typ)(x:Int):TEx 54 [JL e,.list 9 (l.map JC)] env x:=by
 refine Xh.Us (k:=some false) (fun z:Rz×Int=>.d (JC z.1)) (fun z:Rz×Int=>[(1000,tO env z.2)]) (fun z:Rz×Int=>z.2=0→1≤z.1.t.kind) (rz0,1) (fun h=>by cases h) (Nat.le_of_ble_eq_true rfl) (fun _ _=>JU _ _ _) (fun _ _=>trivial) fun hfit=>?_
 have ce:JL e=.agg [.int .i64 e.op,.int .i64 e.int,.str e.text,.list 6 (e.value.map JM),.list 5 (e.args.map JL)]:=JF e;rw[ce];have c:=(JOd e env x).call;have gZ:=TEx.JAv (JOd e env x);generalize TA (JOd e env x)=Z at c gZ;rw[ce,hop]at c;rw[hop];simp only[go_sem,tO,Xf,Int.reduceBEq,Vv,Vc,simprocAttr];refine wn c ?_;simp only[go_sem,JC,Vv,Vc,simprocAttr];exact J8
theorem ex96_3(e:Exp)(l:List Rz)(hop:e.op=3)(env:Typ)(x:Int):TEx 54 [JL e,.list 9 (l.map JC)] env x:=by
 refine Xh.Us (k:=some false) (fun z:Rz×Int=>.d (JC z.1)) (fun z:Rz×Int=>[(1000,tO env z.2)]) (fun z:Rz×Int=>z.2=0→1≤z.1.t.kind) (rz0,1) (fun h=>by cases h) (Nat.le_of_ble_eq_true rfl) (fun _ _=>JU _ _ _) (fun _ _=>trivial) fun hfit=>?_
 have ce:JL e=.agg [.int .i64 e.op,.int .i64 e.int,.str e.text,.list 6 (e.value.map JM),.list 5 (e.args.map JL)]:=JF e;rw[ce];have c:=c83 l;generalize PA (JIf l)=B at c;rw[hop];simp only[go_sem,tO,Xf,Int.reduceBEq,Vv,Vc,simprocAttr];refine wn c ?_;simp only[go_sem,Vv,Vc,simprocAttr];refine JD (fun h=>?_) (fun h=>?_)
 ·refine wn (c85 18 env x) ?_;simp only[go_sem,JC,Vv,Vc,simprocAttr];exact J8
 try simp only[go_sem,Vv,Vc,simprocAttr]
 exact Yo
theorem ex96_4(e:Exp)(l:List Rz)(hop:e.op=4)(env:Typ)(x:Int):TEx 54 [JL e,.list 9 (l.map JC)] env x:=by
 refine Xh.Us (k:=some false) (fun z:Rz×Int=>.d (JC z.1)) (fun z:Rz×Int=>[(1000,tO env z.2)]) (fun z:Rz×Int=>z.2=0→1≤z.1.t.kind) (rz0,1) (fun h=>by cases h) (Nat.le_of_ble_eq_true rfl) (fun _ _=>JU _ _ _) (fun _ _=>trivial) fun hfit=>?_
 have ce:JL e=.agg [.int .i64 e.op,.int .i64 e.int,.str e.text,.list 6 (e.value.map JM),.list 5 (e.args.map JL)]:=JF e;rw[ce];have c:=c83 l;generalize PA (JIf l)=B at c;rw[hop];simp only[go_sem,tO,Xf,Int.reduceBEq,Vv,Vc,simprocAttr];refine wn c ?_;simp only[go_sem,Vv,Vc,simprocAttr];refine JD (fun h=>?_) (fun h=>?_)
 ·refine wn (c85 18 env x) ?_;simp only[go_sem,JC,Vv,Vc,simprocAttr];exact J8
 try simp only[go_sem,Vv,Vc,simprocAttr]
 exact Yo
theorem ex96_5(e:Exp)(l:List Rz)(hop:e.op=5)(env:Typ)(x:Int):TEx 54 [JL e,.list 9 (l.map JC)] env x:=by
 refine Xh.Us (k:=some false) (fun z:Rz×Int=>.d (JC z.1)) (fun z:Rz×Int=>[(1000,tO env z.2)]) (fun z:Rz×Int=>z.2=0→1≤z.1.t.kind) (rz0,1) (fun h=>by cases h) (Nat.le_of_ble_eq_true rfl) (fun _ _=>JU _ _ _) (fun _ _=>trivial) fun hfit=>?_
 have ce:JL e=.agg [.int .i64 e.op,.int .i64 e.int,.str e.text,.list 6 (e.value.map JM),.list 5 (e.args.map JL)]:=JF e;rw[ce];have c:=c83 l;generalize PA (JIf l)=B at c;rw[hop];simp only[go_sem,tO,Xf,Int.reduceBEq,Vv,Vc,simprocAttr];refine wn c ?_;simp only[go_sem,Vv,Vc,simprocAttr];refine JD (fun h=>?_) (fun h=>?_)
 ·refine wn (c85 18 env x) ?_;simp only[go_sem,JC,Vv,Vc,simprocAttr];exact J8
 try simp only[go_sem,Vv,Vc,simprocAttr]
 exact Yo
theorem ex96_6(e:Exp)(l:List Rz)(hl:1≤l.length)(hop:e.op=6)(env:Typ)(x:Int):TEx 54 [JL e,.list 9 (l.map JC)] env x:=by
 refine Xh.Us (k:=some false) (fun z:Rz×Int=>.d (JC z.1)) (fun z:Rz×Int=>[(1000,tO env z.2)]) (fun z:Rz×Int=>z.2=0→1≤z.1.t.kind) (rz0,1) (fun h=>by cases h) (Nat.le_of_ble_eq_true rfl) (fun _ _=>JU _ _ _) (fun _ _=>trivial) fun hfit=>?_
 have ce:JL e=.agg [.int .i64 e.op,.int .i64 e.int,.str e.text,.list 6 (e.value.map JM),.list 5 (e.args.map JL)]:=JF e;rw[ce];obtain⟨a,r,rfl⟩:∃a r,l=a::r:=by
  match l,hl with
  |a::r,_=>exact⟨a,r,rfl⟩
 have hr:r.length≤68719476736:=by have:=(hfit (.list 9 ((a::r).map JC)) sP).1;simp at this;omega
 clear hfit;obtain⟨m,hm,h0,hn,ht⟩:∃m,(a::r).map JC=m∧nth m 0=JC a∧m.length=r.length+1∧List.take (((r.length+1:Nat):Int)-1).toNat (m.drop 1)=r.map JC:=⟨_,rfl,rfl,sP,by simp[List.take_of_length_le]⟩;rw[hm];simp only[JC]at h0;rw[hop];simp only[go_sem,tO,Xf,Int.reduceBEq,Int.reduceToNat,hn,Vv,Vc,simprocAttr]
 repeat with_reducible refine And.intro (by first|decide|omega|(simp;done)|(simp;omega)) ?_
 simp only[ht,Vc];refine JJ (fun n s=>∃k:Nat,k≤r.length∧n=r.length-k∧s=⟨[(0,.ref 1000 0),(5,.ref 5 0),(6,.ref 6 0),(7,.ref 7 0),(62,.d (.list 9 (r.map JC))),(63,.d (.int .i64 r.length)),(64,.d (.int .i64 k))],
  [(1000,tO env x),(5,.box [.d (.list 9 m)]),(6,z9),(7,.box [.d (.int .i64 1),.d (.int .i64 0),.d (.int .i64 0),.d (.int .i64 0),.d (.nil 1),.d (.nil 7),.d (.nil 11),.d (.bool false),.d (.bool true)])]⟩) ?_ ?_
 ·refine⟨_,_,Wk.less ?_,0,Nat.zero_le _,rfl,rfl⟩;simp[go_sem,tO,z9]
 rintro n s ⟨k,hk,rfl,rfl⟩;by_cases hlt:k<r.length
 ·have hx:=JE1 hlt;have hd:=dT hlt;have c:=c86 a.t r[k].t;generalize PA (JIW a.t r[k].t)=B at c;simp only[JA]at c;simp only[JC]at hx;simp only[go_sem,tO,z9,hx,hd,h0,hn,Int.reduceToNat,Vv,Vc,simprocAttr]
  repeat with_reducible refine And.intro (by first|decide|omega|(simp;done)|(simp;omega)) ?_
  refine wn c ?_;simp only[go_sem,Vv,Vc,simprocAttr];refine JD (fun h=>?_) (fun h=>?_)
  ·refine wn (c85 18 env x) ?_;simp only[go_sem,JC,Vv,Vc,simprocAttr];exact J8
  try simp only[go_sem,JS k oM,Vv,Vc,simprocAttr]
  refine⟨r.length-(k+1),_,oM,Wk.less ?_,k+1,oM,rfl,rfl⟩;simp[go_sem,tO,z9,JS k oM]
 ·have hd:=dF hlt;simp only[go_sem,tO,z9,hd,Vv,Vc,simprocAttr];exact Yo
theorem ex96_7(e:Exp)(l:List Rz)(hl:1≤l.length)(hop:e.op=7)(env:Typ)(x:Int):TEx 54 [JL e,.list 9 (l.map JC)] env x:=by
 refine Xh.Us (k:=some false) (fun z:Rz×Int=>.d (JC z.1)) (fun z:Rz×Int=>[(1000,tO env z.2)]) (fun z:Rz×Int=>z.2=0→1≤z.1.t.kind) (rz0,1) (fun h=>by cases h) (Nat.le_of_ble_eq_true rfl) (fun _ _=>JU _ _ _) (fun _ _=>trivial) fun hfit=>?_
 have ce:JL e=.agg [.int .i64 e.op,.int .i64 e.int,.str e.text,.list 6 (e.value.map JM),.list 5 (e.args.map JL)]:=JF e;rw[ce];obtain⟨a,r,rfl⟩:∃a r,l=a::r:=by
  match l,hl with
  |a::r,_=>exact⟨a,r,rfl⟩
 have hr:r.length≤68719476736:=by have:=(hfit (.list 9 ((a::r).map JC)) sP).1;simp at this;omega
 clear hfit;obtain⟨m,hm,h0,hn,ht⟩:∃m,(a::r).map JC=m∧nth m 0=JC a∧m.length=r.length+1∧List.take (((r.length+1:Nat):Int)-1).toNat (m.drop 1)=r.map JC:=⟨_,rfl,rfl,sP,by simp[List.take_of_length_le]⟩;rw[hm];simp only[JC]at h0;rw[hop];simp only[go_sem,tO,Xf,Int.reduceBEq,Int.reduceToNat,hn,Vv,Vc,simprocAttr]
 repeat with_reducible refine And.intro (by first|decide|omega|(simp;done)|(simp;omega)) ?_
 simp only[ht,Vc];refine JJ (fun n s=>∃k:Nat,k≤r.length∧n=r.length-k∧s=⟨[(0,.ref 1000 0),(5,.ref 5 0),(6,.ref 6 0),(7,.ref 7 0),(62,.d (.list 9 (r.map JC))),(63,.d (.int .i64 r.length)),(64,.d (.int .i64 k))],
  [(1000,tO env x),(5,.box [.d (.list 9 m)]),(6,z9),(7,.box [.d (.int .i64 1),.d (.int .i64 0),.d (.int .i64 0),.d (.int .i64 0),.d (.nil 1),.d (.nil 7),.d (.nil 11),.d (.bool false),.d (.bool true)])]⟩) ?_ ?_
 ·refine⟨_,_,Wk.less ?_,0,Nat.zero_le _,rfl,rfl⟩;simp[go_sem,tO,z9]
 rintro n s ⟨k,hk,rfl,rfl⟩;by_cases hlt:k<r.length
 ·have hx:=JE1 hlt;have hd:=dT hlt;have c:=c86 a.t r[k].t;generalize PA (JIW a.t r[k].t)=B at c;simp only[JA]at c;simp only[JC]at hx;simp only[go_sem,tO,z9,hx,hd,h0,hn,Int.reduceToNat,Vv,Vc,simprocAttr]
  repeat with_reducible refine And.intro (by first|decide|omega|(simp;done)|(simp;omega)) ?_
  refine wn c ?_;simp only[go_sem,Vv,Vc,simprocAttr];refine JD (fun h=>?_) (fun h=>?_)
  ·refine wn (c85 18 env x) ?_;simp only[go_sem,JC,Vv,Vc,simprocAttr];exact J8
  try simp only[go_sem,JS k oM,Vv,Vc,simprocAttr]
  refine⟨r.length-(k+1),_,oM,Wk.less ?_,k+1,oM,rfl,rfl⟩;simp[go_sem,tO,z9,JS k oM]
 ·have hd:=dF hlt;simp only[go_sem,tO,z9,hd,Vv,Vc,simprocAttr];exact Yo
theorem JRD(e:Exp)(l:List Rz)(hl:1≤l.length)(hop:e.op=25)(env:Typ)(x:Int):TEx 54 [JL e,.list 9 (l.map JC)] env x:=by
 refine Xh.Us (k:=some false) (fun z:Rz×Int=>.d (JC z.1)) (fun z:Rz×Int=>[(1000,tO env z.2)]) (fun z:Rz×Int=>z.2=0→1≤z.1.t.kind) (rz0,1) (fun h=>by cases h) (Nat.le_of_ble_eq_true rfl) (fun _ _=>JU _ _ _) (fun _ _=>trivial) fun hfit=>?_
 have ce:JL e=.agg [.int .i64 e.op,.int .i64 e.int,.str e.text,.list 6 (e.value.map JM),.list 5 (e.args.map JL)]:=JF e;rw[ce];obtain⟨a,r,rfl⟩:∃a r,l=a::r:=by
  match l,hl with
  |a::r,_=>exact⟨a,r,rfl⟩
 have hr:r.length≤68719476736:=by have:=(hfit (.list 9 ((a::r).map JC)) sP).1;simp at this;omega
 clear hfit;obtain⟨m,hm,h0,hn,ht⟩:∃m,(a::r).map JC=m∧nth m 0=JC a∧m.length=r.length+1∧List.take (((r.length+1:Nat):Int)-1).toNat (m.drop 1)=r.map JC:=⟨_,rfl,rfl,sP,by simp[List.take_of_length_le]⟩;rw[hm];simp only[JC]at h0;rw[hop];simp only[go_sem,tO,Xf,Int.reduceBEq,Int.reduceToNat,hn,Vv,Vc,simprocAttr]
 repeat with_reducible refine And.intro (by first|decide|omega|(simp;done)|(simp;omega)) ?_
 simp only[ht,Vc];refine JJ (fun n s=>∃k:Nat,k≤r.length∧n=r.length-k∧s=⟨[(0,.ref 1000 0),(5,.ref 5 0),(6,.ref 6 0),(7,.ref 7 0),(62,.d (.list 9 (r.map JC))),(63,.d (.int .i64 r.length)),(64,.d (.int .i64 k))],
  [(1000,tO env x),(5,.box [.d (.list 9 m)]),(6,z9),(7,.box [.d (.int .i64 1),.d (.int .i64 0),.d (.int .i64 0),.d (.int .i64 0),.d (.nil 1),.d (.nil 7),.d (.nil 11),.d (.bool false),.d (.bool true)])]⟩) ?_ ?_
 ·refine⟨_,_,Wk.less ?_,0,Nat.zero_le _,rfl,rfl⟩;simp[go_sem,tO,z9]
 rintro n s ⟨k,hk,rfl,rfl⟩;by_cases hlt:k<r.length
 ·have hx:=JE1 hlt;have hd:=dT hlt;have c:=c86 a.t r[k].t;generalize PA (JIW a.t r[k].t)=B at c;simp only[JA]at c;simp only[JC]at hx;simp only[go_sem,tO,z9,hx,hd,h0,hn,Int.reduceToNat,Vv,Vc,simprocAttr]
  repeat with_reducible refine And.intro (by first|decide|omega|(simp;done)|(simp;omega)) ?_
  refine wn c ?_;simp only[go_sem,Vv,Vc,simprocAttr];refine JD (fun h=>?_) (fun h=>?_)
  ·refine wn (c85 18 env x) ?_;simp only[go_sem,JC,Vv,Vc,simprocAttr];exact J8
  try simp only[go_sem,JS k oM,Vv,Vc,simprocAttr]
  refine⟨r.length-(k+1),_,oM,Wk.less ?_,k+1,oM,rfl,rfl⟩;simp[go_sem,tO,z9,JS k oM]
 ·have hd:=dF hlt;simp only[go_sem,tO,z9,hd,Vv,Vc,simprocAttr];exact Yo
theorem ex96_8(e:Exp)(l:List Rz)(hl:l.length=2)(hop:e.op=8)(env:Typ)(x:Int):TEx 54 [JL e,.list 9 (l.map JC)] env x:=by
 refine Xh.Us (k:=some false) (fun z:Rz×Int=>.d (JC z.1)) (fun z:Rz×Int=>[(1000,tO env z.2)]) (fun z:Rz×Int=>z.2=0→1≤z.1.t.kind) (rz0,1) (fun h=>by cases h) (Nat.le_of_ble_eq_true rfl) (fun _ _=>JU _ _ _) (fun _ _=>trivial) fun hfit=>?_
 have ce:JL e=.agg [.int .i64 e.op,.int .i64 e.int,.str e.text,.list 6 (e.value.map JM),.list 5 (e.args.map JL)]:=JF e;rw[ce];obtain⟨a,b,rfl⟩:∃a b,l=[a,b]:=by
  match l,hl with
  |[a,b],_=>exact⟨a,b,rfl⟩
 obtain⟨m,hm,h0,h1,hn⟩:∃m,[JC a,JC b]=m∧nth m 0=JC a∧nth m 1=JC b∧m.length=2:=⟨_,rfl,rfl,rfl,rfl⟩;simp only[Va,Vb,hm];simp only[JC]at h0 h1;have c:=c87 a.t b.t;generalize PA (JFy a.t b.t)=B at c;simp only[JA]at c;rw[hop];simp only[go_sem,tO,Xf,Int.reduceBEq,Int.reduceToNat,h0,h1,hn,Vv,Vc,simprocAttr]
 repeat with_reducible refine And.intro (by first|decide|omega|(simp;done)|(simp;omega)) ?_
 refine wn c ?_;simp only[go_sem,Vv,Vc,simprocAttr];refine JD (fun h=>?_) (fun h=>?_)
 ·refine wn (c85 18 env x) ?_;simp only[go_sem,JC,Vv,Vc,simprocAttr];exact J8
 try simp only[go_sem,Vv,Vc,simprocAttr]
 exact Yo
theorem ex96_9(e:Exp)(l:List Rz)(hl:l.length=2)(hop:e.op=9)(env:Typ)(x:Int):TEx 54 [JL e,.list 9 (l.map JC)] env x:=by
 refine Xh.Us (k:=some false) (fun z:Rz×Int=>.d (JC z.1)) (fun z:Rz×Int=>[(1000,tO env z.2)]) (fun z:Rz×Int=>z.2=0→1≤z.1.t.kind) (rz0,1) (fun h=>by cases h) (Nat.le_of_ble_eq_true rfl) (fun _ _=>JU _ _ _) (fun _ _=>trivial) fun hfit=>?_
 have ce:JL e=.agg [.int .i64 e.op,.int .i64 e.int,.str e.text,.list 6 (e.value.map JM),.list 5 (e.args.map JL)]:=JF e;rw[ce];obtain⟨a,b,rfl⟩:∃a b,l=[a,b]:=by
  match l,hl with
  |[a,b],_=>exact⟨a,b,rfl⟩
 obtain⟨m,hm,h0,h1,hn⟩:∃m,[JC a,JC b]=m∧nth m 0=JC a∧nth m 1=JC b∧m.length=2:=⟨_,rfl,rfl,rfl,rfl⟩;simp only[Va,Vb,hm];simp only[JC]at h0 h1;have c:=c87 a.t b.t;generalize PA (JFy a.t b.t)=B at c;simp only[JA]at c;rw[hop];simp only[go_sem,tO,Xf,Int.reduceBEq,Int.reduceToNat,h0,h1,hn,Vv,Vc,simprocAttr]
 repeat with_reducible refine And.intro (by first|decide|omega|(simp;done)|(simp;omega)) ?_
 refine wn c ?_;simp only[go_sem,Vv,Vc,simprocAttr];refine JD (fun h=>?_) (fun h=>?_)
 ·refine wn (c85 18 env x) ?_;simp only[go_sem,JC,Vv,Vc,simprocAttr];exact J8
 try simp only[go_sem,Vv,Vc,simprocAttr]
 exact Yo
theorem JRE(e:Exp)(l:List Rz)(hl:l.length=2)(hop:e.op=10)(env:Typ)(x:Int):TEx 54 [JL e,.list 9 (l.map JC)] env x:=by
 refine Xh.Us (k:=some false) (fun z:Rz×Int=>.d (JC z.1)) (fun z:Rz×Int=>[(1000,tO env z.2)]) (fun z:Rz×Int=>z.2=0→1≤z.1.t.kind) (rz0,1) (fun h=>by cases h) (Nat.le_of_ble_eq_true rfl) (fun _ _=>JU _ _ _) (fun _ _=>trivial) fun hfit=>?_
 have ce:JL e=.agg [.int .i64 e.op,.int .i64 e.int,.str e.text,.list 6 (e.value.map JM),.list 5 (e.args.map JL)]:=JF e;rw[ce];obtain⟨a,b,rfl⟩:∃a b,l=[a,b]:=by
  match l,hl with
  |[a,b],_=>exact⟨a,b,rfl⟩
 obtain⟨m,hm,h0,h1,hn⟩:∃m,[JC a,JC b]=m∧nth m 0=JC a∧nth m 1=JC b∧m.length=2:=⟨_,rfl,rfl,rfl,rfl⟩;simp only[Va,Vb,hm];simp only[JC]at h0 h1;have c:=c87 a.t b.t;generalize PA (JFy a.t b.t)=B at c;simp only[JA]at c;rw[hop];simp only[go_sem,tO,Xf,Int.reduceBEq,Int.reduceToNat,h0,h1,hn,Vv,Vc,simprocAttr]
 repeat with_reducible refine And.intro (by first|decide|omega|(simp;done)|(simp;omega)) ?_
 refine wn c ?_;simp only[go_sem,Vv,Vc,simprocAttr];refine JD (fun h=>?_) (fun h=>?_)
 ·refine wn (c85 18 env x) ?_;simp only[go_sem,JC,Vv,Vc,simprocAttr];exact J8
 try simp only[go_sem,Vv,Vc,simprocAttr]
 exact Yo
theorem JRF(e:Exp)(l:List Rz)(hl:l.length=2)(hop:e.op=11)(env:Typ)(x:Int):TEx 54 [JL e,.list 9 (l.map JC)] env x:=by
 refine Xh.Us (k:=some false) (fun z:Rz×Int=>.d (JC z.1)) (fun z:Rz×Int=>[(1000,tO env z.2)]) (fun z:Rz×Int=>z.2=0→1≤z.1.t.kind) (rz0,1) (fun h=>by cases h) (Nat.le_of_ble_eq_true rfl) (fun _ _=>JU _ _ _) (fun _ _=>trivial) fun hfit=>?_
 have ce:JL e=.agg [.int .i64 e.op,.int .i64 e.int,.str e.text,.list 6 (e.value.map JM),.list 5 (e.args.map JL)]:=JF e;rw[ce];obtain⟨a,b,rfl⟩:∃a b,l=[a,b]:=by
  match l,hl with
  |[a,b],_=>exact⟨a,b,rfl⟩
 obtain⟨m,hm,h0,h1,hn⟩:∃m,[JC a,JC b]=m∧nth m 0=JC a∧nth m 1=JC b∧m.length=2:=⟨_,rfl,rfl,rfl,rfl⟩;simp only[Va,Vb,hm];simp only[JC]at h0 h1;have c:=c87 a.t b.t;generalize PA (JFy a.t b.t)=B at c;simp only[JA]at c;rw[hop];simp only[go_sem,tO,Xf,Int.reduceBEq,Int.reduceToNat,h0,h1,hn,Vv,Vc,simprocAttr]
 repeat with_reducible refine And.intro (by first|decide|omega|(simp;done)|(simp;omega)) ?_
 refine wn c ?_;simp only[go_sem,Vv,Vc,simprocAttr];refine JD (fun h=>?_) (fun h=>?_)
 ·refine wn (c85 18 env x) ?_;simp only[go_sem,JC,Vv,Vc,simprocAttr];exact J8
 try simp only[go_sem,Vv,Vc,simprocAttr]
 exact Yo
theorem JRG(e:Exp)(l:List Rz)(hl:l.length=2)(hop:e.op=12)(env:Typ)(x:Int):TEx 54 [JL e,.list 9 (l.map JC)] env x:=by
 refine Xh.Us (k:=some false) (fun z:Rz×Int=>.d (JC z.1)) (fun z:Rz×Int=>[(1000,tO env z.2)]) (fun z:Rz×Int=>z.2=0→1≤z.1.t.kind) (rz0,1) (fun h=>by cases h) (Nat.le_of_ble_eq_true rfl) (fun _ _=>JU _ _ _) (fun _ _=>trivial) fun hfit=>?_
 have ce:JL e=.agg [.int .i64 e.op,.int .i64 e.int,.str e.text,.list 6 (e.value.map JM),.list 5 (e.args.map JL)]:=JF e;rw[ce];obtain⟨a,b,rfl⟩:∃a b,l=[a,b]:=by
  match l,hl with
  |[a,b],_=>exact⟨a,b,rfl⟩
 obtain⟨m,hm,h0,h1,hn⟩:∃m,[JC a,JC b]=m∧nth m 0=JC a∧nth m 1=JC b∧m.length=2:=⟨_,rfl,rfl,rfl,rfl⟩;simp only[Va,Vb,hm];simp only[JC]at h0 h1;have c:=(Zr e a.t b.t env x).call;have gZ:=TEx.JAv (Zr e a.t b.t env x);generalize TA (Zr e a.t b.t env x)=Z at c gZ;simp only[JA,ce,hop]at c;rw[hop];simp only[go_sem,tO,Xf,Int.reduceBEq,Int.reduceToNat,h0,h1,hn,Vv,Vc,simprocAttr]
 repeat with_reducible refine And.intro (by first|decide|omega|(simp;done)|(simp;omega)) ?_
 refine wn c ?_;simp only[go_sem,JC,Vv,Vc,simprocAttr];exact J8
theorem JRH(e:Exp)(l:List Rz)(hl:l.length=2)(hop:e.op=13)(env:Typ)(x:Int):TEx 54 [JL e,.list 9 (l.map JC)] env x:=by
 refine Xh.Us (k:=some false) (fun z:Rz×Int=>.d (JC z.1)) (fun z:Rz×Int=>[(1000,tO env z.2)]) (fun z:Rz×Int=>z.2=0→1≤z.1.t.kind) (rz0,1) (fun h=>by cases h) (Nat.le_of_ble_eq_true rfl) (fun _ _=>JU _ _ _) (fun _ _=>trivial) fun hfit=>?_
 have ce:JL e=.agg [.int .i64 e.op,.int .i64 e.int,.str e.text,.list 6 (e.value.map JM),.list 5 (e.args.map JL)]:=JF e;rw[ce];obtain⟨a,b,rfl⟩:∃a b,l=[a,b]:=by
  match l,hl with
  |[a,b],_=>exact⟨a,b,rfl⟩
 obtain⟨m,hm,h0,h1,hn⟩:∃m,[JC a,JC b]=m∧nth m 0=JC a∧nth m 1=JC b∧m.length=2:=⟨_,rfl,rfl,rfl,rfl⟩;simp only[Va,Vb,hm];simp only[JC]at h0 h1;have c:=(Zr e a.t b.t env x).call;have gZ:=TEx.JAv (Zr e a.t b.t env x);generalize TA (Zr e a.t b.t env x)=Z at c gZ;simp only[JA,ce,hop]at c;rw[hop];simp only[go_sem,tO,Xf,Int.reduceBEq,Int.reduceToNat,h0,h1,hn,Vv,Vc,simprocAttr]
 repeat with_reducible refine And.intro (by first|decide|omega|(simp;done)|(simp;omega)) ?_
 refine wn c ?_;simp only[go_sem,JC,Vv,Vc,simprocAttr];exact J8
theorem JRI(e:Exp)(l:List Rz)(hl:l.length=2)(hop:e.op=14)(env:Typ)(x:Int):TEx 54 [JL e,.list 9 (l.map JC)] env x:=by
 refine Xh.Us (k:=some false) (fun z:Rz×Int=>.d (JC z.1)) (fun z:Rz×Int=>[(1000,tO env z.2)]) (fun z:Rz×Int=>z.2=0→1≤z.1.t.kind) (rz0,1) (fun h=>by cases h) (Nat.le_of_ble_eq_true rfl) (fun _ _=>JU _ _ _) (fun _ _=>trivial) fun hfit=>?_
 have ce:JL e=.agg [.int .i64 e.op,.int .i64 e.int,.str e.text,.list 6 (e.value.map JM),.list 5 (e.args.map JL)]:=JF e;rw[ce];obtain⟨a,b,rfl⟩:∃a b,l=[a,b]:=by
  match l,hl with
  |[a,b],_=>exact⟨a,b,rfl⟩
 obtain⟨m,hm,h0,h1,hn⟩:∃m,[JC a,JC b]=m∧nth m 0=JC a∧nth m 1=JC b∧m.length=2:=⟨_,rfl,rfl,rfl,rfl⟩;simp only[Va,Vb,hm];simp only[JC]at h0 h1;have c:=(Zr e a.t b.t env x).call;have gZ:=TEx.JAv (Zr e a.t b.t env x);generalize TA (Zr e a.t b.t env x)=Z at c gZ;simp only[JA,ce,hop]at c;rw[hop];simp only[go_sem,tO,Xf,Int.reduceBEq,Int.reduceToNat,h0,h1,hn,Vv,Vc,simprocAttr]
 repeat with_reducible refine And.intro (by first|decide|omega|(simp;done)|(simp;omega)) ?_
 refine wn c ?_;simp only[go_sem,JC,Vv,Vc,simprocAttr];exact J8
theorem JRJ(e:Exp)(l:List Rz)(hl:l.length=2)(hop:e.op=15)(env:Typ)(x:Int):TEx 54 [JL e,.list 9 (l.map JC)] env x:=by
 refine Xh.Us (k:=some false) (fun z:Rz×Int=>.d (JC z.1)) (fun z:Rz×Int=>[(1000,tO env z.2)]) (fun z:Rz×Int=>z.2=0→1≤z.1.t.kind) (rz0,1) (fun h=>by cases h) (Nat.le_of_ble_eq_true rfl) (fun _ _=>JU _ _ _) (fun _ _=>trivial) fun hfit=>?_
 have ce:JL e=.agg [.int .i64 e.op,.int .i64 e.int,.str e.text,.list 6 (e.value.map JM),.list 5 (e.args.map JL)]:=JF e;rw[ce];obtain⟨a,b,rfl⟩:∃a b,l=[a,b]:=by
  match l,hl with
  |[a,b],_=>exact⟨a,b,rfl⟩
 obtain⟨m,hm,h0,h1,hn⟩:∃m,[JC a,JC b]=m∧nth m 0=JC a∧nth m 1=JC b∧m.length=2:=⟨_,rfl,rfl,rfl,rfl⟩;simp only[Va,Vb,hm];simp only[JC]at h0 h1;have c:=(Zr e a.t b.t env x).call;have gZ:=TEx.JAv (Zr e a.t b.t env x);generalize TA (Zr e a.t b.t env x)=Z at c gZ;simp only[JA,ce,hop]at c;rw[hop];simp only[go_sem,tO,Xf,Int.reduceBEq,Int.reduceToNat,h0,h1,hn,Vv,Vc,simprocAttr]
 repeat with_reducible refine And.intro (by first|decide|omega|(simp;done)|(simp;omega)) ?_
 refine wn c ?_;simp only[go_sem,JC,Vv,Vc,simprocAttr];exact J8
theorem JRK(e:Exp)(l:List Rz)(hl:l.length=1)(hop:e.op=16)(env:Typ)(x:Int):TEx 54 [JL e,.list 9 (l.map JC)] env x:=by
 refine Xh.Us (k:=some false) (fun z:Rz×Int=>.d (JC z.1)) (fun z:Rz×Int=>[(1000,tO env z.2)]) (fun z:Rz×Int=>z.2=0→1≤z.1.t.kind) (rz0,1) (fun h=>by cases h) (Nat.le_of_ble_eq_true rfl) (fun _ _=>JU _ _ _) (fun _ _=>trivial) fun hfit=>?_
 have ce:JL e=.agg [.int .i64 e.op,.int .i64 e.int,.str e.text,.list 6 (e.value.map JM),.list 5 (e.args.map JL)]:=JF e;rw[ce];obtain⟨a,rfl⟩:∃a,l=[a]:=by
  match l,hl with
  |[a],_=>exact⟨a,rfl⟩
 obtain⟨m,hm,h0,hn⟩:∃m,[JC a]=m∧nth m 0=JC a∧m.length=1:=⟨_,rfl,rfl,rfl⟩;simp only[Va,Vb,hm];simp only[JC]at h0;have c:=c89 a.t;simp only[JA]at c;rw[hop];simp only[go_sem,tO,Xf,Int.reduceBEq,Int.reduceToNat,h0,hn,Vv,Vc,simprocAttr]
 repeat with_reducible refine And.intro (by first|decide|omega|(simp;done)|(simp;omega)) ?_
 refine wn c ?_;simp only[go_sem,Vv,Vc,simprocAttr];refine JD (fun h=>?_) (fun h=>?_)
 ·refine wn (c85 18 env x) ?_;simp only[go_sem,JC,Vv,Vc,simprocAttr];exact J8
 try simp only[go_sem,Vv,Vc,simprocAttr]
 exact J8 (hk:=fun _=>by simp at h;omega)
theorem JRL(e:Exp)(l:List Rz)(hl:l.length=1)(hop:e.op=18)(env:Typ)(x:Int):TEx 54 [JL e,.list 9 (l.map JC)] env x:=by
 refine Xh.Us (k:=some false) (fun z:Rz×Int=>.d (JC z.1)) (fun z:Rz×Int=>[(1000,tO env z.2)]) (fun z:Rz×Int=>z.2=0→1≤z.1.t.kind) (rz0,1) (fun h=>by cases h) (Nat.le_of_ble_eq_true rfl) (fun _ _=>JU _ _ _) (fun _ _=>trivial) fun hfit=>?_
 have ce:JL e=.agg [.int .i64 e.op,.int .i64 e.int,.str e.text,.list 6 (e.value.map JM),.list 5 (e.args.map JL)]:=JF e;rw[ce];obtain⟨a,rfl⟩:∃a,l=[a]:=by
  match l,hl with
  |[a],_=>exact⟨a,rfl⟩
 have c9:=c79 [a] 0 sP;simp only[Va,Vb,List.getElem_cons_zero]at c9;obtain⟨m,hm,h0,hn⟩:∃m,[JC a]=m∧nth m 0=JC a∧m.length=1:=⟨_,rfl,rfl,rfl⟩;simp only[Va,Vb,hm];simp only[JC]at h0;rw[hm]at c9;have c:=c90 a.t;generalize PA (JCC a.t)=B at c;simp only[JA]at c;rw[hop];simp only[go_sem,tO,Xf,Int.reduceBEq,Int.reduceToNat,h0,hn,Vv,Vc,simprocAttr];refine wn c9 ?_;simp only[go_sem,Vv,Vc,simprocAttr];refine Jt (fun _=>?_) (fun z=>?_)
 ·simp only[go_sem,Vv,Vc,simprocAttr];refine wn c9 ?_;simp only[go_sem,Vv,Vc,simprocAttr];exact⟨_,rfl⟩
 simp only[go_sem,Vv,Vc,simprocAttr];refine Jt (fun _=>?_) (fun z=>?_)
 ·simp only[go_sem,Vv,Vc,simprocAttr];refine wn c9 ?_;simp only[go_sem,Vv,Vc,simprocAttr];exact⟨_,rfl⟩
 simp only[go_sem,Vv,Vc,simprocAttr];refine JD (fun h=>?_) (fun h=>?_)
 ·refine wn (c85 18 env x) ?_;simp only[go_sem,JC,Vv,Vc,simprocAttr];exact J8
 try simp only[go_sem,Int.reduceToNat,h0,hn,Vv,Vc,simprocAttr]
 repeat with_reducible refine And.intro (by first|decide|omega|(simp;done)|(simp;omega)) ?_
 refine wn c ?_;simp only[go_sem,Vv,Vc,simprocAttr];refine wn (c91 _ _ _) ?_;rw[JA];simp only[go_sem,Vv,Vc,simprocAttr];exact J8
theorem JRM(e:Exp)(l:List Rz)(hl:l.length=1)(hop:e.op=27)(env:Typ)(x:Int):TEx 54 [JL e,.list 9 (l.map JC)] env x:=by
 refine Xh.Us (k:=some false) (fun z:Rz×Int=>.d (JC z.1)) (fun z:Rz×Int=>[(1000,tO env z.2)]) (fun z:Rz×Int=>z.2=0→1≤z.1.t.kind) (rz0,1) (fun h=>by cases h) (Nat.le_of_ble_eq_true rfl) (fun _ _=>JU _ _ _) (fun _ _=>trivial) fun hfit=>?_
 have ce:JL e=.agg [.int .i64 e.op,.int .i64 e.int,.str e.text,.list 6 (e.value.map JM),.list 5 (e.args.map JL)]:=JF e;rw[ce];obtain⟨a,rfl⟩:∃a,l=[a]:=by
  match l,hl with
  |[a],_=>exact⟨a,rfl⟩
 obtain⟨m,hm,h0,hn⟩:∃m,[JC a]=m∧nth m 0=JC a∧m.length=1:=⟨_,rfl,rfl,rfl⟩;simp only[Va,Vb,hm];simp only[JC]at h0;have c:=(JOc a.t env x).call;have gZ:=TEx.JAv (JOc a.t env x);generalize TA (JOc a.t env x)=Z at c gZ;simp only[JA]at c;rw[hop];simp only[go_sem,tO,Xf,Int.reduceBEq,Int.reduceToNat,h0,hn,Vv,Vc,simprocAttr]
 repeat with_reducible refine And.intro (by first|decide|omega|(simp;done)|(simp;omega)) ?_
 refine wn c ?_;simp only[go_sem,JC,Vv,Vc,simprocAttr];exact J8
theorem JRN(e:Exp)(l:List Rz)(hl:l.length=1)(hop:e.op=19)(env:Typ)(x:Int):TEx 54 [JL e,.list 9 (l.map JC)] env x:=by
 refine Xh.Us (k:=some false) (fun z:Rz×Int=>.d (JC z.1)) (fun z:Rz×Int=>[(1000,tO env z.2)]) (fun z:Rz×Int=>z.2=0→1≤z.1.t.kind) (rz0,1) (fun h=>by cases h) (Nat.le_of_ble_eq_true rfl) (fun _ _=>JU _ _ _) (fun _ _=>trivial) fun hfit=>?_
 have ce:JL e=.agg [.int .i64 e.op,.int .i64 e.int,.str e.text,.list 6 (e.value.map JM),.list 5 (e.args.map JL)]:=JF e;rw[ce];obtain⟨a,rfl⟩:∃a,l=[a]:=by
  match l,hl with
  |[a],_=>exact⟨a,rfl⟩
 have c:=(JCo e a (.inl hop) env x).call;have gZ:=TEx.JAv (JCo e a (.inl hop) env x);generalize TA (JCo e a (.inl hop) env x)=Z at c gZ;rw[ce,hop]at c;simp only[Va,Vb]at c⊢;rw[hop];simp only[go_sem,tO,Xf,Int.reduceBEq,Vv,Vc,simprocAttr];refine wn c ?_;simp only[go_sem,JC,Vv,Vc,simprocAttr];exact J8
theorem JRO(e:Exp)(l:List Rz)(hl:l.length=1)(hop:e.op=20)(env:Typ)(x:Int):TEx 54 [JL e,.list 9 (l.map JC)] env x:=by
 refine Xh.Us (k:=some false) (fun z:Rz×Int=>.d (JC z.1)) (fun z:Rz×Int=>[(1000,tO env z.2)]) (fun z:Rz×Int=>z.2=0→1≤z.1.t.kind) (rz0,1) (fun h=>by cases h) (Nat.le_of_ble_eq_true rfl) (fun _ _=>JU _ _ _) (fun _ _=>trivial) fun hfit=>?_
 have ce:JL e=.agg [.int .i64 e.op,.int .i64 e.int,.str e.text,.list 6 (e.value.map JM),.list 5 (e.args.map JL)]:=JF e;rw[ce];obtain⟨a,rfl⟩:∃a,l=[a]:=by
  match l,hl with
  |[a],_=>exact⟨a,rfl⟩
 have c:=(JCo e a (.inr hop) env x).call;have gZ:=TEx.JAv (JCo e a (.inr hop) env x);generalize TA (JCo e a (.inr hop) env x)=Z at c gZ;rw[ce,hop]at c;simp only[Va,Vb]at c⊢;rw[hop];simp only[go_sem,tO,Xf,Int.reduceBEq,Vv,Vc,simprocAttr];refine wn c ?_;simp only[go_sem,JC,Vv,Vc,simprocAttr];exact J8
theorem JRP(e:Exp)(l:List Rz)(hl:l.length=1)(hop:e.op=28)(env:Typ)(x:Int):TEx 54 [JL e,.list 9 (l.map JC)] env x:=by
 refine Xh.Us (k:=some false) (fun z:Rz×Int=>.d (JC z.1)) (fun z:Rz×Int=>[(1000,tO env z.2)]) (fun z:Rz×Int=>z.2=0→1≤z.1.t.kind) (rz0,1) (fun h=>by cases h) (Nat.le_of_ble_eq_true rfl) (fun _ _=>JU _ _ _) (fun _ _=>trivial) fun hfit=>?_
 have ce:JL e=.agg [.int .i64 e.op,.int .i64 e.int,.str e.text,.list 6 (e.value.map JM),.list 5 (e.args.map JL)]:=JF e;rw[ce];obtain⟨a,rfl⟩:∃a,l=[a]:=by
  match l,hl with
  |[a],_=>exact⟨a,rfl⟩
 have c:=(JJq e a hop env x).call;have gZ:=TEx.JAv (JJq e a hop env x);generalize TA (JJq e a hop env x)=Z at c gZ;rw[ce,hop]at c;simp only[Va,Vb]at c⊢;rw[hop];simp only[go_sem,tO,Xf,Int.reduceBEq,Vv,Vc,simprocAttr];refine wn c ?_;simp only[go_sem,JC,Vv,Vc,simprocAttr];exact J8
theorem JRQ(e:Exp)(l:List Rz)(hl:l.length=2)(hop:e.op=17)(env:Typ)(x:Int):TEx 54 [JL e,.list 9 (l.map JC)] env x:=by
 refine Xh.Us (k:=some false) (fun z:Rz×Int=>.d (JC z.1)) (fun z:Rz×Int=>[(1000,tO env z.2)]) (fun z:Rz×Int=>z.2=0→1≤z.1.t.kind) (rz0,1) (fun h=>by cases h) (Nat.le_of_ble_eq_true rfl) (fun _ _=>JU _ _ _) (fun _ _=>trivial) fun hfit=>?_
 have ce:JL e=.agg [.int .i64 e.op,.int .i64 e.int,.str e.text,.list 6 (e.value.map JM),.list 5 (e.args.map JL)]:=JF e;rw[ce];obtain⟨a,b,rfl⟩:∃a b,l=[a,b]:=by
  match l,hl with
  |[a,b],_=>exact⟨a,b,rfl⟩
 have c:=(JJo e a b hop env x).call;have gZ:=TEx.JAv (JJo e a b hop env x);generalize TA (JJo e a b hop env x)=Z at c gZ;rw[ce,hop]at c;simp only[Va,Vb]at c⊢;rw[hop];simp only[go_sem,tO,Xf,Int.reduceBEq,Vv,Vc,simprocAttr];refine wn c ?_;simp only[go_sem,JC,Vv,Vc,simprocAttr];exact J8
theorem JRR(e:Exp)(l:List Rz)(hl:l.length=3)(hop:e.op=21)(env:Typ)(x:Int):TEx 54 [JL e,.list 9 (l.map JC)] env x:=by
 refine Xh.Us (k:=some false) (fun z:Rz×Int=>.d (JC z.1)) (fun z:Rz×Int=>[(1000,tO env z.2)]) (fun z:Rz×Int=>z.2=0→1≤z.1.t.kind) (rz0,1) (fun h=>by cases h) (Nat.le_of_ble_eq_true rfl) (fun _ _=>JU _ _ _) (fun _ _=>trivial) fun hfit=>?_
 have ce:JL e=.agg [.int .i64 e.op,.int .i64 e.int,.str e.text,.list 6 (e.value.map JM),.list 5 (e.args.map JL)]:=JF e;rw[ce];obtain⟨a,b,d,rfl⟩:∃a b d,l=[a,b,d]:=by
  match l,hl with
  |[a,b,d],_=>exact⟨a,b,d,rfl⟩
 have c:=(JJp e a b d hop env x).call;have gZ:=TEx.JAv (JJp e a b d hop env x);generalize TA (JJp e a b d hop env x)=Z at c gZ;rw[ce,hop]at c;simp only[Va,Vb]at c⊢;rw[hop];simp only[go_sem,tO,Xf,Int.reduceBEq,Vv,Vc,simprocAttr];refine wn c ?_;simp only[go_sem,JC,Vv,Vc,simprocAttr];exact J8
theorem w_0:IntKind.i64.wrap 0=0:=dC
theorem w_1:IntKind.i64.wrap 1=1:=dC
theorem w_2:IntKind.i64.wrap 2=2:=dC
theorem JRS(e:Exp)(l:List Rz)(hl:l.length=2)(hop:e.op=23)(env:Typ)(x:Int):TEx 54 [JL e,.list 9 (l.map JC)] env x:=by
 refine Xh.Us (k:=some false) (fun z:Rz×Int=>.d (JC z.1)) (fun z:Rz×Int=>[(1000,tO env z.2)]) (fun z:Rz×Int=>z.2=0→1≤z.1.t.kind) (rz0,1) (fun h=>by cases h) (Nat.le_of_ble_eq_true rfl) (fun _ _=>JU _ _ _) (fun _ _=>trivial) fun hfit=>?_
 have ce:JL e=.agg [.int .i64 e.op,.int .i64 e.int,.str e.text,.list 6 (e.value.map JM),.list 5 (e.args.map JL)]:=JF e;rw[ce];obtain⟨a,b,rfl⟩:∃a b,l=[a,b]:=by
  match l,hl with
  |[a,b],_=>exact⟨a,b,rfl⟩
 obtain⟨m,hm,h0,h1,hn⟩:∃m,[JC a,JC b]=m∧nth m 0=JC a∧nth m 1=JC b∧m.length=2:=⟨_,rfl,rfl,rfl,rfl⟩;simp only[Va,Vb,hm];simp only[JC]at h0 h1;have c:=c93 a.t b.t;have gB:=UW (JE0 a.t b.t);generalize PA (JE0 a.t b.t)=B at c gB;simp only[JA]at c;rw[hop];have hn':((m.length:Nat):Int)=2:=oM;simp only[go_sem,tO,Xf,Int.reduceBEq,Int.reduceToNat,h0,h1,hn',Int.reduceSub,w_0,w_1,Vv,Vc,simprocAttr]
 repeat with_reducible refine And.intro (by first|decide|omega|(simp;done)|(simp;omega)) ?_
 refine JE rfl c trivial ?_;simp only[go_sem,Vv,Vc,simprocAttr]
 repeat with_reducible refine And.intro (by first|decide|omega|(simp;done)|(simp;omega)) ?_
 refine JD (fun h=>?_) (fun h=>?_)
 ·refine wn (c85 18 env x) ?_;simp only[go_sem,JC,Vv,Vc,simprocAttr];exact J8
 try simp only[go_sem,h0,h1,hn',Int.reduceBEq,Int.reduceToNat,Int.reduceSub,w_0,w_1,w_2,Vv,Vc,simprocAttr]
 repeat with_reducible refine And.intro (by first|decide|omega|(simp;done)|(simp;omega)) ?_
 refine Jt (fun _=>?_) (fun z=>?_)
 ·try simp only[go_sem,h0,h1,hn',Int.reduceBEq,Int.reduceToNat,Int.reduceSub,w_0,w_1,w_2,Vv,Vc,simprocAttr]
  repeat with_reducible refine And.intro (by first|decide|omega|(simp;done)|(simp;omega)) ?_
  exact⟨_,rfl⟩
 try simp only[go_sem,Vv,Vc,simprocAttr]
 exact J8 (hk:=fun _=>gB (sX h))
theorem JRT(e:Exp)(l:List Rz)(hl:l.length=3)(hop:e.op=24)(env:Typ)(x:Int):TEx 54 [JL e,.list 9 (l.map JC)] env x:=by
 refine Xh.Us (k:=some false) (fun z:Rz×Int=>.d (JC z.1)) (fun z:Rz×Int=>[(1000,tO env z.2)]) (fun z:Rz×Int=>z.2=0→1≤z.1.t.kind) (rz0,1) (fun h=>by cases h) (Nat.le_of_ble_eq_true rfl) (fun _ _=>JU _ _ _) (fun _ _=>trivial) fun hfit=>?_
 have ce:JL e=.agg [.int .i64 e.op,.int .i64 e.int,.str e.text,.list 6 (e.value.map JM),.list 5 (e.args.map JL)]:=JF e;rw[ce];obtain⟨a,b,d,rfl⟩:∃a b d,l=[a,b,d]:=by
  match l,hl with
  |[a,b,d],_=>exact⟨a,b,d,rfl⟩
 have c9:=c79 [a,b,d] 0 sP;obtain⟨m,hm,h0,h1,h2,hn⟩:∃m,[JC a,JC b,JC d]=m∧nth m 0=JC a∧nth m 1=JC b∧nth m 2=JC d∧m.length=3:=⟨_,rfl,rfl,rfl,rfl,rfl⟩;simp only[Va,Vb,List.getElem_cons_zero,hm]at c9⊢;simp only[JC]at h0 h1 h2;have c:=c93 b.t d.t;have gB:=UW (JE0 b.t d.t);generalize PA (JE0 b.t d.t)=B at c gB;simp only[JA]at c;rw[hop];have hn':((m.length:Nat):Int)=3:=oM;simp only[go_sem,tO,Xf,Int.reduceBEq,Int.reduceToNat,h0,h1,h2,hn',Int.reduceSub,w_1,w_2,Vv,Vc,simprocAttr];refine wn c9 ?_;simp only[go_sem,Vv,Vc,simprocAttr];refine JD (fun h=>?_) (fun h=>?_)
 ·refine wn (c85 18 env x) ?_;simp only[go_sem,JC,Vv,Vc,simprocAttr];exact J8
 try simp only[go_sem,h0,h1,h2,hn',Int.reduceSub,Int.reduceToNat,w_1,w_2,Vv,Vc,simprocAttr]
 repeat with_reducible refine And.intro (by first|decide|omega|(simp;done)|(simp;omega)) ?_
 refine JE rfl c trivial ?_;simp only[go_sem,Vv,Vc,simprocAttr]
 repeat with_reducible refine And.intro (by first|decide|omega|(simp;done)|(simp;omega)) ?_
 refine JD (fun h=>?_) (fun h=>?_)
 ·refine wn (c85 18 env x) ?_;simp only[go_sem,JC,Vv,Vc,simprocAttr];exact J8
 try simp only[go_sem,h0,h1,h2,hn',Int.reduceBEq,Int.reduceToNat,Int.reduceSub,w_0,w_1,w_2,Vv,Vc,simprocAttr]
 repeat with_reducible refine And.intro (by first|decide|omega|(simp;done)|(simp;omega)) ?_
 refine Jt (fun _=>?_) (fun z=>?_)
 ·try simp only[go_sem,h0,h1,h2,hn',Int.reduceBEq,Int.reduceToNat,Int.reduceSub,w_0,w_1,w_2,Vv,Vc,simprocAttr]
  repeat with_reducible refine And.intro (by first|decide|omega|(simp;done)|(simp;omega)) ?_
  exact⟨_,rfl⟩
 try simp only[go_sem,Vv,Vc,simprocAttr]
 exact J8 (hk:=fun _=>gB (sX h))
end Go.Proofs
namespace Go.Proofs
open Go Av
open Av.Y
end Go.Proofs
namespace Go.Proofs
open Go Av
theorem JR.seeA{P:Program}{f:Nat}{args:List Av}{v:Av}{ups:List (Nat×Av.Obj)}{T:List (Nat×Option Av.Obj)}{i sz j ver:Nat}{xs:List Dat}
  (h:JR P (.fn f) (args.set j (.d (.list sz xs))) T v ups)(hj:args[j]? =some (.ms i ver)):JR P (.fn f) args ((i,some (.frz ver sz xs))::T) v ups:=by
 intro β A w H vs hT' hc hvs;have hi:H i=some (.frz ver sz xs):=hT' (i,_) Vh;refine h β A w H vs (fun e he=>hT' e (Vn _ he)) hc ⟨by simpa using hvs.1,fun n c u h1 h2=>?_⟩;have hn:n<args.length:=by
  have:=(VB.1 h1).1;simpa using this
 rcases JQ9 hj (Vl hn) h1 with⟨rfl,e,rfl⟩|e
 ·have hv:=hvs.2 n _ u hj h2;cases hv with
  |ms _ _ _ hu h0 h1 h2=>exact .d _ _ (h2 sz xs hi)
 ·rw[e];exact hvs.2 n _ u (Vl hn) h2
theorem JR.frzA{P:Program}{f:Nat}{args:List Av}{v:Av}{ups:List (Nat×Av.Obj)}{T:List (Nat×Option Av.Obj)}{i sz j ver:Nat}{xs:List Dat}
  (h:JR P (.fn f) (args.set j (.d (.list sz xs))) T v ups)(hj:args[j]? =some (.ms i ver))(hT:∀e∈T,e.1≠i):JR P (.fn f) args ((i,some (.row ver sz xs))::T) v ((i,.frz ver sz xs)::ups):=by
 have h':=JR.seeA (ver:=ver) h hj;intro β A w H vs hT' hc hvs;have hi:H i=some (.row ver sz xs):=hT' (i,_) Vh;have hst:=Stp.freeze hc hi;have hq:∀e∈(i,some (Av.Obj.frz ver sz xs))::T,upd H i (some (.frz ver sz xs)) e.1=e.2:=by
  intro e he;rcases VA.1 he with rfl|he
  ·exact JG _ _ _
  ·rw[JV _ _ (hT e he)];exact hT' e (Vn _ he)
 rcases h' β _ w _ vs hq hst.core ⟨hvs.1,fun n c u h1 h2=>hst.vals c u (hvs.2 n c u h1 h2)⟩with⟨a1,a2⟩|⟨u,w',a1,β',A',a2,a3⟩
 ·refine .inl ⟨a1,a2.mono ?_⟩;rintro e w' ⟨u,rfl,β',A',b1,b2⟩;exact⟨u,rfl,β',A',hst.trans b1,b2⟩
 ·exact .inr ⟨u,w',a1,β',A',hst.trans a2,a3⟩
theorem JCq{e:Exp}(h:JBR e=0):(1≤e.op∧e.op≤28)∧(Jb e.op).1≤(e.args.length:Int)∧((e.args.length:Int)≤(Jb e.op).2∨e.op=25)∧(e.op=1→∃v vs,e.value=v::vs∧1≤v.kind):=by
 unfold JBR at h;split at h
 ·cases h
 rename_i h1;split at h
 ·cases h
 split at h
 ·cases h
 split at h
 ·cases h
 rename_i h4;split at h
 ·cases h
 rename_i h5;simp only[Vx,Vi,decide_eq_true_eq,bne_iff_ne,ne_eq,not_or,not_and,Decidable.not_not]at h1 h4 h5;refine⟨oM,oM,?_,fun e1=>?_⟩
 ·by_cases hg:(e.args.length:Int)>(Jb e.op).2
  ·exact .inr (h5 hg)
  ·exact .inl oM
 ·rw[if_pos (by simp[e1])]at h;cases hv:e.value with
  |nil=>rw[hv,cvE]at h;cases h
  |cons v vs=>
   cases vs with
   |cons w r=>simp[hv,cvE]at h
   |nil=>
    refine⟨v,[],rfl,?_⟩;rw[hv,cvE]at h;split at h
    ·rename_i hc;rw[h]at hc;cases hc
    split at h
    ·cases h
    ·rename_i hs;simp[JDn]at hs;omega
theorem ex96(e:Exp)(l:List Rz)(h:JBR e=0)(hl:l.length=e.args.length)(env:Typ)(x:Int):TEx 54 [JL e,.list 9 (l.map JC)] env x:=by
 obtain⟨h1,h2,h3,h4⟩:=JCq h;rw[←hl]at h2 h3;have hop:e.op=1∨e.op=2∨e.op=3∨e.op=4∨e.op=5∨e.op=6∨e.op=7∨e.op=8∨e.op=9∨e.op=10∨e.op=11∨e.op=12∨e.op=13∨e.op=14∨e.op=15∨e.op=16∨e.op=17∨e.op=18∨e.op=19∨e.op=20∨e.op=21∨e.op=22∨e.op=23∨e.op=24∨e.op=25∨e.op=26∨e.op=27∨e.op=28:=oM;have a1:∀{a b:Int},Jb e.op=(a,b)→a≤l.length∧((l.length:Int)≤b∨e.op=25):=fun h=>by rw[h]at h2 h3;exact⟨h2,h3⟩
 rcases hop with k|k|k|k|k|k|k|k|k|k|k|k|k|k|k|k|k|k|k|k|k|k|k|k|k|k|k|k
 ·obtain⟨v,vs,hv,hvk⟩:=h4 k;exact ex96_1 e l v vs hv hvk k env x
 ·exact ex96_2 e l k env x
 ·exact ex96_3 e l k env x
 ·exact ex96_4 e l k env x
 ·exact ex96_5 e l k env x
 ·exact ex96_6 e l (by have:=a1 (a:=2) (b:=2) (congrArg Jb k);omega) k env x
 ·exact ex96_7 e l (by have:=a1 (a:=2) (b:=2) (congrArg Jb k);omega) k env x
 ·exact ex96_8 e l (by have:=a1 (a:=2) (b:=2) (congrArg Jb k);omega) k env x
 ·exact ex96_9 e l (by have:=a1 (a:=2) (b:=2) (congrArg Jb k);omega) k env x
 ·exact JRE e l (by have:=a1 (a:=2) (b:=2) (congrArg Jb k);omega) k env x
 ·exact JRF e l (by have:=a1 (a:=2) (b:=2) (congrArg Jb k);omega) k env x
 ·exact JRG e l (by have:=a1 (a:=2) (b:=2) (congrArg Jb k);omega) k env x
 ·exact JRH e l (by have:=a1 (a:=2) (b:=2) (congrArg Jb k);omega) k env x
 ·exact JRI e l (by have:=a1 (a:=2) (b:=2) (congrArg Jb k);omega) k env x
 ·exact JRJ e l (by have:=a1 (a:=2) (b:=2) (congrArg Jb k);omega) k env x
 ·exact JRK e l (by have:=a1 (a:=1) (b:=1) (congrArg Jb k);omega) k env x
 ·exact JRQ e l (by have:=a1 (a:=2) (b:=2) (congrArg Jb k);omega) k env x
 ·exact JRL e l (by have:=a1 (a:=1) (b:=1) (congrArg Jb k);omega) k env x
 ·exact JRN e l (by have:=a1 (a:=1) (b:=1) (congrArg Jb k);omega) k env x
 ·exact JRO e l (by have:=a1 (a:=1) (b:=1) (congrArg Jb k);omega) k env x
 ·exact JRR e l (by have:=a1 (a:=3) (b:=3) (congrArg Jb k);omega) k env x
 ·exact JRB e l k env x
 ·exact JRS e l (by have:=a1 (a:=2) (b:=2) (congrArg Jb k);omega) k env x
 ·exact JRT e l (by have:=a1 (a:=3) (b:=3) (congrArg Jb k);omega) k env x
 ·exact JRD e l (by have:=a1 (a:=2) (b:=256) (congrArg Jb k);omega) k env x
 ·exact JRC e l k env x
 ·exact JRM e l (by have:=a1 (a:=1) (b:=1) (congrArg Jb k);omega) k env x
 ·exact JRP e l (by have:=a1 (a:=1) (b:=1) (congrArg Jb k);omega) k env x
theorem ex95(op i:Int):∃x:Bool,True∧PT 53 [.int .i64 op,.int .i64 i] (.d (.bool x)):=by
 refine ok53.pex (fun x:Bool=>.d (.bool x)) (fun x:Bool=>True) (Nat.le_of_ble_eq_true rfl) (fun _ _=>by simp[Uv,JT,JN]) ?_;simp only[go_sem,ir53,Vv,Vc,simprocAttr];refine Jt (fun _=>?_) (fun z=>?_)
 ·simp only[go_sem,Vv,Vc,simprocAttr];refine Jt (fun _=>?_) (fun z=>?_)
  ·simp only[go_sem,Vv,Vc,simprocAttr];exact⟨_,rfl⟩
  simp only[go_sem,Vv,Vc,simprocAttr];exact⟨_,rfl⟩
 simp only[go_sem,Vv,Vc,simprocAttr];exact⟨_,rfl⟩
theorem c53(op i:Int):CT 53 [.d (.int .i64 op),.d (.int .i64 i)] [] (.d (.bool (PA (ex95 op i)))) []:=(UQ (ex95 op i)).call (by simp[Jl])
theorem JF3{f:Int→Exp→Int×Int}:∀(l:List Exp) (n:Int),(JA4 f n l).1=0→∀x∈l,∃m,(f m x).1=0
 |v::r,n,h,x,hx=>by
  simp only[JA4]at h;split at h
  ·rename_i h1;exact absurd h h1
  ·rename_i h1;rcases VA.1 hx with rfl|hx
   ·exact⟨n,by simpa using h1⟩
   ·exact JF3 r _ h x hx
theorem JE2{k:Nat}{n:Int}{e:Exp}(h:(eF k n e).1=0):JBR e=0∧∃j,k=j+1∧∀x∈e.args,∃m,(eF j m x).1=0:=by
 cases k with
 |zero=>rw[eF]at h;split at h<;>cases h
 |succ k=>
  rw[eF]at h;split at h
  ·cases h
  split at h
  ·rename_i h1;exact absurd h h1
  ·rename_i h1;exact⟨by simpa using h1,k,rfl,JF3 _ _ h⟩
theorem JMG:∀(k:Nat) (n:Int) (e:Exp),(eF k n e).1=0→∀(env:Typ) (x:Int),TEx 34 [JL e] env x
 |0,n,e,h,env,x=>by rw[eF]at h;split at h<;>cases h
 |k+1,n,e,h,env,x=>by
  obtain⟨h1,j,hj,ha⟩:=JE2 h;obtain rfl:k=j:=oM;refine ok34.Us (k:=some false) (fun z:Rz×Int=>.d (JC z.1)) (fun z:Rz×Int=>[(1000,tO env z.2)]) (fun z:Rz×Int=>z.2=0→1≤z.1.t.kind) (rz0,1) (fun h=>by cases h) (Nat.le_of_ble_eq_true rfl) (fun _ _=>JU _ _ _) (fun _ _=>trivial) fun hfit=>?_
  have hlen:=(YI (hfit (JL e) sP)).2.2.1;clear hfit;have ce:JL e=.agg [.int .i64 e.op,.int .i64 e.int,.str e.text,.list 6 (e.value.map JM),.list 5 (e.args.map JL)]:=JF e;rw[ce];simp only[go_sem,tO,ir34,Vv,Vc,simprocAttr];refine JJ (fun n s=>∃(i:Nat) (l:List Rz) (b:Bool) (y:Int),i≤e.args.length∧n=e.args.length-i∧l.length=i∧s=⟨[(0,.ref 1000 0),(3,.ref 3 0),(4,.ref 4 0),(5,.ms 70 i),(6,.d (.bool b)),(12,.d (.list 5 (e.args.map JL))),(13,.d (.int .i64 e.args.length)),(14,.d (.int .i64 i))],
   [(1000,tO env y),(3,.box (eC e)),(4,z9),(70,.row i 9 (l.map JC))]⟩) ?_ ?_
  ·refine⟨_,_,(Wk.JG9 5 70 9 rfl rfl dC).trans (Wk.less ?_),0,[],true,x,Nat.zero_le _,rfl,rfl,rfl⟩;simp[put,go_sem,tO,z9]
  rintro n s ⟨i,l,b,y,hi,rfl,hl,rfl⟩;by_cases hlt:i<e.args.length
  ·have hx:=Xp hlt;have hd:=dT hlt;obtain⟨m,hm⟩:=ha e.args[i] (Vk hlt);have c:=(JMG k m e.args[i] hm env y).call;have gZ:=TEx.JAv (JMG k m e.args[i] hm env y);generalize TA (JMG k m e.args[i] hm env y)=Z at c gZ;rw[JF]at c;simp only[go_sem,tO,z9,hx,hd,Vv,Vc,simprocAttr]
   repeat with_reducible refine And.intro (by first|decide|omega|(simp;done)|(simp;omega)) ?_
   refine wn c ?_;simp only[go_sem,JC,Vv,Vc,simprocAttr];refine Jt (fun _=>?_) (fun z=>?_)
   ·simp only[go_sem,Vv,Vc,simprocAttr];exact⟨_,rfl⟩
   simp only[go_sem,Vv,Vc,simprocAttr];refine Jt (fun _=>?_) (fun z=>?_)
   ·simp only[go_sem,Vv,Vc,simprocAttr];refine Jt (fun _=>?_) (fun z=>?_)
    ·simp only[go_sem,Vv,Vc,simprocAttr];refine wn (c53 _ _) ?_;simp only[go_sem,Vv,Vc,simprocAttr];exact⟨_,rfl⟩
    simp only[go_sem,Vv,Vc,simprocAttr];exact⟨_,rfl⟩
   simp only[go_sem,Vv,Vc,simprocAttr]
   repeat with_reducible refine And.intro (by first|decide|omega|(simp;done)|(simp;omega)) ?_
   refine⟨e.args.length-(i+1),_,oM,Wk.less ?_,i+1,l++[Z.1],z,Z.2,oM,rfl,sO,rfl⟩;simp[go_sem,tO,z9,JS i oM,JC]
  ·have hd:=dF hlt;obtain rfl:i=e.args.length:=oM;have c:=(ex96 e l h1 hl env y).call;have gZ:=TEx.JAv (ex96 e l h1 hl env y);generalize TA (ex96 e l h1 hl env y)=Z at c gZ;have c2:=JR.frzA (args:=[.ref 1000 0,.d (JL e),.ms 70 e.args.length]) (j:=2) (i:=70) (ver:=e.args.length) (sz:=9) (xs:=l.map JC) c rfl sP;rw[ce]at c2;simp only[go_sem,tO,z9,hd,Vv,Vc,simprocAttr];refine JD (fun h=>?_) (fun h=>?_)
   ·exact Yo (hk:=fun e=>absurd e (sX h))
   refine wn c2 ?_;simp only[go_sem,JC,Vv,Vc,simprocAttr];refine Jt (fun _=>?_) (fun z=>?_)
   ·simp only[go_sem,Vv,Vc,simprocAttr];exact⟨_,rfl⟩
   simp only[go_sem,Vv,Vc,simprocAttr];exact J8
theorem TEx.callAt{f:Nat}{ds:List Dat}{env:Typ}{x:Int}(h:TEx f ds env x)(i:Nat):CT f (.ref i 0::ds.map .d) [(i,some (tO env x))] (.d (JC (TA h).1)) [(i,tO env (TA h).2)]:=Con.rw1 (Classical.choose_spec h).2 trivial i
theorem rz_t{k a b s y:Int}{w:List Str}{e:List Typ}{f:List TFl}{ab tot:Bool}{Gd:Int→Prop}(hk:y=0→Gd k):∃z:Rz×Int,(z.2=0→Gd z.1.t.kind)∧Av.tup [.d (.agg [.int .i64 k,.int .i64 a,.int .i64 b,.int .i64 s,.list 1 (w.map .str),.list 7 (e.map JH),.list 11 (f.map Jn),.bool ab,.bool tot]),.d (.int .i64 y)]=.tup [.d (JC z.1),.d (.int .i64 z.2)]:=
 ⟨(⟨.mk k a b s w e f,ab,tot⟩,y),hk,rfl⟩
theorem JIg{k a b s y:Int}{ab tot:Bool}{Gd:Int→Prop}(hk:y=0→Gd k):∃z:Rz×Int,(z.2=0→Gd z.1.t.kind)∧Av.tup [.d (.agg [.int .i64 k,.int .i64 a,.int .i64 b,.int .i64 s,.list 1 [],.list 7 [],.list 11 [],.bool ab,.bool tot]),.d (.int .i64 y)]=.tup [.d (JC z.1),.d (.int .i64 z.2)]:=rz_t (hk:=hk) (w:=[]) (e:=[]) (f:=[])
def inG(e:Exp)(t:Typ)(k:Int):Prop:=1≤k∧JGq e=0∧Uw t=0
theorem JOl(e:Exp)(t:Typ):∃x:Rz×Int,(x.2=0→inG e t x.1.t.kind)∧PT 22 [JL e,JH t] (.tup [.d (JC x.1),.d (.int .i64 x.2)]):=by
 refine ok22.pex (fun x:Rz×Int=>.tup [.d (JC x.1),.d (.int .i64 x.2)]) (fun x:Rz×Int=>(x.2=0→inG e t x.1.t.kind)) (Nat.le_of_ble_eq_true rfl) (fun _ _=>by simp[Uv,JT,JN]) ?_;have c33:=(walk33 e).call trivial;have c23:=(JCn t).call trivial;by_cases h0:JGq e=0
 case neg=>
  rw[JF]at c33;rw[JF e,JA t];simp only[go_sem,ir22,Vv,Vc,simprocAttr];refine wn c33 ?_;simp only[go_sem,Vv,Vc,simprocAttr];refine JD (fun h=>?_) (fun h=>?_)
  ·exact JIg (hk:=fun e=>absurd e (sX h))
  ·simp[h0]at h
 have c34:=(JMG 8 0 e h0 t 0).callAt 28;have gZ:=TEx.JAv (JMG 8 0 e h0 t 0);generalize TA (JMG 8 0 e h0 t 0)=Z at c34 gZ;have c35:=(p35 Z.1.t).call trivial;rw[JA]at c23 c35;rw[JF]at c33 c34;rw[JF e,JA t];simp only[go_sem,ir22,Vv,Vc,simprocAttr];refine wn c33 ?_;simp only[go_sem,Vv,Vc,simprocAttr];refine JD (fun h=>?_) (fun h=>?_)
 ·exact JIg (hk:=fun e=>absurd e (sX h))
 refine wn c23 ?_;simp only[go_sem,Vv,Vc,simprocAttr];refine JD (fun h=>?_) (fun hY=>?_)
 ·exact JIg (hk:=fun e=>absurd e (sX h))
 refine JD (fun h=>?_) (fun h=>?_)
 ·exact JIg (hk:=fun e=>absurd e (sX h))
 try simp only[go_sem,tO,Vv,Vc,simprocAttr]
 refine wn c34 ?_;simp only[go_sem,JC,Vv,Vc,simprocAttr];refine JD (fun h=>?_) (fun h=>?_)
 ·repeat with_reducible refine And.intro (by first|decide|omega|(simp;done)|(simp;omega)) ?_
  exact JIg (hk:=fun e=>absurd e (sX h))
 refine wn c35 ?_;simp only[go_sem,Vv,Vc,simprocAttr];exact rz_t (hk:=fun _=>⟨gZ (sX h),h0,by simpa using hY⟩)
theorem c22(e:Exp)(t:Typ):CT 22 [.d (JL e),.d (JH t)] [] (.tup [.d (JC (PA (JOl e t)).1),.d (.int .i64 (PA (JOl e t)).2)]) []:=(UQ (JOl e t)).call (by simp[Jl])
end Go.Proofs
namespace Go.Proofs
open Go Av
open Av.Y
def ir4:Ic:=q (R (ok 2 (.k (.nil 6))<|N) [2])<|q (R (om 3 0<|om 4 0<|oh 5 4<|oo 6 (.mn (t 5) (i 66))<|oo 7 (.slc 6 (t 3) none (some (t 6)) none)<|om 2 7<|N) [0,3,4,5,6,7])<|.ret
theorem ok4:FT 4 8 ir4 [.tmp 2]:=.o Tryz.func4
def ir5:Ic:=q (R (ox 2 0<|oz 4 0<|oz 5 0<|N) [0,4,5])<|q (q (R (oL 7 7 2<|om 8 1<|om 9 1<|oh 10 9<|cl 11 9 [t 7,t 8,t 10]<|om 6 11<|N) [7,8,9,10,11])<|q (R (om 12 6<|oi 13 .neq 12 0<|N) [12])<|D (I 13 (q (R (om 14 6<|oz 4 0<|om 5 14<|N) [1,2,6,13,14])<|.ret) S) [6,13])<|q (R (oL 15 7 2<|om 16 1<|cl 17 10 [t 15,t 16]<|om 4 17<|oz 5 0<|N) [1,2,15,16,17])<|.ret
theorem ok5:FT 5 18 ir5 [.tmp 4,.tmp 5]:=.o Tryz.func5
def ir7:Ic:=q (R (ox 2 0<|oz 4 0<|N) [0,4])<|q (q (R (om 7 1<|oh 8 7<|oi 9 .gtr 8 64<|N) [7,8])<|D (I 9 (q (R (oz 4 9<|N) [1,2,9])<|.ret) S) [9])<|q (.reg (ok 5 (.k (.nil 5))<|N))<|q (q (.reg (oz 6 0<|N))<|D (.block 0<|.loop (q (q (R (om 10 6<|om 11 1<|oh 12 11<|ot 13 .lss 10 12<|N) [10,11,12])<|D (I 13 S (E 0)) [13])<|q (D (.block 1<|q (q (R (om 16 1<|om 17 6<|oa true 18 6 16 17<|of 19 18 5<|ol 20 19<|oi 21 .lss 20 1<|om 22 21<|.sc 22 false (om 23 1<|om 24 6<|oa true 25 6 23 24<|of 26 25 5<|ol 27 26<|oi 28 .gtr 27 3<|N) (t 28) 29 N) [16,17,18,19,20,21,22])<|D (I 29 (q (R (oz 4 11<|N) [1,2,5,6,29])<|.ret) S) [29])<|R (om 30 5<|om 31 1<|om 32 6<|oa true 33 6 31 32<|of 34 33 0<|oL 35 5 34<|oo 36 (.bls 5 [t 35])<|oo 37 (.app 5 (t 30) (t 36))<|om 5 37<|N) [30,31,32,33,34,35,36,37]) [])<|R (om 14 6<|oi 15 .add 14 1<|om 6 15<|N) [14,15])) [1,6,13])<|q (R (oL 38 7 2<|om 39 5<|cl 40 17 [t 38,t 39]<|om 4 40<|N) [2,5,38,39,40])<|.ret
theorem ok7:FT 7 41 ir7 [.tmp 4]:=.o Tryz.func7
def ir8:Ic:=q (R (ox 2 0<|oz 4 0<|N) [0,4])<|q (.reg (oz 5 1<|N))<|q (q (.reg (oz 6 0<|N))<|D (.block 0<|.loop (q (q (R (om 7 6<|om 8 1<|oh 9 8<|ot 10 .lss 7 9<|N) [7,8,9])<|D (I 10 S (E 0)) [10])<|q (D (.block 1<|R (om 13 5<|oL 14 7 2<|om 15 1<|om 16 6<|oa true 17 6 15 16<|of 18 17 0<|oL 19 5 18<|om 20 1<|om 21 6<|oa true 22 6 20 21<|of 23 22 5<|ol 24 23<|cl 25 19 [t 14,t 19,t 24]<|ot 26 .mul 13 25<|cl 27 18 [t 26]<|om 5 27<|N) [13,14,15,16,17,18,19,20,21,22,23,24,25,26,27]) [])<|R (om 11 6<|oi 12 .add 11 1<|om 6 12<|N) [11,12])) [1,2,6,10,11])<|q (R (om 28 5<|om 4 28<|N) [5,28])<|.ret
theorem ok8:FT 8 29 ir8 [.tmp 4]:=.o Tryz.func8
def ir9:Ic:=q (R (ox 3 0<|oz 6 0<|N) [0,6])<|q (q (R (om 12 2<|oi 13 .gtr 12 64<|N) [2,12])<|D (I 13 (q (R (oz 6 9<|N) [1,3,13])<|.ret) S) [13])<|q (q (R (om 14 1<|cl 15 20 [t 14,.k (.fn (.func 21) [] [])]<|N) [14])<|D (I 15 (q (R (oz 6 11<|N) [1,3,15])<|.ret) S) [15])<|q (q (.reg (om 16 1<|oh 17 16<|oz 18 0<|N))<|D (.block 0<|.loop (q (.reg (ot 19 .lss 18 17<|N))<|q (D (I 19 S (E 0)) [19])<|q (D (.block 1<|q (R (oa true 20 6 16 18<|oL 21 6 20<|oN 8 [.int .i64 0,.int .i64 0,.str [],.nil 6,.nil 5,.int .i64 0]<|oS 6 8 21<|N) [20,21])<|q (R (of 23 8 0<|oL 24 5 23<|oL 25 7 3<|cl 26 22 [t 24,t 25]<|om 22 26<|oe 27 22 0<|oe 28 22 1<|oN 9 [.int .i64 0,.int .i64 0,.int .i64 0,.int .i64 0,.nil 1,.nil 7,.nil 11,.bool false,.bool false]<|oS 9 9 27<|om 10 28<|N) [8,23,24,25,26,22,27,28])<|q (q (R (om 29 10<|oi 30 .neq 29 0<|N) [29])<|D (I 30 (q (R (om 31 10<|om 6 31<|N) [1,3,16,17,18,9,10,30,31])<|.ret) S) [10,30])<|q (R (of 32 9 0<|of 33 32 0<|ol 34 33<|oi 35 .neq 34 1<|N) [9,32,33,34])<|D (I 35 (q (R (oz 6 18<|N) [1,3,16,17,18,35])<|.ret) S) [35]) [])<|R (oi 36 .add 18 1<|om 18 36<|N) [36])) [16,17,18,19,8,9,10])<|q (q (R (om 37 1<|oh 38 37<|oi 39 .eql 38 0<|N) [1,37,38])<|D (I 39 (q (q (R (oL 40 7 3<|cl 41 23 [t 40]<|om 11 41<|N) [39,40,41])<|q (R (om 42 11<|oi 43 .neq 42 0<|N) [42])<|D (I 43 (q (R (om 44 11<|om 6 44<|N) [3,11,43,44])<|.ret) S) [11,43])<|q (R (of 45 3 0<|ol 46 45<|oi 47 .neq 46 9<|N) [3,45,46])<|D (I 47 (q (R (oz 6 11<|N) [47])<|.ret) S) [47]) S) [3,39])<|q (.reg (oz 6 0<|N))<|.ret
theorem ok9:FT 9 48 ir9 [.tmp 6]:=.o Tryz.func9
def ir10:Ic:=q (R (ox 2 0<|oz 4 0<|N) [0,4])<|q (.reg (oz 5 1<|N))<|q (q (R (om 8 1<|oh 9 8<|oz 10 0<|N) [1])<|D (.block 0<|.loop (q (.reg (ot 11 .lss 10 9<|N))<|q (D (I 11 S (E 0)) [11])<|q (D (.block 1<|q (R (oa true 12 6 8 10<|oL 13 6 12<|oN 7 [.int .i64 0,.int .i64 0,.str [],.nil 6,.nil 5,.int .i64 0]<|oS 6 7 13<|N) [12,13])<|R (om 14 5<|oL 15 7 2<|of 16 7 0<|oL 17 5 16<|of 18 7 5<|ol 19 18<|cl 20 25 [t 15,t 17,t 19]<|ot 21 .mul 14 20<|cl 22 24 [t 21]<|om 5 22<|N) [7,14,15,16,17,18,19,20,21,22]) [])<|R (oi 23 .add 10 1<|om 10 23<|N) [23])) [2,8,9,10,11,7])<|q (R (om 24 5<|om 4 24<|N) [5,24])<|.ret
theorem ok10:FT 10 25 ir10 [.tmp 4]:=.o Tryz.func10
def ir17:Ic:=q (R (ox 2 0<|oz 4 0<|N) [0,4])<|q (q (R (om 9 1<|oh 10 9<|oi 11 .gtr 10 64<|N) [9,10])<|D (I 11 (q (R (oz 4 9<|N) [1,2,11])<|.ret) S) [11])<|q (q (.reg (oz 5 0<|N))<|D (.block 0<|.loop (q (q (R (om 12 5<|om 13 1<|oh 14 13<|ot 15 .lss 12 14<|N) [12,13,14])<|D (I 15 S (E 0)) [15])<|q (D (.block 1<|q (D (.regd [(2,9),(3,9),(4,9),(5,9)] (om 19 1<|om 20 5<|oa true 21 5 19 20<|oL 22 5 21<|oL 23 7 2<|cl 24 22 [t 22,t 23]<|om 18 24<|oe 25 18 0<|oe 26 18 1<|oN 6 [.int .i64 0,.int .i64 0,.int .i64 0,.int .i64 0,.nil 1,.nil 7,.nil 11,.bool false,.bool false]<|oS 9 6 25<|om 7 26<|N)) [19,20,21,22,23,24,18,25,26])<|D (.block 2<|q (R (om 28 7<|oi 29 .neq 28 0<|om 27 29<|N) [28,29])<|D (I 27 (q (R (om 30 7<|om 4 30<|N) [1,2,5,6,7,27,30])<|.ret) (q (R (of 32 6 0<|of 33 32 0<|ol 34 33<|oi 35 .neq 34 1<|om 31 35<|N) [6,7,27,32,33,34,35])<|D (I 31 (q (R (oz 4 18<|N) [1,2,5,31])<|.ret) S) [31])) []) []) [])<|R (om 16 5<|oi 17 .add 16 1<|om 5 17<|N) [16,17])) [5,15,6,7])<|q (q (R (om 36 1<|oh 37 36<|oi 38 .gtr 37 0<|N) [1,36,37])<|D (I 38 (q (R (oz 4 0<|N) [2,38])<|.ret) S) [38])<|q (R (oL 39 7 2<|cl 40 23 [t 39]<|om 8 40<|N) [39,40])<|q (q (R (om 41 8<|oi 42 .eql 41 0<|om 43 42<|.sc 43 true (of 44 2 0<|ol 45 44<|oi 46 .neq 45 9<|N) (t 46) 47 N) [2,41,42,43])<|D (I 47 (R (oz 8 11<|N) [47]) S) [47])<|q (R (om 48 8<|om 4 48<|N) [8,48])<|.ret
theorem ok17:FT 17 49 ir17 [.tmp 4]:=.o Tryz.func17
def ir18:Ic:=q (R (oz 2 0<|N) [2])<|q (R (om 3 0<|oo 4 (.mn (t 3) (i 513))<|om 2 4<|N) [0,3,4])<|.ret
theorem ok18:FT 18 5 ir18 [.tmp 2]:=.o Tryz.func18
def JOm:Ic:=q (R (ox 3 0<|ox 4 1<|oz 6 0<|N) [0,1,6])<|q (q (R (of 8 4 0<|ol 9 8<|N) [8])<|D (.block 0<|q (R (oi 11 .eql 9 3<|om 10 11<|N) [11])<|D (I 10 (q (q (R (om 12 2<|oi 13 .neq 12 3<|N) [9,10,12])<|D (I 13 (R (om 14 2<|ob 15 .sub (i 3) (t 14)<|om 2 15<|N) [13,14,15]) S) [13])<|q (R (oL 16 7 3<|of 17 4 4<|ol 18 17<|oo 19 (.ixa true 5 (t 18) (i 0))<|oL 20 5 19<|om 21 2<|cl 22 19 [t 16,t 20,t 21]<|om 6 22<|N) [2,3,4,16,17,18,19,20,21,22])<|.ret) (q (q (R (oi 24 .eql 9 4<|om 23 24<|N) [10,24])<|D (I 23 S (R (oi 25 .eql 9 5<|om 23 25<|N) [9,25])) [9])<|D (I 23 (q (R (oz 7 1<|N) [23])<|q (q (R (of 26 4 0<|ol 27 26<|oi 28 .eql 27 5<|N) [26,27])<|D (I 28 (R (oz 7 2<|N) [28]) S) [28])<|q (q (R (om 29 2<|om 30 7<|ot 31 .eql 29 30<|N) [29,30])<|D (I 31 (q (D (.regd [(6,7),(6,9),(6,10),(6,11)] (oL 32 7 3<|of 33 4 4<|ol 34 33<|oo 35 (.ixa true 5 (t 34) (i 0))<|oL 36 5 35<|om 37 7<|cl 38 19 [t 32,t 36,t 37]<|oL 39 7 3<|of 40 4 4<|ol 41 40<|oo 42 (.ixa true 5 (t 41) (i 1))<|oL 43 5 42<|om 44 7<|cl 45 19 [t 39,t 43,t 44]<|ot 46 .mul 38 45<|cl 47 18 [t 46]<|om 6 47<|N)) [2,3,4,7,31,32,33,34,35,36,37,38,39,40,41,42,43,44,45,46,47])<|.ret) S) [31])<|q (D (.regd [(6,7),(6,9),(6,10),(6,11),(6,14),(13,14),(6,16),(13,16),(6,17),(13,17),(6,18),(13,18)] (oL 48 7 3<|of 49 4 4<|ol 50 49<|oo 51 (.ixa true 5 (t 50) (i 0))<|oL 52 5 51<|om 53 2<|cl 54 19 [t 48,t 52,t 53]<|oL 55 7 3<|of 56 4 4<|ol 57 56<|oo 58 (.ixa true 5 (t 57) (i 0))<|oL 59 5 58<|om 60 7<|cl 61 19 [t 55,t 59,t 60]<|oL 62 7 3<|of 63 4 4<|ol 64 63<|oo 65 (.ixa true 5 (t 64) (i 1))<|oL 66 5 65<|om 67 2<|cl 68 19 [t 62,t 66,t 67]<|ot 69 .mul 61 68<|ot 70 .add 54 69<|cl 71 18 [t 70]<|om 6 71<|N)) [2,3,4,7,48,49,50,51,52,53,54,55,56,57,58,59,60,61,62,63,64,65,66,67,68,69,70,71])<|.ret) S) [23])) []) [7])<|q (R (oL 72 7 3<|oL 73 5 4<|om 74 2<|cl 75 31 [t 72,t 73,t 74]<|oh 76 75<|om 6 76<|N) [2,3,4,72,73,74,75,76])<|.ret
theorem ok19:FT 19 77 JOm [.tmp 6]:=.o Tryz.func19
def ir20:Ic:=q (R (ow 4 false<|N) [4])<|q (R (om 5 0<|om 6 1<|cl 7 32 [t 5,t 6]<|oi 8 .geq 7 0<|om 4 8<|N) [0,1,5,6,7,8])<|.ret
theorem ok20:FT 20 9 ir20 [.tmp 4]:=.o Tryz.func20
def ir21:Ic:=q (R (ox 1 0<|ow 2 false<|N) [0,2])<|q (R (of 3 1 5<|ol 4 3<|oi 5 .lss 4 1<|om 6 5<|.sc 6 false (of 7 1 5<|ol 8 7<|oi 9 .gtr 8 3<|N) (t 9) 10 (om 2 10<|N)) [1,3,4,5,6,10])<|.ret
theorem ok21:FT 21 11 ir21 [.tmp 2]:=.o Tryz.func21
def ir24:Ic:=q (R (oz 2 0<|N) [2])<|q (R (om 3 0<|oo 4 (.mn (t 3) (i 513))<|om 2 4<|N) [0,3,4])<|.ret
theorem ok24:FT 24 5 ir24 [.tmp 2]:=.o Tryz.func24
def JOn:Ic:=q (R (ox 3 0<|ox 4 1<|oz 6 0<|N) [0,1,6])<|q (q (R (of 12 4 0<|ol 13 12<|N) [12])<|D (.block 0<|q (R (oi 15 .eql 13 3<|om 14 15<|N) [15])<|D (I 14 (q (D (.regd [(0,6),(2,6),(3,6),(4,6)] (oL 16 7 3<|of 17 4 4<|ol 18 17<|oo 19 (.ixa true 5 (t 18) (i 0))<|oL 20 5 19<|om 21 2<|cl 22 38 [t 21]<|cl 23 25 [t 16,t 20,t 22]<|om 6 23<|N)) [2,3,4,13,14,16,17,18,19,20,21,22,23])<|.ret) (q (q (R (oi 25 .eql 13 4<|om 24 25<|N) [14,25])<|D (I 24 S (R (oi 26 .eql 13 5<|om 24 26<|N) [13,26])) [13])<|D (I 24 (q (R (oz 7 1<|N) [24])<|q (q (R (of 27 4 0<|ol 28 27<|oi 29 .eql 28 5<|N) [27,28])<|D (I 29 (R (oz 7 2<|N) [29]) S) [29])<|q (D (.regd [(6,7),(6,9),(6,10),(6,11)] (oL 30 7 3<|of 31 4 4<|ol 32 31<|oo 33 (.ixa true 5 (t 32) (i 0))<|oL 34 5 33<|om 35 7<|cl 36 25 [t 30,t 34,t 35]<|oL 37 7 3<|of 38 4 4<|ol 39 38<|oo 40 (.ixa true 5 (t 39) (i 1))<|oL 41 5 40<|om 42 2<|cl 43 25 [t 37,t 41,t 42]<|om 8 36<|om 9 43<|N)) [30,31,32,33,34,35,36,37,38,39,40,41,42,43])<|q (q (R (om 44 2<|om 45 7<|ot 46 .eql 44 45<|N) [7,44,45])<|D (I 46 (q (R (om 47 8<|om 48 9<|ot 49 .mul 47 48<|cl 50 24 [t 49]<|om 6 50<|N) [2,3,4,8,9,46,47,48,49,50])<|.ret) S) [46])<|q (R (oL 51 7 3<|of 52 4 4<|ol 53 52<|oo 54 (.ixa true 5 (t 53) (i 0))<|oL 55 5 54<|om 56 2<|cl 57 25 [t 51,t 55,t 56]<|om 58 8<|om 59 9<|ot 60 .mul 58 59<|cl 61 24 [t 60]<|ot 62 .add 57 61<|cl 63 24 [t 62]<|om 6 63<|N) [2,3,4,8,9,51,52,53,54,55,56,57,58,59,60,61,62,63])<|.ret) S) [24])) []) [7,8,9])<|q (R (oL 65 7 3<|oL 66 5 4<|cl 67 39 [t 65,t 66]<|om 64 67<|oe 68 64 0<|oe 69 64 1<|oN 10 [.bool false,.bool false,.str [],.nil 2,.int .i64 0,.int .i64 0,.int .i64 0,.int .i64 0,.nil 1,.nil 7,.nil 11]<|oS 11 10 68<|om 11 69<|N) [3,65,66,67,64,68,69])<|q (D (.block 1<|q (R (om 71 11<|og 72 71<|om 70 72<|N) [11,71,72])<|D (I 70 (q (R (oz 6 1<|N) [2,4,10,70])<|.ret) (q (R (of 74 10 1<|ol 75 74<|om 73 75<|N) [70,74,75])<|D (I 73 (q (q (R (om 76 2<|oi 77 .neq 76 3<|om 78 77<|.sc 78 true (of 79 4 3<|ol 80 79<|oo 81 (.ixa true 6 (t 80) (i 0))<|of 82 81 1<|ol 83 82<|oi 84 .eql 83 1<|om 85 2<|oi 86 .eql 85 1<|ot 87 .beq 84 86<|N) (t 87) 88 N) [2,4,10,73,76,77,78])<|D (I 88 (q (R (oz 6 1<|N) [88])<|.ret) S) [88])<|q (.reg (oz 6 0<|N))<|.ret) (q (R (of 90 10 0<|ol 91 90<|om 92 91<|.sc 92 true (om 93 2<|oi 94 .eql 93 3<|N) (t 94) 95 (om 89 95<|N)) [4,73,90,91,92,95])<|D (I 89 (q (R (oz 6 0<|N) [2,10,89])<|.ret) (q (R (of 97 10 0<|ol 98 97<|om 99 98<|.sc 99 true (om 100 2<|oi 101 .eql 100 2<|N) (t 101) 102 (om 103 102<|.sc 103 false (of 104 10 0<|ol 105 104<|og 106 105<|om 107 106<|.sc 107 true (om 108 2<|oi 109 .eql 108 3<|N) (t 109) 110 N) (t 110) 111 (om 96 111<|N))) [2,89,97,98,99,102,103,111])<|D (I 96 (q (R (of 112 10 3<|ol 113 112<|oh 114 113<|om 6 114<|N) [10,96,112,113,114])<|.ret) S) [10,96])) [])) [])) []) [])<|q (.reg (oz 6 1<|N))<|.ret
theorem ok25:FT 25 115 JOn [.tmp 6]:=.o Tryz.func25
def JMH:Ic:=q (R (ox 3 0<|ox 4 1<|ok 6 (.k (.nil 1))<|N) [0,1,6])<|q (q (R (of 12 4 0<|ol 13 12<|N) [12])<|D (.block 0<|q (R (oi 15 .eql 13 3<|om 14 15<|N) [15])<|D (I 14 (q (q (R (om 16 2<|oi 17 .neq 16 3<|N) [13,14,16])<|D (I 17 (R (om 18 2<|ob 19 .sub (i 3) (t 18)<|om 2 19<|N) [17,18,19]) S) [17])<|q (R (oL 20 7 3<|of 21 4 4<|ol 22 21<|oo 23 (.ixa true 5 (t 22) (i 0))<|oL 24 5 23<|om 25 2<|cl 26 31 [t 20,t 24,t 25]<|om 6 26<|N) [2,3,4,20,21,22,23,24,25,26])<|.ret) (q (q (R (oi 28 .eql 13 4<|om 27 28<|N) [14,28])<|I 27 S (R (oi 29 .eql 13 5<|om 27 29<|N) [29]))<|D (I 27 (q (R (oz 7 1<|N) [13,27])<|q (q (R (of 30 4 0<|ol 31 30<|oi 32 .eql 31 5<|N) [30,31])<|D (I 32 (R (oz 7 2<|N) [32]) S) [32])<|q (q (R (om 33 2<|om 34 7<|ot 35 .eql 33 34<|N) [33,34])<|D (I 35 (q (R (oL 36 7 3<|oL 37 5 4<|om 38 7<|om 39 7<|cl 40 45 [t 36,t 37,t 38,t 39]<|om 6 40<|N) [2,3,4,7,35,36,37,38,39,40])<|.ret) S) [35])<|q (D (.regd [(6,7),(6,8)] (oL 41 7 3<|of 42 4 4<|ol 43 42<|oo 44 (.ixa true 5 (t 43) (i 0))<|oL 45 5 44<|om 46 2<|cl 47 31 [t 41,t 45,t 46]<|oL 48 7 3<|oL 49 5 4<|om 50 7<|om 51 2<|cl 52 45 [t 48,t 49,t 50,t 51]<|oo 53 (.app 1 (t 47) (t 52))<|om 6 53<|N)) [2,3,4,7,41,42,43,44,45,46,47,48,49,50,51,52,53])<|.ret) (q (R (oi 55 .eql 13 1<|om 54 55<|N) [27,55])<|D (I 54 (q (q (R (om 56 2<|oi 57 .eql 56 1<|of 58 4 3<|ol 59 58<|oo 60 (.ixa true 6 (t 59) (i 0))<|of 61 60 1<|ol 62 61<|oi 63 .eql 62 1<|ot 64 .beq 57 63<|om 65 64<|.sc 65 true (om 66 2<|oi 67 .neq 66 3<|N) (t 67) 68 N) [2,3,4,13,54,56,57,58,59,60,61,62,63,64,65])<|D (I 68 (q (R (oo 69 (.bls 1 [.k (.nil 8)])<|om 6 69<|N) [68,69])<|.ret) S) [68])<|q (.reg (ok 6 (.k (.nil 1))<|N))<|.ret) (q (R (oi 71 .eql 13 22<|om 70 71<|N) [13,54,71])<|D (I 70 (q (R (oL 73 7 3<|of 74 4 2<|ol 75 74<|cl 76 46 [t 73,t 75]<|om 72 76<|oe 77 72 0<|oe 78 72 1<|om 8 77<|om 9 78<|N) [70,73,74,75,76,72,77,78])<|q (R (om 79 9<|N) [9])<|D (I 79 (q (q (R (om 80 2<|N) [2,4,79])<|D (.block 1<|q (R (oi 82 .eql 80 1<|om 81 82<|N) [82])<|D (I 81 (q (R (oL 83 7 3<|om 84 8<|cl 85 48 [t 83,t 84]<|cl 86 47 [t 85]<|oo 87 (.bls 1 [t 86])<|om 6 87<|N) [3,8,80,81,83,84,85,86,87])<|.ret) (q (R (oi 89 .eql 80 2<|om 88 89<|N) [80,81,89])<|D (I 88 (q (R (oL 90 7 3<|om 91 8<|cl 92 49 [t 90,t 91]<|om 6 92<|N) [3,8,88,90,91,92])<|.ret) S) [3,8,88])) []) [])<|q (.reg (ok 6 (.k (.nil 1))<|N))<|.ret) S) [8,79]) S) [70])) [])) [])) []) [7,8,9])<|q (q (R (oL 94 7 3<|oL 95 5 4<|cl 96 50 [t 94,t 95]<|om 93 96<|oe 97 93 0<|oe 98 93 1<|om 10 97<|om 11 98<|N) [94,95,96,93,97,98])<|q (R (om 99 11<|N) [11])<|D (I 99 (q (q (R (om 100 2<|oi 101 .eql 100 3<|N) [99,100])<|D (I 101 (q (R (oL 102 7 3<|om 103 10<|cl 104 49 [t 102,t 103]<|om 6 104<|N) [2,3,4,10,101,102,103,104])<|.ret) S) [101])<|q (D (.regd [(2,5),(3,5),(0,9),(2,9),(3,9)] (oL 105 7 3<|om 106 10<|cl 107 48 [t 105,t 106]<|cl 108 47 [t 107]<|om 109 10<|oL 110 5 4<|om 111 2<|oi 112 .eql 111 1<|oo 113 (.bld [.int .i64 0,.nil 3,.int .i64 0,.int .i64 0,.str [],.nil 6,.nil 5,.bool false] [(0,1,i 3),(1,1,t 109),(2,5,t 110),(7,1,t 112)])<|oo 114 (.bls 8 [t 113])<|oo 115 (.app 8 (t 108) (t 114))<|oo 116 (.bls 1 [t 115])<|om 6 116<|N)) [2,3,4,10,105,106,107,108,109,110,111,112,113,114,115,116])<|.ret) S) [2,3,4,10,99])<|q (R (oo 117 (.bld [.int .i64 0,.nil 3,.int .i64 0,.int .i64 0,.str [],.nil 6,.nil 5,.bool false] [(0,1,i 4)])<|oo 118 (.bls 8 [t 117])<|oo 119 (.bls 1 [t 118])<|om 6 119<|N) [117,118,119])<|.ret
theorem ok31:FT 31 120 JMH [.tmp 6]:=.o Tryz.func31
def ir32:Ic:=q (R (oz 4 0<|N) [4])<|q (q (R (om 6 0<|oh 7 6<|oz 8 0<|N) [6])<|D (.block 0<|.loop (q (.reg (ot 9 .lss 8 7<|N))<|q (D (I 9 S (E 0)) [9])<|q (D (.block 1<|q (R (om 10 8<|om 5 10<|N) [10])<|q (R (om 11 1<|om 12 0<|om 13 5<|oa true 14 6 12 13<|oL 15 6 14<|.call (some 16) (.dyn (t 11)) [t 15] N) [11,12,13,14,15])<|D (I 16 (q (R (om 17 5<|om 4 17<|N) [0,1,7,8,5,16,17])<|.ret) S) [5,16]) [])<|R (oi 18 .add 8 1<|om 8 18<|N) [18])) [0,1,7,8,9,10,5,11])<|q (.reg (oz 4 (-1)<|N))<|.ret
theorem ok32:FT 32 19 ir32 [.tmp 4]:=.o Tryz.func32
def ir38:Ic:=q (R (oz 2 0<|N) [2])<|q (q (R (om 3 0<|N) [0])<|D (.block 0<|q (R (oi 5 .eql 3 1<|om 4 5<|N) [5])<|D (I 4 (q (R (oz 2 2<|N) [3,4])<|.ret) (q (R (oi 7 .eql 3 2<|om 6 7<|N) [3,4,7])<|D (I 6 (q (R (oz 2 1<|N) [6])<|.ret) S) [6])) []) [])<|q (.reg (oz 2 3<|N))<|.ret
theorem ok38:FT 38 8 ir38 [.tmp 2]:=.o Tryz.func38
def ir39:Ic:=q (R (ox 2 0<|ox 3 1<|oN 4 [.bool false,.bool false,.str [],.nil 2,.int .i64 0,.int .i64 0,.int .i64 0,.int .i64 0,.nil 1,.nil 7,.nil 11]<|ow 5 false<|N) [0,1,5])<|q (q (R (of 8 3 0<|ol 9 8<|N) [8])<|D (.block 0<|q (R (oi 11 .eql 9 1<|om 10 11<|N) [11])<|D (I 10 (q (R (oo 12 (.bld [.bool false,.bool false,.str [],.nil 2,.int .i64 0,.int .i64 0,.int .i64 0,.int .i64 0,.nil 1,.nil 7,.nil 11] [(1,1,B true)])<|oS 11 4 12<|ow 5 true<|N) [2,3,9,10,12])<|.ret) (q (R (oi 14 .eql 9 22<|om 13 14<|N) [9,10,14])<|D (I 13 (q (R (oL 16 7 2<|of 17 3 2<|ol 18 17<|cl 19 61 [t 16,t 18]<|om 15 19<|oe 20 15 0<|oe 21 15 1<|oS 11 4 20<|om 5 21<|N) [2,3,13,16,17,18,19,15,20,21])<|q (R (of 22 4 0<|on (.sto none (t 22) (B true))<|N) [22])<|q (R (oL 23 11 4<|om 24 5<|oS 11 4 23<|om 5 24<|N) [23,24])<|.ret) S) [13])) []) [])<|q (R (oL 25 5 3<|cl 26 62 [t 25]<|om 6 26<|N) [25,26])<|q (q (R (om 27 6<|ob 28 .seq (t 27) (.k (.str []))<|N) [27])<|D (I 28 (q (R (oo 29 (.bld [.bool false,.bool false,.str [],.nil 2,.int .i64 0,.int .i64 0,.int .i64 0,.int .i64 0,.nil 1,.nil 7,.nil 11] [])<|oS 11 4 29<|ow 5 false<|N) [2,3,6,28,29])<|.ret) S) [28])<|q (R (oL 31 7 2<|om 32 6<|cl 33 61 [t 31,t 32]<|om 30 33<|oe 34 30 0<|oe 35 30 1<|oS 11 4 34<|om 5 35<|N) [2,6,31,32,33,30,34,35])<|q (q (R (om 36 5<|og 37 36<|om 38 37<|.sc 38 false (of 39 4 4<|of 40 39 0<|ol 41 40<|oi 42 .lss 41 1<|N) (t 42) 43 (om 44 43<|.sc 44 false (of 45 4 4<|of 46 45 0<|ol 47 46<|oi 48 .gtr 47 7<|N) (t 48) 49 N)) [5,36,37,38,43,44])<|D (I 49 (q (R (oo 50 (.bld [.bool false,.bool false,.str [],.nil 2,.int .i64 0,.int .i64 0,.int .i64 0,.int .i64 0,.nil 1,.nil 7,.nil 11] [])<|oS 11 4 50<|ow 5 false<|N) [3,49,50])<|.ret) S) [49])<|q (R (of 51 3 0<|ol 52 51<|oi 53 .eql 52 6<|om 54 53<|.sc 54 false (of 55 3 0<|ol 56 55<|oi 57 .eql 56 7<|N) (t 57) 58 (om 59 58<|.sc 59 false (of 60 3 0<|ol 61 60<|oi 62 .eql 61 25<|N) (t 62) 63 (om 7 63<|N))) [51,52,53,54,58,59,63])<|q (q (R (of 64 4 4<|of 65 64 0<|ol 66 65<|oi 67 .eql 66 4<|om 68 67<|.sc 68 true (of 69 4 4<|of 70 69 4<|ol 71 70<|oh 72 71<|oi 73 .eql 72 0<|N) (t 73) 74 (om 75 74<|.sc 75 true (om 76 7<|og 77 76<|N) (t 77) 78 (om 79 78<|.sc 79 false (of 80 3 0<|ol 81 80<|oi 82 .eql 81 2<|om 83 82<|.sc 83 true (of 84 4 4<|of 85 84 0<|ol 86 85<|oi 87 .neq 86 1<|N) (t 87) 88 N) (t 88) 89 N))) [3,7,64,65,66,67,68,74,75,78,79])<|D (I 89 (q (R (oo 90 (.bld [.bool false,.bool false,.str [],.nil 2,.int .i64 0,.int .i64 0,.int .i64 0,.int .i64 0,.nil 1,.nil 7,.nil 11] [])<|oS 11 4 90<|ow 5 false<|N) [89,90])<|.ret) S) [89])<|q (R (oL 91 11 4<|oS 11 4 91<|ow 5 true<|N) [91])<|.ret
theorem ok39:FT 39 92 ir39 [.cell 4 (some 11),.tmp 5]:=.o Tryz.func39
def ir46:Ic:=q (R (ox 2 0<|ok 4 (.k (.nil 3))<|ow 5 false<|N) [0,4,5])<|q (R (om 12 1<|cl 13 70 [t 12]<|om 11 13<|oe 14 11 0<|oe 15 11 1<|om 6 14<|om 7 15<|N) [1,12,13,11,14,15])<|q (q (R (om 16 7<|oi 17 .neq 16 0<|N) [7,16])<|D (I 17 (q (R (ok 4 (.k (.nil 3))<|ow 5 false<|N) [2,6,17])<|.ret) S) [17])<|q (q (.reg (oz 8 0<|N))<|D (.block 0<|.loop (q (q (R (om 18 8<|om 19 6<|oh 20 19<|ot 21 .lss 18 20<|N) [18,19,20])<|D (I 21 S (E 0)) [21])<|q (D (.block 1<|q (R (om 24 6<|om 25 8<|oa true 26 3 24 25<|of 27 26 0<|ol 28 27<|oi 29 .neq 28 1<|om 30 29<|.sc 30 true (om 31 6<|om 32 8<|oa true 33 3 31 32<|of 34 33 0<|ol 35 34<|oi 36 .neq 35 4<|N) (t 36) 37 N) [24,25,26,27,28,29,30])<|D (I 37 (q (R (ok 4 (.k (.nil 3))<|ow 5 false<|N) [2,6,8,37])<|.ret) S) [37]) [])<|R (om 22 8<|oi 23 .add 22 1<|om 8 23<|N) [22,23])) [8,21])<|q (R (oL 39 7 2<|om 40 6<|cl 41 71 [t 39,t 40]<|om 38 41<|oe 42 38 0<|oe 43 38 1<|oN 9 yT<|oS 7 9 42<|om 10 43<|N) [2,39,40,41,38,42,43,9])<|q (R (om 44 6<|om 45 10<|om 4 44<|om 5 45<|N) [6,10,44,45])<|.ret
theorem ok46:FT 46 46 ir46 [.tmp 4,.tmp 5]:=.o Tryz.func46
def ir47:Ic:=q (R (ok 2 (.k (.nil 8))<|N) [2])<|q (.reg (ok 3 (.k (.nil 8))<|N))<|q (q (.reg (oz 4 0<|N))<|D (.block 0<|.loop (q (q (R (om 5 4<|om 6 0<|oh 7 6<|ot 8 .lss 5 7<|N) [5,6,7])<|D (I 8 S (E 0)) [8])<|q (D (.block 1<|R (om 11 3<|om 12 0<|om 13 4<|oa false 14 1 12 13<|ol 15 14<|oo 16 (.bld [.int .i64 0,.nil 3,.int .i64 0,.int .i64 0,.str [],.nil 6,.nil 5,.bool false] [(0,1,i 1),(1,1,t 15)])<|oo 17 (.bls 8 [t 16])<|oo 18 (.app 8 (t 11) (t 17))<|om 3 18<|N) [11,12,13,14,15,16,17,18]) [])<|R (om 9 4<|oi 10 .add 9 1<|om 4 10<|N) [9,10])) [0,4,8,11,9,10])<|q (R (om 19 3<|om 2 19<|N) [3,19])<|.ret
theorem ok47:FT 47 20 ir47 [.tmp 2]:=.o Tryz.func47
def ir48:Ic:=q (R (ox 2 0<|ok 4 (.k (.nil 1))<|N) [0,4])<|q (.reg (ok 5 (.k (.nil 1))<|N))<|q (q (.reg (oz 6 0<|N))<|D (.block 0<|.loop (q (q (R (om 11 6<|om 12 1<|oh 13 12<|ot 14 .lss 11 13<|N) [11,12,13])<|D (I 14 S (E 0)) [14])<|q (D (.block 1<|q (D (.regd [(0,8),(3,8),(4,8)] (oL 18 7 2<|om 19 1<|om 20 6<|oo 21 (.slc 3 (t 19) none (some (t 20)) none)<|cl 22 71 [t 18,t 21]<|om 17 22<|oe 23 17 0<|oe 24 17 1<|oN 7 yT<|oS 7 7 23<|om 8 24<|N)) [18,19,20,21,22,17,23,24,8])<|q (D (.regd [(0,10),(3,10),(5,10),(6,10)] (oL 26 7 7<|om 27 1<|om 28 6<|oa true 29 3 27 28<|of 30 29 2<|ol 31 30<|cl 32 72 [t 26,t 31]<|om 25 32<|oe 33 25 0<|oe 34 25 1<|oN 9 yG<|oS 11 9 33<|om 10 34<|N)) [26,27,28,29,30,31,32,25,33,34,10])<|q (R (om 35 1<|om 36 6<|oa true 37 3 35 36<|of 38 37 0<|ol 39 38<|oi 40 .eql 39 1<|om 41 40<|.sc 41 true (of 42 9 2<|ol 43 42<|oi 44 .eql 43 2<|N) (t 44) 45 (om 46 45<|.sc 46 false (om 47 1<|om 48 6<|oa true 49 3 47 48<|of 50 49 0<|ol 51 50<|oi 52 .eql 51 4<|om 53 52<|.sc 53 true (of 54 7 6<|ol 55 54<|oh 56 55<|oi 57 .geq 56 2<|N) (t 57) 58 N) (t 58) 59 N)) [7,9,35,36,37,38,39,40,41,45,46])<|D (I 59 (R (om 60 5<|om 61 1<|om 62 6<|oi 63 .add 62 1<|oo 64 (.slc 3 (t 61) none (some (t 63)) none)<|oo 65 (.bls 1 [t 64])<|oo 66 (.app 1 (t 60) (t 65))<|om 5 66<|N) [59,60,61,62,63,64,65,66]) S) [59]) [])<|R (om 15 6<|oi 16 .add 15 1<|om 6 16<|N) [15,16])) [1,2,6,14,7,8,9,10])<|q (R (om 67 5<|om 4 67<|N) [5,67])<|.ret
theorem ok48:FT 48 68 ir48 [.tmp 4]:=.o Tryz.func48
def ir49:Ic:=q (R (ox 2 0<|ok 4 (.k (.nil 1))<|N) [0,4])<|q (R (oL 9 7 2<|om 10 1<|cl 11 48 [t 9,t 10]<|om 5 11<|N) [1,2,9,10,11])<|q (.reg (ok 6 (.k (.nil 1))<|N))<|q (q (.reg (oz 7 0<|N))<|D (.block 0<|.loop (q (q (R (om 12 7<|om 13 5<|oh 14 13<|ot 15 .lss 12 14<|N) [12,13,14])<|D (I 15 S (E 0)) [15])<|q (D (.block 1<|q (R (om 18 5<|om 19 7<|oo 20 (.slc 1 (t 18) none (some (t 19)) none)<|cl 21 47 [t 20]<|om 8 21<|N) [18,19,20,21])<|R (om 22 6<|om 23 8<|om 24 5<|om 25 7<|oa false 26 1 24 25<|ol 27 26<|oo 28 (.bld [.int .i64 0,.nil 3,.int .i64 0,.int .i64 0,.str [],.nil 6,.nil 5,.bool false] [(0,1,i 2),(1,1,t 27)])<|oo 29 (.bls 8 [t 28])<|oo 30 (.app 8 (t 23) (t 29))<|oo 31 (.bls 1 [t 30])<|oo 32 (.app 1 (t 22) (t 31))<|om 6 32<|N) [8,22,23,24,25,26,27,28,29,30,31,32]) [])<|R (om 16 7<|oi 17 .add 16 1<|om 7 17<|N) [16,17])) [5,7,15,8])<|q (R (om 33 6<|om 4 33<|N) [6,33])<|.ret
theorem ok49:FT 49 34 ir49 [.tmp 4]:=.o Tryz.func49
def JJt:Ic:=q (R (ox 2 0<|ox 3 1<|ok 4 (.k (.nil 3))<|ow 5 false<|N) [0,1,4,5])<|q (.reg (oz 6 (-1)<|N))<|q (D (.block 0<|q (R (of 19 3 0<|ol 20 19<|oi 21 .eql 20 2<|om 18 21<|N) [19,20,21])<|D (I 18 (q (R (oL 23 7 2<|of 24 3 2<|ol 25 24<|cl 26 46 [t 23,t 25]<|om 22 26<|oe 27 22 0<|oe 28 22 1<|om 7 27<|om 8 28<|N) [3,6,18,23,24,25,26,22,27,28])<|q (R (oL 30 7 2<|om 31 7<|cl 32 71 [t 30,t 31]<|om 29 32<|oe 33 29 0<|oe 34 29 1<|oN 9 yT<|oS 7 9 33<|om 10 34<|N) [2,30,31,32,29,33,34,10])<|q (R (om 35 7<|om 36 8<|om 37 36<|.sc 37 true (of 38 9 0<|ol 39 38<|oi 40 .eql 39 1<|N) (t 40) 41 (om 4 35<|om 5 41<|N)) [7,8,9,35,36,37,41])<|.ret) (q (R (of 43 3 0<|ol 44 43<|oi 45 .eql 44 25<|om 42 45<|N) [18,43,44,45])<|I 42 (R (oz 6 0<|N) [42]) (q (R (of 47 3 0<|ol 48 47<|oi 49 .geq 48 6<|om 50 49<|.sc 50 true (of 51 3 0<|ol 52 51<|oi 53 .leq 52 11<|N) (t 53) 54 (om 46 54<|N)) [42,47,48,49,50,54])<|D (I 46 (q (R (oz 11 0<|N) [46])<|D (.block 1<|.loop (q (q (R (om 55 11<|of 56 3 4<|ol 57 56<|oh 58 57<|ot 59 .lss 55 58<|N) [55,56,57,58])<|D (I 59 S (E 1)) [59])<|q (D (.block 2<|q (R (of 62 3 4<|ol 63 62<|om 64 11<|oa true 65 5 63 64<|of 66 65 0<|ol 67 66<|oi 68 .eql 67 2<|N) [62,63,64,65,66,67])<|D (I 68 (R (om 69 11<|om 6 69<|N) [68,69]) S) [68]) [])<|R (om 60 11<|oi 61 .add 60 1<|om 11 61<|N) [60,61])) [11,59]) S) [46]))) []) [7,8,9,10,11])<|q (q (R (om 70 6<|oi 71 .lss 70 0<|om 72 71<|.sc 72 false (of 73 3 4<|ol 74 73<|om 75 6<|oa true 76 5 74 75<|of 77 76 0<|ol 78 77<|oi 79 .neq 78 2<|N) (t 79) 80 N) [70,71,72])<|D (I 80 (q (R (ok 4 (.k (.nil 3))<|ow 5 false<|N) [2,3,6,80])<|.ret) S) [80])<|q (q (.reg (oz 12 0<|N))<|D (.block 3<|.loop (q (q (R (om 81 12<|of 82 3 4<|ol 83 82<|oh 84 83<|ot 85 .lss 81 84<|N) [81,82,83,84])<|D (I 85 S (E 3)) [85])<|q (D (.block 4<|q (R (om 88 12<|om 89 6<|ot 90 .neq 88 89<|om 91 90<|.sc 91 true (of 92 3 4<|ol 93 92<|om 94 12<|oa true 95 5 93 94<|of 96 95 0<|ol 97 96<|oi 98 .neq 97 1<|N) (t 98) 99 N) [88,89,90,91])<|D (I 99 (q (R (ok 4 (.k (.nil 3))<|ow 5 false<|N) [2,3,6,12,99])<|.ret) S) [99]) [])<|R (om 86 12<|oi 87 .add 86 1<|om 12 87<|N) [86,87])) [12,85])<|q (R (oL 101 7 2<|of 102 3 4<|ol 103 102<|om 104 6<|oa true 105 5 103 104<|of 106 105 2<|ol 107 106<|cl 108 46 [t 101,t 107]<|om 100 108<|oe 109 100 0<|oe 110 100 1<|om 13 109<|om 14 110<|N) [6,101,102,103,104,105,106,107,108,100,109,110])<|q (R (oL 112 7 2<|om 113 13<|cl 114 71 [t 112,t 113]<|om 111 114<|oe 115 111 0<|oe 116 111 1<|oN 15 yT<|oS 7 15 115<|om 16 116<|N) [2,112,113,114,111,115,116,16])<|q (R (of 117 3 0<|ol 118 117<|oi 119 .geq 118 8<|om 120 119<|.sc 120 true (of 121 3 0<|ol 122 121<|oi 123 .leq 122 11<|N) (t 123) 124 (om 17 124<|N)) [3,117,118,119,120,124])<|q (R (om 125 13<|om 126 14<|om 127 126<|.sc 127 true (of 128 15 0<|ol 129 128<|oi 130 .leq 129 7<|N) (t 130) 131 (om 132 131<|.sc 132 true (of 133 15 0<|ol 134 133<|oi 135 .eql 134 4<|om 136 135<|.sc 136 true (of 137 15 4<|ol 138 137<|oh 139 138<|oi 140 .eql 139 0<|N) (t 140) 141 (om 142 141<|.sc 142 true (om 143 17<|N) (t 143) 144 (og 145 144<|N))) (t 145) 146 (om 4 125<|om 5 146<|N))) [13,14,15,17,125,126,127,131,132,146])<|.ret
theorem ok50:FT 50 147 JJt [.tmp 4,.tmp 5]:=.o Tryz.func50
def ir61:Ic:=q (R (ox 2 0<|oN 4 [.bool false,.bool false,.str [],.nil 2,.int .i64 0,.int .i64 0,.int .i64 0,.int .i64 0,.nil 1,.nil 7,.nil 11]<|ow 5 false<|N) [0,5])<|q (R (om 14 1<|cl 15 70 [t 14]<|om 13 15<|oe 16 13 0<|oe 17 13 1<|om 6 16<|om 7 17<|N) [1,14,15,13,16,17])<|q (q (R (om 18 7<|oi 19 .neq 18 0<|om 20 19<|.sc 20 false (om 21 6<|cl 22 77 [t 21,.k (.fn (.func 103) [] [])]<|N) (t 22) 23 N) [7,18,19,20])<|D (I 23 (q (R (oo 24 (.bld [.bool false,.bool false,.str [],.nil 2,.int .i64 0,.int .i64 0,.int .i64 0,.int .i64 0,.nil 1,.nil 7,.nil 11] [])<|oS 11 4 24<|ow 5 false<|N) [2,6,23,24])<|.ret) S) [23])<|q (R (om 25 6<|cl 26 104 [t 25]<|of 27 4 2<|os 27 26<|N) [25,26,27])<|q (R (oL 28 7 2<|oN 8 yT<|oS 7 8 28<|N) [2,28])<|q (q (.reg (om 29 6<|oh 30 29<|oz 31 0<|N))<|D (.block 0<|.loop (q (.reg (ot 32 .lss 31 30<|N))<|q (D (I 32 S (E 0)) [32])<|q (D (.block 1<|q (R (om 33 31<|oa true 34 3 29 31<|oL 35 3 34<|oN 10 [.int .i64 0,.int .i64 0,.str []]<|om 9 33<|oS 3 10 35<|N) [33,34,35])<|q (R (oL 37 7 8<|of 38 10 2<|ol 39 38<|cl 40 72 [t 37,t 39]<|om 36 40<|oe 41 36 0<|oe 42 36 1<|oN 11 yG<|oS 11 11 41<|om 12 42<|N) [37,38,39,40,36,41,42])<|q (q (R (om 43 12<|og 44 43<|om 45 44<|.sc 45 false (of 46 10 0<|ol 47 46<|oi 48 .eql 47 1<|of 49 8 0<|ol 50 49<|oi 51 .eql 50 9<|ot 52 .bne 48 51<|N) (t 52) 53 N) [12,43,44,45])<|D (I 53 (q (R (oo 54 (.bld [.bool false,.bool false,.str [],.nil 2,.int .i64 0,.int .i64 0,.int .i64 0,.int .i64 0,.nil 1,.nil 7,.nil 11] [])<|oS 11 4 54<|ow 5 false<|N) [6,8,29,30,31,10,9,11,53,54])<|.ret) S) [53])<|q (D (.block 2<|q (R (of 56 10 0<|ol 57 56<|oi 58 .eql 57 1<|om 59 58<|.sc 59 true (of 60 11 2<|ol 61 60<|oi 62 .eql 61 2<|N) (t 62) 63 (om 55 63<|N)) [56,57,58,59,63])<|I 55 (D (.regd [(1,6),(1,8)] (of 64 4 3<|ol 65 64<|om 66 6<|om 67 9<|oi 68 .add 67 1<|oo 69 (.slc 3 (t 66) none (some (t 68)) none)<|cl 70 104 [t 69]<|oo 71 (.bld [.bool false,.str []] [(0,1,B false),(1,1,t 70)])<|oo 72 (.bls 2 [t 71])<|oo 73 (.app 2 (t 65) (t 72))<|of 74 4 3<|os 74 73<|N)) [10,9,55,64,65,66,67,68,69,70,71,72,73,74]) (q (R (of 76 10 0<|ol 77 76<|oi 78 .eql 77 4<|om 79 78<|.sc 79 true (of 80 8 6<|ol 81 80<|oh 82 81<|oi 83 .geq 82 2<|N) (t 83) 84 (om 75 84<|N)) [10,55,76,77,78,79,84])<|D (I 75 (D (.regd [(1,6),(1,8)] (of 85 4 3<|ol 86 85<|om 87 6<|om 88 9<|oi 89 .add 88 1<|oo 90 (.slc 3 (t 87) none (some (t 89)) none)<|cl 91 104 [t 90]<|oo 92 (.bld [.bool false,.str []] [(0,1,B true),(1,1,t 91)])<|oo 93 (.bls 2 [t 92])<|oo 94 (.app 2 (t 86) (t 93))<|of 95 4 3<|os 95 94<|N)) [9,75,85,86,87,88,89,90,91,92,93,94,95]) S) [9,75])) [])<|R (of 96 11 3<|oL 97 7 96<|oS 7 8 97<|N) [11,96,97]) [])<|R (oi 98 .add 31 1<|om 31 98<|N) [98])) [6,29,30,31,32,10,9,11])<|q (R (oL 99 7 8<|of 100 4 4<|oS 7 100 99<|N) [8,99,100])<|q (R (oL 101 11 4<|oS 11 4 101<|ow 5 true<|N) [101])<|.ret
theorem ok61:FT 61 102 ir61 [.cell 4 (some 11),.tmp 5]:=.o Tryz.func61
def JMI:Ic:=q (R (ox 1 0<|ok 2 (.k (.str []))<|N) [0,2])<|q (.reg (ok 3 (.k (.fn (.func 105) [] []))<|N))<|q (.reg (oN 4 [.nilFn]<|on (.sto none (t 4) (.k (.fn (.func 106) [] [])))<|N))<|q (D (.block 0<|q (R (of 6 1 0<|ol 7 6<|oi 8 .eql 7 2<|om 5 8<|N) [6,7,8])<|D (I 5 (q (R (of 9 1 2<|ol 10 9<|om 2 10<|N) [1,3,4,5,9,10])<|.ret) (q (R (of 12 1 0<|ol 13 12<|oi 14 .eql 13 25<|om 15 14<|.sc 15 true (om 16 3<|of 17 1 4<|ol 18 17<|oo 19 (.ixa true 5 (t 18) (i 0))<|oL 20 5 19<|.call (some 21) (.dyn (t 16)) [t 20] N) (t 21) 22 (om 23 22<|.sc 23 true (of 24 1 4<|ol 25 24<|oo 26 (.slc 5 (t 25) (some (i 1)) none none)<|oo 27 (.fnv (.func 108) [] [t 4])<|cl 28 107 [t 26,t 27]<|og 29 28<|N) (t 29) 30 (om 11 30<|N))) [5,12,13,14,15,22,23,30])<|D (I 11 (q (R (of 31 1 4<|ol 32 31<|oo 33 (.ixa true 5 (t 32) (i 0))<|of 34 33 2<|ol 35 34<|om 2 35<|N) [1,3,4,11,31,32,33,34,35])<|.ret) (q (R (of 37 1 0<|ol 38 37<|oi 39 .geq 38 6<|om 40 39<|.sc 40 true (of 41 1 0<|ol 42 41<|oi 43 .leq 42 11<|N) (t 43) 44 (om 45 44<|.sc 45 true (om 46 3<|of 47 1 4<|ol 48 47<|oo 49 (.ixa true 5 (t 48) (i 0))<|oL 50 5 49<|.call (some 51) (.dyn (t 46)) [t 50] N) (t 51) 52 (om 53 52<|.sc 53 true (ol 54 4<|of 55 1 4<|ol 56 55<|oo 57 (.ixa true 5 (t 56) (i 1))<|oL 58 5 57<|.call (some 59) (.dyn (t 54)) [t 58] N) (t 59) 60 (om 36 60<|N)))) [11,37,38,39,40,44,45,52,53,60])<|D (I 36 (q (R (of 61 1 4<|ol 62 61<|oo 63 (.ixa true 5 (t 62) (i 0))<|of 64 63 2<|ol 65 64<|om 2 65<|N) [1,3,4,36,61,62,63,64,65])<|.ret) (q (R (of 67 1 0<|ol 68 67<|oi 69 .geq 68 6<|om 70 69<|.sc 70 true (of 71 1 0<|ol 72 71<|oi 73 .leq 72 11<|N) (t 73) 74 (om 75 74<|.sc 75 true (ol 76 4<|of 77 1 4<|ol 78 77<|oo 79 (.ixa true 5 (t 78) (i 0))<|oL 80 5 79<|.call (some 81) (.dyn (t 76)) [t 80] N) (t 81) 82 (om 83 82<|.sc 83 true (om 84 3<|of 85 1 4<|ol 86 85<|oo 87 (.ixa true 5 (t 86) (i 1))<|oL 88 5 87<|.call (some 89) (.dyn (t 84)) [t 88] N) (t 89) 90 (om 66 90<|N)))) [3,4,36,67,68,69,70,74,75,82,83,90])<|D (I 66 (q (R (of 91 1 4<|ol 92 91<|oo 93 (.ixa true 5 (t 92) (i 1))<|of 94 93 2<|ol 95 94<|om 2 95<|N) [1,66,91,92,93,94,95])<|.ret) S) [1,66])) [])) [])) []) [9,10])<|q (.reg (ok 2 (.k (.str []))<|N))<|.ret
theorem ok62:FT 62 96 JMI [.tmp 2]:=.o Tryz.func62
def ir71:Ic:=q (R (ox 2 0<|oN 4 yT<|ow 5 false<|N) [0,5])<|q (q (R (om 9 1<|oh 10 9<|oi 11 .eql 10 0<|N) [9,10])<|D (I 11 (q (R (oL 12 7 2<|oS 7 4 12<|ow 5 true<|N) [1,2,11,12])<|.ret) S) [11])<|q (R (oL 14 7 2<|om 15 1<|cl 16 129 [t 14,t 15]<|om 13 16<|oe 17 13 0<|oe 18 13 1<|oe 19 13 2<|oN 6 yT<|oS 7 6 17<|om 7 18<|om 8 19<|N) [1,2,14,15,16,13,17,18,19,7])<|q (R (oL 20 7 6<|om 21 8<|oi 22 .eql 21 0<|oS 7 4 20<|om 5 22<|N) [6,8,20,21,22])<|.ret
theorem ok71:FT 71 23 ir71 [.cell 4 (some 7),.tmp 5]:=.o Tryz.func71
def ir103:Ic:=q (R (ox 1 0<|ow 2 false<|N) [0,2])<|q (R (of 3 1 0<|ol 4 3<|oi 5 .neq 4 1<|om 6 5<|.sc 6 true (of 7 1 0<|ol 8 7<|oi 9 .neq 8 4<|N) (t 9) 10 (om 2 10<|N)) [1,3,4,5,6,10])<|.ret
theorem ok103:FT 103 11 ir103 [.tmp 2]:=.o Tryz.func103
def ir104:Ic:=q (R (ok 2 (.k (.str []))<|N) [2])<|q (R (om 6 0<|cl 7 164 [t 6]<|om 5 7<|oe 8 5 0<|oe 9 5 1<|om 3 8<|om 4 9<|N) [0,6,7,5,8,9,4])<|q (R (om 10 3<|om 2 10<|N) [3,10])<|.ret
theorem ok104:FT 104 11 ir104 [.tmp 2]:=.o Tryz.func104
def ir105:Ic:=q (R (ox 1 0<|ow 2 false<|N) [0,2])<|q (R (of 3 1 0<|ol 4 3<|oi 5 .eql 4 2<|om 2 5<|N) [1,3,4,5])<|.ret
theorem ok105:FT 105 6 ir105 [.tmp 2]:=.o Tryz.func105
def ir106:Ic:=q (R (ox 1 0<|ow 2 false<|N) [0,2])<|q (R (of 3 1 0<|ol 4 3<|oi 5 .eql 4 1<|om 2 5<|N) [1,3,4,5])<|.ret
theorem ok106:FT 106 6 ir106 [.tmp 2]:=.o Tryz.func106
def ir107:Ic:=q (R (ow 4 false<|N) [4])<|q (R (om 5 0<|om 6 1<|cl 7 165 [t 5,t 6]<|oi 8 .geq 7 0<|om 4 8<|N) [0,1,5,6,7,8])<|.ret
theorem ok107:FT 107 9 ir107 [.tmp 4]:=.o Tryz.func107
def ir108:Ic:=q (R (ox 2 0<|ow 3 false<|N) [0,3])<|q (R (ol 4 1<|oL 5 5 2<|.call (some 6) (.dyn (t 4)) [t 5] (og 7 6<|om 3 7<|N)) [2,4,5,6,7])<|.ret
theorem ok108:FT 108 8 ir108 [.tmp 3]:=.o Tryz.func108
def ir164:Ic:=q (R (ok 2 (.k (.str []))<|oz 3 0<|N) [2,3])<|q (q (R (om 8 0<|cl 9 196 [t 8]<|om 4 9<|N) [8,9])<|q (R (om 10 4<|oi 11 .neq 10 0<|N) [10])<|D (I 11 (q (R (om 12 4<|ok 2 (.k (.str []))<|om 3 12<|N) [0,4,11,12])<|.ret) S) [4,11])<|q (.reg (ok 5 (.k (.str []))<|N))<|q (q (R (om 13 0<|oh 14 13<|oz 15 0<|N) [0])<|D (.block 0<|.loop (q (.reg (ot 16 .lss 15 14<|N))<|q (D (I 16 S (E 0)) [16])<|q (D (.block 1<|q (R (oa true 17 3 13 15<|oL 18 3 17<|oN 7 [.int .i64 0,.int .i64 0,.str []]<|oS 3 7 18<|N) [17,18])<|R (om 19 5<|oL 20 3 7<|cl 21 225 [t 20]<|ot 22 .cat 19 21<|om 5 22<|N) [7,19,20,21,22]) [])<|R (oi 23 .add 15 1<|om 15 23<|N) [23])) [13,14,15,16,7])<|q (R (om 24 5<|oo 25 (.sls (t 24) (some (i 1)) none)<|om 2 25<|oz 3 0<|N) [5,24,25])<|.ret
theorem ok164:FT 164 26 ir164 [.tmp 2,.tmp 3]:=.o Tryz.func164
def ir165:Ic:=q (R (oz 4 0<|N) [4])<|q (q (R (om 6 0<|oh 7 6<|oz 8 0<|N) [6])<|D (.block 0<|.loop (q (.reg (ot 9 .lss 8 7<|N))<|q (D (I 9 S (E 0)) [9])<|q (D (.block 1<|q (R (om 10 8<|om 5 10<|N) [10])<|q (R (om 11 1<|om 12 0<|om 13 5<|oa true 14 5 12 13<|oL 15 5 14<|.call (some 16) (.dyn (t 11)) [t 15] N) [11,12,13,14,15])<|D (I 16 (q (R (om 17 5<|om 4 17<|N) [0,1,7,8,5,16,17])<|.ret) S) [5,16]) [])<|R (oi 18 .add 8 1<|om 8 18<|N) [18])) [0,1,7,8,9,10,5,11])<|q (.reg (oz 4 (-1)<|N))<|.ret
theorem ok165:FT 165 19 ir165 [.tmp 4]:=.o Tryz.func165
end Go.Proofs
namespace Go.Proofs
open Go Av
theorem JLK(l:List Part):∃x:Str×Int,True∧PT 164 [.list 3 (l.map Ja)] (.tup [.d (.str x.1),.d (.int .i64 x.2)]):=by
 refine ok164.JIu (fun x:Str×Int=>.tup [.d (.str x.1),.d (.int .i64 x.2)]) (fun x:Str×Int=>True) (([],0)) (trivial) (Nat.le_of_ble_eq_true rfl) (fun _ _=>by simp[Uv,JT,JN]) fun hfit=>?_
 obtain⟨f1,f2⟩:=JLF (hfit (.list 3 (l.map Ja)) sP);clear hfit;have c1:=(JKt l f1 f2).call trivial;simp only[go_sem,ir164,Vv,Vc,simprocAttr];refine wn c1 ?_;simp only[go_sem,Vv,Vc,simprocAttr];refine JD (fun h=>?_) (fun h=>?_)
 ·exact⟨(_,_),rfl⟩
 obtain⟨h16,hv⟩:=JGu h;have hne:1≤l.length:=by
  simp only[bne_eq_false_iff_eq]at h;unfold JCg at h;split at h
  ·cases h
  rename_i hh;simp only[hdP,Vx,decide_eq_true_eq,not_or]at hh;omega
 try simp only[go_sem,Vv,Vc,simprocAttr]
 refine JJ (fun n s=>∃(k:Nat) (o:Str),k≤l.length∧n=l.length-k∧o.length≤40*k∧(1≤k→1≤o.length)∧s=⟨[(5,.d (.str o)),(13,.d (.list 3 (l.map Ja))),(14,.d (.int .i64 l.length)),(15,.d (.int .i64 k))],[]⟩) ?_ ?_
 ·refine⟨_,_,Wk.less ?_,0,[],Nat.zero_le _,rfl,sP,sP,rfl⟩;simp[go_sem]
 rintro n s ⟨k,o,hk,rfl,ho,ho1,rfl⟩;by_cases hlt:k<l.length
 ·have hx:nth (l.map Ja) k=Ja l[k]:=by rw[Uc (sX hlt),List.getElem_map]
  have hd:=dT hlt;have hvk:=hv l[k] (Vk hlt);obtain⟨b1,b2,b3⟩:=JAi hvk;have hl:=JEb hvk;have hl1:1≤(ZK l[k]).length:=by
   unfold ZK;split
   ·simp
   split
   ·simp
   split<;>simp
  have c2:=(JKs l[k] oM oM oM).call trivial;generalize ZK l[k]=q at*;simp only[Ja]at c2;simp only[go_sem,hx,Ja,hd,Vv,Vc,simprocAttr]
  repeat with_reducible refine And.intro (by first|decide|omega|(simp;done)|(simp;omega)) ?_
  refine wn c2 ?_;simp only[go_sem,Vv,Vc,simprocAttr]
  repeat with_reducible refine And.intro (by first|decide|omega|(simp;done)|(simp;omega)) ?_
  refine⟨l.length-(k+1),_,oM,Wk.less ?_,k+1,o++q,oM,rfl,by rw[Vg];omega,fun _=>by rw[Vg];omega,rfl⟩;simp[go_sem,JS k oM]
 ·have hd:=dF hlt;have:=ho1 oM;simp only[go_sem,hd,Vv,Vc,simprocAttr]
  repeat with_reducible refine And.intro (by first|decide|omega|(simp;done)|(simp;omega)) ?_
  exact⟨(_,_),rfl⟩
theorem c164(l:List Part):CT 164 [.d (.list 3 (l.map Ja))] [] (.tup [.d (.str (PA (JLK l)).1),.d (.int .i64 (PA (JLK l)).2)]) []:=(UQ (JLK l)).call (by simp[Jl])
theorem JLL(l:List Part):∃x:Str,True∧PT 104 [.list 3 (l.map Ja)] (.d (.str x)):=by
 refine ok104.pex (fun x:Str=>.d (.str x)) (fun x:Str=>True) (Nat.le_of_ble_eq_true rfl) (fun _ _=>by simp[Uv,JT,JN]) ?_;have c:=c164 l;generalize PA (JLK l)=R at c;simp only[go_sem,ir104,Vv,Vc,simprocAttr];refine wn c ?_;simp only[go_sem,Vv,Vc,simprocAttr];exact⟨_,rfl⟩
theorem c104(l:List Part):CT 104 [.d (.list 3 (l.map Ja))] [] (.d (.str (PA (JLL l)))) []:=(UQ (JLL l)).call (by simp[Jl])
def opN(t:Typ)(p:Part):Nat:=if p.kind=1∧(UY t p.name).1.need=2 then 1 else if p.kind=4∧(2:Int)≤t.fields.length then 1 else 0
def chS:Typ→List Part→Nat→Option (Nat×Typ)
 |t,[],n=>some (n,t)
 |t,p::r,n=>match stS t p with
  |some T=>chS T r (n+opN t p)
  |none=>none
def plB(p:Part):Bool:=p.kind !=1&&p.kind !=4
noncomputable def plO(t:Typ)(s:Str):Option (Nat×Typ):=if(JO s).2=0∧(JO s).1.any plB=false then chS t (JO s).1 0 else none
abbrev JDQ(c:Bool×Str):Dat:=.agg [.bool c.1,.str c.2]
structure Atm where
 h:Bool
 c:Bool
 s:Str
 ch:List (Bool×Str)
 t:Typ
def ZO(a:Atm):Dat:=.agg [.bool a.h,.bool a.c,.str a.s,.list 2 (a.ch.map JDQ),.int .i64 a.t.kind,.int .i64 a.t.min,.int .i64 a.t.max,.int .i64 a.t.scale,.list 1 (a.t.words.map .str),.list 7 (a.t.elem.map JH),.list 11 (a.t.fields.map Jn)]
def at0:Atm:=⟨false,false,[],[],Y7⟩
theorem JRU(p:Part):PT 103 [Ja p] (.d (.bool (plB p))):=by
 refine ok103.pc ?_;simp only[Ja,plB];simp only[go_sem,ir103,Vv,Vc,simprocAttr];refine sq (p.kind !=4) ?_ ?_
 ·simp only[go_sem,Vv,Vc,simprocAttr]
 simp only[go_sem,Vv,Vc,simprocAttr]
def plG(o:Option (Nat×Typ))(x:Atm×Bool):Prop:=match o with
 |some q=>x.2=true∧x.1.h=false∧x.1.c=false∧x.1.ch.length=q.1∧x.1.t=q.2
 |none=>x.2=false
theorem JIh{l:List Part}(h:l.any plB=false):∀p∈l,plK p:=by
 intro p hp;have:=List.any_eq_false.1 h p hp;simp only[plB,Vi,bne_iff_ne,ne_eq,not_and,Decidable.not_not]at this;unfold plK;by_cases h1:p.kind=1
 ·exact .inl h1
 ·exact .inr (this h1)
theorem JCr(l:List (Bool×Str)):JQ (l.map JDQ)=l.map JDQ:=U6 _ (fun c=>by simp only[JDQ,Dat.canon,JQ]) l
theorem ex61a(t:Typ)(s:Str)(hfit:∀d∈[JH t,.str s],fits d):∃x:Atm×Bool,plG (plO t s) x∧PT 61 [JH t,.str s] (.tup [.d (ZO x.1),.d (.bool x.2)]):=by
 refine ok61.pex (fun x:Atm×Bool=>.tup [.d (ZO x.1),.d (.bool x.2)]) (fun x=>plG (plO t s) x) (Nat.le_of_ble_eq_true rfl) (fun _ _=>by simp[Uv,JT,JN]) ?_;have c1:=(JEU s (hfit (.str s) sP)).call (by simp[Jl]);have hpl:plO t s=if(JO s).2=0∧(JO s).1.any plB=false then chS t (JO s).1 0 else none:=rfl;have h16:=YY s;clear hfit;generalize plO t s=O at*;generalize(JO s).2=e at*;generalize(JO s).1=l at*;have c2:=(JK2 JRU l oM).call trivial;have c3:=c104 l;generalize PA (JLL l)=tx at c3;rw[JA];have hno:∃x:Atm×Bool,plG none x∧Av.tup [.d (.agg [.bool false,.bool false,.str [],.list 2 [],.int .i64 0,.int .i64 0,.int .i64 0,.int .i64 0,.list 1 [],.list 7 [],.list 11 []]),.d (.bool false)]=.tup [.d (ZO x.1),.d (.bool x.2)]:=
  ⟨(at0,false),rfl,rfl⟩
 simp only[go_sem,ir61,Vv,Vc,simprocAttr];refine wn c1 ?_;simp only[go_sem,Vv,Vc,simprocAttr];refine sq (l.any plB) ?_ ?_
 ·simp only[go_sem,Vv,Vc,simprocAttr];refine wn c2 ?_;simp only[go_sem,Vv,Vc,simprocAttr]
 simp only[go_sem,Vv,Vc,simprocAttr];refine JD (fun h=>?_) (fun h=>?_)
 ·rw[if_neg (fun hh=>by rw[hh.1,hh.2]at h;exact absurd h dC)]at hpl;rw[hpl];exact hno
 simp only[Bool.or_eq_false_iff,bne_eq_false_iff_eq]at h;rw[if_pos h]at hpl;have hK:=JIh h.2
 try simp only[go_sem,Vv,Vc,simprocAttr]
 refine wn c3 ?_;simp only[go_sem,Vv,Vc,simprocAttr];refine JJ (fun n s=>∃(k v:Nat) (T:Typ) (ch:List (Bool×Str)),k≤l.length∧n=l.length-k∧ch.length≤k∧O=chS T (l.drop k) ch.length∧s=⟨[(4,.ref 4 0),(6,.d (.list 3 (l.map Ja))),(8,.ref 8 0),(29,.d (.list 3 (l.map Ja))),(30,.d (.int .i64 l.length)),(31,.d (.int .i64 k))],
  [(4,.box [.d (.bool false),.d (.bool false),.d (.str tx),.ms 200 v,.d (.int .i64 0),.d (.int .i64 0),.d (.int .i64 0),.d (.int .i64 0),.d (.nil 1),.d (.nil 7),.d (.nil 11)]),(8,.box (tC T)),(200,.row v 2 (ch.map JDQ))]⟩) ?_ ?_
 ·refine⟨_,_,(Wk.JR6 4 3 200 2 _ rfl rfl rfl dC).trans (Wk.less ?_),0,0,t,[],Nat.zero_le _,rfl,Nat.le_refl _,hpl,rfl⟩;simp[put,go_sem,tC]
 rintro n s ⟨k,v,T,ch,hk,rfl,hch,hO,rfl⟩;by_cases hlt:k<l.length
 ·have hx:nth (l.map Ja) k=Ja l[k]:=by rw[Uc (sX hlt),List.getElem_map]
  have hd:=dT hlt;have hdr:l.drop k=l[k]::l.drop (k+1):=Vq hlt;have htk:(l.map Ja).take (k+1)=(l.take (k+1)).map Ja:=List.map_take.symm;have c4:=(JEh T l[k].name).call (by simp[Jl]);have c5:=c104 (l.take (k+1));generalize PA (JLL (l.take (k+1)))=tk at c5;have hS:stS T l[k]=if((l[k].kind==1)==(T.kind==9)&&(UY T l[k].name).2)=true then some (UY T l[k].name).1.type else none:=rfl;have hN:opN T l[k]=if l[k].kind=1∧(UY T l[k].name).1.need=2 then 1 else if l[k].kind=4∧(2:Int)≤T.fields.length then 1 else 0:=rfl;rw[hdr,chS]at hO;generalize stS T l[k]=S1 at hO hS;generalize opN T l[k]=N1 at hO hN;generalize UY T l[k].name=R at*;generalize l[k]=p at*;rw[JA,Jw]at c4;simp only[go_sem,hx,Ja,hd,tC,Vv,Vc,simprocAttr]
  repeat with_reducible refine And.intro (by first|decide|omega|(simp;done)|(simp;omega)) ?_
  refine wn c4 ?_;simp only[go_sem,Vv,Vc,simprocAttr];refine sq (!((p.kind==1)==(T.kind==9))) ?_ ?_
  ·simp only[go_sem,Vv,Vc,simprocAttr]
  simp only[go_sem,Vv,Vc,simprocAttr];refine JD (fun h=>?_) (fun h=>?_)
  ·rw[if_neg (by intro hh;simp at hh;simp[hh.1,hh.2]at h)]at hS;rw[hS]at hO;rw[hO];exact hno
  rw[if_pos (by simp at h;simp[h])]at hS;rw[hS]at hO;have hw1:IntKind.i64.wrap ((k:Int)+1)=((k+1:Nat):Int):=by rw[JS k oM]
  refine sq (R.1.need==2) ?_ ?_
  ·simp only[go_sem,Vv,Vc,simprocAttr]
  simp only[go_sem,Vv,Vc,simprocAttr];refine JD (fun h1=>?_) (fun h1=>?_)
  ·rw[if_pos (sX h1)]at hN;subst hN;simp only[go_sem,hw1,Vv,Vc,simprocAttr]
   repeat with_reducible refine And.intro (by first|decide|omega|(simp;done)|(simp;omega)) ?_
   simp only[Vv,Int.toNat_zero,List.drop_zero,Int.sub_zero,htk];refine JE rfl c5 trivial ?_;simp only[go_sem,Vv,Vc,simprocAttr]
   repeat with_reducible refine And.intro (by first|decide|omega|(simp;done)|(simp;omega)) ?_
   refine⟨l.length-(k+1),_,oM,Wk.less ?_,k+1,v+1,R.1.type,ch++[(false,tk)],oM,rfl,by rw[Vg,List.length_singleton];omega,by rw[hO,Vg,List.length_singleton],rfl⟩;simp[go_sem,tC,hw1,JDQ]
  rw[if_neg (sX h1)]at hN
  try simp only[go_sem,Vv,Vc,simprocAttr]
  refine sq (decide ((T.fields.length:Int)≥2)) ?_ ?_
  ·simp only[go_sem,Vv,Vc,simprocAttr]
  simp only[go_sem,Vv,Vc,simprocAttr];refine JD (fun h2=>?_) (fun h2=>?_)
  ·rw[if_pos (sX h2)]at hN;subst hN;simp only[go_sem,hw1,Vv,Vc,simprocAttr]
   repeat with_reducible refine And.intro (by first|decide|omega|(simp;done)|(simp;omega)) ?_
   simp only[Vv,Int.toNat_zero,List.drop_zero,Int.sub_zero,htk];refine JE rfl c5 trivial ?_;simp only[go_sem,Vv,Vc,simprocAttr]
   repeat with_reducible refine And.intro (by first|decide|omega|(simp;done)|(simp;omega)) ?_
   refine⟨l.length-(k+1),_,oM,Wk.less ?_,k+1,v+1,R.1.type,ch++[(true,tk)],oM,rfl,by rw[Vg,List.length_singleton];omega,by rw[hO,Vg,List.length_singleton],rfl⟩;simp[go_sem,tC,hw1,JDQ]
  rw[if_neg (sX h2)]at hN;subst hN
  try simp only[go_sem,Vv,Vc,simprocAttr]
  refine⟨l.length-(k+1),_,oM,Wk.less ?_,k+1,v,R.1.type,ch,oM,rfl,oM,by rw[hO];simp only[Nat.add_zero],rfl⟩;simp[go_sem,tC,hw1,JDQ]
 ·have hd:=dF hlt;rw[List.drop_eq_nil_of_le oM]at hO;simp only[go_sem,hd,tC,JCr,Vv,Vc,simprocAttr];rw[hO];exact⟨(⟨false,false,tx,ch,T⟩,true),⟨rfl,rfl,rfl,rfl,rfl⟩,rfl⟩
theorem JJu(t:Typ)(s:Str):∃x:Atm×Bool,((∀d∈[JH t,.str s],fits d)→plG (plO t s) x)∧PT 61 [JH t,.str s] (.tup [.d (ZO x.1),.d (.bool x.2)]):=by
 by_cases hfit:∀d∈[JH t,.str s],fits d
 ·obtain⟨x,h1,h2⟩:=ex61a t s hfit;exact⟨x,fun _=>h1,h2⟩
 ·exact⟨(at0,false),fun h=>absurd h hfit,J3.Jg ok61.has fun h=>absurd h hfit⟩
theorem c61(t:Typ)(s:Str):CT 61 [.d (JH t),.d (.str s)] [] (.tup [.d (ZO (PA (JJu t s)).1),.d (.bool (PA (JJu t s)).2)]) []:=(UQ (JJu t s)).call (by simp[Jl])
theorem JGv(e:Exp):PT 105 [JL e] (.d (.bool (e.op==2))):=by
 refine ok105.pc ?_;rw[JF];simp only[go_sem,ir105,Vv,Vc,simprocAttr]
theorem JGw(e:Exp):PT 106 [JL e] (.d (.bool (e.op==1))):=by
 refine ok106.pc ?_;rw[JF];simp only[go_sem,ir106,Vv,Vc,simprocAttr]
theorem JRV(e:Exp):PT 108 [JL e,.ptr [.fn (.func 106) [] []]] (.d (.bool (!(e.op==1)))):=by
 refine ok108.pc ?_;have c:=(JGw e).call trivial;rw[Va,JF]at c;rw[JF];simp only[go_sem,ir108,Vv,Vc,simprocAttr]
 repeat with_reducible refine And.intro (by first|decide|omega|(simp;done)|(simp;omega)) ?_
 refine wn c ?_;simp only[go_sem,Vv,Vc,simprocAttr]
def ixQ{α:Type}(q:α→Bool)(l:List α):Int:=match l.findIdx? q with
 |some k=>(k:Int)
 |none=> -1
theorem JLM{α:Type}(q:α→Bool)(l:List α):decide (ixQ q l≥0)=l.any q:=by
 unfold ixQ;cases e:l.findIdx? q with
 |none=>
  rw[List.findIdx?_eq_none_iff]at e;have:l.any q=false:=by rw[List.any_eq_false];intro x hx;rw[e x hx];decide
  rw[this];simp
 |some k=>
  obtain⟨h1,h2,_⟩:=List.findIdx?_eq_some_iff_getElem.1 e;have:l.any q=true:=by rw[List.any_eq_true];exact⟨_,Vk h1,h2⟩
  rw[this];simp
theorem JIi{α:Type}{q:α→Bool}{l:List α}{k:Nat}(hlt:k<l.length)(hf:q l[k]=true)(hinv:∀(j:Nat) (h1:j<l.length),j<k→q l[j]=false):ixQ q l=k:=by
 have:l.findIdx? q=some k:=by
  rw[List.findIdx?_eq_some_iff_getElem];exact⟨hlt,hf,fun j hj=>by rw[hinv j oM hj];decide⟩
 simp only[ixQ,this]
theorem JIj{α:Type}{q:α→Bool}{l:List α}(hinv:∀(j:Nat) (h1:j<l.length),q l[j]=false):ixQ q l= -1:=by
 have:l.findIdx? q=none:=by
  rw[List.findIdx?_eq_none_iff];intro x hx;obtain⟨j,hj,rfl⟩:=List.getElem_of_mem hx;exact hinv j hj
 simp only[ixQ,this]
theorem JRW{g:Nat}{cs:List Dat}{q:Exp→Bool}(l:List Exp)(hq:∀x∈l,PT g (JL x::cs) (.d (.bool (q x))))(hl:l.length≤68719476736):
  PT 165 [.list 5 (l.map JL),.fn (.func g) [] cs] (.d (.int .i64 (ixQ q l))):=by
 refine ok165.pc ?_;simp only[go_sem,ir165,Vv,Vc,simprocAttr];refine JJ (fun n s=>∃k:Nat,k≤l.length∧n=l.length-k∧(∀(j:Nat) (h1:j<l.length),j<k→q l[j]=false)∧
  s=⟨[(0,.d (.list 5 (l.map JL))),(1,.d (.fn (.func g) [] cs)),(7,.d (.int .i64 l.length)),(8,.d (.int .i64 k))],[]⟩) ?_ ?_
 ·refine⟨_,_,Wk.less ?_,0,Nat.zero_le _,rfl,sP,rfl⟩;simp[go_sem]
 ·rintro n s ⟨k,hk,rfl,hinv,rfl⟩;by_cases hlt:k<l.length
  ·have hx:=Xp hlt;have hd:=dT hlt;have hc:=(hq l[k] (Vk _)).call trivial;rw[Va,JF]at hc;refine zz6 ?_
   repeat with_reducible refine And.intro (by first|decide|omega|(simp;done)|(simp;omega)) ?_
   refine wn hc ?_;simp only[go_sem,Vv,Vc,simprocAttr];refine JD (fun hf=>?_) (fun hf=>?_)
   ·rw[JIi hlt hf hinv]
   ·try simp only[go_sem,Vv,Vc,simprocAttr]
    refine⟨l.length-(k+1),_,oM,Wk.less ?_,k+1,oM,rfl,fun j h1 hj=>?_,rfl⟩
    ·simp[go_sem,JS k oM]
    ·by_cases e:j=k
     ·subst e;exact hf
     ·exact hinv j h1 oM
  ·have hd:=dF hlt;simp only[go_sem,hd,Vv,Vc,simprocAttr];rw[JIj (fun j h=>hinv j h oM)]
theorem JRX{g:Nat}{cs:List Dat}{q:Exp→Bool}(l:List Exp)(hq:∀x∈l,PT g (JL x::cs) (.d (.bool (q x))))(hl:l.length≤68719476736):
  PT 107 [.list 5 (l.map JL),.fn (.func g) [] cs] (.d (.bool (l.any q))):=by
 refine ok107.pc ?_;have c:=(JRW l hq hl).call trivial;rw[←JLM];simp only[go_sem,ir107,Vv,Vc,simprocAttr];refine wn c ?_;simp only[go_sem,Vv,Vc,simprocAttr]
def nV(x:Exp):Bool:= !(x.op==1)
def Um(e:Exp):Str:=
 if e.op=2 then e.text
 else match e.args with
  |[]=>[]
  |a::r=>if e.op=25 then(if a.op=2∧r.any nV=false then a.text else[])
   else if 6≤e.op∧e.op≤11 then match r with
    |[]=>[]
    |b::_=>if a.op=2∧b.op=1 then a.text else if a.op=1∧b.op=2 then b.text else[]
   else[]
def arE(e:Exp):Prop:=(e.op=25→1≤e.args.length)∧(6≤e.op→e.op≤11→2≤e.args.length)
theorem walk62(e:Exp)(ha:arE e):PT 62 [JL e] (.d (.str (Um e))):=by
 refine J3.Jg ok62.has fun hfit=>?_
 have hl:=(YI (hfit (JL e) sP)).2.2.1;clear hfit;refine ok62.pc ?_;generalize hT:Um e=T;unfold Um at hT;rw[JF];by_cases h2:e.op=2
 ·rw[if_pos h2]at hT;rw[h2];subst hT;simp only[go_sem,JMI,Vv,Vc,Nat.reduceAdd,Nat.reduceEqDiff,Nat.reduceBEq,Nat.reduceLeDiff,reduceCtorEq,↓reduceIte]
 rw[if_neg h2]at hT;have q2:(e.op==2)=false:=by simp[h2]
 by_cases h25:e.op=25
 ·obtain⟨a,r,har⟩:∃a r,e.args=a::r:=by
   have:=ha.1 h25;cases h:e.args with
   |nil=>rw[h]at this;simp at this
   |cons a r=>exact⟨a,r,rfl⟩
  rw[har]at hT hl;simp only[h25,if_true]at hT;have hx:nth (e.args.map JL) 0=JL a:=by rw[har];rfl
  have hal:e.args.length=r.length+1:=by rw[har];rfl
  have hdr:(e.args.map JL).drop 1=r.map JL:=by rw[har];rfl
  have htk:List.take ((e.args.length:Int)-1).toNat (r.map JL)=r.map JL:=List.take_of_length_le (by rw[hal,Vc];omega);have c1:=(JGv a).call trivial;have c2:=JR.clo (ds:=[.list 5 (r.map JL)]) (JRX (g:=108) (cs:=[.ptr [.fn (.func 106) [] []]]) (q:=nV) r (fun x _=>JRV x) (by simp at hl;omega)) rfl 4;rw[Va,JF]at c1;rw[JF]at hx;have q25:(e.op==25)=true:=by simp[h25]
  have qg:decide (e.op≥6)=true:=sO;have ql:decide (e.op≤11)=false:=sO;simp only[go_sem,JMI,hx,hal,Int.reduceToNat,q2,q25,Vv,Vc,Nat.reduceAdd,Nat.reduceEqDiff,Nat.reduceBEq,Nat.reduceLeDiff,reduceCtorEq,↓reduceIte]
  repeat with_reducible refine And.intro (by first|decide|omega|(simp;done)|(simp;omega)) ?_
  refine wn c1 ?_;simp only[go_sem,Vv,Vc,Nat.reduceAdd,Nat.reduceEqDiff,Nat.reduceBEq,Nat.reduceLeDiff,reduceCtorEq,↓reduceIte];refine sq (!(r.any nV)) ?_ ?_
  ·simp only[go_sem,hdr,Vv,Vc,Nat.reduceAdd,Nat.reduceEqDiff,Nat.reduceBEq,Nat.reduceLeDiff,reduceCtorEq,↓reduceIte]
   repeat with_reducible refine And.intro (by first|decide|omega|(simp;done)|(simp;omega)) ?_
   simp only[Int.toNat_one,hdr,htk];refine wn c2 ?_;simp only[go_sem,Vv,Vc,Nat.reduceAdd,Nat.reduceEqDiff,Nat.reduceBEq,Nat.reduceLeDiff,reduceCtorEq,↓reduceIte]
  simp only[go_sem,Vv,Vc,Nat.reduceAdd,Nat.reduceEqDiff,Nat.reduceBEq,Nat.reduceLeDiff,reduceCtorEq,↓reduceIte];refine JD (fun h=>?_) (fun h=>?_)
  ·simp only[Vi,beq_iff_eq,Bool.not_eq_true']at h;rw[if_pos h]at hT;rw[←hT]
   try simp only[go_sem,hx,hal,Int.reduceToNat,Vv,Vc,Nat.reduceAdd,Nat.reduceEqDiff,Nat.reduceBEq,Nat.reduceLeDiff,reduceCtorEq,↓reduceIte]
   repeat with_reducible refine And.intro (by first|decide|omega|(simp;done)|(simp;omega)) ?_
   try simp only[go_sem,hx,hal,Int.reduceToNat,Vv,Vc,Nat.reduceAdd,Nat.reduceEqDiff,Nat.reduceBEq,Nat.reduceLeDiff,reduceCtorEq,↓reduceIte]
   decide
  rw[if_neg (by rintro⟨a1,a2⟩;rw[a1,a2]at h;exact absurd h dC)]at hT;rw[←hT]
  try simp only[go_sem,qg,ql,Vt,Bool.false_and,Vv,Vc,Nat.reduceAdd,Nat.reduceEqDiff,Nat.reduceBEq,Nat.reduceLeDiff,reduceCtorEq,↓reduceIte]
 by_cases h6:6≤e.op∧e.op≤11
 ·obtain⟨a,b,r,har⟩:∃a b r,e.args=a::b::r:=by
   have:=ha.2 h6.1 h6.2
   match h:e.args with
   |[]=>rw[h]at this;simp at this
   |[a]=>rw[h]at this;simp at this
   |a::b::r=>exact⟨a,b,r,rfl⟩
  rw[har]at hT hl;simp only[h25,if_false,h6,and_self,if_true]at hT;have hx:nth (e.args.map JL) 0=JL a:=by rw[har];rfl
  have hy:nth (e.args.map JL) 1=JL b:=by rw[har];rfl
  have hal:e.args.length=r.length+2:=by rw[har];rfl
  have c1:=(JGv a).call trivial;have c2:=(JGw b).call trivial;have c3:=(JGw a).call trivial;have c4:=(JGv b).call trivial;rw[Va,JF]at c1 c2 c3 c4;rw[JF]at hx hy;have q25:(e.op==25)=false:=by simp[h25]
  have qg:decide (e.op≥6)=true:=sO;have ql:decide (e.op≤11)=true:=sO;simp only[go_sem,JMI,hx,hal,Int.reduceToNat,q2,q25,qg,ql,Vv,Vc,Nat.reduceAdd,Nat.reduceEqDiff,Nat.reduceBEq,Nat.reduceLeDiff,reduceCtorEq,↓reduceIte]
  repeat with_reducible refine And.intro (by first|decide|omega|(simp;done)|(simp;omega)) ?_
  refine wn c1 ?_;simp only[go_sem,Vv,Vc,Nat.reduceAdd,Nat.reduceEqDiff,Nat.reduceBEq,Nat.reduceLeDiff,reduceCtorEq,↓reduceIte];refine sq (b.op==1) ?_ ?_
  ·simp only[go_sem,hy,hal,Int.reduceToNat,Vv,Vc,Nat.reduceAdd,Nat.reduceEqDiff,Nat.reduceBEq,Nat.reduceLeDiff,reduceCtorEq,↓reduceIte]
   repeat with_reducible refine And.intro (by first|decide|omega|(simp;done)|(simp;omega)) ?_
   try simp only[go_sem,hy,hal,Int.reduceToNat,Vv,Vc,Nat.reduceAdd,Nat.reduceEqDiff,Nat.reduceBEq,Nat.reduceLeDiff,reduceCtorEq,↓reduceIte]
   refine wn c2 ?_;simp only[go_sem,Vv,Vc,Nat.reduceAdd,Nat.reduceEqDiff,Nat.reduceBEq,Nat.reduceLeDiff,reduceCtorEq,↓reduceIte]
  simp only[go_sem,Vv,Vc,Nat.reduceAdd,Nat.reduceEqDiff,Nat.reduceBEq,Nat.reduceLeDiff,reduceCtorEq,↓reduceIte];refine JD (fun h=>?_) (fun h=>?_)
  ·simp only[Vi,beq_iff_eq]at h;rw[if_pos h]at hT;rw[←hT]
   try simp only[go_sem,hx,hal,Int.reduceToNat,Vv,Vc,Nat.reduceAdd,Nat.reduceEqDiff,Nat.reduceBEq,Nat.reduceLeDiff,reduceCtorEq,↓reduceIte]
   repeat with_reducible refine And.intro (by first|decide|omega|(simp;done)|(simp;omega)) ?_
   try simp only[go_sem,hx,hal,Int.reduceToNat,Vv,Vc,Nat.reduceAdd,Nat.reduceEqDiff,Nat.reduceBEq,Nat.reduceLeDiff,reduceCtorEq,↓reduceIte]
   decide
  rw[if_neg (by rintro⟨a1,a2⟩;rw[a1,a2]at h;exact absurd h dC)]at hT
  try simp only[go_sem,hx,hal,Int.reduceToNat,qg,ql,Vv,Vc,Nat.reduceAdd,Nat.reduceEqDiff,Nat.reduceBEq,Nat.reduceLeDiff,reduceCtorEq,↓reduceIte]
  repeat with_reducible refine And.intro (by first|decide|omega|(simp;done)|(simp;omega)) ?_
  try simp only[go_sem,hx,hal,Int.reduceToNat,Vv,Vc,Nat.reduceAdd,Nat.reduceEqDiff,Nat.reduceBEq,Nat.reduceLeDiff,reduceCtorEq,↓reduceIte]
  refine wn c3 ?_;simp only[go_sem,Vv,Vc,Nat.reduceAdd,Nat.reduceEqDiff,Nat.reduceBEq,Nat.reduceLeDiff,reduceCtorEq,↓reduceIte];refine sq (b.op==2) ?_ ?_
  ·simp only[go_sem,hy,hal,Int.reduceToNat,Vv,Vc,Nat.reduceAdd,Nat.reduceEqDiff,Nat.reduceBEq,Nat.reduceLeDiff,reduceCtorEq,↓reduceIte]
   repeat with_reducible refine And.intro (by first|decide|omega|(simp;done)|(simp;omega)) ?_
   try simp only[go_sem,hy,hal,Int.reduceToNat,Vv,Vc,Nat.reduceAdd,Nat.reduceEqDiff,Nat.reduceBEq,Nat.reduceLeDiff,reduceCtorEq,↓reduceIte]
   refine wn c4 ?_;simp only[go_sem,Vv,Vc,Nat.reduceAdd,Nat.reduceEqDiff,Nat.reduceBEq,Nat.reduceLeDiff,reduceCtorEq,↓reduceIte]
  simp only[go_sem,Vv,Vc,Nat.reduceAdd,Nat.reduceEqDiff,Nat.reduceBEq,Nat.reduceLeDiff,reduceCtorEq,↓reduceIte];refine JD (fun h=>?_) (fun h=>?_)
  ·simp only[Vi,beq_iff_eq]at h;rw[if_pos h]at hT;rw[←hT]
   try simp only[go_sem,hy,hal,Int.reduceToNat,Vv,Vc,Nat.reduceAdd,Nat.reduceEqDiff,Nat.reduceBEq,Nat.reduceLeDiff,reduceCtorEq,↓reduceIte]
   repeat with_reducible refine And.intro (by first|decide|omega|(simp;done)|(simp;omega)) ?_
   try simp only[go_sem,hy,hal,Int.reduceToNat,Vv,Vc,Nat.reduceAdd,Nat.reduceEqDiff,Nat.reduceBEq,Nat.reduceLeDiff,reduceCtorEq,↓reduceIte]
   decide
  rw[if_neg (by rintro⟨a1,a2⟩;rw[a1,a2]at h;exact absurd h dC)]at hT;rw[←hT]
 have hT':T=[]:=by
  rw[←hT];split
  ·rfl
  ·rw[if_neg h25,if_neg h6]
 rw[hT'];have q25:(e.op==25)=false:=by simp[h25]
 by_cases hg:e.op≥6
 ·have qg:decide (e.op≥6)=true:=sO;have ql:decide (e.op≤11)=false:=sO;simp only[go_sem,JMI,q2,q25,qg,ql,Vv,Vc,Nat.reduceAdd,Nat.reduceEqDiff,Nat.reduceBEq,Nat.reduceLeDiff,reduceCtorEq,↓reduceIte]
 ·have qg:decide (e.op≥6)=false:=sO;simp only[go_sem,JMI,q2,q25,qg,Vv,Vc,Nat.reduceAdd,Nat.reduceEqDiff,Nat.reduceBEq,Nat.reduceLeDiff,reduceCtorEq,↓reduceIte]
def eqO(n:Int):Bool:=(n==6||n==7)||n==25
def JE3(e:Exp)(q:Nat×Typ):Option (Bool×Bool×Nat):=
 if(decide (q.2.kind<1)||decide (q.2.kind>7))=true then none
 else if((q.2.kind==4&&(q.2.words.length:Int)==0&& !eqO e.op)||(e.op==2&&q.2.kind !=1))=true then none else some (false,false,q.1)
noncomputable def U7(t:Typ)(e:Exp):Option (Bool×Bool×Nat):=
 if e.op=1 then some (false,true,0)
 else if e.op=22 then(plO t e.text).map fun q=>(true,false,q.1)
 else if Um e=[]then none else(plO t (Um e)).bind (JE3 e)
def JRY(o:Option (Bool×Bool×Nat))(x:Atm×Bool):Prop:=match o with
 |some q=>x.2=true∧x.1.h=q.1∧x.1.c=q.2.1∧x.1.ch.length=q.2.2
 |none=>x.2=false
theorem JMJ{e:Exp}(h:fits (JL e)):fits (.str (Um e)):=by
 obtain⟨h1,-,-,h4⟩:=YI h;have hs:∀x∈e.args,x.text.length≤68719476736:=fun x hx=>(YI (h4 x hx)).1
 show(Um e).length≤68719476736;unfold Um;split
 ·exact h1
 split
 ·simp
 rename_i a r har;have ha:=hs a (by rw[har];simp);split
 ·split
  ·exact ha
  ·simp
 split
 ·split
  ·simp
  ·rename_i b r';split
   ·exact ha
   split
   ·exact hs b (by rw[har];simp)
   ·simp
 ·simp
theorem ex39a(t:Typ)(e:Exp)(ha:arE e)(hfit:∀d∈[JH t,JL e],fits d):∃x:Atm×Bool,JRY (U7 t e) x∧PT 39 [JH t,JL e] (.tup [.d (ZO x.1),.d (.bool x.2)]):=by
 refine ok39.pex (fun x:Atm×Bool=>.tup [.d (ZO x.1),.d (.bool x.2)]) (fun x=>JRY (U7 t e) x) (Nat.le_of_ble_eq_true rfl) (fun _ _=>by simp[Uv,JT,JN]) ?_;have ft:=hfit (JH t) sP;have fe:=hfit (JL e) sP;clear hfit;have hU:U7 t e=if e.op=1 then some (false,true,0)else if e.op=22 then(plO t e.text).map (fun q=>(true,false,q.1))else if Um e=[]then none else(plO t (Um e)).bind (JE3 e):=rfl;generalize U7 t e=U at*;have c1:=(walk62 e ha).call trivial;have g2:=UW (JJu t e.text) (by
  intro d hd;simp only[VA,List.not_mem_nil,or_false]at hd;rcases hd with rfl|rfl
  ·exact ft
  ·exact(YI fe).1)
 have c2:=c61 t e.text;generalize PA (JJu t e.text)=A2 at g2 c2;have g3:=UW (JJu t (Um e)) (by
  intro d hd;simp only[VA,List.not_mem_nil,or_false]at hd;rcases hd with rfl|rfl
  ·exact ft
  ·exact JMJ fe)
 have c3:=c61 t (Um e);generalize PA (JJu t (Um e))=A3 at g3 c3;have hke:JE3 e=fun q=>if(decide (q.2.kind<1)||decide (q.2.kind>7))=true then none
  else if((q.2.kind==4&&(q.2.words.length:Int)==0&& !eqO e.op)||(e.op==2&&q.2.kind !=1))=true then none else some (false,false,q.1):=by funext q;rfl
 generalize JE3 e=UK at*;generalize Um e=o at*;generalize plO t e.text=P2 at*;generalize plO t o=P3 at*;rw[Va,JF]at c1;rw[JA]at c2 c3;have hno:JRY none (at0,false)∧Av.tup [.d (.agg [.bool false,.bool false,.str [],.list 2 [],.int .i64 0,.int .i64 0,.int .i64 0,.int .i64 0,.list 1 [],.list 7 [],.list 11 []]),.d (.bool false)]=.tup [.d (ZO at0),.d (.bool false)]:=⟨rfl,rfl⟩;rw[JA,JF e];simp only[go_sem,ir39,Vv,Vc,simprocAttr];refine JD (fun h=>?_) (fun h=>?_)
 ·rw[if_pos (sX h)]at hU;rw[hU];exact⟨(⟨false,true,[],[],Y7⟩,true),⟨rfl,rfl,rfl,rfl⟩,rfl⟩
 rw[if_neg (sX h)]at hU
 try simp only[go_sem,Vv,Vc,simprocAttr]
 refine JD (fun h22=>?_) (fun h22=>?_)
 ·rw[if_pos (sX h22)]at hU;refine wn c2 ?_;simp only[go_sem,ZO,Vv,Vc,simprocAttr];rw[hU];refine⟨(⟨true,A2.1.c,A2.1.s,A2.1.ch,A2.1.t⟩,A2.2),?_,by rw[JCr]⟩;cases P2 with
  |none=>exact g2
  |some q=>exact⟨g2.1,rfl,g2.2.2.1,g2.2.2.2.1⟩
 rw[if_neg (sX h22)]at hU
 try simp only[go_sem,Vv,Vc,simprocAttr]
 refine wn c1 ?_;simp only[go_sem,Vv,Vc,simprocAttr];refine JD (fun ho=>?_) (fun ho=>?_)
 ·rw[if_pos (sX ho)]at hU;rw[hU];exact⟨_,hno⟩
 rw[if_neg (sX ho)]at hU
 try simp only[go_sem,Vv,Vc,simprocAttr]
 refine wn c3 ?_;simp only[go_sem,ZO,Vv,Vc,simprocAttr];refine sq (decide (A3.1.t.kind<1)) ?_ ?_
 ·simp only[go_sem,Vv,Vc,simprocAttr]
 simp only[go_sem,Vv,Vc,simprocAttr];refine sq (decide (A3.1.t.kind>7)) ?_ ?_
 ·simp only[go_sem,Vv,Vc,simprocAttr]
 simp only[go_sem,Vv,Vc,simprocAttr];refine JD (fun hk=>?_) (fun hk=>?_)
 ·have:U=none:=by
   rw[hU];cases P3 with
   |none=>rfl
   |some q=>
    obtain⟨a1,a2,a3,a4,a5⟩:=g3;rw[a1,a5]at hk;simp only[Option.bind,hke];rw[if_pos (sX hk)]
  rw[this];exact⟨_,hno⟩
 obtain⟨q,rfl⟩:∃q,P3=some q:=by
  cases P3 with
  |none=>rw[show A3.2=false from g3]at hk;simp at hk
  |some q=>exact⟨q,rfl⟩
 obtain⟨a1,a2,a3,a4,a5⟩:=g3;rw[a1,a5]at hk;rw[a5];simp only[Option.bind,hke]at hU;rw[if_neg (by simp at hk;simp;omega)]at hU
 try simp only[go_sem,Vv,Vc,simprocAttr]
 refine sq (e.op==7) ?_ ?_
 ·simp only[go_sem,Vv,Vc,simprocAttr]
 simp only[go_sem,Vv,Vc,simprocAttr];refine sq (e.op==25) ?_ ?_
 ·simp only[go_sem,Vv,Vc,simprocAttr]
 simp only[go_sem,Vv,Vc,simprocAttr];refine sq ((q.2.words.length:Int)==0) ?_ ?_
 ·simp only[go_sem,Vv,Vc,simprocAttr]
 simp only[go_sem,Vv,Vc,simprocAttr];refine sq (!eqO e.op) ?_ ?_
 ·simp only[go_sem,Vv,Vc,simprocAttr];simp only[eqO]
 simp only[go_sem,Vv,Vc,simprocAttr];refine sq (e.op==2&&q.2.kind !=1) ?_ ?_
 ·simp only[go_sem,Vv,Vc,simprocAttr];refine sq (q.2.kind !=1) ?_ ?_
  ·simp only[go_sem,Vv,Vc,simprocAttr]
  simp only[go_sem,Vv,Vc,simprocAttr]
 simp only[go_sem,Vv,Vc,simprocAttr];refine JD (fun hc=>?_) (fun hc=>?_)
 ·rw[if_pos hc]at hU;rw[hU];exact⟨_,hno⟩
 rw[if_neg (by rw[hc];decide)]at hU;rw[hU]
 try simp only[go_sem,Vv,Vc,simprocAttr]
 exact⟨(⟨A3.1.h,A3.1.c,A3.1.s,A3.1.ch,q.2⟩,true),⟨rfl,a2,a3,a4⟩,by rw[JCr]⟩
theorem JOo(t:Typ)(e:Exp)(ha:arE e):∃x:Atm×Bool,((∀d∈[JH t,JL e],fits d)→JRY (U7 t e) x)∧PT 39 [JH t,JL e] (.tup [.d (ZO x.1),.d (.bool x.2)]):=by
 by_cases hfit:∀d∈[JH t,JL e],fits d
 ·obtain⟨x,h1,h2⟩:=ex39a t e ha hfit;exact⟨x,fun _=>h1,h2⟩
 ·exact⟨(at0,false),fun h=>absurd h hfit,J3.Jg ok39.has fun h=>absurd h hfit⟩
theorem c39(t:Typ)(e:Exp)(ha:arE e):CT 39 [.d (JH t),.d (JL e)] [] (.tup [.d (ZO (PA (JOo t e ha)).1),.d (.bool (PA (JOo t e ha)).2)]) []:=(UQ (JOo t e ha)).call (by simp[Jl])
end Go.Proofs
namespace Go.Proofs
open Go Av
variable {t:Typ}{e:Exp}
def YR(n:Int):Int:=if n<513 then n else 513
def JCF(o:Int):Int:=if o=1 then 2 else if o=2 then 1 else 3
theorem JJv(n:Int):PT 24 [.int .i64 n] (.d (.int .i64 (YR n))):=by
 refine ok24.pc ?_;unfold YR;simp only[go_sem,ir24,Vv,Vc,simprocAttr]
 try simp only[go_sem,Vv,Vc,simprocAttr]
 try (congr 2;split<;>split<;>omega)
theorem walk38(o:Int):PT 38 [.int .i64 o] (.d (.int .i64 (JCF o))):=by
 refine ok38.pc ?_;unfold JCF;simp only[go_sem,ir38,Vv,Vc,simprocAttr];refine JD (fun h=>?_) (fun h=>?_)
 ·rw[if_pos (sX h)]
 rw[if_neg (sX h)]
 try simp only[go_sem,Vv,Vc,simprocAttr]
 refine JD (fun h=>?_) (fun h=>?_)
 ·rw[if_pos (sX h)]
 rw[if_neg (sX h)]
 try simp only[go_sem,Vv,Vc,simprocAttr]
def lfI(o:Int)(v:Int)(u:Option (Bool×Bool×Nat)):Int:=match u with
 |none=>1
 |some q=>if q.2.1=true then(if(o !=3&&((v==1)==(o==1)))=true then 1 else 0)
  else if(q.1&&o==3)=true then 0 else if((q.1&&o==2)||(!q.1&&o==3))=true then(q.2.2:Int)else 1
def v0I(e:Exp):Int:=((e.value[0]?).map Val.int).getD 0
noncomputable def XD:Nat→Typ→Exp→Int→Int
 |0,_,_,_=>0
 |k+1,t,e,o=>match e.args with
  |[]=>lfI o (v0I e) (U7 t e)
  |a::r=>if e.op=3 then XD k t a (JCF o)
   else match r with
    |[]=>lfI o (v0I e) (U7 t e)
    |b::_=>if e.op=4∨e.op=5 then(let on:=if e.op=5 then 2 else 1;let ab:=YR (XD k t a on*XD k t b o);if o=on then ab else YR (XD k t a o+ab))else lfI o (v0I e) (U7 t e)
theorem JCG{n:Int}(h:0≤n):0≤YR n∧YR n≤513:=by unfold YR;split<;>omega
theorem JJw:∀(l:List Part) (t:Typ) (n:Nat) (q:Nat×Typ),chS t l n=some q→q.1≤n+l.length
 |[],t,n,q,h=>by cases h;simp
 |p::r,t,n,q,h=>by
  rw[chS]at h;split at h
  ·have:=JJw r _ _ q h;have:opN t p≤1:=by unfold opN;split<;>(try split)<;>omega
   simp only[Vf];omega
  ·cases h
theorem JJx{s:Str}{q:Nat×Typ}(h:plO t s=some q):q.1≤16:=by
 unfold plO at h;split at h
 ·have:=JJw _ _ _ _ h;have:=YY s;omega
 ·cases h
theorem JRZ{q:Bool×Bool×Nat}(h:U7 t e=some q):q.2.2≤16:=by
 unfold U7 at h;split at h
 ·cases h;simp
 split at h
 ·cases hp:plO t e.text with
  |none=>rw[hp]at h;cases h
  |some y=>rw[hp]at h;cases h;exact JJx hp
 split at h
 ·cases h
 ·cases hp:plO t (Um e)with
  |none=>rw[hp]at h;cases h
  |some y=>
   rw[hp]at h;simp only[Option.bind,JE3]at h;split at h
   ·cases h
   split at h
   ·cases h
   ·cases h;exact JJx hp
theorem lfI_bd(o v:Int){u:Option (Bool×Bool×Nat)}(hu:∀q,u=some q→q.2.2≤16):0≤lfI o v u∧lfI o v u≤16:=by
 unfold lfI;split
 ·omega
 ·rename_i q;have:=hu q rfl
  repeat' split
  all_goals omega
theorem Xg:∀(k:Nat) (t:Typ) (e:Exp) (o:Int),0≤XD k t e o∧XD k t e o≤513
 |0,t,e,o=>by rw[XD];omega
 |k+1,t,e,o=>by
  have hl:=lfI_bd o (v0I e) (u:=U7 t e) fun q h=>JRZ h
  rw[XD];split
  ·omega
  rename_i a r _;split
  ·exact Xg k t a _
  split
  ·omega
  rename_i b tl _;split
  ·simp only;generalize(if e.op=5 then(2:Int)else 1)=on;have h1:=Xg k t a on;have h2:=Xg k t b o;have h3:=Xg k t a o;have h4:=JCG (Int.mul_nonneg h1.1 h2.1);split
   ·exact h4
   ·exact JCG oM
  ·omega
theorem JGx(h:JBR e=0):arE e:=by
 obtain⟨_,h2,_,_⟩:=JCq h;refine⟨fun h25=>?_,fun h6 h11=>?_⟩
 ·rw[h25]at h2;have:(Jb 25).1=2:=dC;omega
 ·have:e.op=6∨e.op=7∨e.op=8∨e.op=9∨e.op=10∨e.op=11:=oM;have:(Jb e.op).1=2:=by rcases this with h|h|h|h|h|h<;>rw[h]<;>decide
  omega
theorem undS_c{q:Bool×Bool×Nat}(h:U7 t e=some q)(hc:q.2.1=true):e.op=1:=by
 unfold U7 at h;split at h
 ·assumption
 split at h
 ·cases hp:plO t e.text with
  |none=>rw[hp]at h;cases h
  |some y=>rw[hp]at h;cases h;cases hc
 split at h
 ·cases h
 ·cases hp:plO t (Um e)with
  |none=>rw[hp]at h;cases h
  |some y=>
   rw[hp]at h;simp only[Option.bind,JE3]at h;split at h
   ·cases h
   split at h
   ·cases h
   ·cases h;cases hc
theorem JE4{n:Int}(h0:0≤n)(h1:n≤1000000):IntKind.i64.wrap n=n:=wrap64 oM oM
theorem JGy{a b:Int}(ha:0≤a∧a≤513)(hb:0≤b∧b≤513):0≤a*b∧a*b≤263169:=by
 refine⟨Int.mul_nonneg ha.1 hb.1,?_⟩;have:a*b≤513*513:=Int.mul_le_mul ha.2 hb.2 hb.1 oM;omega
theorem JGz:∀(k:Nat) (n:Int) (e:Exp),(eF k n e).1=0→∀(t:Typ) (o:Int),PT 25 [JH t,JL e,.int .i64 o] (.d (.int .i64 (XD k t e o)))
 |0,n,e,h,_,_=>by
  have:=(JE2 h).2;obtain⟨j,hj,_⟩:=this;omega
 |k+1,n,e,h,t,o=>by
  obtain⟨h1,j,hj,ha⟩:=JE2 h;obtain rfl:k=j:=oM;refine J3.Jg ok25.has fun hfit=>?_
  refine ok25.pc ?_;obtain⟨-,h2,-,h4⟩:=JCq h1;have hlf:XD (k+1) t e o=match e.args with
   |[]=>lfI o (v0I e) (U7 t e)
   |a::r=>if e.op=3 then XD k t a (JCF o)
    else match r with
     |[]=>lfI o (v0I e) (U7 t e)
     |b::_=>if e.op=4∨e.op=5 then(let on:=if e.op=5 then 2 else 1;let ab:=YR (XD k t a on*XD k t b o);if o=on then ab else YR (XD k t a o+ab))else lfI o (v0I e) (U7 t e):=rfl
  generalize XD (k+1) t e o=R at hlf;have g:=UW (JOo t e (JGx h1)) (by
   intro d hd;simp only[VA,List.not_mem_nil,or_false]at hd;rcases hd with rfl|rfl
   ·exact hfit _ sP
   ·exact hfit _ sP)
  have cu:=c39 t e (JGx h1);clear hfit;generalize PA (JOo t e (JGx h1))=A at g cu;by_cases h3:e.op=3
  ·have:1≤e.args.length:=by
    rw[h3]at h2;have:(Jb 3).1=1:=dC;omega
   obtain⟨a,r,har⟩:∃a r,e.args=a::r:=by
    cases hh:e.args with
    |nil=>rw[hh]at this;simp at this
    |cons a r=>exact⟨a,r,rfl⟩
   rw[har]at hlf;simp only[h3,if_true]at hlf;obtain⟨m,hm⟩:=ha a (by rw[har];simp);have cf:=(walk38 o).call trivial;have c:=(JGz k m a hm t (JCF o)).call trivial;have hx:nth (e.args.map JL) 0=JL a:=by rw[har];rfl
   have hal:e.args.length=r.length+1:=by rw[har];rfl
   rw[JF]at hx;rw[Va,Va,JA,JF]at c;have q3:(e.op==3)=true:=by simp[h3]
   rw[JA,JF e];simp only[go_sem,JOn,q3,hx,hal,Int.reduceToNat,Vv,Vc,Nat.reduceAdd,Nat.reduceEqDiff,Nat.reduceBEq,Nat.reduceLeDiff,reduceCtorEq,↓reduceIte]
   repeat with_reducible refine And.intro (by first|decide|omega|(simp;done)|(simp;omega)) ?_
   refine JE rfl cf trivial ?_;simp only[go_sem,Vv,Vc,Nat.reduceAdd,Nat.reduceEqDiff,Nat.reduceBEq,Nat.reduceLeDiff,reduceCtorEq,↓reduceIte];refine JE rfl c trivial ?_;simp only[go_sem,Vv,Vc,Nat.reduceAdd,Nat.reduceEqDiff,Nat.reduceBEq,Nat.reduceLeDiff,reduceCtorEq,↓reduceIte]
   repeat with_reducible refine And.intro (by first|decide|omega|(simp;done)|(simp;omega)) ?_
   rw[hlf]
  have q3:(e.op==3)=false:=by simp[h3]
  by_cases h45:e.op=4∨e.op=5
  ·have:2≤e.args.length:=by
    have:(Jb e.op).1=2:=by rcases h45 with h|h<;>rw[h]<;>decide
    omega
   obtain⟨a,b,r,har⟩:∃a b r,e.args=a::b::r:=by
    match hh:e.args with
    |[]=>rw[hh]at this;simp at this
    |[a]=>rw[hh]at this;simp at this
    |a::b::r=>exact⟨a,b,r,rfl⟩
   rw[har]at hlf;simp only[h3,if_false,h45,if_true]at hlf;obtain⟨m,hm⟩:=ha a (by rw[har];simp);obtain⟨m2,hm2⟩:=ha b (by rw[har];simp);have hx:nth (e.args.map JL) 0=JL a:=by rw[har];rfl
   have hy:nth (e.args.map JL) 1=JL b:=by rw[har];rfl
   have hal:e.args.length=r.length+2:=by rw[har];rfl
   rw[JF]at hx hy;have c1:=fun on=>(JGz k m a hm t on).call trivial
   have c2:=(JGz k m2 b hm2 t o).call trivial;have b1:=fun on=>Xg k t a on
   have b2:=Xg k t b o;simp only[Va,Vb,JA,JF a]at c1;simp only[Va,Vb,JA,JF b]at c2;generalize XD k t b o=y at*;generalize XD k t a=X at*;have m1:=fun on=>JGy (b1 on) b2
   have w1:∀on,IntKind.i64.wrap (X on*y)=X on*y:=fun on=>JE4 (m1 on).1 (by have:=(m1 on).2;omega)
   have w2:∀on,IntKind.i64.wrap (X o+YR (X on*y))=X o+YR (X on*y):=fun on=>JE4 (by have:=(JCG (m1 on).1).1;have:=(b1 o).1;omega) (by have:=(JCG (m1 on).1).2;have:=(b1 o).2;omega)
   have cf:=fun on=>(JJv (X on*y)).call trivial
   have cf2:=fun on=>(JJv (X o+YR (X on*y))).call trivial
   rw[JA,JF e];by_cases h5:e.op=5
   ·have q4:(e.op==4)=false:=by simp[h5]
    have q5:(e.op==5)=true:=by simp[h5]
    simp only[h5,if_true]at hlf;simp only[go_sem,JOn,q3,q4,q5,hx,hy,hal,Int.reduceToNat,Vv,Vc,Nat.reduceAdd,Nat.reduceEqDiff,Nat.reduceBEq,Nat.reduceLeDiff,reduceCtorEq,↓reduceIte]
    repeat with_reducible refine And.intro (by first|decide|omega|(simp;done)|(simp;omega)) ?_
    refine JE rfl (c1 2) trivial ?_;simp only[go_sem,hx,hy,hal,Int.reduceToNat,Vv,Vc,Nat.reduceAdd,Nat.reduceEqDiff,Nat.reduceBEq,Nat.reduceLeDiff,reduceCtorEq,↓reduceIte]
    repeat with_reducible refine And.intro (by first|decide|omega|(simp;done)|(simp;omega)) ?_
    try simp only[go_sem,hx,hy,hal,Int.reduceToNat,Vv,Vc,Nat.reduceAdd,Nat.reduceEqDiff,Nat.reduceBEq,Nat.reduceLeDiff,reduceCtorEq,↓reduceIte]
    refine JE rfl c2 trivial ?_;simp only[go_sem,Vv,Vc,Nat.reduceAdd,Nat.reduceEqDiff,Nat.reduceBEq,Nat.reduceLeDiff,reduceCtorEq,↓reduceIte]
    repeat with_reducible refine And.intro (by first|decide|omega|(simp;done)|(simp;omega)) ?_
    refine JD (fun ho=>?_) (fun ho=>?_)
    ·rw[if_pos (sX ho)]at hlf
     try simp only[go_sem,w1,Vv,Vc,Nat.reduceAdd,Nat.reduceEqDiff,Nat.reduceBEq,Nat.reduceLeDiff,reduceCtorEq,↓reduceIte]
     refine wn (cf 2) ?_;simp only[go_sem,Vv,Vc,Nat.reduceAdd,Nat.reduceEqDiff,Nat.reduceBEq,Nat.reduceLeDiff,reduceCtorEq,↓reduceIte];rw[hlf]
    rw[if_neg (sX ho)]at hlf
    try simp only[go_sem,hx,hy,hal,Int.reduceToNat,Vv,Vc,Nat.reduceAdd,Nat.reduceEqDiff,Nat.reduceBEq,Nat.reduceLeDiff,reduceCtorEq,↓reduceIte]
    repeat with_reducible refine And.intro (by first|decide|omega|(simp;done)|(simp;omega)) ?_
    try simp only[go_sem,hx,hy,hal,Int.reduceToNat,Vv,Vc,Nat.reduceAdd,Nat.reduceEqDiff,Nat.reduceBEq,Nat.reduceLeDiff,reduceCtorEq,↓reduceIte]
    refine wn (c1 o) ?_;simp only[go_sem,w1,Vv,Vc,Nat.reduceAdd,Nat.reduceEqDiff,Nat.reduceBEq,Nat.reduceLeDiff,reduceCtorEq,↓reduceIte];refine wn (cf 2) ?_;simp only[go_sem,w2,Vv,Vc,Nat.reduceAdd,Nat.reduceEqDiff,Nat.reduceBEq,Nat.reduceLeDiff,reduceCtorEq,↓reduceIte];refine wn (cf2 2) ?_;simp only[go_sem,Vv,Vc,Nat.reduceAdd,Nat.reduceEqDiff,Nat.reduceBEq,Nat.reduceLeDiff,reduceCtorEq,↓reduceIte];rw[hlf]
   ·have q4:(e.op==4)=true:=sO;have q5:(e.op==5)=false:=by simp[h5]
    simp only[h5,if_false]at hlf;simp only[go_sem,JOn,q3,q4,q5,hx,hy,hal,Int.reduceToNat,Vv,Vc,Nat.reduceAdd,Nat.reduceEqDiff,Nat.reduceBEq,Nat.reduceLeDiff,reduceCtorEq,↓reduceIte]
    repeat with_reducible refine And.intro (by first|decide|omega|(simp;done)|(simp;omega)) ?_
    refine JE rfl (c1 1) trivial ?_;simp only[go_sem,hx,hy,hal,Int.reduceToNat,Vv,Vc,Nat.reduceAdd,Nat.reduceEqDiff,Nat.reduceBEq,Nat.reduceLeDiff,reduceCtorEq,↓reduceIte]
    repeat with_reducible refine And.intro (by first|decide|omega|(simp;done)|(simp;omega)) ?_
    try simp only[go_sem,hx,hy,hal,Int.reduceToNat,Vv,Vc,Nat.reduceAdd,Nat.reduceEqDiff,Nat.reduceBEq,Nat.reduceLeDiff,reduceCtorEq,↓reduceIte]
    refine JE rfl c2 trivial ?_;simp only[go_sem,Vv,Vc,Nat.reduceAdd,Nat.reduceEqDiff,Nat.reduceBEq,Nat.reduceLeDiff,reduceCtorEq,↓reduceIte]
    repeat with_reducible refine And.intro (by first|decide|omega|(simp;done)|(simp;omega)) ?_
    refine JD (fun ho=>?_) (fun ho=>?_)
    ·rw[if_pos (sX ho)]at hlf
     try simp only[go_sem,w1,Vv,Vc,Nat.reduceAdd,Nat.reduceEqDiff,Nat.reduceBEq,Nat.reduceLeDiff,reduceCtorEq,↓reduceIte]
     refine wn (cf 1) ?_;simp only[go_sem,Vv,Vc,Nat.reduceAdd,Nat.reduceEqDiff,Nat.reduceBEq,Nat.reduceLeDiff,reduceCtorEq,↓reduceIte];rw[hlf]
    rw[if_neg (sX ho)]at hlf
    try simp only[go_sem,hx,hy,hal,Int.reduceToNat,Vv,Vc,Nat.reduceAdd,Nat.reduceEqDiff,Nat.reduceBEq,Nat.reduceLeDiff,reduceCtorEq,↓reduceIte]
    repeat with_reducible refine And.intro (by first|decide|omega|(simp;done)|(simp;omega)) ?_
    try simp only[go_sem,hx,hy,hal,Int.reduceToNat,Vv,Vc,Nat.reduceAdd,Nat.reduceEqDiff,Nat.reduceBEq,Nat.reduceLeDiff,reduceCtorEq,↓reduceIte]
    refine wn (c1 o) ?_;simp only[go_sem,w1,Vv,Vc,Nat.reduceAdd,Nat.reduceEqDiff,Nat.reduceBEq,Nat.reduceLeDiff,reduceCtorEq,↓reduceIte];refine wn (cf 1) ?_;simp only[go_sem,w2,Vv,Vc,Nat.reduceAdd,Nat.reduceEqDiff,Nat.reduceBEq,Nat.reduceLeDiff,reduceCtorEq,↓reduceIte];refine wn (cf2 1) ?_;simp only[go_sem,Vv,Vc,Nat.reduceAdd,Nat.reduceEqDiff,Nat.reduceBEq,Nat.reduceLeDiff,reduceCtorEq,↓reduceIte];rw[hlf]
  have q4:(e.op==4)=false:=sO;have q5:(e.op==5)=false:=sO;have hlf2:R=lfI o (v0I e) (U7 t e):=by
   rw[hlf];split
   ·rfl
   rw[if_neg h3];split
   ·rfl
   rw[if_neg h45]
  rw[JA,JF e]at cu;rw[JA,JF e];simp only[go_sem,JOn,q3,q4,q5,Vv,Vc,Nat.reduceAdd,Nat.reduceEqDiff,Nat.reduceBEq,Nat.reduceLeDiff,reduceCtorEq,↓reduceIte];refine wn cu ?_;simp only[go_sem,ZO,Vv,Vc,Nat.reduceAdd,Nat.reduceEqDiff,Nat.reduceBEq,Nat.reduceLeDiff,reduceCtorEq,↓reduceIte];cases hu:U7 t e with
  |none=>
   rw[hu]at g hlf2;have ga:A.2=false:=g;rw[hlf2,ga];simp only[go_sem,lfI,Vv,Vc,Nat.reduceAdd,Nat.reduceEqDiff,Nat.reduceBEq,Nat.reduceLeDiff,reduceCtorEq,↓reduceIte];exact⟨fun _=>trivial,fun h=>by cases h⟩
  |some q=>
   have hc:=undS_c hu;rw[hu]at g hlf2;obtain⟨a1,a2,a3,a4⟩:=g;simp only[lfI]at hlf2;rw[a1,a2,a3];refine JD (fun h=>by cases h) (fun _=>?_);refine JD (fun h1=>?_) (fun h1=>?_)
   ·rw[if_pos h1]at hlf2;obtain⟨v,vs,hv,-⟩:=h4 (hc h1);have hx:nth (e.value.map JM) 0=JM v:=by rw[hv];rfl
    have hal:e.value.length=vs.length+1:=by rw[hv];rfl
    have h0:v0I e=v.int:=by rw[v0I,hv];rfl
    rw[JI]at hx;rw[h0]at hlf2;refine sq ((v.int==1)==(o==1)) ?_ ?_
    ·simp only[go_sem,hx,hal,Int.reduceToNat,Vv,Vc,Nat.reduceAdd,Nat.reduceEqDiff,Nat.reduceBEq,Nat.reduceLeDiff,reduceCtorEq,↓reduceIte]
     repeat with_reducible refine And.intro (by first|decide|omega|(simp;done)|(simp;omega)) ?_
     try simp only[go_sem,hx,hal,Int.reduceToNat,Vv,Vc,Nat.reduceAdd,Nat.reduceEqDiff,Nat.reduceBEq,Nat.reduceLeDiff,reduceCtorEq,↓reduceIte]
     decide
    simp only[go_sem,Vv,Vc,Nat.reduceAdd,Nat.reduceEqDiff,Nat.reduceBEq,Nat.reduceLeDiff,reduceCtorEq,↓reduceIte];refine JD (fun h=>?_) (fun h=>?_)
    ·rw[hlf2,if_pos h]
    ·rw[hlf2,if_neg (by rw[h];decide)]
   rw[if_neg (by rw[h1];decide)]at hlf2
   try simp only[go_sem,Vv,Vc,Nat.reduceAdd,Nat.reduceEqDiff,Nat.reduceBEq,Nat.reduceLeDiff,reduceCtorEq,↓reduceIte]
   refine sq (o==3) ?_ ?_
   ·simp only[go_sem,Vv,Vc,Nat.reduceAdd,Nat.reduceEqDiff,Nat.reduceBEq,Nat.reduceLeDiff,reduceCtorEq,↓reduceIte]
   simp only[go_sem,Vv,Vc,Nat.reduceAdd,Nat.reduceEqDiff,Nat.reduceBEq,Nat.reduceLeDiff,reduceCtorEq,↓reduceIte];refine JD (fun h=>?_) (fun h=>?_)
   ·rw[hlf2,if_pos h]
   rw[if_neg (by rw[h];decide)]at hlf2
   try simp only[go_sem,Vv,Vc,Nat.reduceAdd,Nat.reduceEqDiff,Nat.reduceBEq,Nat.reduceLeDiff,reduceCtorEq,↓reduceIte]
   refine sq (o==2) ?_ ?_
   ·simp only[go_sem,Vv,Vc,Nat.reduceAdd,Nat.reduceEqDiff,Nat.reduceBEq,Nat.reduceLeDiff,reduceCtorEq,↓reduceIte]
   simp only[go_sem,Vv,Vc,Nat.reduceAdd,Nat.reduceEqDiff,Nat.reduceBEq,Nat.reduceLeDiff,reduceCtorEq,↓reduceIte];refine sq (!q.1&&o==3) ?_ ?_
   ·simp only[go_sem,Vv,Vc,Nat.reduceAdd,Nat.reduceEqDiff,Nat.reduceBEq,Nat.reduceLeDiff,reduceCtorEq,↓reduceIte];refine sq (o==3) ?_ ?_
    ·simp only[go_sem,Vv,Vc,Nat.reduceAdd,Nat.reduceEqDiff,Nat.reduceBEq,Nat.reduceLeDiff,reduceCtorEq,↓reduceIte]
    simp only[go_sem,Vv,Vc,Nat.reduceAdd,Nat.reduceEqDiff,Nat.reduceBEq,Nat.reduceLeDiff,reduceCtorEq,↓reduceIte]
   simp only[go_sem,Vv,Vc,Nat.reduceAdd,Nat.reduceEqDiff,Nat.reduceBEq,Nat.reduceLeDiff,reduceCtorEq,↓reduceIte];refine JD (fun h=>?_) (fun h=>?_)
   ·rw[hlf2,if_pos h,a4]
   ·rw[hlf2,if_neg (by rw[h];decide)]
end Go.Proofs
namespace Go.Proofs
open Go Av
structure Dem where
 e:Exp
 o:Int
def J1(d:Dem):Dat:=.agg [.int .i64 d.e.op,.int .i64 d.e.int,.str d.e.text,.list 6 (d.e.value.map JM),.list 5 (d.e.args.map JL),.int .i64 d.o]
theorem ZP{l:List Dem}{k:Nat}(h:k<l.length):nth (l.map J1) k=J1 l[k]:=Yz J1 h
def dmB(d:Dem):Bool:=decide (d.o<1)||decide (d.o>3)
theorem walk21(d:Dem):PT 21 [J1 d] (.d (.bool (dmB d))):=by
 refine ok21.pc ?_;unfold dmB;simp only[go_sem,ir21,J1,Vv,Vc,simprocAttr];refine sq (decide (d.o>3)) ?_ ?_
 ·simp only[go_sem,Vv,Vc,simprocAttr]
 simp only[go_sem,Vv,Vc,simprocAttr]
theorem walk32{g:Nat}{cs:List Dat}{q:Dem→Bool}(l:List Dem)(hq:∀x∈l,PT g (J1 x::cs) (.d (.bool (q x))))(hl:l.length≤68719476736):
  PT 32 [.list 6 (l.map J1),.fn (.func g) [] cs] (.d (.int .i64 (ixQ q l))):=by
 refine ok32.pc ?_;simp only[go_sem,ir32,Vv,Vc,simprocAttr];refine JJ (fun n s=>∃k:Nat,k≤l.length∧n=l.length-k∧(∀(j:Nat) (h1:j<l.length),j<k→q l[j]=false)∧
  s=⟨[(0,.d (.list 6 (l.map J1))),(1,.d (.fn (.func g) [] cs)),(7,.d (.int .i64 l.length)),(8,.d (.int .i64 k))],[]⟩) ?_ ?_
 ·refine⟨_,_,Wk.less ?_,0,Nat.zero_le _,rfl,sP,rfl⟩;simp[go_sem]
 ·rintro n s ⟨k,hk,rfl,hinv,rfl⟩;by_cases hlt:k<l.length
  ·have hx:=ZP hlt;have hd:=dT hlt;have hc:=(hq l[k] (Vk _)).call trivial;rw[Va]at hc;simp only[J1]at hc hx;refine zz6 ?_
   repeat with_reducible refine And.intro (by first|decide|omega|(simp;done)|(simp;omega)) ?_
   refine wn hc ?_;simp only[go_sem,Vv,Vc,simprocAttr];refine JD (fun hf=>?_) (fun hf=>?_)
   ·rw[JIi hlt hf hinv]
   ·try simp only[go_sem,Vv,Vc,simprocAttr]
    refine⟨l.length-(k+1),_,oM,Wk.less ?_,k+1,oM,rfl,fun j h1 hj=>?_,rfl⟩
    ·simp[go_sem,JS k oM]
    ·by_cases e:j=k
     ·subst e;exact hf
     ·exact hinv j h1 oM
  ·have hd:=dF hlt;simp only[go_sem,hd,Vv,Vc,simprocAttr];rw[JIj (fun j h=>hinv j h oM)]
theorem walk20{g:Nat}{cs:List Dat}{q:Dem→Bool}(l:List Dem)(hq:∀x∈l,PT g (J1 x::cs) (.d (.bool (q x))))(hl:l.length≤68719476736):
  PT 20 [.list 6 (l.map J1),.fn (.func g) [] cs] (.d (.bool (l.any q))):=by
 refine ok20.pc ?_;have c:=(walk32 l hq hl).call trivial;rw[←JLM];simp only[go_sem,ir20,Vv,Vc,simprocAttr];refine wn c ?_;simp only[go_sem,Vv,Vc,simprocAttr]
noncomputable def JAU(t:Typ)(l:List Dem):Int:=l.foldl (fun n d=>YR (n*XD 8 t d.e d.o)) 1
theorem JLN(t:Typ):∀l:List Dem,0≤JAU t l∧JAU t l≤513:=by
 intro l;have:∀(l:List Dem) (n:Int),0≤n→n≤513→0≤l.foldl (fun n d=>YR (n*XD 8 t d.e d.o)) n∧l.foldl (fun n d=>YR (n*XD 8 t d.e d.o)) n≤513:=by
  intro l
  induction l with
  |nil=>intro n h0 h1;exact⟨h0,h1⟩
  |cons d r ih=>
   intro n h0 h1;have:=JCG (Int.mul_nonneg h0 (Xg 8 t d.e d.o).1);exact ih _ this.1 this.2
 exact this l 1 oM oM
theorem JF4{t:Typ}{l:List Dem}{k:Nat}(h:k<l.length):JAU t (l.take (k+1))=YR (JAU t (l.take k)*XD 8 t l[k].e l[k].o):=by
 rw[List.take_succ_eq_append_getElem h];simp only[JAU,List.foldl_append,List.foldl_cons,List.foldl_nil]
theorem walk10(t:Typ)(l:List Dem)(hx:∀d∈l,JGq d.e=0):PT 10 [JH t,.list 6 (l.map J1)] (.d (.int .i64 (JAU t l))):=by
 refine J3.Jg ok10.has fun hfit=>?_
 have hl:l.length≤68719476736:=by have:=(hfit (.list 6 (l.map J1)) sP).1;simpa using this
 clear hfit;refine ok10.pc ?_;rw[JA];simp only[go_sem,ir10,Vv,Vc,simprocAttr];refine JJ (fun n s=>∃k:Nat,k≤l.length∧n=l.length-k∧s=⟨[(2,.ref 2 0),(5,.d (.int .i64 (JAU t (l.take k)))),(8,.d (.list 6 (l.map J1))),(9,.d (.int .i64 l.length)),(10,.d (.int .i64 k))],[(2,.box (tC t))]⟩) ?_ ?_
 ·refine⟨_,_,Wk.less ?_,0,Nat.zero_le _,rfl,rfl⟩;simp[go_sem,tC,JAU]
 ·rintro n s ⟨k,hk,rfl,rfl⟩;by_cases hlt:k<l.length
  ·have hxx:=ZP hlt;have hd:=dT hlt;have hn:=JF4 (t:=t) hlt;have b1:=JLN t (l.take k);have b2:=Xg 8 t l[k].e l[k].o;have m1:=JGy b1 b2;have c1:=(JGz 8 0 l[k].e (hx _ (Vk hlt)) t l[k].o).call trivial;have c2:=(JJv (JAU t (l.take k)*XD 8 t l[k].e l[k].o)).call trivial;have w:=JE4 m1.1 oM;rw[Va,Va,JA,JF]at c1;simp only[J1]at hxx;simp only[go_sem,hxx,hd,tC,Vv,Vc,simprocAttr]
   repeat with_reducible refine And.intro (by first|decide|omega|(simp;done)|(simp;omega)) ?_
   refine wn c1 ?_;simp only[go_sem,w,Vv,Vc,simprocAttr];refine wn c2 ?_;simp only[go_sem,Vv,Vc,simprocAttr];refine⟨l.length-(k+1),_,oM,Wk.less ?_,k+1,oM,rfl,rfl⟩;rw[hn];simp[go_sem,tC,JS k oM]
  ·have hd:=dF hlt;rw[List.take_of_length_le oM];simp only[go_sem,hd,tC,Vv,Vc,simprocAttr]
end Go.Proofs
namespace Go.Proofs
open Go Av
open Go.Proofs.YtfioheedknfjnaaGreatDoor.Rows (uptoBulk uptoBulkAll)
theorem qc3:Tryz.prog.cellsOf 3=1:=kR
theorem qc9:Tryz.prog.cellsOf 9=1:=kR
theorem qc22:Tryz.prog.cellsOf 22=1:=kR
theorem qc23:Tryz.prog.cellsOf 23=1:=kR
theorem qc24:Tryz.prog.cellsOf 24=1:=kR
theorem qc26:Tryz.prog.cellsOf 26=7:=kR
theorem qc38:Tryz.prog.cellsOf 38=1:=kR
theorem qc39:Tryz.prog.cellsOf 39=1:=kR
theorem JOp:Tryz.prog.cellsOf 41=6:=kR
theorem qc44:Tryz.prog.cellsOf 44=1:=kR
theorem qc46:Tryz.prog.cellsOf 46=5:=kR
theorem qc49:Tryz.prog.cellsOf 49=6:=kR
theorem qc65:Tryz.prog.cellsOf 65=11:=kR
theorem qc72:Tryz.prog.cellsOf 72=7:=kR
theorem JJy(a:Val):(JM a).cells.length=6:=by rw[JI];rfl
theorem encF_l(a:Fld):(UP a).cells.length=7:=by rw[Xc];rfl
theorem encE_l(a:Exp):(JL a).cells.length=5:=by rw[JF];rfl
theorem encT_l(a:Typ):(JH a).cells.length=7:=by rw[JA];rfl
theorem encG_l(a:TFl):(Jn a).cells.length=11:=by rw[Jw];rfl
section
variable {H:Type}{enc:TypeId×Value→H}{w:World}{base:Nat}{spare:Nat→Bool}{held:Bool}
theorem fl9{fs:Array Field}{n:Nat}{cs:List Value}{xs:List (DataW H×List MemPlace)}
  (hf:∀(i:Nat) (f:Field),fs[i]? =some f→DataW.trod enc Tryz.prog w base spare held n f.type ((cs.drop f.offset).take (Tryz.prog.cellsOf f.type))=xs[i]?)
  (i:Nat)(t off:Nat){k:Nat}(hi:(fs[i]?).map (fun f=>(f.type,f.offset))=some (t,off))(hc:Tryz.prog.cellsOf t=k):DataW.trod enc Tryz.prog w base spare held n t ((cs.drop off).take k)=xs[i]? :=by
 cases e:fs[i]? with
 |none=>rw[e]at hi;cases hi
 |some f=>
  rw[e]at hi;simp only[Vj,Vd,Ve]at hi;have:=hf i f e;rw[hi.1,hi.2,hc]at this;exact this
theorem rd_41(fuel:Nat):∀(cs:List Value) (x:DataW H×List MemPlace),DataW.trod enc Tryz.prog w base spare held fuel 41 cs=some x→uptoBulk x.1≤1048576→∃a:Val,CR (old w) w (JM a).cells cs:=by
 induction fuel using Nat.strongRecOn with
 |_ fuel ih=>
  intro csn x hn hbn;obtain⟨xs,n',rfl,rfl,hl,hlen,hf⟩:=DataW.trod_struct Tryz.underlying41 hn;rw[JOp]at hl;have h0:=fl9 hf 0 3 0 rfl qc3;have h1:=fl9 hf 1 3 1 rfl qc3;have h2:=fl9 hf 2 3 2 rfl qc3;have h3:=fl9 hf 3 9 3 rfl qc9;have h4:=fl9 hf 4 38 4 rfl qc38;have h5:=fl9 hf 5 39 5 rfl qc39
  match xs,hlen,csn,hl with
  |[y0,y1,y2,y3,y4,y5],_,[a0,a1,a2,a3,a4,a5],_=>
   simp only[Va,Vb,uptoBulk,uptoBulkAll]at hbn;obtain⟨z0,g0⟩:=YH Tryz.underlying3 (show DataW.trod enc Tryz.prog w base spare held n' 3 [a0]=some y0 from h0);obtain⟨z1,g1⟩:=YH Tryz.underlying3 (show DataW.trod enc Tryz.prog w base spare held n' 3 [a1]=some y1 from h1);obtain⟨z2,g2⟩:=YH Tryz.underlying3 (show DataW.trod enc Tryz.prog w base spare held n' 3 [a2]=some y2 from h2);obtain⟨z3,_,g3⟩:=JEN Tryz.underlying9 (show DataW.trod enc Tryz.prog w base spare held n' 9 [a3]=some y3 from h3) oM;obtain⟨z4,_,_,g4⟩:=Xb (encA:=JM) (ok:=fun _=>True) Tryz.underlying38 JOp dC JJy (show DataW.trod enc Tryz.prog w base spare held n' 38 [a4]=some y4 from h4) oM (fun m cs' y hm hy hyb=>by
    obtain⟨v,g⟩:=ih m oM cs' y hy hyb;exact⟨v,trivial,g⟩)
   obtain⟨z5,_,_,g5⟩:=Xb (encA:=UP) (ok:=fun _=>True) Tryz.underlying39 qc72 dC encF_l (show DataW.trod enc Tryz.prog w base spare held n' 39 [a5]=some y5 from h5) oM (fun m csm y hlt hm hbm=>by
    obtain⟨xs,m',rfl,rfl,hl,hlen,hf⟩:=DataW.trod_struct Tryz.underlying72 hm;rw[qc72]at hl;have h0:=fl9 hf 0 9 0 rfl qc9;have h1:=fl9 hf 1 41 1 rfl JOp
    match xs,hlen,csm,hl with
    |[y0,y1],_,[a0,a1,a2,a3,a4,a5,a6],_=>
     simp only[Va,Vb,uptoBulk,uptoBulkAll]at hbm;obtain⟨z0,_,g0⟩:=JEN Tryz.underlying9 (show DataW.trod enc Tryz.prog w base spare held m' 9 [a0]=some y0 from h0) oM;obtain⟨z1,g1⟩:=ih m' oM [a1,a2,a3,a4,a5,a6] y1 h1 oM;refine⟨.mk z0 z1,trivial,?_⟩;have:=g0.append g1;simpa only[UP,Dat.cells,List.singleton_append,List.cons_append,List.nil_append,List.append_assoc]using this
   )
   refine⟨.mk z0 z1 z2 z3 z4 z5,?_⟩;have:=g0.append (g1.append (g2.append (g3.append (g4.append g5))));simpa only[JI,Val.kind,Val.int,Val.scale,Val.text,Val.list,Val.fields,Dat.cells,List.singleton_append,List.cons_append,List.nil_append,List.append_assoc]using this
theorem rd_46(fuel:Nat):∀(cs:List Value) (x:DataW H×List MemPlace),DataW.trod enc Tryz.prog w base spare held fuel 46 cs=some x→uptoBulk x.1≤1048576→∃a:Exp,CR (old w) w (JL a).cells cs:=by
 induction fuel using Nat.strongRecOn with
 |_ fuel ih=>
  intro csn x hn hbn;obtain⟨xs,n',rfl,rfl,hl,hlen,hf⟩:=DataW.trod_struct Tryz.underlying46 hn;rw[qc46]at hl;have h0:=fl9 hf 0 3 0 rfl qc3;have h1:=fl9 hf 1 3 1 rfl qc3;have h2:=fl9 hf 2 9 2 rfl qc9;have h3:=fl9 hf 3 38 3 rfl qc38;have h4:=fl9 hf 4 44 4 rfl qc44
  match xs,hlen,csn,hl with
  |[y0,y1,y2,y3,y4],_,[a0,a1,a2,a3,a4],_=>
   simp only[Va,Vb,uptoBulk,uptoBulkAll]at hbn;obtain⟨z0,g0⟩:=YH Tryz.underlying3 (show DataW.trod enc Tryz.prog w base spare held n' 3 [a0]=some y0 from h0);obtain⟨z1,g1⟩:=YH Tryz.underlying3 (show DataW.trod enc Tryz.prog w base spare held n' 3 [a1]=some y1 from h1);obtain⟨z2,_,g2⟩:=JEN Tryz.underlying9 (show DataW.trod enc Tryz.prog w base spare held n' 9 [a2]=some y2 from h2) oM;obtain⟨z3,_,_,g3⟩:=Xb (encA:=JM) (ok:=fun _=>True) Tryz.underlying38 JOp dC JJy (show DataW.trod enc Tryz.prog w base spare held n' 38 [a3]=some y3 from h3) oM (fun m cs' y _ hy hyb=>by
    obtain⟨v,g⟩:=rd_41 m cs' y hy hyb;exact⟨v,trivial,g⟩)
   obtain⟨z4,_,_,g4⟩:=Xb (encA:=JL) (ok:=fun _=>True) Tryz.underlying44 qc46 dC encE_l (show DataW.trod enc Tryz.prog w base spare held n' 44 [a4]=some y4 from h4) oM (fun m cs' y hm hy hyb=>by
    obtain⟨v,g⟩:=ih m oM cs' y hy hyb;exact⟨v,trivial,g⟩)
   refine⟨.mk z0 z1 z2 z3 z4,?_⟩;have:=g0.append (g1.append (g2.append (g3.append g4)));simpa only[JF,Exp.op,Exp.int,Exp.text,Exp.value,Exp.args,Dat.cells,List.singleton_append,List.cons_append,List.nil_append,List.append_assoc]using this
theorem rd_26(fuel:Nat):∀(cs:List Value) (x:DataW H×List MemPlace),DataW.trod enc Tryz.prog w base spare held fuel 26 cs=some x→uptoBulk x.1≤1048576→∃a:Typ,CR (old w) w (JH a).cells cs:=by
 induction fuel using Nat.strongRecOn with
 |_ fuel ih=>
  intro csn x hn hbn;obtain⟨xs,n',rfl,rfl,hl,hlen,hf⟩:=DataW.trod_struct Tryz.underlying26 hn;rw[qc26]at hl;have h0:=fl9 hf 0 3 0 rfl qc3;have h1:=fl9 hf 1 3 1 rfl qc3;have h2:=fl9 hf 2 3 2 rfl qc3;have h3:=fl9 hf 3 3 3 rfl qc3;have h4:=fl9 hf 4 22 4 rfl qc22;have h5:=fl9 hf 5 23 5 rfl qc23;have h6:=fl9 hf 6 24 6 rfl qc24
  match xs,hlen,csn,hl with
  |[y0,y1,y2,y3,y4,y5,y6],_,[a0,a1,a2,a3,a4,a5,a6],_=>
   simp only[Va,Vb,uptoBulk,uptoBulkAll]at hbn;obtain⟨z0,g0⟩:=YH Tryz.underlying3 (show DataW.trod enc Tryz.prog w base spare held n' 3 [a0]=some y0 from h0);obtain⟨z1,g1⟩:=YH Tryz.underlying3 (show DataW.trod enc Tryz.prog w base spare held n' 3 [a1]=some y1 from h1);obtain⟨z2,g2⟩:=YH Tryz.underlying3 (show DataW.trod enc Tryz.prog w base spare held n' 3 [a2]=some y2 from h2);obtain⟨z3,g3⟩:=YH Tryz.underlying3 (show DataW.trod enc Tryz.prog w base spare held n' 3 [a3]=some y3 from h3);obtain⟨z4,_,_,g4⟩:=Xb (encA:=Dat.str) (ok:=fun _=>True) Tryz.underlying22 qc9 dC (fun _=>rfl) (show DataW.trod enc Tryz.prog w base spare held n' 22 [a4]=some y4 from h4) oM (fun m cs' y _ hy hyb=>by
    obtain⟨t,_,g⟩:=JEN Tryz.underlying9 hy hyb;exact⟨t,trivial,g⟩)
   obtain⟨z5,_,_,g5⟩:=Xb (encA:=JH) (ok:=fun _=>True) Tryz.underlying23 qc26 dC encT_l (show DataW.trod enc Tryz.prog w base spare held n' 23 [a5]=some y5 from h5) oM (fun m cs' y hm hy hyb=>by
    obtain⟨v,g⟩:=ih m oM cs' y hy hyb;exact⟨v,trivial,g⟩)
   obtain⟨z6,_,_,g6⟩:=Xb (encA:=Jn) (ok:=fun _=>True) Tryz.underlying24 qc65 dC encG_l (show DataW.trod enc Tryz.prog w base spare held n' 24 [a6]=some y6 from h6) oM (fun m csm y hlt hm hbm=>by
    obtain⟨xs,m',rfl,rfl,hl,hlen,hf⟩:=DataW.trod_struct Tryz.underlying65 hm;rw[qc65]at hl;have h0:=fl9 hf 0 3 0 rfl qc3;have h1:=fl9 hf 1 9 1 rfl qc9;have h2:=fl9 hf 2 3 2 rfl qc3;have h3:=fl9 hf 3 26 3 rfl qc26;have h4:=fl9 hf 4 38 10 rfl qc38
    match xs,hlen,csm,hl with
    |[y0,y1,y2,y3,y4],_,[a0,a1,a2,a3,a4,a5,a6,a7,a8,a9,a10],_=>
     simp only[Va,Vb,uptoBulk,uptoBulkAll]at hbm;obtain⟨z0,g0⟩:=YH Tryz.underlying3 (show DataW.trod enc Tryz.prog w base spare held m' 3 [a0]=some y0 from h0);obtain⟨z1,_,g1⟩:=JEN Tryz.underlying9 (show DataW.trod enc Tryz.prog w base spare held m' 9 [a1]=some y1 from h1) oM;obtain⟨z2,g2⟩:=YH Tryz.underlying3 (show DataW.trod enc Tryz.prog w base spare held m' 3 [a2]=some y2 from h2);obtain⟨z3,g3⟩:=ih m' oM [a3,a4,a5,a6,a7,a8,a9] y3 h3 oM;obtain⟨z4,_,_,g4⟩:=Xb (encA:=JM) (ok:=fun _=>True) Tryz.underlying38 JOp dC JJy (show DataW.trod enc Tryz.prog w base spare held m' 38 [a10]=some y4 from h4) oM (fun m cs' y _ hy hyb=>by
      obtain⟨v,g⟩:=rd_41 m cs' y hy hyb;exact⟨v,trivial,g⟩)
     refine⟨.mk z0 z1 z2 z3 z4,trivial,?_⟩;have:=g0.append (g1.append (g2.append (g3.append g4)));simpa only[Jn,Dat.cells,List.singleton_append,List.cons_append,List.nil_append,List.append_assoc]using this
   )
   refine⟨.mk z0 z1 z2 z3 z4 z5 z6,?_⟩;have:=g0.append (g1.append (g2.append (g3.append (g4.append (g5.append g6)))));simpa only[JA,Typ.kind,Typ.min,Typ.max,Typ.scale,Typ.words,Typ.elem,Typ.fields,Dat.cells,List.singleton_append,List.cons_append,List.nil_append,List.append_assoc]using this
theorem rd_49(fuel:Nat):∀(cs:List Value) (x:DataW H×List MemPlace),DataW.trod enc Tryz.prog w base spare held fuel 49 cs=some x→uptoBulk x.1≤1048576→∃a:Dem,CR (old w) w (J1 a).cells cs:=by
 intro csn x hn hbn;obtain⟨xs,n',rfl,rfl,hl,hlen,hf⟩:=DataW.trod_struct Tryz.underlying49 hn;rw[qc49]at hl;have h0:=fl9 hf 0 46 0 rfl qc46;have h1:=fl9 hf 1 3 5 rfl qc3
 match xs,hlen,csn,hl with
 |[y0,y1],_,[a0,a1,a2,a3,a4,a5],_=>
  simp only[Va,Vb,uptoBulk,uptoBulkAll]at hbn;obtain⟨z0,g0⟩:=rd_46 n' [a0,a1,a2,a3,a4] y0 h0 oM;obtain⟨z1,g1⟩:=YH Tryz.underlying3 (show DataW.trod enc Tryz.prog w base spare held n' 3 [a5]=some y1 from h1);refine⟨⟨z0,z1⟩,?_⟩;have:=g0.append g1;simpa only[J1,JF,Dat.cells,List.singleton_append,List.cons_append,List.nil_append,List.append_assoc]using this
theorem rd_27(fuel:Nat):∀(cs:List Value) (x:DataW H×List MemPlace),DataW.trod enc Tryz.prog w base spare held fuel 27 cs=some x→uptoBulk x.1≤1048576→∃a:List Dem,CR (old w) w [.list 6 (a.map J1)] cs:=by
 intro csn x hn hbn;obtain⟨z,_,_,g⟩:=Xb (encA:=J1) (ok:=fun _=>True) Tryz.underlying27 qc49 dC (fun _=>rfl) hn hbn (fun m cs' y _ hy hyb=>by
  obtain⟨v,g⟩:=rd_49 m cs' y hy hyb;exact⟨v,trivial,g⟩)
 exact⟨z,g⟩
end
end Go.Proofs
namespace Go.Proofs.YtfioheedknfjnaaGreatDoor
open Go Go.Proofs Av Go.ChangeShapes Go.WideShapes Go.ChangeAt Go.RowKit
section
variable {H:Type}{enc:TypeId×Value→H}{w:World}{r:Reach}{base b0:Nat}{spare:Nat→Bool}{held:Bool}{v:Value}{d:DataW H}{ps:List MemPlace}
theorem JOq(hval:Value.okWide Tryz.prog w r b0 26 v)(hd:DataW.Trod enc Tryz.prog w base spare held 26 v d ps)(hb:Rows.uptoBulk d≤1048576):∃t:Typ,Rep (Av.old w) w (JH t) v:=by
 obtain⟨fuel,hf⟩:=hd;obtain⟨m,hc⟩:=rd_26 fuel _ (d,ps) hf hb;refine⟨m,?_⟩;unfold Value.okWide at hval;rw[Tryz.underlying26]at hval;obtain⟨cs,rfl,_,_⟩:=hval;obtain⟨h1,h2,h3⟩:=hc;have e:(Value.agg cs).cells=cs:=rfl;rw[e]at h1 h2 h3;have h1':(JH m).cells.length=cs.size:=sX h1;rw[JA]at h1' h3⊢;exact .agg _ _ h1' h2 (fun i c v hc hv=>h3 i c v hc (sX hv))
theorem JMK(hval:Value.okWide Tryz.prog w r b0 27 v)(hd:DataW.Trod enc Tryz.prog w base spare held 27 v d ps)(hb:Rows.uptoBulk d≤1048576):
  ∃l:List Dem,Rep (Av.old w) w (.list 6 (l.map J1)) v:=by
 obtain⟨fuel,hf⟩:=hd;obtain⟨m,hc⟩:=rd_27 fuel _ (d,ps) hf hb;refine⟨m,?_⟩;unfold Value.okWide at hval;obtain⟨h1,h2,h3⟩:=hc;cases v with
 |slice _ _ _=>exact h3 0 _ _ rfl rfl
 |_=>first|exact h3 0 _ _ rfl rfl|(rw[Tryz.underlying27]at hval;exact hval.elim)|(simp[Tryz.underlying27]at hval)
end
end Go.Proofs.YtfioheedknfjnaaGreatDoor
namespace Go.Proofs.YtfioheedknfjnaaGreatDoor
open Go Go.Proofs Av Go.ChangeShapes Go.WideShapes Go.ChangeAt Go.RowKit
theorem JOr(w:World)(hg:∀g cs,XU g=some cs→Zv (Av.old w) w g cs):Core (fun _=>(⟨none,[]⟩:BK)) (Av.old w) w (get []):=
 ⟨(by intro i o hi;cases hi),(by intro i j o o' b hi;cases hi),(by intro i o b hi;cases hi),fun _ h=>h,hg⟩
theorem JFL{P:Program}{f:Nat}{ds:List Dat}{b:Bool}(h:J3 P f ds (.d (.bool b))){w:World}{vs:Array Value}(hg:∀g cs,XU g=some cs→Zv (Av.old w) w g cs)(hl:ds.length=vs.size)
  (hv:∀(i:Nat) d v,ds[i]? =some d→vs[i]? =some v→Rep (Av.old w) w d v):
  Calls P f vs w fun e w'=>e=.returned (.bool b)∧Below w.heap.size w w':=by
 refine(h.2 (fun _=>(⟨none,[]⟩:BK)) (Av.old w) w vs (JOr w hg) ⟨by simpa using hl,?_⟩).mono ?_
 ·intro i c v hc hv';rw[Vo]at hc;cases e:ds[i]? with
  |none=>rw[e]at hc;cases hc
  |some d=>
   rw[e]at hc;cases hc;exact .d _ _ (hv i d v e hv')
 ·rintro e w' ⟨u,β',A',rfl,hs,_,hu⟩;have:=hu.JZ;cases this;exact⟨rfl,hs.os,hs.tape,hs.output,hs.size,fun k hk=>hs.same k hk (by intro i o hi;cases hi)⟩
theorem laidOut:laidOutB Tryz.prog=true:=kR
theorem JIk{H:Type}(l r:List (DataW H)):Rows.uptoBulkAll (l++r)=Rows.uptoBulkAll l+Rows.uptoBulkAll r:=by
 induction l with
 |nil=>simp[Rows.uptoBulkAll]
 |cons x l ih=>simp only[List.cons_append,Rows.uptoBulkAll,ih];omega
end Go.Proofs.YtfioheedknfjnaaGreatDoor
namespace Go.Proofs
open Go Av
variable {t:Typ}
noncomputable def JBV(e:Exp)(t:Typ):Rz×Int:=PA (JOl e t)
theorem cInf(e:Exp)(t:Typ):CT 22 [.d (JL e),.d (JH t)] [] (.tup [.d (JC (JBV e t).1),.d (.int .i64 (JBV e t).2)]) []:=c22 e t
theorem gInf{e:Exp}(h:(JBV e t).2=0):inG e t (JBV e t).1.t.kind:=UW (JOl e t) h
noncomputable def erS(t:Typ)(e:Exp):Int:=if(JBV e t).2≠0 then(JBV e t).2 else if(JBV e t).1.t.kind≠1 then 18 else 0
noncomputable def Xk(t:Typ):List Exp→Int
 |[]=>0
 |e::r=>if erS t e≠0 then erS t e else Xk t r
theorem JG0:∀{l:List Exp} {k:Nat} (h:k<l.length),(∀(j:Nat) (h1:j<l.length),j<k→erS t l[j]=0)→erS t l[k]≠0→Xk t l=erS t l[k]
 |e::r,0,h,_,h2=>by rw[Xk,if_pos (sX h2)];rfl
 |e::r,k+1,h,h1,h2=>by
  have h0:=h1 0 sP oM;rw[List.getElem_cons_zero]at h0;rw[Xk,if_neg (sX h0)];exact JG0 (l:=r) (k:=k) (sX h) (fun j hj hk=>h1 (j+1) (by simp only[Vf];omega) oM) h2
theorem JJz:∀{l:List Exp},(∀(j:Nat) (h1:j<l.length),erS t l[j]=0)→Xk t l=0
 |[],_=>rfl
 |e::r,h=>by
  have h0:=h 0 sP;rw[List.getElem_cons_zero]at h0;rw[Xk,if_neg (sX h0)];exact JJz fun j hj=>h (j+1) (by simp only[Vf];omega)
theorem JE5:∀{l:List Exp},Xk t l=0→∀e∈l,erS t e=0
 |a::r,h,e,he=>by
  rw[Xk]at h;split at h
  ·rename_i h1;exact absurd h h1
  ·rename_i h1;rcases VA.1 he with rfl|he
   ·simpa using h1
   ·exact JE5 h e he
theorem erS_0{e:Exp}(h:erS t e=0):JGq e=0∧Uw t=0:=by
 unfold erS at h;split at h
 ·rename_i h1;exact absurd h h1
 ·rename_i h1;have:=gInf (sX h1);exact⟨this.2.1,this.2.2⟩
def JML(t:Typ)(n:Nat):Int:=if n=0 then(if Uw t≠0 then Uw t else if t.kind≠9 then 11 else 0)else 0
noncomputable def ckS(t:Typ)(l:List Dem):Int:=if(l.length:Int)>64 then 9 else if l.any dmB=true then 11 else if Xk t (l.map Dem.e)≠0 then Xk t (l.map Dem.e)else JML t l.length
theorem walk9(t:Typ)(l:List Dem):PT 9 [JH t,.list 6 (l.map J1),.int .i64 l.length] (.d (.int .i64 (ckS t l))):=by
 refine J3.Jg ok9.has fun hfit=>?_
 have hl:l.length≤68719476736:=by have:=(hfit (.list 6 (l.map J1)) sP).1;simpa using this
 clear hfit;refine ok9.pc ?_;generalize hT:ckS t l=R;unfold ckS at hT;have c1:=(walk20 (g:=21) (cs:=[]) l (fun d _=>walk21 d) hl).call trivial;have c3:=(JCn t).call trivial;rw[Va,JA]at c3;rw[JA];simp only[go_sem,ir9,Vv,Vc,simprocAttr];refine JD (fun h=>?_) (fun h=>?_)
 ·rw[if_pos (sX h)]at hT;rw[hT]
 rw[if_neg (sX h)]at hT
 try simp only[go_sem,Vv,Vc,simprocAttr]
 refine wn c1 ?_;simp only[go_sem,Vv,Vc,simprocAttr];refine JD (fun h2=>?_) (fun h2=>?_)
 ·rw[if_pos h2]at hT;rw[hT]
 rw[if_neg (by rw[h2];decide)]at hT
 try simp only[go_sem,Vv,Vc,simprocAttr]
 refine JJ (fun n s=>∃k:Nat,k≤l.length∧n=l.length-k∧(∀(j:Nat) (h1:j<(l.map Dem.e).length),j<k→erS t (l.map Dem.e)[j]=0)∧s=⟨[(1,.d (.list 6 (l.map J1))),(3,.ref 3 0),(16,.d (.list 6 (l.map J1))),(17,.d (.int .i64 l.length)),(18,.d (.int .i64 k))],[(3,.box (tC t))]⟩) ?_ ?_
 ·refine⟨_,_,Wk.less ?_,0,Nat.zero_le _,rfl,sP,rfl⟩;simp[go_sem,tC]
 rintro n s ⟨k,hk,rfl,hinv,rfl⟩;by_cases hlt:k<l.length
 ·have hx:=ZP hlt;have hd:=dT hlt;have hk2:k<(l.map Dem.e).length:=sX hlt;have hat:erS t (l.map Dem.e)[k]≠0→Xk t (l.map Dem.e)=erS t (l.map Dem.e)[k]:=JG0 hk2 hinv;have hnx:erS t (l.map Dem.e)[k]=0→∀(j:Nat) (h1:j<(l.map Dem.e).length),j<k+1→erS t (l.map Dem.e)[j]=0:=fun h j h1 hj=>by
   by_cases e:j=k
   ·subst e;exact h
   ·exact hinv j h1 oM
  have he:(l.map Dem.e)[k]=l[k].e:=sP;rw[he]at hat hnx;have her:erS t l[k].e=if(JBV l[k].e t).2≠0 then(JBV l[k].e t).2 else if(JBV l[k].e t).1.t.kind≠1 then 18 else 0:=rfl;have c2:=cInf l[k].e t;generalize JBV l[k].e t=I at*;generalize erS t l[k].e=E at*;rw[JA,JF]at c2;simp only[J1]at hx;simp only[go_sem,hx,hd,tC,Vv,Vc,simprocAttr]
  repeat with_reducible refine And.intro (by first|decide|omega|(simp;done)|(simp;omega)) ?_
  refine wn c2 ?_;simp only[go_sem,JC,Vv,Vc,simprocAttr];refine JD (fun q=>?_) (fun q=>?_)
  ·rw[if_pos (sX q)]at her;have hne:E≠0:=by rw[her];simpa using q
   rw[hat hne,if_pos hne]at hT;rw[←hT,her]
  rw[if_neg (sX q)]at her
  try simp only[go_sem,Vv,Vc,simprocAttr]
  refine JD (fun q2=>?_) (fun q2=>?_)
  ·rw[if_pos (sX q2)]at her;have hne:E≠0:=by rw[her];decide
   rw[hat hne,if_pos hne]at hT;rw[←hT,her]
  rw[if_neg (sX q2)]at her;refine⟨l.length-(k+1),_,oM,Wk.less ?_,k+1,oM,rfl,fun j h1 hj=>hnx her j (sX h1) hj,rfl⟩;simp[go_sem,tC,JS k oM]
 ·have hd:=dF hlt;have hz:Xk t (l.map Dem.e)=0:=JJz fun j h1=>hinv j h1 (by simp at h1;omega)
  rw[if_neg (sX hz)]at hT;unfold JML at hT;simp only[go_sem,hd,tC,Vv,Vc,simprocAttr];refine JD (fun q=>?_) (fun q=>?_)
  ·have hn:l.length=0:=sX q;rw[if_pos hn]at hT;refine wn c3 ?_;simp only[go_sem,Vv,Vc,simprocAttr];refine JD (fun q2=>?_) (fun q2=>?_)
   ·rw[if_pos (sX q2)]at hT;rw[←hT]
   rw[if_neg (sX q2)]at hT
   try simp only[go_sem,Vv,Vc,simprocAttr]
   refine JD (fun q3=>?_) (fun q3=>?_)
   ·rw[if_pos (sX q3)]at hT;rw[←hT]
   rw[if_neg (sX q3)]at hT;rw[←hT]
  ·rw[if_neg (sX q)]at hT;rw[←hT]
noncomputable def csS(t:Typ)(l:List Dem):Int×Int:=if ckS t l≠0 then(0,ckS t l)else(JAU t l,0)
theorem ckS_x{l:List Dem}(h:ckS t l=0):∀d∈l,JGq d.e=0:=by
 intro d hd;unfold ckS at h;split at h
 ·cases h
 split at h
 ·cases h
 split at h
 ·rename_i h1;exact absurd h h1
 ·rename_i h1;exact(erS_0 (JE5 (sX h1) d.e (List.mem_map_of_mem hd))).1
theorem walk5(t:Typ)(l:List Dem):PT 5 [JH t,.list 6 (l.map J1)] (.tup [.d (.int .i64 (csS t l).1),.d (.int .i64 (csS t l).2)]):=by
 refine ok5.pc ?_;have c1:=(walk9 t l).call trivial;have c2:=fun h:ckS t l=0=>(walk10 t l (ckS_x h)).call trivial
 generalize hT:csS t l=R;unfold csS at hT;generalize ckS t l=C at*;generalize JAU t l=N at*;simp only[Va,Vb,JA]at c1 c2;rw[JA];simp only[go_sem,ir5,Vv,Vc,simprocAttr];refine wn c1 ?_;simp only[go_sem,Vv,Vc,simprocAttr];refine JD (fun q=>?_) (fun q=>?_)
 ·rw[if_pos (sX q)]at hT;rw[←hT]
 rw[if_neg (sX q)]at hT
 try simp only[go_sem,Vv,Vc,simprocAttr]
 refine wn (c2 (sX q)) ?_;simp only[go_sem,Vv,Vc,simprocAttr];rw[←hT]
end Go.Proofs
namespace Go.Proofs
open Go Av
noncomputable def wrS(t:Typ)(l:List Exp):Int:=if(l.length:Int)>64 then 9 else if Xk t l≠0 then Xk t l else JML t l.length
theorem walk17(t:Typ)(l:List Exp):PT 17 [JH t,.list 5 (l.map JL)] (.d (.int .i64 (wrS t l))):=by
 refine J3.Jg ok17.has fun hfit=>?_
 have hl:l.length≤68719476736:=by have:=(hfit (.list 5 (l.map JL)) sP).1;simpa using this
 clear hfit;refine ok17.pc ?_;generalize hT:wrS t l=R;unfold wrS at hT;have c3:=(JCn t).call trivial;rw[Va,JA]at c3;rw[JA];simp only[go_sem,ir17,Vv,Vc,simprocAttr];refine JD (fun h=>?_) (fun h=>?_)
 ·rw[if_pos (sX h)]at hT;rw[hT]
 rw[if_neg (sX h)]at hT
 try simp only[go_sem,Vv,Vc,simprocAttr]
 refine JJ (fun n s=>∃k:Nat,k≤l.length∧n=l.length-k∧(∀(j:Nat) (h1:j<l.length),j<k→erS t l[j]=0)∧s=⟨[(1,.d (.list 5 (l.map JL))),(2,.ref 2 0),(5,.d (.int .i64 k))],[(2,.box (tC t))]⟩) ?_ ?_
 ·refine⟨_,_,Wk.less ?_,0,Nat.zero_le _,rfl,sP,rfl⟩;simp[go_sem,tC]
 rintro n s ⟨k,hk,rfl,hinv,rfl⟩;by_cases hlt:k<l.length
 ·have hx:=Xp hlt;have hd:=dT hlt;have hat:erS t l[k]≠0→Xk t l=erS t l[k]:=JG0 hlt hinv;have hnx:erS t l[k]=0→∀(j:Nat) (h1:j<l.length),j<k+1→erS t l[j]=0:=fun h j h1 hj=>by
   by_cases e:j=k
   ·subst e;exact h
   ·exact hinv j h1 oM
  have her:erS t l[k]=if(JBV l[k] t).2≠0 then(JBV l[k] t).2 else if(JBV l[k] t).1.t.kind≠1 then 18 else 0:=rfl;have c2:=cInf l[k] t;generalize JBV l[k] t=I at*;generalize erS t l[k]=E at*;rw[JA,JF]at c2;simp only[go_sem,hx,hd,tC,Vv,Vc,simprocAttr]
  repeat with_reducible refine And.intro (by first|decide|omega|(simp;done)|(simp;omega)) ?_
  try refine JFG ?_
  refine JE rfl c2 trivial ?_;simp only[go_sem,JC,Vv,Vc,simprocAttr]
  repeat with_reducible refine And.intro (by first|decide|omega|(simp;done)|(simp;omega)) ?_
  refine JD (fun q=>?_) (fun q=>?_)
  ·rw[if_pos (sX q)]at her;have hne:E≠0:=by rw[her];simpa using q
   rw[hat hne,if_pos hne]at hT;rw[←hT,her]
  rw[if_neg (sX q)]at her
  try simp only[go_sem,Vv,Vc,simprocAttr]
  refine JD (fun q2=>?_) (fun q2=>?_)
  ·rw[if_pos (sX q2)]at her;have hne:E≠0:=by rw[her];decide
   rw[hat hne,if_pos hne]at hT;rw[←hT,her]
  rw[if_neg (sX q2)]at her;refine⟨l.length-(k+1),_,oM,Wk.less ?_,k+1,oM,rfl,hnx her,rfl⟩;simp[go_sem,tC,JS k oM]
 ·have hd:=dF hlt;have hz:Xk t l=0:=JJz fun j h1=>hinv j h1 oM
  rw[if_neg (sX hz)]at hT;unfold JML at hT;simp only[go_sem,hd,tC,Vv,Vc,simprocAttr];refine JD (fun q=>?_) (fun q=>?_)
  ·rw[if_neg (by simp only[decide_eq_true_eq]at q;omega)]at hT;rw[←hT]
  have hn:l.length=0:=by simp only[decide_eq_false_iff_not]at q;omega
  rw[if_pos hn]at hT
  try simp only[go_sem,Vv,Vc,simprocAttr]
  refine wn c3 ?_;simp only[go_sem,Vv,Vc,simprocAttr];refine sq (t.kind !=9) ?_ ?_
  ·simp only[go_sem,Vv,Vc,simprocAttr]
  simp only[go_sem,Vv,Vc,simprocAttr];refine JD (fun q2=>?_) (fun q2=>?_)
  ·simp only[Vi,beq_iff_eq,bne_iff_ne]at q2;rw[if_neg (by rw[q2.1];decide),if_pos q2.2]at hT;rw[←hT]
  ·try simp only[go_sem,Vv,Vc,simprocAttr]
   rw[←hT];by_cases hY:Uw t=0
   ·have h9:t.kind=9:=by simpa[hY]using q2
    rw[if_neg (by rw[hY];decide),if_neg (by rw[h9];decide),hY]
   ·rw[if_pos hY]
theorem map_dm(l:List Dem):(l.map fun d=>JL d.e)=(l.map Dem.e).map JL:=by rw[List.map_map];rfl
theorem walk7(t:Typ)(l:List Dem):PT 7 [JH t,.list 6 (l.map J1)] (.d (.int .i64 (ckS t l))):=by
 refine J3.Jg ok7.has fun hfit=>?_
 have hl:l.length≤68719476736:=by have:=(hfit (.list 6 (l.map J1)) sP).1;simpa using this
 clear hfit;refine ok7.pc ?_;generalize hT:ckS t l=R;unfold ckS at hT;have c1:=walk17 t (l.map Dem.e);rw[JA]at c1⊢;simp only[go_sem,ir7,Vv,Vc,simprocAttr];refine JD (fun h=>?_) (fun h=>?_)
 ·rw[if_pos (sX h)]at hT;rw[hT]
 rw[if_neg (sX h)]at hT;have hw:wrS t (l.map Dem.e)=if Xk t (l.map Dem.e)≠0 then Xk t (l.map Dem.e)else JML t l.length:=by
  unfold wrS;rw[Vc,if_neg (sX h)]
 try simp only[go_sem,Vv,Vc,simprocAttr]
 refine JJ (fun n s=>∃k:Nat,k≤l.length∧n=l.length-k∧(∀(j:Nat) (h1:j<l.length),j<k→dmB l[j]=false)∧s=⟨[(1,.d (.list 6 (l.map J1))),(2,.ref 2 0),(5,.ms 200 k),(6,.d (.int .i64 k))],[(2,.box (tC t)),(200,.row k 5 ((l.take k).map fun d=>JL d.e))]⟩) ?_ ?_
 ·refine⟨_,_,(Wk.JG9 5 200 5 rfl rfl dC).trans (Wk.less ?_),0,Nat.zero_le _,rfl,sP,rfl⟩;simp[put,go_sem,tC]
 rintro n s ⟨k,hk,rfl,hinv,rfl⟩;by_cases hlt:k<l.length
 ·have hx:=ZP hlt;have hd:=dT hlt;have hnx:dmB l[k]=false→∀(j:Nat) (h1:j<l.length),j<k+1→dmB l[j]=false:=fun h j h1 hj=>by
   by_cases e:j=k
   ·subst e;exact h
   ·exact hinv j h1 oM
  have hmem:l[k]∈l:=Vk hlt;have htk:l.take (k+1)=l.take k++[l[k]]:=List.take_succ_eq_append_getElem hlt;have hB:dmB l[k]=(decide (l[k].o<1)||decide (l[k].o>3)):=rfl;generalize l[k]=dd at*;simp only[J1]at hx;simp only[go_sem,hx,hd,tC,Vv,Vc,simprocAttr]
  repeat with_reducible refine And.intro (by first|decide|omega|(simp;done)|(simp;omega)) ?_
  try refine JFG ?_
  refine sq (decide (dd.o>3)) ?_ ?_
  ·refine JFG ?_
   repeat with_reducible refine And.intro (by first|decide|omega|(simp;done)|(simp;omega)) ?_
   try refine JFG ?_
   decide
  simp only[go_sem,Vv,Vc,simprocAttr];refine JD (fun q=>?_) (fun q=>?_)
  ·rw[if_pos (List.any_eq_true.2 ⟨dd,hmem,by rw[hB];exact q⟩)]at hT;rw[hT]
  try refine JFG ?_
  repeat with_reducible refine And.intro (by first|decide|omega|(simp;done)|(simp;omega)) ?_
  try refine JFG ?_
  refine⟨l.length-(k+1),_,oM,Wk.less ?_,k+1,oM,rfl,hnx (by rw[hB];exact q),rfl⟩;rw[htk];simp[go_sem,tC,JS k oM,JF]
 ·have hd:=dF hlt;have hany:l.any dmB=false:=by
   rw[List.any_eq_false];intro p hp;obtain⟨j,hj,rfl⟩:=List.getElem_of_mem hp;rw[hinv j hj oM];decide
  rw[if_neg (by rw[hany];decide),←hw]at hT;rw[List.take_of_length_le oM];simp only[go_sem,hd,tC,Vv,Vc,simprocAttr];rw[map_dm];refine JJM rfl rfl sP (by
   simp only[Va,Vb,Dat.canon,JQ,Uz,Yy,JAM,JAN];exact c1) rfl ?_
  simp only[go_sem,Vv,Vc,simprocAttr];rw[←hT]
def taG(o:Option Typ)(x:Typ×Bool):Prop:=match o with
 |some T=>x=(T,true)
 |none=>x.2=false
def okL(l:List Part):Prop:=l=[]∨JCg l=0
abbrev taH(t:Typ)(l:List Part)(x:Typ×Bool):Prop:=(∀d∈[JH t,.list 3 (l.map Ja)],fits d)→Uw t=0→okL l→(∀p∈l,plK p)→taG (atS t l) x
theorem JFM(t:Typ)(l:List Part):∃x:Typ×Bool,taH t l x∧PT 71 [JH t,.list 3 (l.map Ja)] (.tup [.d (JH x.1),.d (.bool x.2)]):=by
 refine ok71.pex (fun x:Typ×Bool=>.tup [.d (JH x.1),.d (.bool x.2)]) (fun x=>taH t l x) (Nat.le_of_ble_eq_true rfl) (fun _ _=>by simp[Uv,JT,JN]) ?_;have g:=(UW (JAR t l)).2;have c:=c129 t l;generalize PA (JAR t l)=A at g c;rw[JA t,JA A.1]at c;rw[JA t];simp only[go_sem,ir71,Vv,Vc,simprocAttr];refine JD (fun h=>?_) (fun h=>?_)
 ·have hl:l=[]:=by
   cases l with
   |nil=>rfl
   |cons a r=>simp at h;omega
  refine⟨(t,true),fun _ _ _ _=>by rw[hl];rfl,by simp only[JA]⟩
 try simp only[go_sem,Vv,Vc,simprocAttr]
 refine wn c ?_;simp only[go_sem,Vv,Vc,simprocAttr];refine⟨(A.1,A.2.2==0),fun h1 h2 h3 h4=>?_,by simp only[JA]⟩;have h3':JCg l=0:=by
  rcases h3 with rfl|h3
  ·simp at h
  ·exact h3
 rcases g h1 h2 h3' h4 with⟨a,b⟩|⟨a,b⟩
 ·rw[b];simp[taG,a]
 ·rw[b];simp[taG,a]
theorem c71(t:Typ)(l:List Part):CT 71 [.d (JH t),.d (.list 3 (l.map Ja))] [] (.tup [.d (JH (PA (JFM t l)).1),.d (.bool (PA (JFM t l)).2)]) []:=(UQ (JFM t l)).call (by simp[Jl])
noncomputable def plM(t:Typ)(s:Str):Bool:=(JO s).2==0&& !((JO s).1.any plB)&&(atS t (JO s).1).isSome
theorem JE6{s:Str}(h:(JO s).2=0):fits (.list 3 ((JO s).1.map Ja)):=by
 obtain⟨h16,hc⟩:=JAj h;simp only[fits,Vc];refine⟨oM,J5.2 fun d hd=>?_⟩;obtain⟨p,hp,rfl⟩:=VC.1 hd;have hv:UI p=true:=by
  have hne:0<(JO s).1.length:=List.length_pos_of_mem hp;have:=JGu (l:=(JO s).1) (by have:=hc _ hne (Nat.le_refl _);rw[List.take_length]at this;simp[this]);exact this.2 p hp
 obtain⟨b1,b2,b3⟩:=JAi hv;have hk:p.kind=1∨p.kind=2∨p.kind=3∨p.kind=4:=by
  unfold UI at hv;split at hv
  ·omega
  split at hv
  ·omega
  split at hv
  ·omega
  ·cases hv
 have m1:IntKind.i64.min= -9223372036854775808:=rfl;have m2:IntKind.i64.max=9223372036854775807:=rfl;simp only[Ja,fits,XA,and_true,true_and,m1,m2];omega
theorem JRa(t:Typ)(s:Str):∃x:List Part×Bool,((∀d∈[JH t,.str s],fits d)→Uw t=0→(x.2=plM t s∧(x.2=true→x.1=(JO s).1)))∧PT 46 [JH t,.str s] (.tup [.d (.list 3 (x.1.map Ja)),.d (.bool x.2)]):=by
 by_cases hfit:(∀d∈[JH t,.str s],fits d)
 case neg=>exact⟨([],false),fun h=>absurd h hfit,J3.Jg ok46.has fun h=>absurd h hfit⟩
 refine ok46.pex (fun x:List Part×Bool=>.tup [.d (.list 3 (x.1.map Ja)),.d (.bool x.2)]) (fun x=>((∀d∈[JH t,.str s],fits d)→Uw t=0→(x.2=plM t s∧(x.2=true→x.1=(JO s).1)))) (Nat.le_of_ble_eq_true rfl) (fun _ _=>by simp[Uv,JT,JN]) ?_;have c1:=(JEU s (hfit (.str s) sP)).call (by simp[Jl]);have ft:=hfit (JH t) sP;have hpl:plM t s=((JO s).2==0&& !((JO s).1.any plB)&&(atS t (JO s).1).isSome):=rfl;have h16:=YY s;have g:(JO s).2=0→Uw t=0→(JO s).1.any plB=false→taG (atS t (JO s).1) (PA (JFM t (JO s).1)):=by
  intro h1 h2 h3;refine UW (JFM t (JO s).1) ?_ h2 ?_ (JIh h3)
  ·intro d hd;simp only[VA,List.not_mem_nil,or_false]at hd;rcases hd with rfl|rfl
   ·exact ft
   ·exact JE6 h1
  ·by_cases hn:(JO s).1=[]
   ·exact .inl hn
   ·refine .inr ?_;have:=(JAj h1).2 (JO s).1.length (List.length_pos_iff.2 hn) (Nat.le_refl _);rwa[List.take_length]at this
 have c2:=c71 t (JO s).1;generalize PA (JFM t (JO s).1)=A at g c2;have hno:(∀d∈[JH t,.str s],fits d)→Uw t=0→plM t s=false→((([],false):List Part×Bool).2=plM t s∧((([],false):List Part×Bool).2=true→(([],false):List Part×Bool).1=(JO s).1)):=fun _ _ h=>⟨h.symm,fun h=>by cases h⟩
 clear hfit ft;generalize plM t s=M at*;generalize atS t (JO s).1=AT at*;generalize(JO s).2=e at*;generalize(JO s).1=l at*;rw[JA t,JA A.1]at c2;rw[JA t]at hno⊢;simp only[go_sem,ir46,Vv,Vc,Nat.reduceAdd,Nat.reduceEqDiff,Nat.reduceBEq,Nat.reduceLeDiff,reduceCtorEq,↓reduceIte];refine wn c1 ?_;simp only[go_sem,Vv,Vc,Nat.reduceAdd,Nat.reduceEqDiff,Nat.reduceBEq,Nat.reduceLeDiff,reduceCtorEq,↓reduceIte];refine JD (fun h=>?_) (fun h=>?_)
 ·exact⟨([],false),fun h1 h2=>hno h1 h2 (by rw[hpl];simp at h;simp[h]),rfl⟩
 have he:e=0:=sX h
 try simp only[go_sem,Vv,Vc,Nat.reduceAdd,Nat.reduceEqDiff,Nat.reduceBEq,Nat.reduceLeDiff,reduceCtorEq,↓reduceIte]
 refine JJ (fun n s=>∃k:Nat,k≤l.length∧n=l.length-k∧(∀(j:Nat) (h1:j<l.length),j<k→plB l[j]=false)∧
  s=⟨[(2,.ref 2 0),(6,.d (.list 3 (l.map Ja))),(8,.d (.int .i64 k))],[(2,.box (tC t))]⟩) ?_ ?_
 ·refine⟨_,_,Wk.less ?_,0,Nat.zero_le _,rfl,sP,rfl⟩;simp[go_sem,tC]
 rintro n s ⟨k,hk,rfl,hinv,rfl⟩;by_cases hlt:k<l.length
 ·have hx:nth (l.map Ja) k=Ja l[k]:=by rw[Uc (sX hlt),List.getElem_map]
  have hd:=dT hlt;simp only[go_sem,hx,Ja,hd,tC,Vv,Vc,Nat.reduceAdd,Nat.reduceEqDiff,Nat.reduceBEq,Nat.reduceLeDiff,reduceCtorEq,↓reduceIte]
  repeat with_reducible refine And.intro (by first|decide|omega|(simp;done)|(simp;omega)) ?_
  try simp only[go_sem,hx,Ja,Vv,Vc,Nat.reduceAdd,Nat.reduceEqDiff,Nat.reduceBEq,Nat.reduceLeDiff,reduceCtorEq,↓reduceIte]
  refine sq (l[k].kind !=4) ?_ ?_
  ·simp only[go_sem,hx,Ja,Vv,Vc,Nat.reduceAdd,Nat.reduceEqDiff,Nat.reduceBEq,Nat.reduceLeDiff,reduceCtorEq,↓reduceIte]
   repeat with_reducible refine And.intro (by first|decide|omega|(simp;done)|(simp;omega)) ?_
   try simp only[go_sem,hx,Ja,Vv,Vc,Nat.reduceAdd,Nat.reduceEqDiff,Nat.reduceBEq,Nat.reduceLeDiff,reduceCtorEq,↓reduceIte]
   decide
  simp only[go_sem,Vv,Vc,Nat.reduceAdd,Nat.reduceEqDiff,Nat.reduceBEq,Nat.reduceLeDiff,reduceCtorEq,↓reduceIte];refine JD (fun h=>?_) (fun h=>?_)
  ·refine⟨([],false),fun h1 h2=>hno h1 h2 ?_,rfl⟩;rw[hpl,List.any_eq_true.2 ⟨l[k],Vk hlt,h⟩];simp
  refine⟨l.length-(k+1),_,oM,Wk.less ?_,k+1,oM,rfl,fun j h1 hj=>?_,rfl⟩
  ·simp[go_sem,tC,JS k oM]
  ·by_cases ej:j=k
   ·subst ej;exact h
   ·exact hinv j h1 oM
 ·have hd:=dF hlt;have hany:l.any plB=false:=by
   rw[List.any_eq_false];intro p hp;obtain⟨j,hj,rfl⟩:=List.getElem_of_mem hp;rw[hinv j hj oM];decide
  simp only[go_sem,hd,tC,Vv,Vc,Nat.reduceAdd,Nat.reduceEqDiff,Nat.reduceBEq,Nat.reduceLeDiff,reduceCtorEq,↓reduceIte];refine wn c2 ?_;simp only[go_sem,Vv,Vc,Nat.reduceAdd,Nat.reduceEqDiff,Nat.reduceBEq,Nat.reduceLeDiff,reduceCtorEq,↓reduceIte];refine⟨(l,A.2),fun h1 h2=>?_,rfl⟩;have:=g he h2 hany;cases AT with
  |none=>exact⟨by rw[hpl,show A.2=false from this];simp,fun _=>rfl⟩
  |some T=>exact⟨by rw[hpl,show A=(T,true)from this];simp[he,hany],fun _=>rfl⟩
theorem c46(t:Typ)(s:Str):CT 46 [.d (JH t),.d (.str s)] [] (.tup [.d (.list 3 ((PA (JRa t s)).1.map Ja)),.d (.bool (PA (JRa t s)).2)]) []:=(UQ (JRa t s)).call (by simp[Jl])
theorem JIl:∀(l:List Part) (t:Typ) (p:Part),atS t (l++[p])=(atS t l).bind fun T=>stS T p
 |[],t,p=>by
  simp only[List.nil_append,atS,Option.bind];cases stS t p<;>rfl
 |a::r,t,p=>by
  simp only[List.cons_append,atS];cases stS t a with
  |none=>rfl
  |some T=>exact JIl r T p
theorem JMM{l:List Part}(h:fits (.list 3 (l.map Ja)))(k:Nat):fits (.list 3 ((l.take k).map Ja)):=by
 simp only[fits,Vc]at h⊢;refine⟨by rw[List.length_take];omega,J5.2 fun d hd=>?_⟩;obtain⟨p,hp,rfl⟩:=VC.1 hd;exact J5.1 h.2 _ (List.mem_map_of_mem (List.mem_of_mem_take hp))
theorem opN_of{t:Typ}{p:Part}(b:Bool)(hb:b=(p.kind==1&&(UY t p.name).1.need==2||(p.kind==4&&decide ((t.fields.length:Int)≥2)))):opN t p=if b=true then 1 else 0:=by
 subst hb;unfold opN;by_cases h1:p.kind=1∧(UY t p.name).1.need=2
 ·rw[if_pos h1,if_pos (by simp[h1])]
 rw[if_neg h1];by_cases h4:p.kind=4∧(2:Int)≤t.fields.length
 ·rw[if_pos h4,if_pos (by simp[h4])]
 ·rw[if_neg h4,if_neg sO]
abbrev U2(l:List Part):Dat:=.list 3 (l.map Ja)
theorem JMN(l:List (List Part)):JQ (l.map U2)=l.map U2:=U6 _ (fun c=>by simp only[U2,Dat.canon,JB3]) l
theorem ex48(t:Typ)(l:List Part)(q:Nat×Typ)(hY:Uw t=0)(h16:l.length≤16)(hp:∀k,k≤l.length→okL (l.take k))(hK:∀p∈l,plK p)(hq:chS t l 0=some q):∃x:List (List Part),x.length=q.1∧PT 48 [JH t,.list 3 (l.map Ja)] (.d (.list 1 (x.map U2))):=by
 refine ok48.JIu (fun x:List (List Part)=>.d (.list 1 (x.map U2))) (fun x=>x.length=q.1) (List.replicate q.1 []) sP (Nat.le_of_ble_eq_true rfl) (fun _ _=>by simp[Uv,JT,JN]) fun hfit=>?_
 have ft:=hfit (JH t) sP;have fl:=hfit (.list 3 (l.map Ja)) sP;clear hfit;rw[JA];simp only[go_sem,ir48,Vv,Vc,simprocAttr];refine JJ (fun n s=>∃(k v:Nat) (T:Typ) (xs:List (List Part)),k≤l.length∧n=l.length-k∧xs.length≤k∧atS t (l.take k)=some T∧chS T (l.drop k) xs.length=some q∧
  s=⟨[(1,.d (.list 3 (l.map Ja))),(2,.ref 2 0),(5,.ms 200 v),(6,.d (.int .i64 k))],[(2,.box (tC t)),(200,.row v 1 (xs.map U2))]⟩) ?_ ?_
 ·refine⟨_,_,(Wk.JG9 5 200 1 rfl rfl dC).trans (Wk.less ?_),0,0,t,[],Nat.zero_le _,rfl,Nat.le_refl _,rfl,hq,rfl⟩;simp[put,go_sem,tC]
 rintro n s ⟨k,v,T,xs,hk,rfl,hxs,hT,hc,rfl⟩;by_cases hlt:k<l.length
 ·have hx:nth (l.map Ja) k=Ja l[k]:=by rw[Uc (sX hlt),List.getElem_map]
  have hd:=dT hlt;have hdr:l.drop k=l[k]::l.drop (k+1):=Vq hlt;have htk0:(l.map Ja).take k=(l.take k).map Ja:=List.map_take.symm;have hw1:IntKind.i64.wrap ((k:Int)+1)=((k+1:Nat):Int):=by rw[JS k oM]
  have g:=UW (JFM t (l.take k)) (by
   intro d hd;simp only[VA,List.not_mem_nil,or_false]at hd;rcases hd with rfl|rfl
   ·exact ft
   ·exact JMM fl k) hY (hp k hk) (fun p hp'=>hK p (List.mem_of_mem_take hp'))
  have c1:=c71 t (l.take k);generalize PA (JFM t (l.take k))=A at g c1;rw[hT]at g;obtain rfl:A=(T,true):=g;have c2:=(JEh T l[k].name).call (by simp[Jl]);rw[hdr,chS]at hc;obtain⟨T2,hT2⟩:∃T2,stS T l[k]=some T2:=by
   cases hh:stS T l[k]with
   |none=>rw[hh]at hc;cases hc
   |some T2=>exact⟨T2,rfl⟩
  rw[hT2]at hc;have hT3:atS t (l.take (k+1))=some T2:=by
   rw[List.take_succ_eq_append_getElem hlt,JIl,hT];exact hT2
  have ho:∀b:Bool,b=(l[k].kind==1&&(UY T l[k].name).1.need==2||(l[k].kind==4&&decide ((T.fields.length:Int)≥2)))→opN T l[k]=if b=true then 1 else 0:=fun b hb=>opN_of b hb
  generalize opN T l[k]=N1 at hc ho;generalize UY T l[k].name=R at*;generalize l[k]=p at*;simp only[JA,Jw]at c1 c2;simp only[go_sem,hx,Ja,hd,tC,Vv,Vc,simprocAttr]
  repeat with_reducible refine And.intro (by first|decide|omega|(simp;done)|(simp;omega)) ?_
  simp only[Vv,Int.toNat_zero,List.drop_zero,Int.sub_zero,htk0];refine JE rfl c1 trivial ?_;simp only[go_sem,Vv,Vc,simprocAttr]
  repeat with_reducible refine And.intro (by first|decide|omega|(simp;done)|(simp;omega)) ?_
  try simp only[go_sem,hx,Ja,Vv,Vc,simprocAttr]
  repeat with_reducible refine And.intro (by first|decide|omega|(simp;done)|(simp;omega)) ?_
  try simp only[go_sem,hx,Ja,Vv,Vc,simprocAttr]
  refine JE rfl c2 trivial ?_;simp only[go_sem,Vv,Vc,simprocAttr]
  repeat with_reducible refine And.intro (by first|decide|omega|(simp;done)|(simp;omega)) ?_
  try simp only[go_sem,hx,Ja,Vv,Vc,simprocAttr]
  repeat with_reducible refine And.intro (by first|decide|omega|(simp;done)|(simp;omega)) ?_
  try simp only[go_sem,hx,Ja,Vv,Vc,simprocAttr]
  refine sq (R.1.need==2) ?_ ?_
  ·simp only[go_sem,Vv,Vc,simprocAttr]
  simp only[go_sem,Vv,Vc,simprocAttr];refine sq (p.kind==4&&decide ((T.fields.length:Int)≥2)) ?_ ?_
  ·simp only[go_sem,hx,Ja,Vv,Vc,simprocAttr]
   repeat with_reducible refine And.intro (by first|decide|omega|(simp;done)|(simp;omega)) ?_
   try simp only[go_sem,hx,Ja,Vv,Vc,simprocAttr]
   refine sq (decide ((T.fields.length:Int)≥2)) ?_ ?_
   ·simp only[go_sem,Vv,Vc,simprocAttr]
   simp only[go_sem,Vv,Vc,simprocAttr]
  simp only[go_sem,Vv,Vc,simprocAttr]
  replace ho:=ho _ rfl
  refine JD (fun h=>?_) (fun h=>?_)
  ·rw[if_pos h]at ho;subst ho;simp only[go_sem,hw1,Vv,Vc,simprocAttr]
   repeat with_reducible refine And.intro (by first|decide|omega|(simp;done)|(simp;omega)) ?_
   refine⟨l.length-(k+1),_,oM,Wk.less ?_,k+1,v+1,T2,xs++[l.take (k+1)],oM,rfl,by rw[Vg,List.length_singleton];omega,hT3,by rw[Vg,List.length_singleton];exact hc,rfl⟩;simp[go_sem,tC,hw1,U2]
  rw[if_neg (by rw[h];decide)]at ho;subst ho;refine⟨l.length-(k+1),_,oM,Wk.less ?_,k+1,v,T2,xs,oM,rfl,oM,hT3,hc,rfl⟩;simp[go_sem,tC,hw1]
 ·have hd:=dF hlt;rw[List.drop_eq_nil_of_le oM]at hc;simp only[go_sem,hd,tC,Vv,Vc,simprocAttr];cases hc;exact⟨xs,rfl,by rw[JMN]⟩
abbrev nd1(l:List Part):Dat:=.agg [.int .i64 1,U2 l,.int .i64 0,.int .i64 0,.str [],.nil 6,.nil 5,.bool false]
theorem con47(c:List (List Part)):KT 47 [.d (.list 1 (c.map U2))] [] (.ms 200 c.length) [(200,.row c.length 8 (c.map nd1))]:=by
 refine Con.Jg ok47.has fun hfit=>?_
 have hl:c.length≤68719476736:=by have:=(hfit (.list 1 (c.map U2)) sP).1;simpa using this
 clear hfit;refine ok47.con (k:=some true) (Nat.le_of_ble_eq_true rfl) (Jj (by simp[J6,put,Jc,J0])) (by simp[JB,upd,inT,JT]) ?_;simp only[go_sem,ir47,Vv,Vc,simprocAttr];refine JJ (fun n s=>∃k:Nat,k≤c.length∧n=c.length-k∧s=⟨[(0,.d (.list 1 (c.map U2))),(3,.ms 200 k),(4,.d (.int .i64 k))],[(200,.row k 8 ((c.take k).map nd1))]⟩) ?_ ?_
 ·refine⟨_,_,(Wk.JG9 3 200 8 rfl rfl dC).trans (Wk.less ?_),0,Nat.zero_le _,rfl,rfl⟩;simp[put,go_sem]
 rintro n s ⟨k,hk,rfl,rfl⟩;by_cases hlt:k<c.length
 ·have hx:nth (c.map U2) k=U2 c[k]:=Yz U2 hlt;have hd:=dT hlt;refine zz6 ?_
  repeat with_reducible refine And.intro (by first|decide|omega|(simp;done)|(simp;omega)) ?_
  refine⟨c.length-(k+1),_,oM,Wk.less ?_,k+1,oM,rfl,rfl⟩;simp[go_sem,JS k oM];rw[List.take_succ_eq_append_getElem (sX hlt),List.getElem_map]
 ·have hd:=dF hlt;obtain rfl:k=c.length:=oM;simp only[go_sem,hd,List.take_length,Vv,Vc,simprocAttr]
theorem c47(c:List (List Part))(i:Nat):CT (.fn 47) [.d (.list 1 (c.map U2))] [(i,none)] (.ms i c.length) [(i,.row c.length 8 (c.map nd1))]:=by
 have h:=(con47 c).call (fun _=>i) (by intro j h;cases h) ?_ ?_ (by intro j o h;cases h) [200] ?_ ?_ ?_
 ·simp only[Av.ren,Obj.ren,J7,Va,Vb,List.nil_append]at h;exact h
 ·intro a b ha hb _;simp only[JB,upd,Av.get]at ha hb;split at ha
  ·split at hb
   ·omega
   ·cases hb
  ·cases ha
 ·intro c hc;simp only[List.mem_singleton]at hc;subst hc;trivial
 ·intro e he;simp only[List.mem_singleton]at he;subst he;exact .inr sP
 ·exact Jj (by simp[J6,put,Jc,J0])
 ·simp[JB,upd,inT,JT]
theorem ex49(t:Typ)(l:List Part)(q:Nat×Typ)(hY:Uw t=0)(h16:l.length≤16)(hp:∀k,k≤l.length→okL (l.take k))(hK:∀p∈l,plK p)(hq:chS t l 0=some q):∃x:List Dat,x.length=q.1∧PT 49 [JH t,.list 3 (l.map Ja)] (.d (.list 1 x)):=by
 refine ok49.pex (fun x:List Dat=>.d (.list 1 x)) (fun x=>x.length=q.1) (Nat.le_of_ble_eq_true rfl) (fun _ _=>by simp[Uv,JT,JN]) ?_;obtain⟨c,hc,c1⟩:=ex48 t l q hY h16 hp hK hq
 replace c1:=c1.call trivial
 have hcl:c.length≤16:=by rw[hc];have:=JJw _ _ _ _ hq;omega
 rw[←hc];simp only[Va,Vb,JA]at c1;rw[JA];simp only[go_sem,ir49,Vv,Vc,simprocAttr];refine wn c1 ?_;simp only[go_sem,Vv,Vc,simprocAttr];refine JJ (fun n s=>∃(k v:Nat) (xs:List Dat),k≤c.length∧n=c.length-k∧xs.length=k∧s=⟨[(5,.d (.list 1 (c.map U2))),(6,.ms 200 v),(7,.d (.int .i64 k))],[(200,.row v 1 xs)]⟩) ?_ ?_
 ·refine⟨_,_,(Wk.JG9 6 200 1 rfl rfl dC).trans (Wk.less ?_),0,0,[],Nat.zero_le _,rfl,rfl,rfl⟩;simp[put,go_sem]
 rintro n s ⟨k,v,xs,hk,rfl,hxs,rfl⟩;by_cases hlt:k<c.length
 ·have hx:nth (c.map U2) k=U2 c[k]:=Yz U2 hlt;have hd:=dT hlt;have htk:(c.map U2).take k=(c.take k).map U2:=List.map_take.symm;have c2:=c47 (c.take k) 201;refine zz6 ?_
  repeat with_reducible refine And.intro (by first|decide|omega|(simp;done)|(simp;omega)) ?_
  simp only[Vv,Int.toNat_zero,List.drop_zero,Int.sub_zero,htk];refine wn c2 ?_;simp only[go_sem,Vv,Vc,simprocAttr]
  repeat with_reducible refine And.intro (by first|decide|omega|(simp;done)|(simp;omega)) ?_
  try refine JFG ?_
  repeat with_reducible refine And.intro (by first|decide|omega|(simp;done)|(simp;omega)) ?_
  try refine JFG ?_
  refine⟨c.length-(k+1),_,oM,Wk.less ?_,k+1,v+1,xs++[.list 8 ((c.take k).map nd1++[.agg [.int .i64 2,U2 c[k],.int .i64 0,.int .i64 0,.str [],.nil 6,.nil 5,.bool false]])],oM,rfl,by rw[Vg,List.length_singleton];omega,rfl⟩;simp[go_sem,JS k oM]
 ·have hd:=dF hlt;simp only[go_sem,hd,Vv,Vc,simprocAttr];exact⟨JQ xs,by rw[Jv,Vc];omega,rfl⟩
theorem JJ0(n:Int):PT 18 [.int .i64 n] (.d (.int .i64 (YR n))):=by
 refine ok18.pc ?_;unfold YR;simp only[go_sem,ir18,Vv,Vc,simprocAttr]
 try simp only[go_sem,Vv,Vc,simprocAttr]
 try (congr 2;split<;>split<;>omega)
theorem JJ1(l:List Dem):JQ (l.map J1)=l.map J1:=U6 _ (fun d=>by simp only[J1,Dat.canon,JQ,X8,Uz]) l
theorem walk4(l:List Dem):PT 4 [.list 6 (l.map J1)] (.d (.list 6 ((l.take 66).map J1))):=by
 refine ok4.pc ?_;simp only[go_sem,ir4,Vv,Vc,Nat.reduceAdd,Nat.reduceEqDiff,Nat.reduceBEq,Nat.reduceLeDiff,reduceCtorEq,↓reduceIte];have hm:(if(66:Int)<(l.length:Int)then(66:Int)else l.length)=((min 66 l.length:Nat):Int):=by split<;>omega
 rw[hm];refine⟨oM,?_⟩;rw[Int.toNat_zero,List.drop_zero,Int.sub_zero,Vv,←List.map_take,JJ1,show l.take (min 66 l.length)=l.take 66 by rw[List.take_eq_take_iff];omega]
theorem JG1:∀(l:List Part) (t:Typ) (n:Nat),(chS t l n).map Prod.snd=atS t l
 |[],t,n=>rfl
 |p::r,t,n=>by
  simp only[chS,atS];cases stS t p with
  |none=>rfl
  |some T=>exact JG1 r T _
theorem JRb(t:Typ)(s:Str):plM t s=(plO t s).isSome:=by
 unfold plM plO;rw[←JG1 (JO s).1 t 0];by_cases h:(JO s).2=0∧(JO s).1.any plB=false
 ·rw[if_pos h];simp[h.1,h.2]
 ·rw[if_neg h];by_cases h1:(JO s).2=0
  ·have h2:(JO s).1.any plB=true:=by
    cases hh:(JO s).1.any plB with
    |true=>rfl
    |false=>exact absurd ⟨h1,hh⟩ h
   rw[h2];simp
  ·simp[h1]
theorem atS_v:∀(l:List Part) (t T:Typ),vT t→atS t l=some T→vT T
 |[],t,T,h,e=>by cases e;exact h
 |p::r,t,T,h,e=>by
  rw[atS]at e;split at e
  ·rename_i U hU;refine atS_v r U T ?_ e;unfold stS at hU;split at hU
   ·rename_i hc;cases hU;simp only[Vi]at hc;exact JOX h hc.2
   ·cases hU
  ·cases e
theorem plO_k{t:Typ}{s:Str}{q:Nat×Typ}(hY:Uw t=0)(h:plO t s=some q):1≤q.2.kind∧atS t (JO s).1=some q.2∧chS t (JO s).1 0=some q∧(JO s).2=0∧(JO s).1.any plB=false:=by
 unfold plO at h;split at h
 ·rename_i hc;have ha:=JG1 (JO s).1 t 0;rw[h]at ha;exact⟨((JA5 _).1 (atS_v _ t q.2 (JOY hY) ha.symm)).1.1,ha.symm,h,hc.1,hc.2⟩
 ·cases h
abbrev H19(t:Typ):Prop:=∀(e:Exp) (o:Int),JGq e=0→1≤o→o≤3→PT 19 [JH t,JL e,.int .i64 o] (.d (.int .i64 (XD 8 t e o)))
theorem walk8(t:Typ)(l:List Dem)(h19:H19 t)(hx:∀d∈l,JGq d.e=0)(hB:∀d∈l,dmB d=false):PT 8 [JH t,.list 6 (l.map J1)] (.d (.int .i64 (JAU t l))):=by
 refine J3.Jg ok8.has fun hfit=>?_
 have hl:l.length≤68719476736:=by have:=(hfit (.list 6 (l.map J1)) sP).1;simpa using this
 clear hfit;refine ok8.pc ?_;rw[JA];simp only[go_sem,ir8,Vv,Vc,simprocAttr];refine JJ (fun n s=>∃k:Nat,k≤l.length∧n=l.length-k∧s=⟨[(1,.d (.list 6 (l.map J1))),(2,.ref 2 0),(5,.d (.int .i64 (JAU t (l.take k)))),(6,.d (.int .i64 k))],[(2,.box (tC t))]⟩) ?_ ?_
 ·refine⟨_,_,Wk.less ?_,0,Nat.zero_le _,rfl,rfl⟩;simp[go_sem,tC,JAU]
 ·rintro n s ⟨k,hk,rfl,rfl⟩;by_cases hlt:k<l.length
  ·have hxx:=ZP hlt;have hd:=dT hlt;have hn:=JF4 (t:=t) hlt;have b1:=JLN t (l.take k);have b2:=Xg 8 t l[k].e l[k].o;have m1:=JGy b1 b2;have hb:=hB _ (Vk hlt);simp only[dmB,Bool.or_eq_false_iff,decide_eq_false_iff_not]at hb;have c1:=(h19 l[k].e l[k].o (hx _ (Vk hlt)) oM oM).call trivial;have c2:=(JJ0 (JAU t (l.take k)*XD 8 t l[k].e l[k].o)).call trivial;have w:=JE4 m1.1 oM;rw[Va,Va,JA,JF]at c1;simp only[J1]at hxx;simp only[go_sem,hxx,hd,tC,Vv,Vc,simprocAttr]
   repeat with_reducible refine And.intro (by first|decide|omega|(simp;done)|(simp;omega)) ?_
   try simp only[go_sem,hxx,Vv,Vc,simprocAttr]
   repeat with_reducible refine And.intro (by first|decide|omega|(simp;done)|(simp;omega)) ?_
   try simp only[go_sem,hxx,Vv,Vc,simprocAttr]
   refine wn c1 ?_;simp only[go_sem,w,Vv,Vc,simprocAttr];refine wn c2 ?_;simp only[go_sem,Vv,Vc,simprocAttr];refine⟨l.length-(k+1),_,oM,Wk.less ?_,k+1,oM,rfl,rfl⟩;rw[hn];simp[go_sem,tC,JS k oM]
  ·have hd:=dF hlt;rw[List.take_of_length_le oM];simp only[go_sem,hd,tC,Vv,Vc,simprocAttr]
def atG(t:Typ)(o:Option (Bool×Bool×Nat))(x:List Part×Bool):Prop:=match o with
 |none=>x.2=false
 |some q=>x.2=true∧q.1=false∧q.2.1=false∧∃s T,x.1=(JO s).1∧plO t s=some (q.2.2,T)
theorem JIm(t:Typ)(s:Str)(ft:fits (JH t))(fs:fits (.str s))(hY:Uw t=0):
  ∃(l:List Part) (ok:Bool) (T:Typ) (ok2:Bool),CT 46 [.d (JH t),.d (.str s)] [] (.tup [.d (.list 3 (l.map Ja)),.d (.bool ok)]) []∧
   CT 71 [.d (JH t),.d (.list 3 (l.map Ja))] [] (.tup [.d (JH T),.d (.bool ok2)]) []∧
   ((plO t s=none∧ok=false)∨(ok=true∧l=(JO s).1∧∃n,plO t s=some (n,T)∧1≤T.kind)):=by
 obtain⟨l,ok,c1,g⟩:∃(l:List Part) (ok:Bool),CT 46 [.d (JH t),.d (.str s)] [] (.tup [.d (.list 3 (l.map Ja)),.d (.bool ok)]) []∧(ok=plM t s∧(ok=true→l=(JO s).1)):=
  ⟨_,_,c46 t s,UW (JRa t s) (by
   intro d hd;simp only[VA,List.not_mem_nil,or_false]at hd;rcases hd with rfl|rfl
   ·exact ft
   ·exact fs) hY⟩
 have g71:=UW (JFM t l);have c2:=c71 t l;generalize PA (JFM t l)=A at g71 c2;refine⟨l,ok,A.1,A.2,c1,c2,?_⟩;rw[JRb]at g;cases hp:plO t s with
 |none=>
  rw[hp]at g;exact .inl ⟨rfl,g.1⟩
 |some q=>
  rw[hp]at g;have h1:ok=true:=g.1;have h2:=g.2 h1;obtain⟨k1,k2,k3,k4,k5⟩:=plO_k hY hp;subst h2;have g71:=g71 (by
    intro d hd;simp only[VA,List.not_mem_nil,or_false]at hd;rcases hd with rfl|rfl
    ·exact ft
    ·exact JE6 k4) hY (by
    by_cases hn:(JO s).1=[]
    ·exact .inl hn
    ·refine .inr ?_;have:=(JAj k4).2 (JO s).1.length (List.length_pos_iff.2 hn) (Nat.le_refl _);rwa[List.take_length]at this) (JIh k5)
  rw[k2]at g71;obtain rfl:A=(q.2,true):=g71;exact .inr ⟨h1,rfl,q.1,rfl,k1⟩
theorem ex50a(t:Typ)(e:Exp)(h1:JBR e=0)(hY:Uw t=0)(hop:e.op≠1∧e.op≠22)(hfit:∀d∈[JH t,JL e],fits d):∃x:List Part×Bool,atG t (U7 t e) x∧PT 50 [JH t,JL e] (.tup [.d (.list 3 (x.1.map Ja)),.d (.bool x.2)]):=by
 refine ok50.pex (fun x:List Part×Bool=>.tup [.d (.list 3 (x.1.map Ja)),.d (.bool x.2)]) (fun x=>atG t (U7 t e) x) (Nat.le_of_ble_eq_true rfl) (fun _ _=>by simp[Uv,JT,JN]) ?_;have ft:=hfit (JH t) sP;have fe:=hfit (JL e) sP;clear hfit;have hU:U7 t e=if Um e=[]then none else(plO t (Um e)).bind (JE3 e):=by
  unfold U7;rw[if_neg hop.1,if_neg hop.2]
 obtain⟨fe1,fe2,fe3,fe4⟩:=YI fe;have har:=JGx h1;obtain⟨-,ha2,ha3,-⟩:=JCq h1;have hne:∀s,plO t s≠none→s≠[]:=by
  intro s hs hs2;apply hs;rw[hs2];unfold plO;rw[if_neg (by rintro⟨a,-⟩;revert a;unfold JO;simp)]
 by_cases h2:e.op=2
 ·have ho:Um e=e.text:=by unfold Um;rw[if_pos h2]
  rw[ho]at hU;obtain⟨l,ok,T,ok2,c1,c2,hc⟩:=JIm t e.text ft fe1 hY;have q2:(e.op==2)=true:=by simp[h2]
  rw[JA]at c1 c2;rw[JA T]at c2;rw[JA,JF e];simp only[go_sem,JJt,q2,Vv,Vc,Nat.reduceAdd,Nat.reduceEqDiff,Nat.reduceBEq,Nat.reduceLeDiff,reduceCtorEq,↓reduceIte];refine wn c1 ?_;simp only[go_sem,Vv,Vc,Nat.reduceAdd,Nat.reduceEqDiff,Nat.reduceBEq,Nat.reduceLeDiff,reduceCtorEq,↓reduceIte];refine wn c2 ?_;simp only[go_sem,Vv,Vc,Nat.reduceAdd,Nat.reduceEqDiff,Nat.reduceBEq,Nat.reduceLeDiff,reduceCtorEq,↓reduceIte];refine sq (T.kind==1) ?_ ?_
  ·simp only[go_sem,Vv,Vc,Nat.reduceAdd,Nat.reduceEqDiff,Nat.reduceBEq,Nat.reduceLeDiff,reduceCtorEq,↓reduceIte]
  simp only[go_sem,Vv,Vc,Nat.reduceAdd,Nat.reduceEqDiff,Nat.reduceBEq,Nat.reduceLeDiff,reduceCtorEq,↓reduceIte];refine⟨(l,ok&&T.kind==1),?_,rfl⟩;rcases hc with⟨a,b⟩|⟨a,b,n,c,d⟩
  ·rw[hU,a,b];split<;>rfl
  ·rw[hU,if_neg (hne _ (by rw[c];simp)),c];simp only[Option.bind,JE3];by_cases hk:T.kind=1
   ·rw[if_neg (by simp[hk]),if_neg (by simp[hk])];exact⟨by rw[a,hk];rfl,rfl,rfl,e.text,T,b,c⟩
   ·have:(T.kind==1)=false:=by simp[hk]
    split
    ·show(ok&&T.kind==1)=false;rw[this,Bool.and_false]
    ·rw[if_pos (by simp[h2,hk])];show(ok&&T.kind==1)=false;rw[this,Bool.and_false]
 have q2:(e.op==2)=false:=by simp[h2]
 have qm:decide ((-1:Int)<0)=true:=dC;have hnil:Um e=[]→atG t (U7 t e) (([],false):List Part×Bool):=fun h=>by rw[hU,if_pos h];rfl
 by_cases h25:e.op=25
 ·obtain⟨c,r,hcr⟩:∃c r,e.args=c::r:=by
   have:=har.1 h25;cases h:e.args with
   |nil=>rw[h]at this;simp at this
   |cons a r=>exact⟨a,r,rfl⟩
  have q25:(e.op==25)=true:=by simp[h25]
  have hx:nth (e.args.map JL) 0=JL c:=by rw[hcr];rfl
  have hal:0<e.args.length:=by rw[hcr];simp
  rw[JF]at hx;have ho:Um e=if c.op=2∧r.any nV=false then c.text else[]:=by
   unfold Um;rw[if_neg h2,hcr];simp only[h25,if_true]
  rw[JA,JF e];simp only[go_sem,JJt,q2,q25,Vv,Vc,Nat.reduceAdd,Nat.reduceEqDiff,Nat.reduceBEq,Nat.reduceLeDiff,reduceCtorEq,↓reduceIte];refine sq (c.op !=2) ?_ ?_
  ·simp only[go_sem,hx,Int.reduceToNat,Vv,Vc,Nat.reduceAdd,Nat.reduceEqDiff,Nat.reduceBEq,Nat.reduceLeDiff,reduceCtorEq,↓reduceIte]
   repeat with_reducible refine And.intro (by first|decide|omega|(simp;done)|(simp;omega)) ?_
   try simp only[go_sem,hx,Int.reduceToNat,Vv,Vc,Nat.reduceAdd,Nat.reduceEqDiff,Nat.reduceBEq,Nat.reduceLeDiff,reduceCtorEq,↓reduceIte]
   decide
  simp only[go_sem,Vv,Vc,Nat.reduceAdd,Nat.reduceEqDiff,Nat.reduceBEq,Nat.reduceLeDiff,reduceCtorEq,↓reduceIte];refine JD (fun q=>?_) (fun q=>?_)
  ·exact⟨([],false),hnil (by rw[ho,if_neg (by simp at q;intro hh;exact q hh.1)]),rfl⟩
  try simp only[go_sem,Vv,Vc,Nat.reduceAdd,Nat.reduceEqDiff,Nat.reduceBEq,Nat.reduceLeDiff,reduceCtorEq,↓reduceIte]
  have hord:(decide (e.op≥8)&&decide (e.op≤11))= !eqO e.op:=by rw[h25];decide
  have hcm:c∈e.args:=by rw[hcr];simp
  have hc2:c.op=2:=sX q;have hB:∀k,(hk:k<e.args.length)→k≠0→e.args[k].op≠1→Um e=[]:=by
   intro k hk h0 hne1;rw[ho,if_neg];rintro⟨-,ha⟩;rw[List.any_eq_false]at ha;obtain⟨j,rfl⟩:∃j,k=j+1:=⟨k-1,oM⟩;have hm:e.args[j+1]∈r:=by
    simp only[hcr,List.getElem_cons_succ];exact Vk _
   have:=ha _ hm;simp only[nV,Bool.not_eq_true',Bool.not_eq_false,beq_iff_eq,Bool.not_eq_true,Bool.not_eq_false']at this;exact hne1 (sX this)
  have hG:(∀(j:Nat) (h1:j<e.args.length),j≠0→e.args[j].op=1)→Um e=c.text:=by
   intro h;have hany:r.any nV=false:=by
    rw[List.any_eq_false];intro x hx;obtain⟨j,hj,rfl⟩:=List.getElem_of_mem hx;have:=h (j+1) (by rw[hcr];simp;omega) oM;simp only[hcr,List.getElem_cons_succ]at this;simp[nV,this]
   rw[ho,if_pos ⟨hc2,hany⟩]
  obtain⟨l,ok,T,ok2,c1,c2,hc⟩:=JIm t c.text ft (YI (fe4 c hcm)).1 hY;rw[JA]at c1 c2;rw[JA T]at c2;refine JJ (fun n s=>∃k:Nat,k≤e.args.length∧n=e.args.length-k∧(∀(j:Nat) (h1:j<e.args.length),j<k→j≠0→e.args[j].op=1)∧s=⟨[(2,.ref 2 0),(3,.ref 3 0),(6,.d (.int .i64 0)),(12,.d (.int .i64 k))],[(2,.box (tC t)),(3,.box (eC e))]⟩) ?_ ?_
  ·refine⟨_,_,Wk.less ?_,0,Nat.zero_le _,rfl,sP,rfl⟩;simp[go_sem,tC]
  rintro n s ⟨k,hk,rfl,hinv,rfl⟩;by_cases hlt:k<e.args.length
  ·have hxk:=Xp hlt;have hd:=dT hlt;have hnx:e.args[k].op=1∨k=0→∀(j:Nat) (h1:j<e.args.length),j<k+1→j≠0→e.args[j].op=1:=fun h j h1 hj hY=>by
    by_cases ej:j=k
    ·subst ej;exact h.resolve_right hY
    ·exact hinv j h1 oM hY
   have hbad:k≠0→e.args[k].op≠1→Um e=[]:=hB k hlt;simp only[go_sem,hd,tC,Vv,Vc,Nat.reduceAdd,Nat.reduceEqDiff,Nat.reduceBEq,Nat.reduceLeDiff,reduceCtorEq,↓reduceIte];refine sq (e.args[k].op !=1) ?_ ?_
   ·simp only[go_sem,hxk,Vv,Vc,Nat.reduceAdd,Nat.reduceEqDiff,Nat.reduceBEq,Nat.reduceLeDiff,reduceCtorEq,↓reduceIte]
    repeat with_reducible refine And.intro (by first|decide|omega|(simp;done)|(simp;omega)) ?_
    try simp only[go_sem,hxk,Vv,Vc,Nat.reduceAdd,Nat.reduceEqDiff,Nat.reduceBEq,Nat.reduceLeDiff,reduceCtorEq,↓reduceIte]
    decide
   simp only[go_sem,Vv,Vc,Nat.reduceAdd,Nat.reduceEqDiff,Nat.reduceBEq,Nat.reduceLeDiff,reduceCtorEq,↓reduceIte];refine JD (fun q=>?_) (fun q=>?_)
   ·simp only[Vi,bne_iff_ne]at q;exact⟨([],false),hnil (hbad oM q.2),rfl⟩
   refine⟨e.args.length-(k+1),_,oM,Wk.less ?_,k+1,oM,rfl,hnx ?_,rfl⟩
   ·simp[go_sem,tC,JS k oM]
   ·simp only[Bool.and_eq_false_iff,bne_eq_false_iff_eq]at q;rcases q with q|q
    ·exact .inr oM
    ·exact .inl q
  ·have hd:=dF hlt;have hsel:Um e=c.text:=hG fun j h1 hj=>hinv j h1 oM hj
   rw[hsel]at hU;simp only[go_sem,hd,tC,hx,Int.reduceToNat,Vv,Vc,Nat.reduceAdd,Nat.reduceEqDiff,Nat.reduceBEq,Nat.reduceLeDiff,reduceCtorEq,↓reduceIte]
   repeat with_reducible refine And.intro (by first|decide|omega|(simp;done)|(simp;omega)) ?_
   try simp only[go_sem,hx,Int.reduceToNat,Vv,Vc,Nat.reduceAdd,Nat.reduceEqDiff,Nat.reduceBEq,Nat.reduceLeDiff,reduceCtorEq,↓reduceIte]
   repeat with_reducible refine And.intro (by first|decide|omega|(simp;done)|(simp;omega)) ?_
   try simp only[go_sem,hx,Int.reduceToNat,Vv,Vc,Nat.reduceAdd,Nat.reduceEqDiff,Nat.reduceBEq,Nat.reduceLeDiff,reduceCtorEq,↓reduceIte]
   refine wn c1 ?_;simp only[go_sem,Vv,Vc,Nat.reduceAdd,Nat.reduceEqDiff,Nat.reduceBEq,Nat.reduceLeDiff,reduceCtorEq,↓reduceIte];refine wn c2 ?_;simp only[go_sem,Vv,Vc,Nat.reduceAdd,Nat.reduceEqDiff,Nat.reduceBEq,Nat.reduceLeDiff,reduceCtorEq,↓reduceIte];refine sq (decide (e.op≤11)) ?_ ?_
   ·simp only[go_sem,Vv,Vc,Nat.reduceAdd,Nat.reduceEqDiff,Nat.reduceBEq,Nat.reduceLeDiff,reduceCtorEq,↓reduceIte]
   simp only[go_sem,Vv,Vc,Nat.reduceAdd,Nat.reduceEqDiff,Nat.reduceBEq,Nat.reduceLeDiff,reduceCtorEq,↓reduceIte];refine sq (decide (T.kind≤7)) ?_ ?_
   ·simp only[go_sem,Vv,Vc,Nat.reduceAdd,Nat.reduceEqDiff,Nat.reduceBEq,Nat.reduceLeDiff,reduceCtorEq,↓reduceIte]
   simp only[go_sem,Vv,Vc,Nat.reduceAdd,Nat.reduceEqDiff,Nat.reduceBEq,Nat.reduceLeDiff,reduceCtorEq,↓reduceIte];refine sq (!((T.kind==4&&(T.words.length:Int)==0)&&(decide (e.op≥8)&&decide (e.op≤11)))) ?_ ?_
   ·simp only[go_sem,Vv,Vc,Nat.reduceAdd,Nat.reduceEqDiff,Nat.reduceBEq,Nat.reduceLeDiff,reduceCtorEq,↓reduceIte];refine sq ((T.words.length:Int)==0) ?_ ?_
    ·simp only[go_sem,Vv,Vc,Nat.reduceAdd,Nat.reduceEqDiff,Nat.reduceBEq,Nat.reduceLeDiff,reduceCtorEq,↓reduceIte]
    simp only[go_sem,Vv,Vc,Nat.reduceAdd,Nat.reduceEqDiff,Nat.reduceBEq,Nat.reduceLeDiff,reduceCtorEq,↓reduceIte];refine sq (decide (e.op≥8)&&decide (e.op≤11)) ?_ ?_
    ·simp only[go_sem,Vv,Vc,Nat.reduceAdd,Nat.reduceEqDiff,Nat.reduceBEq,Nat.reduceLeDiff,reduceCtorEq,↓reduceIte]
    simp only[go_sem,Vv,Vc,Nat.reduceAdd,Nat.reduceEqDiff,Nat.reduceBEq,Nat.reduceLeDiff,reduceCtorEq,↓reduceIte]
   simp only[go_sem,Vv,Vc,Nat.reduceAdd,Nat.reduceEqDiff,Nat.reduceBEq,Nat.reduceLeDiff,reduceCtorEq,↓reduceIte];refine⟨(l,(ok&&decide (T.kind≤7))&& !((T.kind==4&&(T.words.length:Int)==0)&&(decide (e.op≥8)&&decide (e.op≤11)))),?_,rfl⟩;rcases hc with⟨u1,u2⟩|⟨u1,u2,n,u3,u4⟩
   ·rw[hU,u1,u2];split<;>rfl
   ·rw[hU,if_neg (hne _ (by rw[u3];simp)),u3,hord];simp only[Option.bind,JE3,q2,Bool.false_and,Bool.or_false];by_cases hk:T.kind≤7
    ·rw[if_neg sO];split
     ·rename_i hz;show((ok&&decide (T.kind≤7))&& !_)=false;rw[hz];simp
     ·rename_i hz;refine⟨?_,rfl,rfl,c.text,T,u2,u3⟩;simp only[Bool.not_eq_true]at hz;show((ok&&decide (T.kind≤7))&& !_)=true;rw[hz,u1];simp[hk]
    ·rw[if_pos sO];show((ok&&decide (T.kind≤7))&&_)=false;simp[hk]
 have q25:(e.op==25)=false:=by simp[h25]
 by_cases h6:6≤e.op∧e.op≤11
 ·obtain⟨a,b,hcr⟩:∃a b,e.args=[a,b]:=by
   have h2':=har.2 h6.1 h6.2;have h3':(e.args.length:Int)≤2:=by
    rcases ha3 with h|h
    ·have:(Jb e.op).2=2:=by
      have:e.op=6∨e.op=7∨e.op=8∨e.op=9∨e.op=10∨e.op=11:=oM;rcases this with h|h|h|h|h|h<;>rw[h]<;>decide
     omega
    ·omega
   match h:e.args with
   |[]=>rw[h]at h2';simp at h2'
   |[a]=>rw[h]at h2';simp at h2'
   |[a,b]=>exact⟨a,b,rfl⟩
   |a::b::c::r=>rw[h]at h3';simp at h3';omega
  have hal:e.args.length=2:=by rw[hcr];rfl
  have hord:(decide (e.op≥8)&&decide (e.op≤11))= !eqO e.op:=by
   have:e.op=6∨e.op=7∨e.op=8∨e.op=9∨e.op=10∨e.op=11:=oM;rcases this with h|h|h|h|h|h<;>rw[h]<;>decide
  have ho:Um e=if a.op=2∧b.op=1 then a.text else if a.op=1∧b.op=2 then b.text else[]:=by
   unfold Um;rw[if_neg h2,hcr];simp only[h25,if_false,h6,and_self,if_true]
  have qg:decide (e.op≥6)=true:=sO;have ql:decide (e.op≤11)=true:=sO;have hx0:nth (e.args.map JL) 0=JL a:=by rw[hcr];rfl
  have hx1:nth (e.args.map JL) 1=JL b:=by rw[hcr];rfl
  rw[JF]at hx0 hx1;rw[JA,JF e];simp only[go_sem,JJt,q2,q25,qg,ql,Vv,Vc,Nat.reduceAdd,Nat.reduceEqDiff,Nat.reduceBEq,Nat.reduceLeDiff,reduceCtorEq,↓reduceIte];refine JJ (fun n s=>∃k:Nat,k≤2∧n=2-k∧s=⟨[(2,.ref 2 0),(3,.ref 3 0),(6,.d (.int .i64 (if k=0 then-1 else if k=1 then(if a.op=2 then 0 else-1)else if b.op=2 then 1 else if a.op=2 then 0 else-1))),(11,.d (.int .i64 k))],[(2,.box (tC t)),(3,.box (eC e))]⟩) ?_ ?_
  ·refine⟨_,_,Wk.less ?_,0,Nat.zero_le _,rfl,rfl⟩;simp[go_sem,tC]
  rintro n s ⟨k,hk,rfl,rfl⟩;have w1:IntKind.i64.wrap 1=1:=dC;have w2:IntKind.i64.wrap 2=2:=dC
  match k,hk with
  |0,_=>
   have hd:decide (((0:Nat):Int)<((2:Nat):Int))=true:=dC;simp only[go_sem,hd,tC,hal,hx0,Vv,Vc,Nat.reduceAdd,Nat.reduceEqDiff,Nat.reduceBEq,Nat.reduceLeDiff,reduceCtorEq,↓reduceIte]
   repeat with_reducible refine And.intro (by first|decide|omega|(simp;done)|(simp;omega)) ?_
   refine JD (fun q=>?_) (fun q=>?_)
   ·have qa:a.op=2:=sX q;refine⟨1,_,oM,Wk.less ?_,1,oM,rfl,rfl⟩;simp[go_sem,tC,qa,w1]
   ·have qa:¬a.op=2:=sX q;refine⟨1,_,oM,Wk.less ?_,1,oM,rfl,rfl⟩;simp[go_sem,tC,qa,w1]
  |1,_=>
   have hd:decide (((1:Nat):Int)<((2:Nat):Int))=true:=dC;simp only[go_sem,hd,tC,hal,hx1,Vv,Vc,Nat.reduceAdd,Nat.reduceEqDiff,Nat.reduceBEq,Nat.reduceLeDiff,reduceCtorEq,↓reduceIte]
   repeat with_reducible refine And.intro (by first|decide|omega|(simp;done)|(simp;omega)) ?_
   refine JD (fun q=>?_) (fun q=>?_)
   ·have qb:b.op=2:=sX q;refine⟨0,_,oM,Wk.less ?_,2,oM,rfl,rfl⟩;simp[go_sem,tC,qb,w2]
   ·have qb:¬b.op=2:=sX q;refine⟨0,_,oM,Wk.less ?_,2,oM,rfl,rfl⟩;simp[go_sem,tC,qb,w2]
  |2,_=>
   have hd:decide (((2:Nat):Int)<(e.args.length:Int))=false:=by rw[hal];decide
   simp only[go_sem,hd,tC,Vv,Vc,Nat.reduceAdd,Nat.reduceEqDiff,Nat.reduceBEq,Nat.reduceLeDiff,reduceCtorEq,↓reduceIte];by_cases hb2:b.op=2
   ·rw[if_pos hb2];have hx:nth (e.args.map JL) 1=_:=hx1;have hcm:b∈e.args:=by rw[hcr];simp
    have q1:decide ((1:Int)<0)=false:=dC;have q3:(b.op !=2)=false:=by simp[hb2]
    have hB:∀k,(hk:k<e.args.length)→k≠1→e.args[k].op≠1→Um e=[]:=by
     intro k hk h0 hne1;have:k=0:=oM;subst this;have:e.args[0].op=a.op:=by simp[hcr]
     rw[ho,if_neg (by rintro⟨-,h⟩;omega),if_neg (by rintro⟨h,-⟩;omega)]
    have hG:(∀(j:Nat) (h1:j<e.args.length),j≠1→e.args[j].op=1)→Um e=b.text:=by
     intro h;have h0:=h 0 oM oM;have:e.args[0].op=a.op:=by simp[hcr]
     rw[ho,if_neg (by rintro⟨-,h⟩;omega),if_pos ⟨oM,hb2⟩]
    refine sq (b.op !=2) ?_ ?_
    ·simp only[go_sem,hx,hal,Int.reduceToNat,Vv,Vc,Nat.reduceAdd,Nat.reduceEqDiff,Nat.reduceBEq,Nat.reduceLeDiff,reduceCtorEq,↓reduceIte]
     repeat with_reducible refine And.intro (by first|decide|omega|(simp;done)|(simp;omega)) ?_
     try simp only[go_sem,hx,Int.reduceToNat,Vv,Vc,Nat.reduceAdd,Nat.reduceEqDiff,Nat.reduceBEq,Nat.reduceLeDiff,reduceCtorEq,↓reduceIte]
     decide
    simp only[go_sem,Vv,Vc,Nat.reduceAdd,Nat.reduceEqDiff,Nat.reduceBEq,Nat.reduceLeDiff,reduceCtorEq,↓reduceIte];refine JD (fun q=>by simp[hb2]at q) (fun _=>?_)
    try simp only[go_sem,Vv,Vc,Nat.reduceAdd,Nat.reduceEqDiff,Nat.reduceBEq,Nat.reduceLeDiff,reduceCtorEq,↓reduceIte]
    obtain⟨l,ok,T,ok2,c1,c2,hc⟩:=JIm t b.text ft (YI (fe4 b hcm)).1 hY;rw[JA]at c1 c2;rw[JA T]at c2;refine JJ (fun n s=>∃k:Nat,k≤e.args.length∧n=e.args.length-k∧(∀(j:Nat) (h1:j<e.args.length),j<k→j≠1→e.args[j].op=1)∧s=⟨[(2,.ref 2 0),(3,.ref 3 0),(6,.d (.int .i64 1)),(12,.d (.int .i64 k))],[(2,.box (tC t)),(3,.box (eC e))]⟩) ?_ ?_
    ·refine⟨_,_,Wk.less ?_,0,Nat.zero_le _,rfl,sP,rfl⟩;simp[go_sem,tC]
    rintro n s ⟨k,hk,rfl,hinv,rfl⟩;by_cases hlt:k<e.args.length
    ·have hxk:=Xp hlt;have hd:=dT hlt;have hnx:e.args[k].op=1∨k=1→∀(j:Nat) (h1:j<e.args.length),j<k+1→j≠1→e.args[j].op=1:=fun h j h1 hj hY=>by
      by_cases ej:j=k
      ·subst ej;exact h.resolve_right hY
      ·exact hinv j h1 oM hY
     have hbad:k≠1→e.args[k].op≠1→Um e=[]:=hB k hlt;simp only[go_sem,hd,tC,Vv,Vc,Nat.reduceAdd,Nat.reduceEqDiff,Nat.reduceBEq,Nat.reduceLeDiff,reduceCtorEq,↓reduceIte];refine sq (e.args[k].op !=1) ?_ ?_
     ·simp only[go_sem,hxk,Vv,Vc,Nat.reduceAdd,Nat.reduceEqDiff,Nat.reduceBEq,Nat.reduceLeDiff,reduceCtorEq,↓reduceIte]
      repeat with_reducible refine And.intro (by first|decide|omega|(simp;done)|(simp;omega)) ?_
      try simp only[go_sem,hxk,Vv,Vc,Nat.reduceAdd,Nat.reduceEqDiff,Nat.reduceBEq,Nat.reduceLeDiff,reduceCtorEq,↓reduceIte]
      decide
     simp only[go_sem,Vv,Vc,Nat.reduceAdd,Nat.reduceEqDiff,Nat.reduceBEq,Nat.reduceLeDiff,reduceCtorEq,↓reduceIte];refine JD (fun q=>?_) (fun q=>?_)
     ·simp only[Vi,bne_iff_ne]at q;exact⟨([],false),hnil (hbad oM q.2),rfl⟩
     refine⟨e.args.length-(k+1),_,oM,Wk.less ?_,k+1,oM,rfl,hnx ?_,rfl⟩
     ·simp[go_sem,tC,JS k oM]
     ·simp only[Bool.and_eq_false_iff,bne_eq_false_iff_eq]at q;rcases q with q|q
      ·exact .inr oM
      ·exact .inl q
    ·have hd:=dF hlt;have hsel:Um e=b.text:=hG fun j h1 hj=>hinv j h1 oM hj
     rw[hsel]at hU;simp only[go_sem,hd,tC,hx,Int.reduceToNat,Vv,Vc,Nat.reduceAdd,Nat.reduceEqDiff,Nat.reduceBEq,Nat.reduceLeDiff,reduceCtorEq,↓reduceIte]
     repeat with_reducible refine And.intro (by first|decide|omega|(simp;done)|(simp;omega)) ?_
     try simp only[go_sem,hx,Int.reduceToNat,Vv,Vc,Nat.reduceAdd,Nat.reduceEqDiff,Nat.reduceBEq,Nat.reduceLeDiff,reduceCtorEq,↓reduceIte]
     repeat with_reducible refine And.intro (by first|decide|omega|(simp;done)|(simp;omega)) ?_
     try simp only[go_sem,hx,Int.reduceToNat,Vv,Vc,Nat.reduceAdd,Nat.reduceEqDiff,Nat.reduceBEq,Nat.reduceLeDiff,reduceCtorEq,↓reduceIte]
     refine wn c1 ?_;simp only[go_sem,Vv,Vc,Nat.reduceAdd,Nat.reduceEqDiff,Nat.reduceBEq,Nat.reduceLeDiff,reduceCtorEq,↓reduceIte];refine wn c2 ?_;simp only[go_sem,Vv,Vc,Nat.reduceAdd,Nat.reduceEqDiff,Nat.reduceBEq,Nat.reduceLeDiff,reduceCtorEq,↓reduceIte];refine sq (decide (e.op≤11)) ?_ ?_
     ·simp only[go_sem,Vv,Vc,Nat.reduceAdd,Nat.reduceEqDiff,Nat.reduceBEq,Nat.reduceLeDiff,reduceCtorEq,↓reduceIte]
     simp only[go_sem,Vv,Vc,Nat.reduceAdd,Nat.reduceEqDiff,Nat.reduceBEq,Nat.reduceLeDiff,reduceCtorEq,↓reduceIte];refine sq (decide (T.kind≤7)) ?_ ?_
     ·simp only[go_sem,Vv,Vc,Nat.reduceAdd,Nat.reduceEqDiff,Nat.reduceBEq,Nat.reduceLeDiff,reduceCtorEq,↓reduceIte]
     simp only[go_sem,Vv,Vc,Nat.reduceAdd,Nat.reduceEqDiff,Nat.reduceBEq,Nat.reduceLeDiff,reduceCtorEq,↓reduceIte];refine sq (!((T.kind==4&&(T.words.length:Int)==0)&&(decide (e.op≥8)&&decide (e.op≤11)))) ?_ ?_
     ·simp only[go_sem,Vv,Vc,Nat.reduceAdd,Nat.reduceEqDiff,Nat.reduceBEq,Nat.reduceLeDiff,reduceCtorEq,↓reduceIte];refine sq ((T.words.length:Int)==0) ?_ ?_
      ·simp only[go_sem,Vv,Vc,Nat.reduceAdd,Nat.reduceEqDiff,Nat.reduceBEq,Nat.reduceLeDiff,reduceCtorEq,↓reduceIte]
      simp only[go_sem,Vv,Vc,Nat.reduceAdd,Nat.reduceEqDiff,Nat.reduceBEq,Nat.reduceLeDiff,reduceCtorEq,↓reduceIte];refine sq (decide (e.op≥8)&&decide (e.op≤11)) ?_ ?_
      ·simp only[go_sem,Vv,Vc,Nat.reduceAdd,Nat.reduceEqDiff,Nat.reduceBEq,Nat.reduceLeDiff,reduceCtorEq,↓reduceIte]
      simp only[go_sem,Vv,Vc,Nat.reduceAdd,Nat.reduceEqDiff,Nat.reduceBEq,Nat.reduceLeDiff,reduceCtorEq,↓reduceIte]
     simp only[go_sem,Vv,Vc,Nat.reduceAdd,Nat.reduceEqDiff,Nat.reduceBEq,Nat.reduceLeDiff,reduceCtorEq,↓reduceIte];refine⟨(l,(ok&&decide (T.kind≤7))&& !((T.kind==4&&(T.words.length:Int)==0)&&(decide (e.op≥8)&&decide (e.op≤11)))),?_,rfl⟩;rcases hc with⟨u1,u2⟩|⟨u1,u2,n,u3,u4⟩
     ·rw[hU,u1,u2];split<;>rfl
     ·rw[hU,if_neg (hne _ (by rw[u3];simp)),u3,hord];simp only[Option.bind,JE3,q2,Bool.false_and,Bool.or_false];by_cases hk:T.kind≤7
      ·rw[if_neg sO];split
       ·rename_i hz;show((ok&&decide (T.kind≤7))&& !_)=false;rw[hz];simp
       ·rename_i hz;refine⟨?_,rfl,rfl,b.text,T,u2,u3⟩;simp only[Bool.not_eq_true]at hz;show((ok&&decide (T.kind≤7))&& !_)=true;rw[hz,u1];simp[hk]
      ·rw[if_pos sO];show((ok&&decide (T.kind≤7))&&_)=false;simp[hk]
   by_cases ha2':a.op=2
   ·rw[if_neg hb2,if_pos ha2'];have hx:nth (e.args.map JL) 0=_:=hx0;have hcm:a∈e.args:=by rw[hcr];simp
    have hB:∀k,(hk:k<e.args.length)→k≠0→e.args[k].op≠1→Um e=[]:=by
     intro k hk h0 hne1;have:k=1:=oM;subst this;have:e.args[1].op=b.op:=by simp[hcr]
     rw[ho,if_neg (by rintro⟨-,h⟩;omega),if_neg (by rintro⟨h,-⟩;omega)]
    have hG:(∀(j:Nat) (h1:j<e.args.length),j≠0→e.args[j].op=1)→Um e=a.text:=by
     intro h;have h0:=h 1 oM oM;have:e.args[1].op=b.op:=by simp[hcr]
     rw[ho,if_pos ⟨ha2',oM⟩]
    refine sq (a.op !=2) ?_ ?_
    ·simp only[go_sem,hx,hal,Int.reduceToNat,Vv,Vc,Nat.reduceAdd,Nat.reduceEqDiff,Nat.reduceBEq,Nat.reduceLeDiff,reduceCtorEq,↓reduceIte]
     repeat with_reducible refine And.intro (by first|decide|omega|(simp;done)|(simp;omega)) ?_
     try simp only[go_sem,hx,Int.reduceToNat,Vv,Vc,Nat.reduceAdd,Nat.reduceEqDiff,Nat.reduceBEq,Nat.reduceLeDiff,reduceCtorEq,↓reduceIte]
     decide
    simp only[go_sem,Vv,Vc,Nat.reduceAdd,Nat.reduceEqDiff,Nat.reduceBEq,Nat.reduceLeDiff,reduceCtorEq,↓reduceIte];refine JD (fun q=>by simp[ha2']at q) (fun _=>?_)
    try simp only[go_sem,Vv,Vc,Nat.reduceAdd,Nat.reduceEqDiff,Nat.reduceBEq,Nat.reduceLeDiff,reduceCtorEq,↓reduceIte]
    obtain⟨l,ok,T,ok2,c1,c2,hc⟩:=JIm t a.text ft (YI (fe4 a hcm)).1 hY;rw[JA]at c1 c2;rw[JA T]at c2;refine JJ (fun n s=>∃k:Nat,k≤e.args.length∧n=e.args.length-k∧(∀(j:Nat) (h1:j<e.args.length),j<k→j≠0→e.args[j].op=1)∧s=⟨[(2,.ref 2 0),(3,.ref 3 0),(6,.d (.int .i64 0)),(12,.d (.int .i64 k))],[(2,.box (tC t)),(3,.box (eC e))]⟩) ?_ ?_
    ·refine⟨_,_,Wk.less ?_,0,Nat.zero_le _,rfl,sP,rfl⟩;simp[go_sem,tC]
    rintro n s ⟨k,hk,rfl,hinv,rfl⟩;by_cases hlt:k<e.args.length
    ·have hxk:=Xp hlt;have hd:=dT hlt;have hnx:e.args[k].op=1∨k=0→∀(j:Nat) (h1:j<e.args.length),j<k+1→j≠0→e.args[j].op=1:=fun h j h1 hj hY=>by
      by_cases ej:j=k
      ·subst ej;exact h.resolve_right hY
      ·exact hinv j h1 oM hY
     have hbad:k≠0→e.args[k].op≠1→Um e=[]:=hB k hlt;simp only[go_sem,hd,tC,Vv,Vc,Nat.reduceAdd,Nat.reduceEqDiff,Nat.reduceBEq,Nat.reduceLeDiff,reduceCtorEq,↓reduceIte];refine sq (e.args[k].op !=1) ?_ ?_
     ·simp only[go_sem,hxk,Vv,Vc,Nat.reduceAdd,Nat.reduceEqDiff,Nat.reduceBEq,Nat.reduceLeDiff,reduceCtorEq,↓reduceIte]
      repeat with_reducible refine And.intro (by first|decide|omega|(simp;done)|(simp;omega)) ?_
      try simp only[go_sem,hxk,Vv,Vc,Nat.reduceAdd,Nat.reduceEqDiff,Nat.reduceBEq,Nat.reduceLeDiff,reduceCtorEq,↓reduceIte]
      decide
     simp only[go_sem,Vv,Vc,Nat.reduceAdd,Nat.reduceEqDiff,Nat.reduceBEq,Nat.reduceLeDiff,reduceCtorEq,↓reduceIte];refine JD (fun q=>?_) (fun q=>?_)
     ·simp only[Vi,bne_iff_ne]at q;exact⟨([],false),hnil (hbad oM q.2),rfl⟩
     refine⟨e.args.length-(k+1),_,oM,Wk.less ?_,k+1,oM,rfl,hnx ?_,rfl⟩
     ·simp[go_sem,tC,JS k oM]
     ·simp only[Bool.and_eq_false_iff,bne_eq_false_iff_eq]at q;rcases q with q|q
      ·exact .inr oM
      ·exact .inl q
    ·have hd:=dF hlt;have hsel:Um e=a.text:=hG fun j h1 hj=>hinv j h1 oM hj
     rw[hsel]at hU;simp only[go_sem,hd,tC,hx,Int.reduceToNat,Vv,Vc,Nat.reduceAdd,Nat.reduceEqDiff,Nat.reduceBEq,Nat.reduceLeDiff,reduceCtorEq,↓reduceIte]
     repeat with_reducible refine And.intro (by first|decide|omega|(simp;done)|(simp;omega)) ?_
     try simp only[go_sem,hx,Int.reduceToNat,Vv,Vc,Nat.reduceAdd,Nat.reduceEqDiff,Nat.reduceBEq,Nat.reduceLeDiff,reduceCtorEq,↓reduceIte]
     repeat with_reducible refine And.intro (by first|decide|omega|(simp;done)|(simp;omega)) ?_
     try simp only[go_sem,hx,Int.reduceToNat,Vv,Vc,Nat.reduceAdd,Nat.reduceEqDiff,Nat.reduceBEq,Nat.reduceLeDiff,reduceCtorEq,↓reduceIte]
     refine wn c1 ?_;simp only[go_sem,Vv,Vc,Nat.reduceAdd,Nat.reduceEqDiff,Nat.reduceBEq,Nat.reduceLeDiff,reduceCtorEq,↓reduceIte];refine wn c2 ?_;simp only[go_sem,Vv,Vc,Nat.reduceAdd,Nat.reduceEqDiff,Nat.reduceBEq,Nat.reduceLeDiff,reduceCtorEq,↓reduceIte];refine sq (decide (e.op≤11)) ?_ ?_
     ·simp only[go_sem,Vv,Vc,Nat.reduceAdd,Nat.reduceEqDiff,Nat.reduceBEq,Nat.reduceLeDiff,reduceCtorEq,↓reduceIte]
     simp only[go_sem,Vv,Vc,Nat.reduceAdd,Nat.reduceEqDiff,Nat.reduceBEq,Nat.reduceLeDiff,reduceCtorEq,↓reduceIte];refine sq (decide (T.kind≤7)) ?_ ?_
     ·simp only[go_sem,Vv,Vc,Nat.reduceAdd,Nat.reduceEqDiff,Nat.reduceBEq,Nat.reduceLeDiff,reduceCtorEq,↓reduceIte]
     simp only[go_sem,Vv,Vc,Nat.reduceAdd,Nat.reduceEqDiff,Nat.reduceBEq,Nat.reduceLeDiff,reduceCtorEq,↓reduceIte];refine sq (!((T.kind==4&&(T.words.length:Int)==0)&&(decide (e.op≥8)&&decide (e.op≤11)))) ?_ ?_
     ·simp only[go_sem,Vv,Vc,Nat.reduceAdd,Nat.reduceEqDiff,Nat.reduceBEq,Nat.reduceLeDiff,reduceCtorEq,↓reduceIte];refine sq ((T.words.length:Int)==0) ?_ ?_
      ·simp only[go_sem,Vv,Vc,Nat.reduceAdd,Nat.reduceEqDiff,Nat.reduceBEq,Nat.reduceLeDiff,reduceCtorEq,↓reduceIte]
      simp only[go_sem,Vv,Vc,Nat.reduceAdd,Nat.reduceEqDiff,Nat.reduceBEq,Nat.reduceLeDiff,reduceCtorEq,↓reduceIte];refine sq (decide (e.op≥8)&&decide (e.op≤11)) ?_ ?_
      ·simp only[go_sem,Vv,Vc,Nat.reduceAdd,Nat.reduceEqDiff,Nat.reduceBEq,Nat.reduceLeDiff,reduceCtorEq,↓reduceIte]
      simp only[go_sem,Vv,Vc,Nat.reduceAdd,Nat.reduceEqDiff,Nat.reduceBEq,Nat.reduceLeDiff,reduceCtorEq,↓reduceIte]
     simp only[go_sem,Vv,Vc,Nat.reduceAdd,Nat.reduceEqDiff,Nat.reduceBEq,Nat.reduceLeDiff,reduceCtorEq,↓reduceIte];refine⟨(l,(ok&&decide (T.kind≤7))&& !((T.kind==4&&(T.words.length:Int)==0)&&(decide (e.op≥8)&&decide (e.op≤11)))),?_,rfl⟩;rcases hc with⟨u1,u2⟩|⟨u1,u2,n,u3,u4⟩
     ·rw[hU,u1,u2];split<;>rfl
     ·rw[hU,if_neg (hne _ (by rw[u3];simp)),u3,hord];simp only[Option.bind,JE3,q2,Bool.false_and,Bool.or_false];by_cases hk:T.kind≤7
      ·rw[if_neg sO];split
       ·rename_i hz;show((ok&&decide (T.kind≤7))&& !_)=false;rw[hz];simp
       ·rename_i hz;refine⟨?_,rfl,rfl,a.text,T,u2,u3⟩;simp only[Bool.not_eq_true]at hz;show((ok&&decide (T.kind≤7))&& !_)=true;rw[hz,u1];simp[hk]
      ·rw[if_pos sO];show((ok&&decide (T.kind≤7))&&_)=false;simp[hk]
   rw[if_neg hb2,if_neg ha2'];simp only[go_sem,qm,Vv,Vc,Nat.reduceAdd,Nat.reduceEqDiff,Nat.reduceBEq,Nat.reduceLeDiff,reduceCtorEq,↓reduceIte];exact⟨([],false),hnil (by rw[ho,if_neg (fun h=>ha2' h.1),if_neg (fun h=>hb2 h.2)]),rfl⟩
 have ho:Um e=[]:=by
  unfold Um;rw[if_neg h2];split
  ·rfl
  ·rw[if_neg h25,if_neg h6]
 rw[JA,JF e];by_cases hg:e.op≥6
 ·have qg:decide (e.op≥6)=true:=sO;have ql:decide (e.op≤11)=false:=sO;simp only[go_sem,JJt,q2,q25,qg,ql,qm,Vv,Vc,Nat.reduceAdd,Nat.reduceEqDiff,Nat.reduceBEq,Nat.reduceLeDiff,reduceCtorEq,↓reduceIte];exact⟨([],false),hnil ho,rfl⟩
 ·have qg:decide (e.op≥6)=false:=sO;simp only[go_sem,JJt,q2,q25,qg,qm,Vv,Vc,Nat.reduceAdd,Nat.reduceEqDiff,Nat.reduceBEq,Nat.reduceLeDiff,reduceCtorEq,↓reduceIte];exact⟨([],false),hnil ho,rfl⟩
theorem ex50h(t:Typ)(e:Exp)(h:e.op=22):PT 50 [JH t,JL e] (.tup [.d (.list 3 (([]:List Part).map Ja)),.d (.bool false)]):=by
 refine ok50.pc ?_;have q2:(e.op==2)=false:=by simp[h]
 have q25:(e.op==25)=false:=by simp[h]
 have qg:decide (e.op≥6)=true:=sO;have ql:decide (e.op≤11)=false:=sO;have qm:decide ((-1:Int)<0)=true:=dC;rw[JA,JF e];simp only[go_sem,JJt,q2,q25,qg,ql,qm,Vv,Vc,Nat.reduceAdd,Nat.reduceEqDiff,Nat.reduceBEq,Nat.reduceLeDiff,reduceCtorEq,↓reduceIte]
theorem pl_ch{t:Typ}{s:Str}{q:Nat×Typ}(hY:Uw t=0)(h:plO t s=some q):
  (∃x:List (List Part),x.length≤16∧PT 48 [JH t,.list 3 ((JO s).1.map Ja)] (.d (.list 1 (x.map U2))))∧∃x:List Dat,x.length=q.1∧PT 49 [JH t,.list 3 ((JO s).1.map Ja)] (.d (.list 1 x)):=by
 obtain⟨k1,k2,k3,k4,k5⟩:=plO_k hY h;have hp:∀k,k≤(JO s).1.length→okL ((JO s).1.take k):=by
  intro k hk;rcases Nat.eq_zero_or_pos k with rfl|h0
  ·exact .inl sP
  ·exact .inr ((JAj k4).2 k h0 hk)
 obtain⟨x,hx,c⟩:=ex48 t _ q hY (YY s) hp (JIh k5) k3;exact⟨⟨x,by have:=JJx h;omega,c⟩,ex49 t _ q hY (YY s) hp (JIh k5) k3⟩
theorem ex31a(t:Typ)(e:Exp)(o:Int)(h1:JBR e=0)(hY:Uw t=0)(hop:e.op≠3∧e.op≠4∧e.op≠5)(ho:1≤o∧o≤3)(hfit:∀d∈[JH t,JL e],fits d):∃x:List Dat,(x.length:Int)=lfI o (v0I e) (U7 t e)∧PT 31 [JH t,JL e,.int .i64 o] (.d (.list 1 x)):=by
 refine ok31.pex (fun x:List Dat=>.d (.list 1 x)) (fun x=>(x.length:Int)=lfI o (v0I e) (U7 t e)) (Nat.le_of_ble_eq_true rfl) (fun _ _=>by simp[Uv,JT,JN]) ?_;have ft:=hfit (JH t) sP;have fe:=hfit (JL e) sP;obtain⟨-,-,-,hv⟩:=JCq h1;have q3:(e.op==3)=false:=by simp[hop.1]
 have q4:(e.op==4)=false:=by simp[hop.2.1]
 have q5:(e.op==5)=false:=by simp[hop.2.2]
 by_cases hv1:e.op=1
 ·obtain⟨v,vs,hvv,-⟩:=hv hv1;have hU:U7 t e=some (false,true,0):=by unfold U7;rw[if_pos hv1]
  have h0:v0I e=v.int:=by rw[v0I,hvv];rfl
  have hx:nth (e.value.map JM) 0=JM v:=by rw[hvv];rfl
  have hal:e.value.length=vs.length+1:=by rw[hvv];rfl
  have q1:(e.op==1)=true:=by simp[hv1]
  rw[JI]at hx;rw[hU,h0];rw[JA,JF e];simp only[go_sem,JMH,q3,q4,q5,q1,hx,hal,Int.reduceToNat,Vv,Vc,simprocAttr]
  repeat with_reducible refine And.intro (by first|decide|omega|(simp;done)|(simp;omega)) ?_
  refine sq (o !=3) ?_ ?_
  ·simp only[go_sem,Vv,Vc,simprocAttr]
  simp only[go_sem,Vv,Vc,simprocAttr];refine JD (fun q=>?_) (fun q=>?_)
  ·refine⟨dC,[.list 8 []],?_,rfl⟩;simp only[lfI,if_true];rw[if_pos (by revert q;cases(o==1)<;>cases(v.int==1)<;>cases(o !=3)<;>decide)];rfl
  ·refine⟨[],?_,rfl⟩;simp only[lfI,if_true];rw[if_neg (by revert q;cases(o==1)<;>cases(v.int==1)<;>cases(o !=3)<;>decide)];rfl
 have q1:(e.op==1)=false:=by simp[hv1]
 by_cases h22:e.op=22
 ·have q22:(e.op==22)=true:=by simp[h22]
  have hU:U7 t e=(plO t e.text).map fun q=>(true,false,q.1):=by unfold U7;rw[if_neg hv1,if_pos h22]
  obtain⟨l,ok,T,ok2,c1,-,hc⟩:=JIm t e.text ft (YI fe).1 hY;rcases hc with⟨u1,u2⟩|⟨u1,u2,n,u3,u4⟩
  ·have c50:=(ex50h t e h22).call (by simp[Jl]);rw[hU,u1];subst u2;rw[JA]at c1;simp only[Va,Vb,JA,JF e]at c50;rw[JA,JF e];simp only[go_sem,JMH,q3,q4,q5,q1,q22,Vv,Vc,simprocAttr];refine wn c1 ?_;simp only[go_sem,Vv,Vc,simprocAttr];refine wn c50 ?_;simp only[go_sem,Vv,Vc,simprocAttr]
   repeat with_reducible refine And.intro (by first|decide|omega|(simp;done)|(simp;omega)) ?_
   exact⟨_,rfl,rfl⟩
  ·obtain⟨⟨ch,hch,c48⟩,ab,hab,c49⟩:=pl_ch hY u3;rw[hU,u3];subst u1 u2
   replace c48:=c48.call trivial
   replace c49:=c49.call trivial
   have c7:=c47 ch 86;rw[JA]at c1;simp only[Va,Vb,JA]at c48 c49;rw[JA,JF e];simp only[go_sem,JMH,q3,q4,q5,q1,q22,Vv,Vc,simprocAttr];refine wn c1 ?_;simp only[go_sem,Vv,Vc,simprocAttr];refine JD (fun q=>?_) (fun q=>?_)
   ·have:o=1:=sX q;subst this
    try simp only[go_sem,Vv,Vc,simprocAttr]
    refine wn c48 ?_;simp only[go_sem,Vv,Vc,simprocAttr];refine wn c7 ?_;simp only[go_sem,Vv,Vc,simprocAttr];exact⟨sP,JQ [.list 8 (ch.map nd1)],by rw[Jv];rfl,rfl⟩
   have n1:o≠1:=sX q
   try simp only[go_sem,Vv,Vc,simprocAttr]
   refine JD (fun q=>?_) (fun q=>?_)
   ·have:o=2:=sX q;subst this
    try simp only[go_sem,Vv,Vc,simprocAttr]
    refine wn c49 ?_;simp only[go_sem,Vv,Vc,simprocAttr];exact⟨JQ ab,by rw[Jv,Vc,hab];rfl,rfl⟩
   have n2:o≠2:=sX q;have:o=3:=oM;subst this
   try simp only[go_sem,Vv,Vc,simprocAttr]
   exact⟨[],rfl,rfl⟩
 have q22:(e.op==22)=false:=by simp[h22]
 obtain⟨⟨l,ok⟩,g,c50⟩:=ex50a t e h1 hY ⟨hv1,h22⟩ hfit
 replace c50:=c50.call (by simp[Jl])
 simp only[Va,Vb,JA,JF e]at c50;cases hu:U7 t e with
 |none=>
  rw[hu]at g;obtain rfl:ok=false:=g;rw[JA,JF e];simp only[go_sem,JMH,q3,q4,q5,q1,q22,Vv,Vc,simprocAttr];refine wn c50 ?_;simp only[go_sem,Vv,Vc,simprocAttr]
  repeat with_reducible refine And.intro (by first|decide|omega|(simp;done)|(simp;omega)) ?_
  exact⟨_,rfl,rfl⟩
 |some q=>
  rw[hu]at g;obtain⟨g1,g2,g3,s,T,g4,g5⟩:=g;obtain⟨⟨ch,hch,c48⟩,ab,hab,c49⟩:=pl_ch hY g5;simp only at g1 g4;subst g1 g4;obtain⟨qa,qb,n⟩:=q;simp only at g2 g3 hab;subst g2 g3
  replace c48:=c48.call trivial
  replace c49:=c49.call trivial
  have c7:=c47 ch 108;simp only[Va,Vb,JA]at c48 c49;rw[JA,JF e];simp only[go_sem,JMH,q3,q4,q5,q1,q22,Vv,Vc,simprocAttr];refine wn c50 ?_;simp only[go_sem,Vv,Vc,simprocAttr];refine JD (fun q=>?_) (fun q=>?_)
  ·have:o=3:=sX q;subst this
   try simp only[go_sem,Vv,Vc,simprocAttr]
   refine wn c49 ?_;simp only[go_sem,Vv,Vc,simprocAttr];exact⟨JQ ab,by rw[Jv,Vc,hab];rfl,rfl⟩
  have n1:o≠3:=sX q
  try simp only[go_sem,Vv,Vc,simprocAttr]
  refine JE rfl c48 trivial ?_;simp only[go_sem,Vv,Vc,simprocAttr]
  repeat with_reducible refine And.intro (by first|decide|omega|(simp;done)|(simp;omega)) ?_
  refine JE rfl c7 ⟨rfl,trivial⟩ ?_;simp only[go_sem,Vv,Vc,simprocAttr]
  repeat with_reducible refine And.intro (by first|decide|omega|(simp;done)|(simp;omega)) ?_
  refine⟨_,?_,rfl⟩;rw[Jv];simp[lfI,n1]
theorem JRc{x m:Int}(hx:0≤x):YR (x+YR m)=YR (x+m):=by unfold YR;split<;>split<;>(try split)<;>omega
theorem JG2{t:Typ}(hY:Uw t=0):∀(k:Nat) (n:Int) (e:Exp),(eF k n e).1=0→∀(o:Int),1≤o→o≤3→PT 19 [JH t,JL e,.int .i64 o] (.d (.int .i64 (XD k t e o)))
 |0,n,e,h,_,_,_=>by
  have:=(JE2 h).2;obtain⟨j,hj,_⟩:=this;omega
 |k+1,n,e,h,o,o1,o3=>by
  obtain⟨h1,j,hj,ha⟩:=JE2 h;obtain rfl:k=j:=oM;refine J3.Jg ok19.has fun hfit=>?_
  refine ok19.pc ?_;obtain⟨-,h2,-,h4⟩:=JCq h1;have hlf:XD (k+1) t e o=match e.args with
   |[]=>lfI o (v0I e) (U7 t e)
   |a::r=>if e.op=3 then XD k t a (JCF o)
    else match r with
     |[]=>lfI o (v0I e) (U7 t e)
     |b::_=>if e.op=4∨e.op=5 then(let on:=if e.op=5 then 2 else 1;let ab:=YR (XD k t a on*XD k t b o);if o=on then ab else YR (XD k t a o+ab))else lfI o (v0I e) (U7 t e):=rfl
  generalize XD (k+1) t e o=R at hlf;by_cases h3:e.op=3
  ·have:1≤e.args.length:=by
    rw[h3]at h2;have:(Jb 3).1=1:=dC;omega
   obtain⟨a,r,har⟩:∃a r,e.args=a::r:=by
    cases hh:e.args with
    |nil=>rw[hh]at this;simp at this
    |cons a r=>exact⟨a,r,rfl⟩
   rw[har]at hlf;simp only[h3,if_true]at hlf;obtain⟨m,hm⟩:=ha a (by rw[har];simp);have c:=fun o' p1 p2=>(JG2 hY k m a hm o' p1 p2).call trivial
   have hx:nth (e.args.map JL) 0=JL a:=by rw[har];rfl
   have hal:e.args.length=r.length+1:=by rw[har];rfl
   rw[JF]at hx;simp only[Va,Vb,JA,JF a]at c;have q3:(e.op==3)=true:=by simp[h3]
   rw[JA,JF e];simp only[go_sem,JOm,q3,Vv,Vc,simprocAttr];refine JD (fun q=>?_) (fun q=>?_)
   ·have n3:o≠3:=sX q;have hw:IntKind.i64.wrap (3-o)=3-o:=JE4 oM oM;have hf:JCF o=3-o:=by unfold JCF;split<;>(try split)<;>omega
    rw[hf]at hlf
    try simp only[go_sem,hw,hx,hal,Int.reduceToNat,Vv,Vc,simprocAttr]
    repeat with_reducible refine And.intro (by first|decide|omega|(simp;done)|(simp;omega)) ?_
    try simp only[go_sem,hx,hal,Int.reduceToNat,Vv,Vc,simprocAttr]
    refine wn (c (3-o) oM oM) ?_;simp only[go_sem,Vv,Vc,simprocAttr];rw[hlf]
   ·have n3:o=3:=sX q;have hf:JCF o=o:=by rw[n3];rfl
    rw[hf]at hlf
    try simp only[go_sem,hx,hal,Int.reduceToNat,Vv,Vc,simprocAttr]
    repeat with_reducible refine And.intro (by first|decide|omega|(simp;done)|(simp;omega)) ?_
    try simp only[go_sem,hx,hal,Int.reduceToNat,Vv,Vc,simprocAttr]
    refine wn (c o oM oM) ?_;simp only[go_sem,Vv,Vc,simprocAttr];rw[hlf]
  have q3:(e.op==3)=false:=by simp[h3]
  by_cases h45:e.op=4∨e.op=5
  ·have:2≤e.args.length:=by
    have:(Jb e.op).1=2:=by rcases h45 with h|h<;>rw[h]<;>decide
    omega
   obtain⟨a,b,r,har⟩:∃a b r,e.args=a::b::r:=by
    match hh:e.args with
    |[]=>rw[hh]at this;simp at this
    |[a]=>rw[hh]at this;simp at this
    |a::b::r=>exact⟨a,b,r,rfl⟩
   rw[har]at hlf;simp only[h3,if_false,h45,if_true]at hlf;obtain⟨m,hm⟩:=ha a (by rw[har];simp);obtain⟨m2,hm2⟩:=ha b (by rw[har];simp);have hx:nth (e.args.map JL) 0=JL a:=by rw[har];rfl
   have hy:nth (e.args.map JL) 1=JL b:=by rw[har];rfl
   have hal:e.args.length=r.length+2:=by rw[har];rfl
   rw[JF]at hx hy;have c1:=fun on p1 p2=>(JG2 hY k m a hm on p1 p2).call trivial
   have c2:=(JG2 hY k m2 b hm2 o o1 o3).call trivial;have b1:=fun on=>Xg k t a on
   have b2:=Xg k t b o;simp only[Va,Vb,JA,JF a]at c1;simp only[Va,Vb,JA,JF b]at c2;generalize XD k t b o=y at*;generalize XD k t a=X at*;have m1:=fun on=>JGy (b1 on) b2
   have w1:∀on,IntKind.i64.wrap (X on*y)=X on*y:=fun on=>JE4 (m1 on).1 (by have:=(m1 on).2;omega)
   have w2:∀on,IntKind.i64.wrap (X o+X on*y)=X o+X on*y:=fun on=>JE4 (by have:=(m1 on).1;have:=(b1 o).1;omega) (by have:=(m1 on).2;have:=(b1 o).2;omega)
   have cf:=fun on=>(JJ0 (X on*y)).call trivial
   have cf2:=fun on=>(JJ0 (X o+X on*y)).call trivial
   simp only[JRc (b1 o).1]at hlf;rw[JA,JF e];by_cases h5:e.op=5
   ·have q4:(e.op==4)=false:=by simp[h5]
    have q5:(e.op==5)=true:=by simp[h5]
    simp only[h5,if_true]at hlf;simp only[go_sem,JOm,q3,q4,q5,Vv,Vc,simprocAttr];refine JD (fun ho=>?_) (fun ho=>?_)
    ·have hoo:o=2:=sX ho;rw[if_pos hoo]at hlf;rw[hoo]at c2
     try simp only[go_sem,hx,hy,hal,Int.reduceToNat,Vv,Vc,simprocAttr]
     repeat with_reducible refine And.intro (by first|decide|omega|(simp;done)|(simp;omega)) ?_
     try simp only[go_sem,hx,hy,hal,Int.reduceToNat,Vv,Vc,simprocAttr]
     refine JE rfl (c1 2 oM oM) trivial ?_;simp only[go_sem,hx,hy,hal,Int.reduceToNat,Vv,Vc,simprocAttr]
     repeat with_reducible refine And.intro (by first|decide|omega|(simp;done)|(simp;omega)) ?_
     try simp only[go_sem,hx,hy,hal,Int.reduceToNat,Vv,Vc,simprocAttr]
     refine JE rfl c2 trivial ?_;simp only[go_sem,w1,Vv,Vc,simprocAttr];refine JE rfl (cf 2) trivial ?_;simp only[go_sem,Vv,Vc,simprocAttr]
     repeat with_reducible refine And.intro (by first|decide|omega|(simp;done)|(simp;omega)) ?_
     rw[hlf]
    rw[if_neg (sX ho)]at hlf
    try simp only[go_sem,hx,hy,hal,Int.reduceToNat,Vv,Vc,simprocAttr]
    repeat with_reducible refine And.intro (by first|decide|omega|(simp;done)|(simp;omega)) ?_
    try simp only[go_sem,hx,hy,hal,Int.reduceToNat,Vv,Vc,simprocAttr]
    refine JE rfl (c1 o o1 o3) trivial ?_;simp only[go_sem,hx,hy,hal,Int.reduceToNat,Vv,Vc,simprocAttr]
    repeat with_reducible refine And.intro (by first|decide|omega|(simp;done)|(simp;omega)) ?_
    try simp only[go_sem,hx,hy,hal,Int.reduceToNat,Vv,Vc,simprocAttr]
    refine JE rfl (c1 2 oM oM) trivial ?_;simp only[go_sem,hx,hy,hal,Int.reduceToNat,Vv,Vc,simprocAttr]
    repeat with_reducible refine And.intro (by first|decide|omega|(simp;done)|(simp;omega)) ?_
    try simp only[go_sem,hx,hy,hal,Int.reduceToNat,Vv,Vc,simprocAttr]
    refine JE rfl c2 trivial ?_;simp only[go_sem,w1,w2,Vv,Vc,simprocAttr];refine JE rfl (cf2 2) trivial ?_;simp only[go_sem,Vv,Vc,simprocAttr]
    repeat with_reducible refine And.intro (by first|decide|omega|(simp;done)|(simp;omega)) ?_
    rw[hlf]
   ·have q4:(e.op==4)=true:=sO;have q5:(e.op==5)=false:=by simp[h5]
    simp only[h5,if_false]at hlf;simp only[go_sem,JOm,q3,q4,q5,Vv,Vc,simprocAttr];refine JD (fun ho=>?_) (fun ho=>?_)
    ·have hoo:o=1:=sX ho;rw[if_pos hoo]at hlf;rw[hoo]at c2
     try simp only[go_sem,hx,hy,hal,Int.reduceToNat,Vv,Vc,simprocAttr]
     repeat with_reducible refine And.intro (by first|decide|omega|(simp;done)|(simp;omega)) ?_
     try simp only[go_sem,hx,hy,hal,Int.reduceToNat,Vv,Vc,simprocAttr]
     refine JE rfl (c1 1 oM oM) trivial ?_;simp only[go_sem,hx,hy,hal,Int.reduceToNat,Vv,Vc,simprocAttr]
     repeat with_reducible refine And.intro (by first|decide|omega|(simp;done)|(simp;omega)) ?_
     try simp only[go_sem,hx,hy,hal,Int.reduceToNat,Vv,Vc,simprocAttr]
     refine JE rfl c2 trivial ?_;simp only[go_sem,w1,Vv,Vc,simprocAttr];refine JE rfl (cf 1) trivial ?_;simp only[go_sem,Vv,Vc,simprocAttr]
     repeat with_reducible refine And.intro (by first|decide|omega|(simp;done)|(simp;omega)) ?_
     rw[hlf]
    rw[if_neg (sX ho)]at hlf
    try simp only[go_sem,hx,hy,hal,Int.reduceToNat,Vv,Vc,simprocAttr]
    repeat with_reducible refine And.intro (by first|decide|omega|(simp;done)|(simp;omega)) ?_
    try simp only[go_sem,hx,hy,hal,Int.reduceToNat,Vv,Vc,simprocAttr]
    refine JE rfl (c1 o o1 o3) trivial ?_;simp only[go_sem,hx,hy,hal,Int.reduceToNat,Vv,Vc,simprocAttr]
    repeat with_reducible refine And.intro (by first|decide|omega|(simp;done)|(simp;omega)) ?_
    try simp only[go_sem,hx,hy,hal,Int.reduceToNat,Vv,Vc,simprocAttr]
    refine JE rfl (c1 1 oM oM) trivial ?_;simp only[go_sem,hx,hy,hal,Int.reduceToNat,Vv,Vc,simprocAttr]
    repeat with_reducible refine And.intro (by first|decide|omega|(simp;done)|(simp;omega)) ?_
    try simp only[go_sem,hx,hy,hal,Int.reduceToNat,Vv,Vc,simprocAttr]
    refine JE rfl c2 trivial ?_;simp only[go_sem,w1,w2,Vv,Vc,simprocAttr];refine JE rfl (cf2 1) trivial ?_;simp only[go_sem,Vv,Vc,simprocAttr]
    repeat with_reducible refine And.intro (by first|decide|omega|(simp;done)|(simp;omega)) ?_
    rw[hlf]
  have q4:(e.op==4)=false:=sO;have q5:(e.op==5)=false:=sO;have hlf2:R=lfI o (v0I e) (U7 t e):=by
   rw[hlf];split
   ·rfl
   rw[if_neg h3];split
   ·rfl
   rw[if_neg h45]
  obtain⟨x,hxl,cx⟩:=ex31a t e o h1 hY ⟨h3,oM,oM⟩ ⟨o1,o3⟩ (by
   intro d hd;simp only[VA,List.not_mem_nil,or_false]at hd;rcases hd with rfl|rfl
   ·exact hfit _ sP
   ·exact hfit _ sP)
  replace cx:=cx.call trivial
  simp only[Va,Vb,JA,JF e]at cx;rw[JA,JF e];simp only[go_sem,JOm,q3,q4,q5,Vv,Vc,simprocAttr];refine wn cx ?_;simp only[go_sem,Vv,Vc,simprocAttr];rw[hlf2,hxl]
theorem h19{t:Typ}(hY:Uw t=0):H19 t:=fun e o hx h1 h3=>JG2 hY 8 0 e hx o h1 h3
end Go.Proofs
namespace Go.Proofs
open Go Av
open Av.Y
def ir3:Ic:=q (R (ox 2 0<|ow 4 false<|N) [0,4])<|q (R (om 8 1<|cl 9 4 [t 8]<|om 1 9<|N) [8,9])<|q (R (oL 11 7 2<|om 12 1<|cl 13 5 [t 11,t 12]<|om 10 13<|oe 14 10 0<|oe 15 10 1<|om 5 14<|om 6 15<|N) [11,12,13,10,14,15])<|q (q (R (cl 16 6 []<|og 17 16<|N) [16])<|D (I 17 (q (R (ow 4 false<|N) [1,2,5,6,17])<|.ret) S) [17])<|q (q (R (oL 18 7 2<|om 19 1<|cl 20 7 [t 18,t 19]<|om 7 20<|N) [18,19,20])<|q (R (om 21 7<|oi 22 .neq 21 0<|N) [21])<|D (I 22 (q (R (om 23 6<|om 24 7<|ot 25 .eql 23 24<|om 26 25<|.sc 26 true (om 27 5<|oi 28 .eql 27 0<|N) (t 28) 29 (om 4 29<|N)) [1,2,5,6,7,22,23,24,25,26,29])<|.ret) S) [7,22])<|q (R (om 30 6<|oi 31 .eql 30 0<|om 32 31<|.sc 32 true (om 33 5<|oL 34 7 2<|om 35 1<|cl 36 8 [t 34,t 35]<|ot 37 .eql 33 36<|N) (t 37) 38 (om 4 38<|N)) [1,2,5,6,30,31,32,38])<|.ret
theorem ok3:FT 3 39 ir3 [.tmp 4]:=.o Tryz.func3
end Go.Proofs
namespace Go.Proofs
open Go Av
theorem JOs{t:Typ}{l:List Dem}(h:ckS t l=0):Uw t=0∧(∀d∈l,dmB d=false):=by
 have h':=h;unfold ckS at h;split at h
 ·cases h
 split at h
 ·cases h
 rename_i hb;refine⟨?_,fun d hd=>?_⟩
 ·split at h
  ·rename_i h1;exact absurd h h1
  rename_i h1;cases l with
  |nil=>
   unfold JML at h;rw[if_pos (show([]:List Dem).length=0 from rfl)]at h;split at h
   ·rename_i h2;exact absurd h h2
   ·rename_i h2;simpa using h2
  |cons d r=>exact(erS_0 (JE5 (sX h1) d.e sP)).2
 ·have:=List.any_eq_false.1 (by simpa using hb:l.any dmB=false) d hd;simpa using this
theorem walk3(hk:PT 6 [] (.d (.bool true)))(t:Typ)(l:List Dem):PT 3 [JH t,.list 6 (l.map J1)] (.d (.bool true)):=by
 refine ok3.pc ?_;have c1:=(walk4 l).call (by simp[Jl]);generalize l.take 66=m at c1;have c2:=(walk5 t m).call (by simp[Jl]);have c3:=hk.call trivial;have c4:=(walk7 t m).call trivial;have c5:ckS t m=0→_:=fun h=>(walk8 t m (h19 (JOs h).1) (ckS_x h) (JOs h).2).call trivial
 have hcs:csS t m=if ckS t m≠0 then(0,ckS t m)else(JAU t m,0):=rfl;generalize csS t m=S at*;generalize ckS t m=C at*;generalize JAU t m=N at*;simp only[Va,Vb,JA]at c2 c4 c5;rw[JA];simp only[go_sem,ir3,Vv,Vc,simprocAttr];refine wn c1 ?_;simp only[go_sem,Vv,Vc,simprocAttr];refine wn c2 ?_;simp only[go_sem,Vv,Vc,simprocAttr];refine wn c3 ?_;simp only[go_sem,Vv,Vc,simprocAttr];refine Av.JD (fun q=>by cases q) (fun _=>?_)
 try simp only[go_sem,Vv,Vc,simprocAttr]
 refine wn c4 ?_;simp only[go_sem,Vv,Vc,simprocAttr];refine Av.JD (fun q=>?_) (fun q=>?_)
 ·rw[if_pos (sX q)]at hcs;subst hcs;simp only[go_sem,Vv,Vc,simprocAttr]
  try simp only[go_sem,beq_self_eq_true,Vv,Vc,simprocAttr]
 rw[if_neg (sX q)]at hcs;subst hcs;refine Jy true (fun _=>?_) ?_
 ·simp only[go_sem,Vv,Vc,simprocAttr];refine wn (c5 (sX q)) ?_;simp only[go_sem,Vv,Vc,simprocAttr]
  try simp only[go_sem,beq_self_eq_true,Vv,Vc,simprocAttr]
 simp only[go_sem,Bool.and_self,Vv,Vc,simprocAttr]
end Go.Proofs
namespace Av
open Go
variable [Glb][Rls]
theorem JR.JE8{P:Program}{ρ:Go.Shelf.Ren}(L:Go.Proofs.SlLaysW.n5 P ρ)(hh:Has P (ρ.f 5))(es:List (Dat×Dat))(i j:Nat):
  JR P (.fn (ρ.f 5)) [.mp i] [(i,some (.mapo es)),(j,none)] (.mp j) [(j,.mapo es)]:=by
 intro β A w H vs hT hc hvs;have hi:H i=some (.mapo es):=hT _ (Vh);have hj:H j=none:=hT (j,none) sP;obtain⟨b,ents,clk,hb,hw,hlen,hrep,hbn⟩:=hc.objs i _ hi;have h1:vs.size=1:=by have:=hvs.1;simp at this;omega
 obtain⟨x,rfl⟩:∃x,vs=#[x]:=⟨vs[0],by
  apply Array.ext
  ·simp[h1]
  ·intro k h1 h2;have:k=0:=by simp at h2;omega
   subst this;rfl⟩
 have hx:=hvs.2 0 _ x rfl rfl;have hxb:x=.map (some b):=by
  cases hx with
  |mp _ _ hu h0 h1=>
   obtain⟨b',hb',rfl⟩:=h1 es hi;rw[hb]at hb';cases hb';rfl
 subst hxb;refine .inl ⟨hh,(Go.Proofs.AnyW.maps_Clone L b ents clk w hw).mono ?_⟩;rintro e w' ⟨rfl,rfl⟩;refine⟨_,rfl,upd β j (some w.heap.size),A,Stp.alloc hc hj _ _ (fun hv=>⟨w.heap.size,ents,clk,JG _ _ _,UC _ _,hlen,fun k e m he hm=>?_,hbn⟩),?_⟩
 ·obtain⟨r1,r2⟩:=hrep k e m he hm;exact⟨(hv _ _ (.d _ _ r1)).JZ,(hv _ _ (.d _ _ r2)).JZ⟩
 ·exact .mp _ _ rfl (by simp[JB,upd]) (fun es _=>⟨_,JG _ _ _,rfl⟩) (by simp[JB,upd]) (by simp[JB,upd])
end Av
namespace Go.Proofs
open Go.Shelf
def Tryz.JHD:Go.Shelf.Ren:=⟨fun|5=>166|7=>226|n=>n,fun|23=>90|25=>173|3=>4|4=>4|20=>20|n=>n,fun|n=>n⟩
theorem Tryz.JPC:Go.Proofs.SlLaysW.n5 Tryz.prog Tryz.JHD:={
 mixed:=kR
 f5:=⟨Tryz.f166.name,dC,Tryz.func166.trans (congrArg some kR)⟩
 f7:=Tryz.func226.trans (congrArg some kR)
 t4:=Tryz.underlying4
 a4:=Tryz.isAgg4
 z4:=Tryz.sizeOf4
 v4:=Tryz.zeroValue4
 t20:=Tryz.underlying20
 a20:=Tryz.isAgg20
 z20:=Tryz.sizeOf20
 v20:=Tryz.zeroValue20
 t23:=Tryz.underlying90
 a23:=Tryz.isAgg90
 z23:=Tryz.sizeOf90
 v23:=Tryz.zeroValue90}
def Tryz.JHE:Go.Shelf.Ren:=⟨fun|5=>167|7=>226|n=>n,fun|23=>91|25=>9|3=>131|4=>4|20=>20|n=>n,fun|n=>n⟩
theorem Tryz.JPD:Go.Proofs.SlLaysW.n5 Tryz.prog Tryz.JHE:={
 mixed:=kR
 f5:=⟨Tryz.f167.name,dC,Tryz.func167.trans (congrArg some kR)⟩
 f7:=Tryz.func226.trans (congrArg some kR)
 t4:=Tryz.underlying4
 a4:=Tryz.isAgg4
 z4:=Tryz.sizeOf4
 v4:=Tryz.zeroValue4
 t20:=Tryz.underlying20
 a20:=Tryz.isAgg20
 z20:=Tryz.sizeOf20
 v20:=Tryz.zeroValue20
 t23:=Tryz.underlying91
 a23:=Tryz.isAgg91
 z23:=Tryz.sizeOf91
 v23:=Tryz.zeroValue91}
def Tryz.JHF:Go.Shelf.Ren:=⟨fun|5=>168|7=>226|n=>n,fun|23=>92|25=>9|3=>26|4=>4|20=>20|n=>n,fun|n=>n⟩
theorem Tryz.JPE:Go.Proofs.SlLaysW.n5 Tryz.prog Tryz.JHF:={
 mixed:=kR
 f5:=⟨Tryz.f168.name,dC,Tryz.func168.trans (congrArg some kR)⟩
 f7:=Tryz.func226.trans (congrArg some kR)
 t4:=Tryz.underlying4
 a4:=Tryz.isAgg4
 z4:=Tryz.sizeOf4
 v4:=Tryz.zeroValue4
 t20:=Tryz.underlying20
 a20:=Tryz.isAgg20
 z20:=Tryz.sizeOf20
 v20:=Tryz.zeroValue20
 t23:=Tryz.underlying92
 a23:=Tryz.isAgg92
 z23:=Tryz.sizeOf92
 v23:=Tryz.zeroValue92}
def Tryz.Ya:Go.Shelf.Ren:=⟨fun|7=>66|10=>118|n=>n,fun|23=>91|26=>9|3=>131|28=>129|0=>0|27=>128|33=>185|4=>4|n=>n,fun|n=>n⟩
theorem Tryz.laysK:Go.Proofs.SlLaysZ.n7 Tryz.prog Tryz.Ya:={
 mixed:=kR
 f7:=⟨Tryz.f66.name,dC,Tryz.func66.trans (congrArg some kR)⟩
 f10:=⟨Tryz.f118.name,dC,Tryz.func118.trans (congrArg some kR)⟩
 t0:=Tryz.underlying0
 a0:=Tryz.isAgg0
 z0:=Tryz.sizeOf0
 v0:=Tryz.zeroValue0
 t4:=Tryz.underlying4
 a4:=Tryz.isAgg4
 z4:=Tryz.sizeOf4
 v4:=Tryz.zeroValue4
 t23:=Tryz.underlying91
 a23:=Tryz.isAgg91
 z23:=Tryz.sizeOf91
 v23:=Tryz.zeroValue91
 t26:=Tryz.underlying9
 a26:=Tryz.isAgg9
 z26:=Tryz.sizeOf9
 v26:=Tryz.zeroValue9
 t27:=Tryz.underlying128
 a27:=Tryz.isAgg128
 z27:=Tryz.sizeOf128
 v27:=Tryz.zeroValue128
 t28:=Tryz.underlying129
 a28:=Tryz.isAgg129
 z28:=Tryz.sizeOf129
 v28:=Tryz.zeroValue129
 t33:=Tryz.underlying185
 a33:=Tryz.isAgg185
 z33:=Tryz.sizeOf185
 v33:=Tryz.zeroValue185}
def Tryz.JCv:Go.Shelf.Ren:=⟨fun|6=>65|8=>116|9=>117|11=>171|13=>173|12=>172|23=>236|24=>237|14=>227|15=>228|16=>229|17=>230|18=>231|19=>232|20=>233|21=>234|22=>235|25=>258|26=>259|27=>260|28=>261|29=>262|30=>263|31=>295|n=>n,fun|26=>9|28=>129|24=>22|0=>0|3=>3|37=>231|48=>285|50=>287|4=>4|40=>279|39=>278|45=>201|5=>5|9=>9|51=>310|55=>83|57=>343|58=>143|33=>185|n=>n,fun|n=>n⟩
theorem Tryz.laysS:Go.Proofs.SlLaysZ.n6 Tryz.prog Tryz.JCv:={
 mixed:=kR
 f6:=⟨Tryz.f65.name,dC,Tryz.func65.trans (congrArg some kR)⟩
 f8:=⟨Tryz.f116.name,dC,Tryz.func116.trans (congrArg some kR)⟩
 f11:=⟨Tryz.f171.name,dC,Tryz.func171.trans (congrArg some kR)⟩
 t0:=Tryz.underlying0
 a0:=Tryz.isAgg0
 z0:=Tryz.sizeOf0
 v0:=Tryz.zeroValue0
 t24:=Tryz.underlying22
 a24:=Tryz.isAgg22
 z24:=Tryz.sizeOf22
 v24:=Tryz.zeroValue22
 t26:=Tryz.underlying9
 a26:=Tryz.isAgg9
 z26:=Tryz.sizeOf9
 v26:=Tryz.zeroValue9
 t28:=Tryz.underlying129
 a28:=Tryz.isAgg129
 z28:=Tryz.sizeOf129
 v28:=Tryz.zeroValue129
 i26:=by kernel_rfl}
end Go.Proofs
namespace Av
open Go
variable [Glb][Rls]
variable {X:Ext}{K:Nat→Nat}
abbrev JMO:=Nat→List Av→List (Nat×Obj)→Option (Av×List (Nat×Obj)×List Nat×List Nat)
def JG3(P:Program)(Y:JMO):Prop:=∀f vs hp v hp' tk uk,Y f vs hp=some (v,hp',tk,uk)→
 Has P f∧∃T ups,JR P (.fn f) vs T v ups∧U9 (get hp) T∧(∀i,get hp' i=JB (get hp) ups i)∧T.map (·.1)=tk∧ups.map (·.1)=uk
def JF5(P:Program)(X:Ext)(K:Nat→Nat)(L:Nat)(rec:Xj):Xj:=fun c vs hp=>
 match c with
  |.fn f=>match YE vs with
   |some ds=>match X f ds with
    |some v=>some (v,hp,[],[])
    |none=>match K f==1 with
     |true=>JA2 P (some true) (rec) L f vs hp
     |false=>match evF P (Zf (K f)) (rec) L f vs []with
      |some (v,_)=>match JAB v with
       |true=>some (v,hp,[],[])
       |false=>JA2 P (Zf (K f)) (rec) L f vs hp
      |none=>none
   |none=>match(match JA1 vs with|true=>none|false=>asData vs hp)with
    |some (ds,u)=>match X f ds with
     |some (.d r)=>match scalar r with
      |true=>some (.d r,hp,vs.flatMap Y1,[])
      |false=>some (.d r,J6 hp u,vs.flatMap Y1,keys u)
     |some _=>none
     |none=>match K f==3 with
      |true=>match evF P (some false) (rec) L f (ds.map .d) []with
       |some (v,_)=>match JAB v with
        |true=>some (v,J6 hp u,vs.flatMap Y1,keys u)
        |false=>none
       |none=>none
      |false=>JA2 P (Zf (K f)) (rec) L f vs hp
    |none=>JA2 P (Zf (K f)) (rec) L f vs hp
  |.yld=>JKa P (rec) L vs hp
def JDR(P:Program)(X:Ext)(Y:JMO)(K:Nat→Nat)(L:Nat):Nat→Xj
 |0,_,_,_=>none
 |n+1,c,vs,hp=>match c with
  |.fn f=>match Y f vs hp with
   |some r=>some r
   |none=>JF5 P X K L (JDR P X Y K L n) (.fn f) vs hp
  |.yld=>JF5 P X K L (JDR P X Y K L n) .yld vs hp
def mapY(cl:List Nat)(so g:Nat):JMO:=fun f vs hp=>match vs with
 |[.mp i]=>match cl.contains f with
  |true=>match get hp i with
   |some (.mapo es)=>match JFk (keys hp) 1000 [0]with
    |[(_,j)]=>match get hp j with
     |none=>some (.mp j,put hp j (.mapo es),[i,j],[j])
     |some _=>none
    |_=>none
   |_=>none
  |false=>none
 |[.clo (.func g') [] [.ref b 0]]=>match Nat.beq f so&&Nat.beq g' g with
  |true=>match get hp b with
   |some (.box [.mp i])=>match get hp i with
    |some (.mapo [(.str k,_)])=>some (.d (.list 1 [.str k]),hp,[b,i],[])
    |_=>none
   |_=>none
  |false=>none
 |_=>none
section
variable {P:Program}{call:Xj}{L:Nat}
theorem JOt(hX:Uu P X){rec:Xj}(i1:Ur P rec)(i2:YO P rec):Ur P (JF5 P X K L rec)∧YO P (JF5 P X K L rec):=by
 constructor
 ·intro c vs hp v hp' tk uk h;simp only[JF5]at h;split at h
  ·rename_i f;split at h
   ·rename_i ds hds;have:=Xt hds;subst this;split at h
    ·rename_i d hd;simp only[Vd,Ve]at h;obtain⟨rfl,rfl,rfl,rfl⟩:=h;exact⟨[],[],hX f ds d hd,trivial,fun _=>rfl,rfl,rfl⟩
    ·split at h
     ·exact(XF i1 i2 h).2
     split at h
     ·rename_i v0 fh hev;split at h
      ·rename_i hpure;simp only[Vd,Ve]at h;obtain⟨rfl,rfl,rfl,rfl⟩:=h;exact⟨[],[],J3.call (ZJ i1 i2 hev hpure) (ZH hpure),trivial,fun _=>rfl,rfl,rfl⟩
      ·exact(XF i1 i2 h).2
     ·cases h
   ·split at h
    ·rename_i ds u ha;have ha:asData vs hp=some (ds,u):=by
      split at ha
      ·cases ha
      ·exact ha
     split at h
     ·rename_i r hd;split at h
      ·rename_i hr;simp only[Vd,Ve]at h;obtain⟨rfl,rfl,rfl,rfl⟩:=h;exact JFm ha (hX f ds _ hd) hr
      ·simp only[Vd,Ve]at h;obtain⟨rfl,rfl,rfl,rfl⟩:=h;exact JAh ha (hX f ds _ hd)
     ·cases h
     ·split at h
      ·split at h
       ·rename_i v0 fh hev;split at h
        ·rename_i hpure;simp only[Vd,Ve]at h;obtain⟨rfl,rfl,rfl,rfl⟩:=h;exact JAh ha (J3.call (ZJ i1 i2 hev hpure) (ZH hpure))
        ·cases h
       ·cases h
      ·exact(XF i1 i2 h).2
    ·exact(XF i1 i2 h).2
  ·exact JHt i1 i2 h
 ·intro g vs hp r h hids;simp only[JF5]at h;split at h
  ·rename_i ds hds;have:=Xt hds;subst this;exfalso;have:∀ds:List Dat,JA1 (ds.map Av.d)=false:=by
    intro ds
    induction ds with
    |nil=>rfl
    |cons d r ih=>simpa only[Va,JA1]using ih
   rw[this]at hids;cases hids
  ·rw[hids]at h;obtain⟨v,hp',tk,uk⟩:=r;exact(XF i1 i2 h).1
theorem JIn{Y:JMO}(hX:Uu P X)(hY:JG3 P Y):∀n,Ur P (JDR P X Y K L n)∧YO P (JDR P X Y K L n)
 |0=>⟨(by intro c vs hp v hp' tk uk h;cases h),(by intro g vs hp r h;cases h)⟩
 |n+1=>by
  obtain⟨i1,i2⟩:=JIn hX hY n;have hs:=JOt (L:=L) (K:=K) hX i1 i2;constructor
  ·intro c vs hp v hp' tk uk h;simp only[JDR]at h;split at h
   ·split at h
    ·rename_i hy;simp only[Vd]at h;subst h;exact(hY _ _ _ _ _ _ _ hy).2
    ·exact hs.1 _ _ _ _ _ _ _ h
   ·exact hs.1 _ _ _ _ _ _ _ h
  ·intro f vs hp r h hm;simp only[JDR]at h;split at h
   ·rename_i hy;obtain⟨v,hp',tk,uk⟩:=r;simp only[Vd]at h;subst h;exact(hY _ _ _ _ _ _ _ hy).1
   ·exact hs.2 _ _ _ _ h hm
theorem JOu{Y:JMO}{k:Option Bool}(hX:Uu P X)(hY:JG3 P Y){n f:Nat}{ds:List Dat}{v:Av}{fh:List (Nat×Obj)}(h:evF P k (JDR P X Y K L n) L f (ds.map .d) []=some (v,fh))(hv:JAB v=true):J3 P f ds v:=by
 have i:=JIn (P:=P) (L:=L) (K:=K) hX hY n;exact ZJ i.1 i.2 h hv
theorem JRd{cl:List Nat}{so g:Nat}(hcl:∀f,cl.contains f=true→∀es i j,Has P f∧JR P (.fn f) [.mp i] [(i,some (.mapo es)),(j,none)] (.mp j) [(j,.mapo es)])
  (hso:∀k v b i,Has P so∧JR P (.fn so) [.clo (.func g) [] [.ref b 0]] [(b,some (.box [.mp i])),(i,some (.mapo [(.str k,v)]))] (.d (.list 1 [.str k])) []):JG3 P (mapY cl so g):=by
 intro f vs hp v hp' tk uk h;unfold mapY at h;split at h
 ·rename_i i;split at h
  ·rename_i hf;split at h
   ·rename_i es hi;split at h
    ·rename_i x j hfr;split at h
     ·rename_i hj;simp only[Vd,Ve]at h;obtain⟨rfl,rfl,rfl,rfl⟩:=h;obtain⟨h1,h2⟩:=hcl f hf es i j;refine⟨h1,_,_,h2,⟨hi,hj,trivial⟩,fun k=>?_,rfl,rfl⟩;rw[UD];simp only[JB,upd,eq_comm]
     ·cases h
    ·cases h
   ·cases h
  ·cases h
 ·rename_i g' b;split at h
  ·rename_i hf;simp only[Vi]at hf;obtain rfl:=Nat.eq_of_beq_eq_true hf.1;obtain rfl:=Nat.eq_of_beq_eq_true hf.2;split at h
   ·rename_i i hb;split at h
    ·rename_i k x hi;simp only[Vd,Ve]at h;obtain⟨rfl,rfl,rfl,rfl⟩:=h;obtain⟨h1,h2⟩:=hso k x b i;exact⟨h1,_,_,h2,⟨hb,hi,trivial⟩,fun k=>rfl,rfl,rfl⟩
    ·cases h
   ·cases h
  ·cases h
 ·cases h
end
end Av
namespace Go.Proofs
open Go Av Go.RowKit Go.Maps Go.Sort Go.Shelf Go.WideElems
theorem JMP(m:Nat):AnyZ.SortsIn Tryz.prog Tryz.JCv Fence.wide m:=
 ⟨fun blk off cap ss W hH hblk hsz=>callsIn_wide.2 (Any.slices_Sort_string Tryz.JCL blk off cap ss W hH hblk hsz),
  fun p cap W=>callsIn_wide.2 (Any.slices_Sort_string_none Tryz.JCL p cap W)⟩
theorem JLO{α:Type}{a:Array α}(h:1=a.size):∃x,a=#[x]:=by
 refine⟨a[0]'oM,?_⟩;apply Array.ext
 ·simpa using h.symm
 ·intro i h1 h2;have:i=0:=by simp at h2;omega
  subst this;rfl
theorem JOv(k:List UInt8)(v:Dat)(b i:Nat):CT (.fn 65) [.clo (.func 118) [] [.ref b 0]] [(b,some (.box [.mp i])),(i,some (.mapo [(.str k,v)]))] (.d (.list 1 [.str k])) []:=by
 intro β A w H vs hT hc hvs;have hb:H b=some (.box [.mp i]):=hT _ Vh;have hi:H i=some (.mapo [(.str k,v)]):=hT (i,some (.mapo [(.str k,v)])) sP;obtain⟨bb,C,T,e1,e2,e3,e4,e5⟩:=hc.objs b _ hb;obtain⟨mb,ents,clk,m1,m2,m3,m4,m5⟩:=hc.objs i _ hi;have h1:vs.size=1:=by have:=hvs.1;simp at this;omega
 obtain⟨x,rfl⟩:=JLO h1.symm;have hx:=hvs.2 0 _ x rfl rfl;cases hx with
 |clo _ _ _ a1 a2 q1 q2 q3 q4=>
  obtain rfl:a1=#[]:=Array.eq_empty_of_size_eq_zero (sX q1.symm);obtain⟨u,rfl⟩:=JLO (sX q2);have hu:=q4 0 _ u rfl rfl;have hu':u=.pointer (some ⟨bb,0,none⟩):=by
   cases hu with
   |ref _ _ b' p _ r0 r1 r2 r3=>
    obtain⟨s1,s2⟩:=r2 _ hb;rw[e1]at s1;cases s1;rw[r0,s2]
  subst hu';obtain⟨c0,rfl⟩:=JLO (sX e3);have hc0:=e5 0 _ c0 rfl rfl;have hc0':c0=.map (some mb):=by
   cases hc0 with
   |mp _ _ r0 r1 r2 r3 r4=>
    obtain⟨b',s1,s2⟩:=r2 _ hi;rw[m1]at s1;cases s1;exact s2
  subst hc0';obtain⟨m,rfl⟩:=JLO (sX m3);obtain⟨hk,_⟩:=m4 0 _ m rfl rfl;have hborn:=m5 m sP;obtain⟨mk,mv,mbn⟩:=m;simp only at hk hborn;cases hk with
  |str _ hkl=>
   have hbl:bb<w.heap.size:=(Array.getElem?_eq_some_iff.1 e2).1;have hkey:keyOf Tryz.prog (Tryz.Ya.t 26) (.string ⟨k.toArray⟩)=some (.string k):=by
    simp only[keyOf,mapKey];rw[show Tryz.prog.underlying (Tryz.Ya.t 26)=some .string from Tryz.laysK.t26];have hm:maxLen=9223372036854775807:=dC;have hz:(⟨k.toArray⟩:ByteArray).size≤maxLen:=by rw[hm];show k.toArray.size≤_;simp;omega
    simp[hz]
   have hrg:rg (H:=Unit) Tryz.prog (Tryz.Ya.t 26) (fun _=>some (.nil,[])) ⟨.string ⟨k.toArray⟩,mv,mbn⟩=(.string k,.nil):=by
    unfold rg WideElems.rd;rw[hkey];rfl
   have hown:w.ownsMap (H:=Unit) Tryz.prog (Tryz.Ya.t 26) (fun _=>some (.nil,[])) mb 1 (.map [(.string k,.nil)]):=by
    refine⟨_,clk,m2,⟨by simp[maxLen],⟨?_,sP,sP⟩,?_⟩,sP,?_⟩
    ·intro x hx;rw[List.mem_singleton.1 hx];exact hborn
    ·intro x hx;rw[List.mem_singleton.1 hx];unfold WideElems.rd;rw[hkey];exact⟨_,rfl⟩
    ·show _=DataW.map (DataW.insert (rg _ _ _ _) []);rw[hrg];rfl
   have hcell:w.cell? ⟨bb,0,none⟩=some (.map (some mb)):=by simp[World.cell?,e2]
   have hseq:=AnyZ.keys_gives (ρ:=Tryz.Ya) {Tryz.laysK with} Fence.wide 2 trivial rfl oM bb mb 1 _ w hbl hcell hown;have cS:=AnyZ.sorted_in Tryz.laysS Fence.wide 5 trivial trivial trivial trivial rfl oM (JMP _) (enters_of Tryz.func117 kR rfl) 118 #[.pointer (some ⟨bb,0,none⟩)] trivial (enters_of Tryz.func118 kR rfl) _ _
    (by show 1≤maxLen;simp[maxLen]) (by show 1*16≤_;omega) w hseq
   refine .inl ⟨⟨_,Tryz.func65,kR,kR⟩,(callsIn_wide.1 cS).mono ?_⟩;rintro e w' ⟨u,ss,rfl,hS,hrow,hnil,hbw⟩;have hss:ss=[k]:=List.perm_singleton.1 hS;subst hss;refine⟨u,rfl,β,fun b=>A b∨(w.heap.size≤b∧b<w'.heap.size),?_,.d _ _ ?_⟩
   ·refine Stp.new hc hbw.os hbw.tape hbw.output hbw.size hbw.block (fun _ h=>.inl h) ?_ ?_
    ·rintro b (h|h)
     ·exact .inl h
     ·exact .inr h.1
    ·rintro b (h|h)
     ·exact Nat.lt_of_lt_of_le (hc.old b h) hbw.size
     ·exact h.2
   ·exact JEg (ss:=[k]) (e:=Tryz.JCv.t 26) rfl (sX hkl) sP (by rw[List.mergeSort_singleton]at hrow;exact hrow)
def Y6:JMO:=mapY [166,167,168] 65 118
theorem Y6_ok:JG3 Tryz.prog Y6:=by
 refine JRd (fun f hf es i j=>?_) fun k v b i=>⟨⟨_,Tryz.func65,kR,kR⟩,JOv k v b i⟩
 have:f=166∨f=167∨f=168:=sX hf;rcases this with rfl|rfl|rfl
 ·exact⟨⟨_,Tryz.func166,kR,kR⟩,JR.JE8 Tryz.JPC ⟨_,Tryz.func166,kR,kR⟩ es i j⟩
 ·exact⟨⟨_,Tryz.func167,kR,kR⟩,JR.JE8 Tryz.JPD ⟨_,Tryz.func167,kR,kR⟩ es i j⟩
 ·exact⟨⟨_,Tryz.func168,kR,kR⟩,JR.JE8 Tryz.JPE ⟨_,Tryz.func168,kR,kR⟩ es i j⟩
end Go.Proofs
namespace Go.Proofs
open Go Av Go.RowKit Go.Shelf Go.Lib
variable {X:Ext}{K:Nat→Nat}
theorem JBW{P:Program}{w:World}{ops:Array Oper}{rest:List Oper}{o:Oper}{a:Act}{Q:Exit→Act→World→Prop}(hgd:o.guard=none)(s x:Operand)(t:TypeId)
  (ho:o.op=.call {callee:=.builtin .append,args:=#[s,x],argTypes:=#[t,t]})(e:TypeId)(i:TypeInfo)(ht:P.underlying t=some (.slice e))(hi:P.info? e=some i)
  (b:Option Addr)(hs:a.eval s=.slice b 0 0)(ad:Option Addr)(c:Nat)(hx:a.eval x=.slice ad 0 c)(h:wpList P ops Q rest (a.put o.dst (.slice b 0 0)) w):wpList P ops Q (o::rest) a w:=by
 refine wpList_plain hgd fun _ hK=>?_
 have hr:=Zn (P:=P) (w:=w) t t o.type e i ht hi b (.slice ad 0 c) (by
  cases ad with
  |none=>exact Src.ofNil w ht c
  |some ad=>exact Src.ofSlice w ht ad 0 c [] sP sP sP)
 unfold Oper.wp execOp;simp only[ho,resolve,invoke,builtin,Sem.run_bind,Sem.run_pure,Result.andThen_ok,List.map_toArray,Va,Vb,hs,hx,hr];exact hK _ _ h
set_option maxHeartbeats 2000000 in
set_option maxRecDepth 1000000 in
theorem cl115(a:Option Addr)(c:Nat)(w:World):Calls Tryz.prog 115 #[.slice a 0 c] w fun e w'=>∃a',e=.returned (.slice a' 0 0)∧Below w.heap.size w w':=by
 obtain⟨i0,hi⟩:∃i0,Tryz.prog.info? 183=some i0:=Option.isSome_iff_exists.1 kR;have q:∀(w:World) (a:Option Addr) (n c n' c':Nat),(binOp .eql 131 (.slice a n c) (.slice none n' c')).run Tryz.prog w=.ok (.bool a.isNone) w:=fun w a n c n' c'=>Lib.run_eql_slice_nil w _ _ a n c n' c' Tryz.underlying131
 have mixed:Tryz.prog.follows Departure.mixedOrders=true:=kR;cases a with
 |none=>
  go_enter Tryz.func115,Tryz.ntmps115
  go_wp2
  go_ret
  exact⟨none,rfl,Below.refl _ _⟩
 |some a=>
  go_enter Tryz.func115,Tryz.ntmps115
  go_wp2_with (first|(simp only[q];done)|(at_builtin;refine JBW rfl _ _ 131 rfl 183 i0 Tryz.underlying131 hi _ rfl (some a) c rfl ?_))
  go_wp2
  go_ret
  exact⟨_,rfl,(Below.refl _ w).alloc (Nat.le_refl _) _⟩
theorem of_cl{f:Nat}(hh:Has Tryz.prog f)(h:∀(a:Option Addr) (c:Nat) (w:World),Calls Tryz.prog f #[.slice a 0 c] w fun e w'=>∃a',e=.returned (.slice a' 0 0)∧Below w.heap.size w w'){d:Dat}(n:Nat)
  (hd:d=.nil n∨d=.list n []):CT f [.d d] [] (.d (.nil n)) []:=by
 refine JR.JIt (ds:=[d]) hh fun A w vs hl hv=>?_
 obtain⟨u,rfl⟩:=JB4 (sX hl);have hr:=hv 0 _ u rfl rfl;have:∃a c,u=.slice a 0 c:=by
  rcases hd with rfl|rfl
  ·cases hr with|nil _ a=>exact⟨a,0,rfl⟩
  ·cases hr with
   |emp _ a cap=>exact⟨a,cap,rfl⟩
   |list _ _ b o n cap vs hn=>exact⟨_,_,by rw[hn];rfl⟩
 obtain⟨a,c,rfl⟩:=this;refine(h a c w).mono ?_;rintro e w' ⟨a',rfl,hb⟩;exact⟨_,rfl,hb,fun β H=>.d _ _ (.nil n a')⟩
def X6:Ext:=fun f ds=>match f,ds with
 |56,[.list 1 []]=>some (.d (.list 1 []))
 |115,[.nil n]=>some (.d (.nil n))
 |f,ds=>X1 f ds
theorem X6_ok:Uu Tryz.prog X6:=by
 intro f ds d h;unfold X6 at h;split at h
 ·cases h;exact JIJ []
 ·cases h;exact of_cl ⟨_,Tryz.func115,kR,kR⟩ cl115 _ (.inl rfl)
 ·exact JKe _ _ _ h
def findD(f:Nat)(ds:List Dat):Tbl→Option Av
 |[]=>none
 |(g,l,v)::r=>match g==f with
  |true=>match Zs ds l with
   |true=>some v
   |false=>findD f ds r
  |false=>findD f ds r
def JCH(t:Tbl)(X:Ext):Ext:=fun f ds=>match findD f ds t with
 |some v=>some v
 |none=>X f ds
def JAV:List Av→List Av→Bool
 |[],[]=>true
 |.d x::xs,.d y::ys=>dEq x y&&JAV xs ys
 |_,_=>false
theorem JF6:∀(a b:List Av),JAV a b=true→a=b
 |[],[],_=>rfl
 |[],_::_,h=>by simp[JAV]at h
 |x::xs,[],h=>by cases x<;>simp[JAV]at h
 |x::xs,y::ys,h=>by
  cases x with
  |d x=>
   cases y with
   |d y=>
    simp only[JAV,Vi]at h;rw[JGX x y h.1,JF6 xs ys h.2]
   |_=>simp[JAV]at h
  |_=>simp[JAV]at h
def JOw:Av→Av→Bool
 |.d x,.d y=>dEq x y
 |.tup xs,.tup ys=>JAV xs ys
 |_,_=>false
theorem JOx{a b:Av}(h:JOw a b=true):a=b:=by
 unfold JOw at h;split at h
 ·rw[JGX _ _ h]
 ·rw[JF6 _ _ h]
 ·cases h
def JRe(P:Program)(X:Ext)(K:Nat→Nat)(f:Nat)(l:List Dat)(v:Av):Bool:=match evF P (Zf (K f)) (JDR P X Y6 K 500 60) 500 f (l.map .d) []with
 |some (u,_)=>JAB u&&JOw u v
 |none=>false
theorem JLP(hX:Uu Tryz.prog X){f:Nat}{l:List Dat}{v:Av}(h:JRe Tryz.prog X K f l v=true):PT f l v∧Jl v:=by
 unfold JRe at h;split at h
 ·rename_i u fh ev;simp only[Vi]at h;obtain⟨hp,he⟩:=h;obtain rfl:=JOx he;exact⟨JOu hX Y6_ok ev hp,ZH hp⟩
 ·cases h
def JAu(P:Program)(X:Ext)(K:Nat→Nat):Tbl→Bool
 |[]=>true
 |(f,l,v)::r=>JRe P X K f l v&&JAu P X K r
theorem JCs(hX:Uu Tryz.prog X):∀{t:Tbl} {f:Nat} {ds:List Dat} {v:Av},JAu Tryz.prog X K t=true→findD f ds t=some v→CT (.fn f) (ds.map .d) [] v []
 |[],_,_,_,_,h=>by cases h
 |(g,l,x)::r,f,ds,v,h,hf=>by
  rw[JAu,Vi]at h;rw[findD]at hf;split at hf
  ·rename_i e1;split at hf
   ·rename_i e2;cases hf;obtain rfl:=JDk _ _ e2;simp only[beq_iff_eq]at e1;subst e1;obtain⟨h1,h2⟩:=JLP hX h.1;exact h1.call h2
   ·exact JCs hX h.2 hf
  ·exact JCs hX h.2 hf
theorem XI{t:Tbl}(hX:Uu Tryz.prog X)(h:JAu Tryz.prog X K t=true):Uu Tryz.prog (JCH t X):=by
 intro f ds v hx;unfold JCH at hx;split at hx
 ·rename_i u e;cases hx;exact JCs hX h e
 ·exact hX f ds v hx
def K6:Nat→Nat
 |110|115|180|28=>1
 |_=>0
end Go.Proofs
