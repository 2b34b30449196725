/- Part F of a proof. -/
import Derived.Test.YtfioheedknfjnaaGreatDoorPcC
import Derived.Test.YtfioheedknfjnaaGreatDoorPcA
import Derived.Test.YtfioheedknfjnaaGreatDoorProg
import Derived.Lib.Bytealg
import Derived.Shelf.SlGeneric
import Derived.Shelf.LaysM
import Derived.Shelf.Strconv.Itoa3
import Derived.Shelf.LaysC
import Derived.Shelf.Strconv.AtoiAll
import Derived.Ground.Names2Prog
import Derived.Ground.SlgnProg
import Derived.Lib.ItoaLen
import Derived.Sort.Grow
import Derived.Sort.EncStr
import Derived.Lib.SlicesCompact
import Derived.Shelf.Strings.BuilderK
import Derived.Shelf.Strings.BuilderRune
import Derived.Shelf.Strings.Repeat
import Derived.Shelf.Unicode.DecodeAny
set_option linter.unusedVariables false
set_option linter.unusedSimpArgs false
set_option linter.unusedSectionVars false
set_option linter.constructorNameAsVariable false
set_option linter.unnecessarySimpa false
set_option maxRecDepth 10000
namespace Av
open Go
variable [Glb]
abbrev Str:=List UInt8
mutual
inductive Val where
 |mk (kind int scale:Int) (text:Str) (list:List Val) (fields:List Fld)
inductive Fld where
 |mk (name:Str) (value:Val)
end
namespace Val
def kind:Val→Int|.mk k _ _ _ _ _=>k
def int:Val→Int|.mk _ i _ _ _ _=>i
def scale:Val→Int|.mk _ _ s _ _ _=>s
def text:Val→Str|.mk _ _ _ t _ _=>t
def list:Val→List Val|.mk _ _ _ _ l _=>l
def fields:Val→List Fld|.mk _ _ _ _ _ f=>f
end Val
namespace Fld
def name:Fld→Str|.mk n _=>n
def value:Fld→Val|.mk _ v=>v
end Fld
mutual
def JM:Val→Dat
 |.mk k i s t l f=>.agg [.int .i64 k,.int .i64 i,.int .i64 s,.str t,.list 6 (JBz l),.list 7 (JB0 f)]
def JBz:List Val→List Dat
 |[]=>[]
 |v::r=>JM v::JBz r
def UP:Fld→Dat
 |.mk n v=>.agg (.str n::(JM v).cells)
def JB0:List Fld→List Dat
 |[]=>[]
 |v::r=>UP v::JB0 r
end
theorem JCZ:∀l:List Val,JBz l=l.map JM
 |[]=>by simp[JBz]
 |v::r=>by simp[JBz,JCZ r]
theorem JCa:∀l:List Fld,JB0 l=l.map UP
 |[]=>by simp[JB0]
 |v::r=>by simp[JB0,JCa r]
theorem JI(v:Val):JM v=.agg [.int .i64 v.kind,.int .i64 v.int,.int .i64 v.scale,.str v.text,.list 6 (v.list.map JM),.list 7 (v.fields.map UP)]:=by
 cases v;simp[JM,JCZ,JCa,Val.kind,Val.int,Val.scale,Val.text,Val.list,Val.fields]
theorem Xc(f:Fld):UP f=.agg [.str f.name,.int .i64 f.value.kind,.int .i64 f.value.int,.int .i64 f.value.scale,.str f.value.text,.list 6 (f.value.list.map JM),.list 7 (f.value.fields.map UP)]:=by
 cases f;simp[UP,JI,Fld.name,Fld.value,Dat.cells]
theorem Uf{xs:List Val}{k:Nat}(h:k<xs.length):nth (xs.map JM) k=.agg [.int .i64 xs[k].kind,.int .i64 xs[k].int,.int .i64 xs[k].scale,.str xs[k].text,.list 6 (xs[k].list.map JM),.list 7 (xs[k].fields.map UP)]:=by
 rw[Uc (sX h),List.getElem_map,JI]
theorem Xd{xs:List Fld}{k:Nat}(h:k<xs.length):nth (xs.map UP) k=.agg [.str xs[k].name,.int .i64 xs[k].value.kind,.int .i64 xs[k].value.int,.int .i64 xs[k].value.scale,.str xs[k].value.text,.list 6 (xs[k].value.list.map JM),.list 7 (xs[k].value.fields.map UP)]:=by
 rw[Uc (sX h),List.getElem_map,Xc]
inductive Exp where
 |mk (op int:Int) (text:Str) (value:List Val) (args:List Exp)
namespace Exp
def op:Exp→Int|.mk o _ _ _ _=>o
def int:Exp→Int|.mk _ i _ _ _=>i
def text:Exp→Str|.mk _ _ t _ _=>t
def value:Exp→List Val|.mk _ _ _ v _=>v
def args:Exp→List Exp|.mk _ _ _ _ a=>a
end Exp
mutual
def JL:Exp→Dat
 |.mk o i t v a=>.agg [.int .i64 o,.int .i64 i,.str t,.list 6 (v.map JM),.list 5 (JB1 a)]
def JB1:List Exp→List Dat
 |[]=>[]
 |v::r=>JL v::JB1 r
end
theorem JCb:∀l:List Exp,JB1 l=l.map JL
 |[]=>by simp[JB1]
 |v::r=>by simp[JB1,JCb r]
theorem JF(e:Exp):JL e=.agg [.int .i64 e.op,.int .i64 e.int,.str e.text,.list 6 (e.value.map JM),.list 5 (e.args.map JL)]:=by
 cases e;simp[JL,JCb,Exp.op,Exp.int,Exp.text,Exp.value,Exp.args]
structure Rule where
 target:Str
 expr:Exp
def JHx(r:Rule):Dat:=.agg [.str r.target,.int .i64 r.expr.op,.int .i64 r.expr.int,.str r.expr.text,.list 6 (r.expr.value.map JM),.list 5 (r.expr.args.map JL)]
mutual
theorem JBN:∀v:Val,(JM v).canon=JM v
 |.mk k i s t l f=>by simp only[JM,Dat.canon,JQ,JAC l,JAD f]
theorem JAC:∀l:List Val,JQ (JBz l)=JBz l
 |[]=>by simp[JBz,JQ]
 |v::r=>by simp only[JBz,JQ,JBN v,JAC r]
theorem JEO:∀f:Fld,(UP f).canon=UP f
 |.mk n v=>by
  have:=JBN v;cases v with
  |mk k i s t l f=>
   simp only[JM,Dat.canon,JQ,Dat.agg.injEq,List.cons.injEq,true_and,and_true,Dat.list.injEq]at this;simp only[UP,JM,Dat.cells,Dat.canon,JQ,this]
theorem JAD:∀l:List Fld,JQ (JB0 l)=JB0 l
 |[]=>by simp[JB0,JQ]
 |v::r=>by simp only[JB0,JQ,JEO v,JAD r]
end
theorem X8(l:List Val):JQ (l.map JM)=l.map JM:=by rw[←JCZ,JAC]
theorem JHy(l:List Fld):JQ (l.map UP)=l.map UP:=by rw[←JCa,JAD]
mutual
theorem JEP:∀e:Exp,(JL e).canon=JL e
 |.mk o i t v a=>by simp only[JL,Dat.canon,JQ,X8,JAE a]
theorem JAE:∀l:List Exp,JQ (JB1 l)=JB1 l
 |[]=>by simp[JB1,JQ]
 |v::r=>by simp only[JB1,JQ,JEP v,JAE r]
end
theorem Uz(l:List Exp):JQ (l.map JL)=l.map JL:=by rw[←JCb,JAE]
theorem JEQ(r:Rule):(JHx r).canon=JHx r:=by simp only[JHx,Dat.canon,JQ,X8,Uz]
theorem YQ(l:List Rule):JQ (l.map JHx)=l.map JHx:=by
 rw[Jv,List.map_map];exact List.map_congr_left fun r _=>JEQ r
attribute [go_sem] JBN JEO JEP JEQ X8 JHy Uz YQ
end Av
namespace Go.Proofs
open Go Av
open Av.Y
def JSA:Ic:=q (R (ow 6 false<|N) [6])<|q (q (R (om 10 0<|oh 11 10<|om 12 1<|oh 13 12<|ot 14 .neq 11 13<|N) [10,11,12,13])<|D (I 14 (q (R (ow 6 false<|N) [0,1,2,14])<|.ret) S) [14])<|q (q (R (om 15 0<|oh 16 15<|oz 17 0<|N) [0])<|D (.block 0<|.loop (q (.reg (ot 18 .lss 17 16<|N))<|q (D (I 18 S (E 0)) [18])<|q (D (.block 1<|q (R (om 19 17<|oa true 20 6 15 17<|oL 21 6 20<|oN 8 y6<|om 7 19<|oS 6 8 21<|N) [19,20,21])<|q (R (om 22 1<|om 23 7<|oa true 24 6 22 23<|oL 25 6 24<|oN 9 y6<|oS 6 9 25<|N) [7,22,23,24,25])<|q (R (om 26 2<|oL 27 6 8<|oL 28 6 9<|.call (some 29) (.dyn (t 26)) [t 27,t 28] (og 30 29<|N)) [8,9,26,27,28,29])<|D (I 30 (q (R (ow 6 false<|N) [1,2,15,16,17,30])<|.ret) S) [30]) [])<|R (oi 31 .add 17 1<|om 17 31<|N) [31])) [1,2,15,16,17,18,8,7,9])<|q (.reg (ow 6 true<|N))<|.ret
theorem ok203:FT 203 32 JSA [.tmp 6]:=.o Tryz.func203
def JSB:Ic:=q (R (ow 6 false<|N) [6])<|q (q (R (om 10 0<|oh 11 10<|om 12 1<|oh 13 12<|ot 14 .neq 11 13<|N) [10,11,12,13])<|D (I 14 (q (R (ow 6 false<|N) [0,1,2,14])<|.ret) S) [14])<|q (q (R (om 15 0<|oh 16 15<|oz 17 0<|N) [0])<|D (.block 0<|.loop (q (.reg (ot 18 .lss 17 16<|N))<|q (D (I 18 S (E 0)) [18])<|q (D (.block 1<|q (R (om 19 17<|oa true 20 7 15 17<|oL 21 7 20<|oN 8 yT<|om 7 19<|oS 7 8 21<|N) [19,20,21])<|q (R (om 22 1<|om 23 7<|oa true 24 7 22 23<|oL 25 7 24<|oN 9 yT<|oS 7 9 25<|N) [7,22,23,24,25])<|q (R (om 26 2<|oL 27 7 8<|oL 28 7 9<|.call (some 29) (.dyn (t 26)) [t 27,t 28] (og 30 29<|N)) [8,9,26,27,28,29])<|D (I 30 (q (R (ow 6 false<|N) [1,2,15,16,17,30])<|.ret) S) [30]) [])<|R (oi 31 .add 17 1<|om 17 31<|N) [31])) [1,2,15,16,17,18,8,7,9])<|q (.reg (ow 6 true<|N))<|.ret
theorem ok200:FT 200 32 JSB [.tmp 6]:=.o Tryz.func200
def JSC:Ic:=q (R (ow 6 false<|N) [6])<|q (q (R (om 10 0<|oh 11 10<|om 12 1<|oh 13 12<|ot 14 .neq 11 13<|N) [10,11,12,13])<|D (I 14 (q (R (ow 6 false<|N) [0,1,2,14])<|.ret) S) [14])<|q (q (R (om 15 0<|oh 16 15<|oz 17 0<|N) [0])<|D (.block 0<|.loop (q (.reg (ot 18 .lss 17 16<|N))<|q (D (I 18 S (E 0)) [18])<|q (D (.block 1<|q (R (om 19 17<|oa true 20 11 15 17<|oL 21 11 20<|oN 8 yG<|om 7 19<|oS 11 8 21<|N) [19,20,21])<|q (R (om 22 1<|om 23 7<|oa true 24 11 22 23<|oL 25 11 24<|oN 9 yG<|oS 11 9 25<|N) [7,22,23,24,25])<|q (R (om 26 2<|oL 27 11 8<|oL 28 11 9<|.call (some 29) (.dyn (t 26)) [t 27,t 28] (og 30 29<|N)) [8,9,26,27,28,29])<|D (I 30 (q (R (ow 6 false<|N) [1,2,15,16,17,30])<|.ret) S) [30]) [])<|R (oi 31 .add 17 1<|om 17 31<|N) [31])) [1,2,15,16,17,18,8,7,9])<|q (.reg (ow 6 true<|N))<|.ret
theorem ok201:FT 201 32 JSC [.tmp 6]:=.o Tryz.func201
def JSD:Ic:=q (R (ox 2 0<|ox 3 1<|ow 4 false<|N) [0,1,4])<|q (R (oL 5 6 2<|oL 6 6 3<|cl 7 254 [t 5,t 6]<|oi 8 .eql 7 0<|om 4 8<|N) [2,3,5,6,7,8])<|.ret
theorem JSE:FT 204 9 JSD [.tmp 4]:=.o Tryz.func204
def JSF:Ic:=q (R (ox 2 0<|ox 3 1<|oz 4 0<|N) [0,1,4])<|q (D (.regd [(4,6),(4,8),(4,11),(9,11),(4,13),(9,13),(4,16),(9,16),(14,16),(4,18),(9,18),(14,18),(4,21),(9,21),(14,21),(19,21),(4,23),(9,23),(14,23),(19,23),(4,26),(9,26),(14,26),(19,26),(24,26),(4,28),(9,28),(14,28),(19,28),(24,28)] (of 5 2 0<|ol 6 5<|of 7 3 0<|ol 8 7<|cl 9 291 [t 6,t 8]<|of 10 2 1<|ol 11 10<|of 12 3 1<|ol 13 12<|cl 14 291 [t 11,t 13]<|of 15 2 2<|ol 16 15<|of 17 3 2<|ol 18 17<|cl 19 291 [t 16,t 18]<|of 20 2 3<|ol 21 20<|of 22 3 3<|ol 23 22<|cl 24 186 [t 21,t 23]<|of 25 2 4<|ol 26 25<|of 27 3 4<|ol 28 27<|cl 29 292 [t 26,t 28,.k (.fn (.func 254) [] [])]<|of 30 2 5<|ol 31 30<|of 32 3 5<|ol 33 32<|cl 34 293 [t 31,t 33,.k (.fn (.func 294) [] [])]<|oo 35 (.bls 1 [t 9,t 14,t 19,t 24,t 29,t 34])<|cl 36 290 [t 35]<|om 4 36<|N)) [2,3,5,6,7,8,9,10,11,12,13,14,15,16,17,18,19,20,21,22,23,24,25,26,27,28,29,30,31,32,33,34,35,36])<|.ret
theorem ok254:FT 254 37 JSF [.tmp 4]:=.o Tryz.func254
def JSG:Ic:=q (R (ox 2 0<|ox 3 1<|oz 4 0<|N) [0,1,4])<|q (D (.regd [(4,6),(4,8)] (of 5 2 0<|ol 6 5<|of 7 3 0<|ol 8 7<|cl 9 186 [t 6,t 8]<|of 10 2 1<|oL 11 6 10<|of 12 3 1<|oL 13 6 12<|cl 14 254 [t 11,t 13]<|oo 15 (.bls 1 [t 9,t 14])<|cl 16 290 [t 15]<|om 4 16<|N)) [2,3,5,6,7,8,9,10,11,12,13,14,15,16])<|.ret
theorem ok294:FT 294 17 JSG [.tmp 4]:=.o Tryz.func294
def JSH:Ic:=q (R (oz 4 0<|N) [4])<|q (R (om 5 0<|om 6 1<|cl 7 242 [t 5,t 6]<|om 4 7<|N) [0,1,5,6,7])<|.ret
theorem ok186:FT 186 8 JSH [.tmp 4]:=.o Tryz.func186
def JSI:Ic:=q (R (oz 4 0<|N) [4])<|q (R (om 7 0<|cl 8 324 [t 7]<|om 5 8<|N) [7,8])<|q (R (om 9 1<|cl 10 324 [t 9]<|om 6 10<|N) [9,10])<|q (q (R (om 11 5<|N) [5])<|D (I 11 (q (q (R (om 12 6<|N) [0,1,6,11])<|D (I 12 (q (R (oz 4 0<|N) [12])<|.ret) S) [12])<|q (.reg (oz 4 (-1)<|N))<|.ret) S) [11])<|q (q (R (om 13 6<|N) [6])<|D (I 13 (q (R (oz 4 1<|N) [0,1,13])<|.ret) S) [13])<|q (q (R (om 14 0<|om 15 1<|ot 16 .lss 14 15<|N) [14,15])<|D (I 16 (q (R (oz 4 (-1)<|N) [0,1,16])<|.ret) S) [16])<|q (q (R (om 17 0<|om 18 1<|ot 19 .gtr 17 18<|N) [0,1,17,18])<|D (I 19 (q (R (oz 4 1<|N) [19])<|.ret) S) [19])<|q (.reg (oz 4 0<|N))<|.ret
theorem ok291:FT 291 20 JSI [.tmp 4]:=.o Tryz.func291
def JSJ:Ic:=q (R (oz 2 0<|N) [2])<|q (.reg (oz 3 0<|N))<|q (q (R (om 6 0<|oh 7 6<|oz 8 0<|N) [0])<|D (.block 0<|.loop (q (.reg (ot 9 .lss 8 7<|N))<|q (D (I 9 S (E 0)) [9])<|q (D (.block 1<|q (R (oa false 10 1 6 8<|ol 11 10<|om 5 11<|N) [10,11])<|q (R (om 12 5<|om 13 3<|ot 14 .neq 12 13<|N) [12,13])<|D (I 14 (q (R (om 15 5<|om 2 15<|N) [3,6,7,8,5,14,15])<|.ret) S) [5,14]) [])<|R (oi 16 .add 8 1<|om 8 16<|N) [16])) [6,7,8,9,10,11,5])<|q (R (om 17 3<|om 2 17<|N) [3,17])<|.ret
theorem ok290:FT 290 18 JSJ [.tmp 2]:=.o Tryz.func290
def JSK:Ic:=q (R (oz 6 0<|N) [6])<|q (q (.reg (om 11 0<|oh 12 11<|oz 13 0<|N))<|D (.block 0<|.loop (q (.reg (ot 14 .lss 13 12<|N))<|q (D (I 14 S (E 0)) [14])<|q (D (.block 1<|q (R (om 15 13<|oa true 16 6 11 13<|oL 17 6 16<|oN 8 y6<|om 7 15<|oS 6 8 17<|N) [15,16,17])<|q (q (R (om 18 7<|om 19 1<|oh 20 19<|ot 21 .geq 18 20<|N) [18,19,20])<|D (I 21 (q (R (oz 6 1<|N) [0,1,2,11,12,13,8,7,21])<|.ret) S) [21])<|q (R (om 22 1<|om 23 7<|oa true 24 6 22 23<|oL 25 6 24<|oN 9 y6<|oS 6 9 25<|N) [7,22,23,24,25])<|q (R (om 26 2<|oL 27 6 8<|oL 28 6 9<|.call (some 29) (.dyn (t 26)) [t 27,t 28] (om 10 29<|N)) [8,9,26,27,28,29])<|q (R (om 30 10<|oi 31 .neq 30 0<|N) [30])<|D (I 31 (q (R (om 32 10<|om 6 32<|N) [0,1,2,11,12,13,10,31,32])<|.ret) S) [10,31]) [])<|R (oi 33 .add 13 1<|om 13 33<|N) [33])) [2,11,12,13,14,8,7,9,10])<|q (q (R (om 34 0<|oh 35 34<|om 36 1<|oh 37 36<|ot 38 .lss 35 37<|N) [0,1,34,35,36,37])<|D (I 38 (q (R (oz 6 (-1)<|N) [38])<|.ret) S) [38])<|q (.reg (oz 6 0<|N))<|.ret
theorem ok292:FT 292 39 JSK [.tmp 6]:=.o Tryz.func292
def JSL:Ic:=q (R (oz 6 0<|N) [6])<|q (q (.reg (om 11 0<|oh 12 11<|oz 13 0<|N))<|D (.block 0<|.loop (q (.reg (ot 14 .lss 13 12<|N))<|q (D (I 14 S (E 0)) [14])<|q (D (.block 1<|q (R (om 15 13<|oa true 16 7 11 13<|oL 17 7 16<|oN 8 y7<|om 7 15<|oS 7 8 17<|N) [15,16,17])<|q (q (R (om 18 7<|om 19 1<|oh 20 19<|ot 21 .geq 18 20<|N) [18,19,20])<|D (I 21 (q (R (oz 6 1<|N) [0,1,2,11,12,13,8,7,21])<|.ret) S) [21])<|q (R (om 22 1<|om 23 7<|oa true 24 7 22 23<|oL 25 7 24<|oN 9 y7<|oS 7 9 25<|N) [7,22,23,24,25])<|q (R (om 26 2<|oL 27 7 8<|oL 28 7 9<|.call (some 29) (.dyn (t 26)) [t 27,t 28] (om 10 29<|N)) [8,9,26,27,28,29])<|q (R (om 30 10<|oi 31 .neq 30 0<|N) [30])<|D (I 31 (q (R (om 32 10<|om 6 32<|N) [0,1,2,11,12,13,10,31,32])<|.ret) S) [10,31]) [])<|R (oi 33 .add 13 1<|om 13 33<|N) [33])) [2,11,12,13,14,8,7,9,10])<|q (q (R (om 34 0<|oh 35 34<|om 36 1<|oh 37 36<|ot 38 .lss 35 37<|N) [0,1,34,35,36,37])<|D (I 38 (q (R (oz 6 (-1)<|N) [38])<|.ret) S) [38])<|q (.reg (oz 6 0<|N))<|.ret
theorem ok293:FT 293 39 JSL [.tmp 6]:=.o Tryz.func293
def JSM:Ic:=q (R (oz 4 0<|N) [4])<|q (R (om 5 0<|om 6 1<|cl 7 278 [t 5,t 6]<|om 4 7<|N) [0,1,5,6,7])<|.ret
theorem ok242:FT 242 8 JSM [.tmp 4]:=.o Tryz.func242
def JSN:Ic:=q (R (ow 2 false<|N) [2])<|q (R (om 3 0<|om 4 0<|ot 5 .neq 3 4<|om 2 5<|N) [0,3,4,5])<|.ret
theorem ok324:FT 324 6 JSN [.tmp 2]:=.o Tryz.func324
def ir30:Ic:=q (R (ox 1 0<|oN 2 y6<|N) [0])<|q (R (oL 8 6 1<|oN 3 y6<|oS 6 3 8<|N) [8])<|q (R (of 9 3 4<|on (.sto none (t 9) (.k (.nil 6)))<|of 10 3 5<|on (.sto none (t 10) (.k (.nil 7)))<|N) [9,10])<|q (q (R (of 11 1 4<|ol 12 11<|oh 13 12<|oz 14 0<|N) [11])<|D (.block 0<|.loop (q (.reg (ot 15 .lss 14 13<|N))<|q (D (I 15 S (E 0)) [15])<|q (D (.block 1<|q (R (oa true 16 6 12 14<|oL 17 6 16<|oN 5 y6<|oS 6 5 17<|N) [16,17])<|D (.regd [(1,3),(1,4)] (of 18 3 4<|ol 19 18<|oL 20 6 5<|cl 21 30 [t 20]<|oo 22 (.bls 6 [t 21])<|oo 23 (.app 6 (t 19) (t 22))<|of 24 3 4<|os 24 23<|N)) [5,18,19,20,21,22,23,24]) [])<|R (oi 25 .add 14 1<|om 14 25<|N) [25])) [12,13,14,15,5])<|q (q (R (of 26 1 5<|ol 27 26<|oh 28 27<|oz 29 0<|N) [1,26])<|D (.block 2<|.loop (q (.reg (ot 30 .lss 29 28<|N))<|q (D (I 30 S (E 2)) [30])<|q (D (.block 3<|q (R (oa true 31 7 27 29<|oL 32 7 31<|oN 7 y7<|oS 7 7 32<|N) [31,32])<|D (.regd [(1,6),(3,6),(1,8)] (of 33 3 5<|ol 34 33<|of 35 7 0<|ol 36 35<|of 37 7 1<|oL 38 6 37<|cl 39 30 [t 38]<|oo 40 (.bld y7 [(0,1,t 36),(1,6,t 39)])<|oo 41 (.bls 7 [t 40])<|oo 42 (.app 7 (t 34) (t 41))<|of 43 3 5<|os 43 42<|N)) [7,33,34,35,36,37,38,39,40,41,42,43]) [])<|R (oi 44 .add 29 1<|om 29 44<|N) [44])) [27,28,29,30,7])<|q (R (oL 45 6 3<|oS 6 2 45<|N) [3,45])<|.ret
theorem ok30:FT 30 46 ir30 [.cell 2 (some 6)]:=.o Tryz.func30
end Go.Proofs
namespace Go.Proofs
open Go Av
theorem JKc{P:Program}{f:Nat}{fn:Func}{e:Array Value→Sem Value}(hf:P.funcs[f]? =some fn)(hname:(fn.name== "runtime.NumGoroutine")=false)(hb:fn.body.isNone=true)
  (hn:(Extern.findNext fn).isNone=true)(he:Extern.find fn=some e){vs:Array Value}{w w':World}{u:Value}(hr:(e vs).run P w=.ok u w'):(callFunc f vs).run P w=.ok (.value u) w':=by
 have hn':Extern.findNext fn=none:=sX hn;have hb':fn.body=none:=sX hb;have hname':fn.name≠ "runtime.NumGoroutine" :=sX hname;simp[callFunc,hf,hname',hb',hn',he,hr]
def JDY(a b:Str):Int:=Extern.BytealgCompare.cmp ⟨a.toArray⟩ ⟨b.toArray⟩
theorem JJN(a b:Str):JDY a b= -1∨JDY a b=0∨JDY a b=1:=by
 unfold JDY Extern.BytealgCompare.cmp;split
 ·split<;>simp
 ·split
  ·simp
  ·split<;>simp
theorem JNm(a b:Str):CT 278 [.d (.str a),.d (.str b)] [] (.d (.int .i64 (JDY a b))) []:=by
 intro β A w H vs _ hc hvs;refine .inr ⟨.int .i64 (JDY a b),w,?_,β,A,Stp.refl hc,.d _ _ (.int _ _ ?_)⟩
 ·obtain⟨hl,hv⟩:=hvs;have h2:vs.size=2:=sX hl.symm;obtain⟨x,y,rfl⟩:∃x y,vs=#[x,y]:=by
   refine⟨vs[0],vs[1],?_⟩;apply Array.ext
   ·simp[h2]
   ·intro i h1 h2';have:i=0∨i=1:=oM;rcases this with rfl|rfl<;>rfl
  have hx:=(hv 0 _ x rfl rfl).JZ;have hy:=(hv 1 _ y rfl rfl).JZ;cases hx;cases hy;refine JKc (e:=Extern.BytealgCompare.compare) Tryz.func278 kR kR kR kR ?_;rfl
 ·rcases JJN a b with h|h|h<;>rw[h]<;>decide
def JAF:List UInt8→UInt8→Nat→Int
 |[],_,_=> -1
 |b::l,c,k=>if b==c then(k:Int)else JAF l c (k+1)
theorem JKd(c:UInt8):∀(l:List UInt8) (k:Nat),JAF l c k=if Lib.indexByte l c= -1 then-1 else Lib.indexByte l c+k
 |[],k=>rfl
 |b::l,k=>by
  rw[JAF,Lib.indexByte,JKd c l (k+1)];have hge:=Lib.indexByte_ge l c;by_cases h:(b==c)=true
  ·simp[h]
  ·simp only[h,Vu,↓reduceIte,beq_iff_eq];by_cases h2:Lib.indexByte l c= -1
   ·simp[h2]
   ·simp only[h2,↓reduceIte];rw[if_neg oM];omega
theorem JGb(c:UInt8):∀(l:List UInt8) (k:Nat),-1≤JAF l c k∧JAF l c k≤(l.length+k:Nat)
 |[],k=>by simp only[JAF];omega
 |b::l,k=>by
  have:=JGb c l (k+1);simp only[JAF,Vf];split
  ·omega
  ·omega
theorem JNn(s:Str)(c:Int):CT 348 [.d (.str s),.d (.int .u8 c)] [] (.d (.int .i64 (JAF s c.toNat.toUInt8 0))) []:=by
 intro β A w H vs _ hc hvs;obtain⟨hl,hv⟩:=hvs;have h2:vs.size=2:=sX hl.symm;obtain⟨x,y,rfl⟩:∃x y,vs=#[x,y]:=by
  refine⟨vs[0],vs[1],?_⟩;apply Array.ext
  ·simp[h2]
  ·intro i h1 h2';have:i=0∨i=1:=oM;rcases this with rfl|rfl<;>rfl
 have hx:=(hv 0 _ x rfl rfl).JZ;have hy:=(hv 1 _ y rfl rfl).JZ;cases hx with
 |str _ hs=>
  cases hy;have hle:=JGb c.toNat.toUInt8 s 0;refine .inr ⟨.int .i64 (JAF s c.toNat.toUInt8 0),w,?_,β,A,Stp.refl hc,.d _ _ (.int _ _ ?_)⟩
  ·refine JKc (e:=Extern.BytealgIndexByte.indexByte) Tryz.func348 kR kR kR kR ?_;rw[Lib.run_indexByteString,JKd];congr 2;show Lib.indexByte s _=_;have hge:=Lib.indexByte_ge s c.toNat.toUInt8;by_cases h:Lib.indexByte s c.toNat.toUInt8= -1
   ·simp[h]
   ·simp[h]
  ·have e1:IntKind.i64.min= -9223372036854775808:=dC;have e2:IntKind.i64.max=9223372036854775807:=dC;rw[e1,e2];omega
def X1:Ext:=fun f ds=>match f,ds with
 |278,[.str a,.str b]=>some (.d (.int .i64 (Extern.BytealgCompare.cmp ⟨a.toArray⟩ ⟨b.toArray⟩)))
 |348,[.str s,.int .u8 c]=>some (.d (.int .i64 (JAF s c.toNat.toUInt8 0)))
 |_,_=>none
theorem JKe:Uu Tryz.prog X1:=by
 intro f ds d h;unfold X1 at h;split at h
 ·cases h;exact JNm _ _
 ·cases h;exact JNn _ _
 ·cases h
def K1(f:Nat):Nat:=if f==100000 then 1 else 0
mutual
def Un:Dat→Dat→Bool
 |.bool a,.bool b=>a==b
 |.int k a,.int l b=>decide (k=l)&&a==b
 |.str a,.str b=>a==b
 |.nil a,.nil b=>a==b
 |.list a xs,.list b ys=>a==b&&JAG xs ys
 |.agg xs,.agg ys=>JAG xs ys
 |.nilIface,.nilIface=>true
 |_,_=>false
def JAG:List Dat→List Dat→Bool
 |[],[]=>true
 |x::xs,y::ys=>Un x y&&JAG xs ys
 |_,_=>false
end
mutual
theorem JER:∀(a b:Dat),Un a b=true→a=b
 |.bool a,.bool b,h=>by simp only[Un,beq_iff_eq]at h;rw[h]
 |.int k a,.int l b,h=>by simp only[Un,Vi,decide_eq_true_eq,beq_iff_eq]at h;rw[h.1,h.2]
 |.str a,.str b,h=>by simp only[Un,beq_iff_eq]at h;rw[h]
 |.nil a,.nil b,h=>by simp only[Un,beq_iff_eq]at h;rw[h]
 |.list a xs,.list b ys,h=>by simp only[Un,Vi,beq_iff_eq]at h;rw[h.1,JCc xs ys h.2]
 |.agg xs,.agg ys,h=>by simp only[Un]at h;rw[JCc xs ys h]
 |.nilIface,b,h=>by cases b<;>first|rfl|(simp[Un]at h)
 |.fn ..,b,h=>by cases b<;>simp[Un]at h
 |.ptr _,b,h=>by cases b<;>simp[Un]at h
 |.map _,b,h=>by cases b<;>simp[Un]at h
 |.nilFn,b,h=>by cases b<;>simp[Un]at h
 |.nilPtr,b,h=>by cases b<;>simp[Un]at h
 |.nilMap,b,h=>by cases b<;>simp[Un]at h
 |.iface _ _,b,h=>by cases b<;>simp[Un]at h
 |.opq,b,h=>by cases b<;>simp[Un]at h
 |.bool _,.int ..,h|.bool _,.str _,h|.bool _,.nil _,h|.bool _,.list ..,h|.bool _,.agg _,h|.bool _,.fn ..,h|.bool _,.ptr _,h|.bool _,.map _,h|.bool _,.nilFn,h|.bool _,.nilPtr,h|.bool _,.nilMap,h|.bool _,.nilIface,h|.bool _,.iface ..,h|.bool _,.opq,h=>by simp[Un]at h
 |.int ..,.bool _,h|.int ..,.str _,h|.int ..,.nil _,h|.int ..,.list ..,h|.int ..,.agg _,h|.int ..,.fn ..,h|.int ..,.ptr _,h|.int ..,.map _,h|.int ..,.nilFn,h|.int ..,.nilPtr,h|.int ..,.nilMap,h|.int ..,.nilIface,h|.int ..,.iface ..,h|.int ..,.opq,h=>by simp[Un]at h
 |.str _,.bool _,h|.str _,.int ..,h|.str _,.nil _,h|.str _,.list ..,h|.str _,.agg _,h|.str _,.fn ..,h|.str _,.ptr _,h|.str _,.map _,h|.str _,.nilFn,h|.str _,.nilPtr,h|.str _,.nilMap,h|.str _,.nilIface,h|.str _,.iface ..,h|.str _,.opq,h=>by simp[Un]at h
 |.nil _,.bool _,h|.nil _,.int ..,h|.nil _,.str _,h|.nil _,.list ..,h|.nil _,.agg _,h|.nil _,.fn ..,h|.nil _,.ptr _,h|.nil _,.map _,h|.nil _,.nilFn,h|.nil _,.nilPtr,h|.nil _,.nilMap,h|.nil _,.nilIface,h|.nil _,.iface ..,h|.nil _,.opq,h=>by simp[Un]at h
 |.list ..,.bool _,h|.list ..,.int ..,h|.list ..,.str _,h|.list ..,.nil _,h|.list ..,.agg _,h|.list ..,.fn ..,h|.list ..,.ptr _,h|.list ..,.map _,h|.list ..,.nilFn,h|.list ..,.nilPtr,h|.list ..,.nilMap,h|.list ..,.nilIface,h|.list ..,.iface ..,h|.list ..,.opq,h=>by simp[Un]at h
 |.agg _,.bool _,h|.agg _,.int ..,h|.agg _,.str _,h|.agg _,.nil _,h|.agg _,.list ..,h|.agg _,.fn ..,h|.agg _,.ptr _,h|.agg _,.map _,h|.agg _,.nilFn,h|.agg _,.nilPtr,h|.agg _,.nilMap,h|.agg _,.nilIface,h|.agg _,.iface ..,h|.agg _,.opq,h=>by simp[Un]at h
theorem JCc:∀(a b:List Dat),JAG a b=true→a=b
 |[],[],_=>rfl
 |[],_::_,h=>by simp[JAG]at h
 |_::_,[],h=>by simp[JAG]at h
 |x::xs,y::ys,h=>by
  simp only[JAG,Vi]at h;rw[JER x y h.1,JCc xs ys h.2]
end
def JDC:List Av→List Av→Bool
 |[],[]=>true
 |.d x::xs,.d y::ys=>Un x y&&JDC xs ys
 |_,_=>false
theorem JHz:∀(a b:List Av),JDC a b=true→a=b
 |[],[],_=>rfl
 |[],_::_,h=>by simp[JDC]at h
 |x::xs,[],h=>by cases x<;>simp[JDC]at h
 |x::xs,y::ys,h=>by
  cases x with
  |d x=>
   cases y with
   |d y=>
    simp only[JDC,Vi]at h;rw[JER x y h.1,JHz xs ys h.2]
   |_=>simp[JDC]at h
  |_=>simp[JDC]at h
def avEq:Av→Av→Bool
 |.d x,.d y=>Un x y
 |.tup xs,.tup ys=>JDC xs ys
 |_,_=>false
theorem JPt{a b:Av}(h:avEq a b=true):a=b:=by
 unfold avEq at h;split at h
 ·rw[JER _ _ h]
 ·rw[JHz _ _ h]
 ·cases h
abbrev Tbl:=List (Nat×List Dat×Av)
def JNo(f:Nat)(ds:List Dat):Tbl→Option Av
 |[]=>none
 |(g,l,v)::r=>match g==f with
  |true=>match JAG ds l with
   |true=>some v
   |false=>JNo f ds r
  |false=>JNo f ds r
def ext(t:Tbl)(X:Ext):Ext:=fun f ds=>match JNo f ds t with
 |some v=>some v
 |none=>X f ds
def JKf(P:Program)(X:Ext):Tbl→Bool
 |[]=>true
 |(f,l,v)::r=>(match evF P (some false) (Yw P X K1 500 40) 500 f (l.map .d) []with
  |some (u,_)=>JAB u&&avEq u v
  |none=>false)&&JKf P X r
end Go.Proofs
namespace Go.Proofs
open Go Av
open Av.Y
def ir70:Ic:=q (R (ok 2 (.k (.nil 3))<|oz 3 0<|N) [2,3])<|q (D (.block 0<|q (R (om 10 0<|ob 11 .seq (t 10) (.k (.str []))<|om 9 11<|N) [10,11])<|D (I 9 (q (R (ok 2 (.k (.nil 3))<|oz 3 4<|N) [0,9])<|.ret) (q (R (om 13 0<|oj 14 13<|oi 15 .gtr 14 200<|om 12 15<|N) [9,13,14,15])<|D (I 12 (q (R (ok 2 (.k (.nil 3))<|oz 3 5<|N) [0,12])<|.ret) S) [12])) []) [])<|q (.reg (ok 4 (.k (.nil 3))<|N))<|q (q (R (om 16 0<|ob 17 .cat (.k (.str [46])) (t 16)<|om 5 17<|N) [0,16,17])<|D (.block 1<|.loop (q (q (R (om 18 5<|ob 19 .sne (t 18) (.k (.str []))<|N) [18])<|D (I 19 S (E 1)) [19])<|D (.block 2<|q (R (om 21 5<|cl 22 127 [t 21]<|om 20 22<|oe 23 20 0<|oe 24 20 1<|oe 25 20 2<|oN 6 [.int .i64 0,.int .i64 0,.str []]<|oS 3 6 23<|om 7 24<|om 8 25<|N) [5,21,22,20,23,24,25])<|q (q (R (om 26 8<|og 27 26<|om 28 27<|.sc 28 false (oL 29 3 6<|cl 30 128 [t 29]<|og 31 30<|N) (t 31) 32 N) [8,26,27,28])<|D (I 32 (q (R (ok 2 (.k (.nil 3))<|oz 3 13<|N) [4,6,7,32])<|.ret) S) [32])<|R (om 33 4<|oL 34 3 6<|oo 35 (.bls 3 [t 34])<|oo 36 (.app 3 (t 33) (t 35))<|om 37 7<|om 4 36<|om 5 37<|N) [6,7,33,34,35,36,37]) [])) [5,19,6,7,8])<|q (q (R (om 38 4<|oh 39 38<|oi 40 .gtr 39 16<|N) [38,39])<|D (I 40 (q (R (ok 2 (.k (.nil 3))<|oz 3 9<|N) [4,40])<|.ret) S) [40])<|q (R (om 41 4<|om 2 41<|oz 3 0<|N) [4,41])<|.ret
theorem ok70:FT 70 42 ir70 [.tmp 2,.tmp 3]:=.o Tryz.func70
def ir77:Ic:=q (R (ow 4 false<|N) [4])<|q (R (om 5 0<|om 6 1<|cl 7 133 [t 5,t 6]<|oi 8 .geq 7 0<|om 4 8<|N) [0,1,5,6,7,8])<|.ret
theorem ok77:FT 77 9 ir77 [.tmp 4]:=.o Tryz.func77
def JSO:Ic:=q (R (ox 1 0<|oN 2 [.int .i64 0,.int .i64 0,.str []]<|ok 3 (.k (.str []))<|ow 4 false<|N) [0,3,4])<|q (R (oo 12 (.fnv (.func 190) [] [t 1])<|om 5 12<|N) [12])<|q (R (om 13 5<|.call (some 14) (.dyn (t 13)) [i 1] (om 6 14<|N)) [5,13,14])<|q (D (.block 0<|q (R (ol 16 1<|cl 17 192 [t 16,.k (.str [91,42,93])]<|om 15 17<|N) [16,17])<|D (I 15 (q (D (.regd [(1,3)] (oo 18 (.bld [.int .i64 0,.int .i64 0,.str []] [(0,1,i 3)])<|ol 19 1<|oo 20 (.sls (t 19) (some (i 3)) none)<|oS 3 2 18<|om 3 20<|ow 4 true<|N)) [1,6,15,18,19,20])<|.ret) (q (R (ol 22 1<|oo 23 (.ixs (t 22) (i 0))<|ob 24 .eql (t 23) (.k (.int .u8 46))<|om 21 24<|N) [15,22,23,24])<|D (I 21 (q (D (.regd [(4,7)] (ol 25 1<|om 26 6<|oo 27 (.sls (t 25) (some (i 1)) (some (t 26)))<|oo 28 (.bld [.int .i64 0,.int .i64 0,.str []] [(0,1,i 1),(2,1,t 27)])<|ol 29 1<|om 30 6<|oo 31 (.sls (t 29) (some (t 30)) none)<|oS 3 2 28<|om 3 31<|ow 4 true<|N)) [1,6,21,25,26,27,28,29,30,31])<|.ret) (q (R (ol 33 1<|oo 34 (.ixs (t 33) (i 0))<|ob 35 .eql (t 34) (.k (.int .u8 63))<|om 32 35<|N) [21,33,34,35])<|D (I 32 (q (D (.regd [(4,7)] (ol 36 1<|om 37 6<|oo 38 (.sls (t 36) (some (i 1)) (some (t 37)))<|oo 39 (.bld [.int .i64 0,.int .i64 0,.str []] [(0,1,i 4),(2,1,t 38)])<|ol 40 1<|om 41 6<|oo 42 (.sls (t 40) (some (t 41)) none)<|oS 3 2 39<|om 3 42<|ow 4 true<|N)) [1,6,32,36,37,38,39,40,41,42])<|.ret) S) [6,32])) [])) []) [])<|q (R (ol 44 1<|oo 45 (.sls (t 44) (some (i 1)) none)<|cl 46 193 [t 45,.k (.str [93])]<|om 43 46<|oe 47 43 0<|oe 48 43 1<|oe 49 43 2<|om 7 47<|om 8 48<|om 9 49<|N) [44,45,46,43,47,48,49])<|q (R (om 51 7<|cl 52 194 [t 51]<|om 50 52<|oe 53 50 0<|oe 54 50 1<|om 10 53<|om 11 54<|N) [51,52,50,53,54])<|q (R (om 55 10<|oo 56 (.bld [.int .i64 0,.int .i64 0,.str []] [(0,1,i 2),(1,1,t 55)])<|om 57 8<|ol 58 1<|oo 59 (.ixs (t 58) (i 0))<|ob 60 .eql (t 59) (.k (.int .u8 91))<|om 61 60<|.sc 61 true (om 62 9<|N) (t 62) 63 (om 64 63<|.sc 64 true (om 65 11<|ob 66 .nileq (t 65) (.k .nilIface)<|N) (t 66) 67 (om 68 67<|.sc 68 true (om 69 10<|cl 70 195 [t 69]<|om 71 7<|ot 72 .seq 70 71<|N) (t 72) 73 (oS 3 2 56<|om 3 57<|om 4 73<|N)))) [1,7,8,9,10,11,55,56,57,58,59,60,61,63,64,67,68,73])<|.ret
theorem ok127:FT 127 74 JSO [.cell 2 (some 3),.tmp 3,.tmp 4]:=.o Tryz.func127
def JFq:Ic:=q (R (ox 1 0<|ow 2 false<|N) [0,2])<|q (q (R (of 3 1 0<|ol 4 3<|N) [3])<|D (.block 0<|q (q (R (oi 6 .eql 4 1<|om 5 6<|N) [6])<|I 5 S (R (oi 7 .eql 4 4<|om 5 7<|N) [7]))<|D (I 5 (q (R (of 8 1 1<|ol 9 8<|oi 10 .eql 9 0<|om 11 10<|.sc 11 true (of 12 1 2<|ol 13 12<|cl 14 153 [t 13]<|N) (t 14) 15 (om 2 15<|N)) [1,4,5,8,9,10,11,15])<|.ret) (q (R (oi 17 .eql 4 2<|om 16 17<|N) [5,17])<|D (I 16 (q (R (of 18 1 2<|ol 19 18<|ob 20 .seq (t 19) (.k (.str []))<|om 21 20<|.sc 21 true (of 22 1 1<|ol 23 22<|oi 24 .geq 23 0<|N) (t 24) 25 (om 26 25<|.sc 26 true (of 27 1 1<|ol 28 27<|oi 29 .lss 28 256<|N) (t 29) 30 (om 2 30<|N))) [1,4,16,18,19,20,21,25,26,30])<|.ret) (q (R (oi 32 .eql 4 3<|om 31 32<|N) [4,16,32])<|D (I 31 (q (R (of 33 1 2<|ol 34 33<|ob 35 .seq (t 34) (.k (.str []))<|om 36 35<|.sc 36 true (of 37 1 1<|ol 38 37<|oi 39 .eql 38 0<|N) (t 39) 40 (om 2 40<|N)) [1,31,33,34,35,36,40])<|.ret) S) [1,31])) [])) []) [7,8,9,10,11])<|q (.reg (ow 2 false<|N))<|.ret
theorem ok128:FT 128 41 JFq [.tmp 2]:=.o Tryz.func128
def JSP:Ic:=q (R (oz 4 0<|N) [4])<|q (q (R (om 6 0<|oh 7 6<|oz 8 0<|N) [6])<|D (.block 0<|.loop (q (.reg (ot 9 .lss 8 7<|N))<|q (D (I 9 S (E 0)) [9])<|q (D (.block 1<|q (R (om 10 8<|om 5 10<|N) [10])<|q (R (om 11 1<|om 12 0<|om 13 5<|oa true 14 3 12 13<|oL 15 3 14<|.call (some 16) (.dyn (t 11)) [t 15] N) [11,12,13,14,15])<|D (I 16 (q (R (om 17 5<|om 4 17<|N) [0,1,7,8,5,16,17])<|.ret) S) [5,16]) [])<|R (oi 18 .add 8 1<|om 8 18<|N) [18])) [0,1,7,8,9,10,5,11])<|q (.reg (oz 4 (-1)<|N))<|.ret
theorem ok133:FT 133 19 JSP [.tmp 4]:=.o Tryz.func133
def JNp:Ic:=q (R (ow 2 false<|N) [2])<|q (q (R (om 5 0<|ob 6 .seq (t 5) (.k (.str []))<|om 7 6<|.sc 7 false (om 8 0<|oj 9 8<|oi 10 .gtr 9 32<|N) (t 10) 11 (om 12 11<|.sc 12 false (om 13 0<|oo 14 (.ixs (t 13) (i 0))<|ob 15 .lss (t 14) (.k (.int .u8 97))<|N) (t 15) 16 (om 17 16<|.sc 17 false (om 18 0<|oo 19 (.ixs (t 18) (i 0))<|ob 20 .gtr (t 19) (.k (.int .u8 122))<|N) (t 20) 21 N))) [5,6,7,11,12,16,17])<|D (I 21 (q (R (ow 2 false<|N) [0,21])<|.ret) S) [21])<|q (q (R (om 22 0<|oo 23 (.s2b (t 22))<|oh 24 23<|oz 25 0<|N) [0,22])<|D (.block 0<|.loop (q (.reg (ot 26 .lss 25 24<|N))<|q (D (I 26 S (E 0)) [26])<|q (D (.block 1<|q (R (oa false 27 1 23 25<|ol 28 27<|om 4 28<|N) [27,28])<|q (R (om 29 4<|ob 30 .lss (t 29) (.k (.int .u8 97))<|om 31 30<|.sc 31 false (om 32 4<|ob 33 .gtr (t 32) (.k (.int .u8 122))<|N) (t 33) 34 (om 35 34<|.sc 35 true (om 36 4<|ob 37 .lss (t 36) (.k (.int .u8 48))<|om 38 37<|.sc 38 false (om 39 4<|ob 40 .gtr (t 39) (.k (.int .u8 57))<|N) (t 40) 41 N) (t 41) 42 (om 43 42<|.sc 43 true (om 44 4<|ob 45 .neq (t 44) (.k (.int .u8 95))<|N) (t 45) 46 N))) [4,29,30,31,34,35,42,43])<|D (I 46 (q (R (ow 2 false<|N) [23,24,25,46])<|.ret) S) [46]) [])<|R (oi 47 .add 25 1<|om 25 47<|N) [47])) [23,24,25,26,4])<|q (.reg (ow 2 true<|N))<|.ret
theorem JNq:FT 153 48 JNp [.tmp 2]:=.o Tryz.func153
def JSQ:Ic:=q (R (oz 3 0<|N) [3])<|q (R (ol 5 1<|om 6 0<|oo 7 (.sls (t 5) (some (t 6)) none)<|cl 8 191 [t 7,.k (.str [46,91,63])]<|om 4 8<|N) [5,6,7,8])<|q (q (R (om 9 4<|oi 10 .lss 9 0<|N) [9])<|D (I 10 (q (R (ol 11 1<|oj 12 11<|om 3 12<|N) [0,4,10,11,12])<|.ret) S) [10])<|q (R (om 13 0<|om 14 4<|ot 15 .add 13 14<|om 3 15<|N) [0,4,13,14,15])<|.ret
theorem ok190:FT 190 16 JSQ [.tmp 3]:=.o Tryz.func190
def JSR:Ic:=q (R (oz 4 0<|N) [4])<|q (q (R (om 11 1<|ob 12 .seq (t 11) (.k (.str []))<|N) [11])<|D (I 12 (q (R (oz 4 (-1)<|N) [0,1,12])<|.ret) S) [12])<|q (q (R (om 13 1<|oj 14 13<|oi 15 .eql 14 1<|N) [13,14])<|D (I 15 (q (R (om 16 1<|oo 17 (.ixs (t 16) (i 0))<|oo 18 (.cvi .i32 (t 17))<|om 5 18<|N) [1,15,16,17,18])<|q (q (R (om 19 5<|ob 20 .geq (t 19) (.k (.int .i32 128))<|N) [19])<|D (I 20 (R (ok 5 (.k (.int .i32 65533))<|N) [20]) S) [20])<|q (R (om 21 0<|om 22 5<|cl 23 245 [t 21,t 22]<|om 4 23<|N) [0,5,21,22,23])<|.ret) S) [15])<|q (q (R (om 24 0<|oj 25 24<|cl 26 246 [t 25]<|N) [24,25])<|D (I 26 (q (R (om 28 1<|cl 29 247 [t 28]<|om 27 29<|oe 30 27 0<|oe 31 27 1<|oN 6 [.bool false,.bool false,.bool false,.bool false,.bool false,.bool false,.bool false,.bool false,.bool false,.bool false,.bool false,.bool false,.bool false,.bool false,.bool false,.bool false,.bool false,.bool false,.bool false,.bool false,.bool false,.bool false,.bool false,.bool false,.bool false,.bool false,.bool false,.bool false,.bool false,.bool false,.bool false,.bool false,.bool false,.bool false,.bool false,.bool false,.bool false,.bool false,.bool false,.bool false,.bool false,.bool false,.bool false,.bool false,.bool false,.bool false,.bool false,.bool false,.bool false,.bool false,.bool false,.bool false,.bool false,.bool false,.bool false,.bool false,.bool false,.bool false,.bool false,.bool false,.bool false,.bool false,.bool false,.bool false,.bool false,.bool false,.bool false,.bool false,.bool false,.bool false,.bool false,.bool false,.bool false,.bool false,.bool false,.bool false,.bool false,.bool false,.bool false,.bool false,.bool false,.bool false,.bool false,.bool false,.bool false,.bool false,.bool false,.bool false,.bool false,.bool false,.bool false,.bool false,.bool false,.bool false,.bool false,.bool false,.bool false,.bool false,.bool false,.bool false,.bool false,.bool false,.bool false,.bool false,.bool false,.bool false,.bool false,.bool false,.bool false,.bool false,.bool false,.bool false,.bool false,.bool false,.bool false,.bool false,.bool false,.bool false,.bool false,.bool false,.bool false,.bool false,.bool false,.bool false,.bool false,.bool false,.bool false,.bool false,.bool false,.bool false,.bool false,.bool false,.bool false,.bool false,.bool false,.bool false,.bool false,.bool false,.bool false,.bool false,.bool false,.bool false,.bool false,.bool false,.bool false,.bool false,.bool false,.bool false,.bool false,.bool false,.bool false,.bool false,.bool false,.bool false,.bool false,.bool false,.bool false,.bool false,.bool false,.bool false,.bool false,.bool false,.bool false,.bool false,.bool false,.bool false,.bool false,.bool false,.bool false,.bool false,.bool false,.bool false,.bool false,.bool false,.bool false,.bool false,.bool false,.bool false,.bool false,.bool false,.bool false,.bool false,.bool false,.bool false,.bool false,.bool false,.bool false,.bool false,.bool false,.bool false,.bool false,.bool false,.bool false,.bool false,.bool false,.bool false,.bool false,.bool false,.bool false,.bool false,.bool false,.bool false,.bool false,.bool false,.bool false,.bool false,.bool false,.bool false,.bool false,.bool false,.bool false,.bool false,.bool false,.bool false,.bool false,.bool false,.bool false,.bool false,.bool false,.bool false,.bool false,.bool false,.bool false,.bool false,.bool false,.bool false,.bool false,.bool false,.bool false,.bool false,.bool false,.bool false,.bool false,.bool false,.bool false,.bool false,.bool false,.bool false,.bool false,.bool false,.bool false,.bool false,.bool false,.bool false,.bool false,.bool false,.bool false,.bool false,.bool false,.bool false,.bool false,.bool false,.bool false,.bool false,.bool false,.bool false]<|oS 256 6 30<|om 7 31<|N) [26,28,29,27,30,31])<|q (R (om 32 7<|N) [7])<|D (I 32 (q (q (R (oz 8 0<|N) [1,32])<|D (.block 0<|.loop (q (q (R (om 33 8<|om 34 0<|oj 35 34<|ot 36 .lss 33 35<|N) [33,34,35])<|D (I 36 S (E 0)) [36])<|q (D (.block 1<|q (R (om 39 0<|om 40 8<|oo 41 (.ixs (t 39) (t 40))<|cl 42 248 [t 6,t 41]<|N) [39,40,41])<|D (I 42 (q (R (om 43 8<|om 4 43<|N) [0,6,8,42,43])<|.ret) S) [42]) [])<|R (om 37 8<|oi 38 .add 37 1<|om 8 38<|N) [37,38])) [0,6,8,36])<|q (.reg (oz 4 (-1)<|N))<|.ret) S) [6,32]) S) [26])<|q (q (R (om 44 0<|oo 45 (.rgs (t 44))<|N) [0,44])<|D (.block 2<|.loop (q (.reg (oo 46 (.nxs (t 45))<|oe 47 46 0<|N))<|q (D (I 47 S (E 2)) [47])<|D (.block 3<|q (R (oe 48 46 1<|oe 49 46 2<|om 9 48<|om 10 49<|N) [46,48,49])<|q (R (om 50 1<|om 51 10<|cl 52 245 [t 50,t 51]<|oi 53 .geq 52 0<|N) [10,50,51,52])<|D (I 53 (q (R (om 54 9<|om 4 54<|N) [1,45,9,53,54])<|.ret) S) [9,53]) [])) [1,45,46,47,9,10])<|q (.reg (oz 4 (-1)<|N))<|.ret
theorem ok191:FT 191 55 JSR [.tmp 4]:=.o Tryz.func191
def JSS:Ic:=q (R (ow 4 false<|N) [4])<|q (R (om 5 0<|om 6 1<|cl 7 249 [t 5,t 6]<|om 4 7<|N) [0,1,5,6,7])<|.ret
theorem ok192:FT 192 8 JSS [.tmp 4]:=.o Tryz.func192
def JST:Ic:=q (R (ok 4 (.k (.str []))<|ok 5 (.k (.str []))<|ow 6 false<|N) [4,5,6])<|q (R (om 7 0<|om 8 1<|cl 9 250 [t 7,t 8]<|oe 10 9 0<|oe 11 9 1<|oe 12 9 2<|om 4 10<|om 5 11<|om 6 12<|N) [0,1,7,8,9,10,11,12])<|.ret
theorem ok193:FT 193 13 JST [.tmp 4,.tmp 5,.tmp 6]:=.o Tryz.func193
def JNr:Ic:=q (R (oz 4 0<|N) [4])<|D (.block 0<|q (R (om 161 1<|ob 162 .leq (.k (.int .i32 0)) (t 161)<|om 163 162<|.sc 163 true (om 164 1<|ob 165 .lss (t 164) (.k (.int .i32 128))<|N) (t 165) 166 (om 160 166<|N)) [161,162,163,164,165,166])<|I 160 (q (R (om 167 0<|om 168 1<|oo 169 (.cvi .u8 (t 168))<|cl 170 279 [t 167,t 169]<|om 4 170<|N) [0,1,160,167,168,169,170])<|.ret) (q (R (om 172 1<|ob 173 .eql (t 172) (.k (.int .i32 65533))<|om 171 173<|N) [160,172,173])<|I 171 (q (q (R (om 174 0<|oo 175 (.rgs (t 174))<|N) [0,1,171,174])<|D (.block 9<|.loop (q (.reg (oo 176 (.nxs (t 175))<|oe 177 176 0<|N))<|q (D (I 177 S (E 9)) [177])<|D (.block 10<|q (R (oe 178 176 1<|oe 179 176 2<|om 5 178<|om 6 179<|N) [176,178,179])<|q (R (om 180 6<|ob 181 .eql (t 180) (.k (.int .i32 65533))<|N) [6,180])<|D (I 181 (q (R (om 182 5<|om 4 182<|N) [175,5,181,182])<|.ret) S) [4,5,181]) [176,178,179,5,6,180,181,182,4])) [175,176,177,178,179,5,6,180,181,182,4])<|q (.reg (oz 4 (-1)<|N))<|.ret) (q (R (om 184 1<|cl 185 280 [t 184]<|og 186 185<|om 183 186<|N) [171,184,185,186])<|I 183 (q (R (oz 4 (-1)<|N) [0,1,183])<|.ret) (.scp (q (R (om 17 1<|oo 18 (.i2s (t 17))<|om 7 18<|N) [1,183,17,18])<|q (R (om 19 7<|oj 20 19<|oi 21 .sub 20 1<|om 8 21<|N) [19,20,21])<|q (R (om 22 8<|om 9 22<|N) [22])<|q (R (oz 10 0<|N) [10])<|q (D (.block 1<|.loop (q (q (R (om 23 9<|om 24 0<|oj 25 24<|ot 26 .lss 23 25<|N) [23,24,25])<|D (I 26 S (E 1)) [26])<|D (.block 2<|.scp (q (q (R (om 27 0<|om 28 9<|oo 29 (.ixs (t 27) (t 28))<|om 30 7<|om 31 8<|oo 32 (.ixs (t 30) (t 31))<|ot 33 .neq 29 32<|N) [27,28,29,30,31,32])<|D (I 33 (q (R (om 34 0<|om 35 9<|oi 36 .add 35 1<|oo 37 (.sls (t 34) (some (t 36)) none)<|om 38 7<|om 39 8<|oo 40 (.ixs (t 38) (t 39))<|cl 41 279 [t 37,t 40]<|om 11 41<|N) [33,34,35,36,37,38,39,40,41])<|q (q (R (om 42 11<|oi 43 .lss 42 0<|N) [42])<|D (I 43 (q (R (oz 4 (-1)<|N) [0,7,8,9,11,43])<|.ret) S) [4,43])<|R (om 44 9<|om 45 11<|oi 46 .add 45 1<|ot 47 .add 44 46<|om 9 47<|N) [11,44,45,46,47]) S) [33])<|q (q (.reg (oz 12 1<|N))<|D (.block 3<|.loop (q (q (R (om 48 12<|om 49 7<|oj 50 49<|ot 51 .lss 48 50<|N) [48,49,50])<|D (I 51 S (E 3)) [51])<|q (D (.block 4<|q (R (om 54 0<|om 55 9<|om 56 12<|ot 57 .sub 55 56<|oo 58 (.ixs (t 54) (t 57))<|om 59 7<|om 60 8<|om 61 12<|ot 62 .sub 60 61<|oo 63 (.ixs (t 59) (t 62))<|ot 64 .neq 58 63<|N) [54,55,56,57,58,59,60,61,62,63])<|D (I 64 .bad S) [64]) [54,55,56,57,58,59,60,61,62,63,64])<|R (om 52 12<|oi 53 .add 52 1<|om 12 53<|N) [52,53])) [0,7,12,48,49,50,51,54,55,56,57,58,59,60,61,62,63,64,52,53])<|q (q (R (om 65 9<|om 66 8<|ot 67 .sub 65 66<|om 4 67<|N) [8,9,65,66,67])<|.ret)<|q .lab<|q (R (om 68 10<|oi 69 .add 68 1<|om 10 69<|N) [4,68,69])<|q (R (om 70 9<|oi 71 .add 70 1<|om 9 71<|N) [70,71])<|q (R (ow 72 true<|.sc 72 true (om 73 10<|om 74 9<|cl 75 281 [t 74]<|ot 76 .gtr 73 75<|N) (t 76) 77 (om 78 77<|.sc 78 true (om 79 9<|om 80 0<|oj 81 80<|ot 82 .lss 79 81<|N) (t 82) 83 (om 84 83<|.sc 84 false (ow 85 false<|.sc 85 true (om 86 10<|om 87 9<|oo 88 (.bit .shr (t 87) (.k (.int .u64 4)))<|ob 89 .add (i 4) (t 88)<|ot 90 .geq 86 89<|N) (t 90) 91 (om 92 91<|.sc 92 true (om 93 9<|om 94 0<|oj 95 94<|ot 96 .lss 93 95<|N) (t 96) 97 N)) (t 97) 98 N))) [10,72,73,74,75,76,77,78,79,80,81,82,83,84,85,86,87,88,89,90,91,92,93,94,95,96,97])<|D (I 98 .bad S) [98])) [27,28,29,30,31,32,33,34,35,36,37,38,39,40,41,11,42,43,4,44,45,46,47,12,48,49,50,51,54,55,56,57,58,59,60,61,62,63,64,52,53,65,66,67,68,69,10,70,71,72,73,74,75,76,77,78,79,80,81,82,83,84,85,86,87,88,89,90,91,92,93,94,95,96,97,98])) [0,7,8,9,23,24,25,26,27,28,29,30,31,32,33,34,35,36,37,38,39,40,41,11,42,43,4,44,45,46,47,12,48,49,50,51,54,55,56,57,58,59,60,61,62,63,64,52,53,65,66,67,68,69,10,70,71,72,73,74,75,76,77,78,79,80,81,82,83,84,85,86,87,88,89,90,91,92,93,94,95,96,97,98])<|q (q (.reg (oz 4 (-1)<|N))<|.ret)<|q .lab<|q (.ite (B true) (q (R (om 99 0<|om 100 9<|om 101 8<|ot 102 .sub 100 101<|oo 103 (.sls (t 99) (some (t 102)) none)<|om 104 1<|oo 105 (.i2s (t 104))<|cl 106 282 [t 103,t 105]<|om 13 106<|N) [4,99,100,101,102,103,104,105,106])<|q (R (om 107 13<|oi 108 .geq 107 0<|N) [107])<|D (I 108 (q (R (om 109 9<|om 110 13<|ot 111 .add 109 110<|om 112 8<|ot 113 .sub 111 112<|om 4 113<|N) [13,108,109,110,111,112,113])<|.ret) S) [4,13,108]) (.scp (q (R (om 114 7<|om 115 8<|oo 116 (.ixs (t 114) (t 115))<|om 14 116<|N) [4,114,115,116])<|q (R (om 117 7<|om 118 8<|oi 119 .sub 118 1<|oo 120 (.ixs (t 117) (t 119))<|om 15 120<|N) [117,118,119,120])<|q .lab<|D (.block 5<|.loop (q (q (R (om 121 9<|om 122 0<|oj 123 122<|ot 124 .lss 121 123<|N) [121,122,123])<|D (I 124 S (E 5)) [124])<|q (D (.block 6<|q (R (om 127 0<|om 128 9<|oo 129 (.ixs (t 127) (t 128))<|om 130 14<|ot 131 .eql 129 130<|om 132 131<|.sc 132 true (om 133 0<|om 134 9<|oi 135 .sub 134 1<|oo 136 (.ixs (t 133) (t 135))<|om 137 15<|ot 138 .eql 136 137<|N) (t 138) 139 N) [127,128,129,130,131,132,133,134,135,136,137,138])<|D (I 139 (q (q (R (oz 16 2<|N) [139])<|D (.block 7<|.loop (q (q (R (om 140 16<|om 141 7<|oj 142 141<|ot 143 .lss 140 142<|N) [140,141,142])<|D (I 143 S (E 7)) [143])<|q (D (.block 8<|q (R (om 146 0<|om 147 9<|om 148 16<|ot 149 .sub 147 148<|oo 150 (.ixs (t 146) (t 149))<|om 151 7<|om 152 8<|om 153 16<|ot 154 .sub 152 153<|oo 155 (.ixs (t 151) (t 154))<|ot 156 .neq 150 155<|N) [146,147,148,149,150,151,152,153,154,155])<|D (I 156 (E 6) S) [156]) [146,147,148,149,150,151,152,153,154,155,156])<|R (om 144 16<|oi 145 .add 144 1<|om 16 145<|N) [144,145])) [14,15,16,140,141,142,143,146,147,148,149,150,151,152,153,154,155,156,144,145])<|q (R (om 157 9<|om 158 8<|ot 159 .sub 157 158<|om 4 159<|N) [157,158,159])<|.ret) S) [4,139]) [127,128,129,130,131,132,133,134,135,136,137,138,139,16,140,141,142,143,146,147,148,149,150,151,152,153,154,155,156,144,145,157,158,159,4])<|R (om 125 9<|oi 126 .add 125 1<|om 9 126<|N) [125,126])) [14,15,121,122,123,124,127,128,129,130,131,132,133,134,135,136,137,138,139,16,140,141,142,143,146,147,148,149,150,151,152,153,154,155,156,144,145,157,158,159,4,125,126,9])))<|q (.reg (oz 4 (-1)<|N))<|.ret))))) [0,1,161,162,163,164,165,166,160,167,168,169,170,172,173,171,174,175,176,177,178,179,5,6,180,181,182,184,185,186,183,17,18,7,19,20,21,8,22,9,10,23,24,25,26,27,28,29,30,31,32,33,34,35,36,37,38,39,40,41,11,42,43,44,45,46,47,12,48,49,50,51,54,55,56,57,58,59,60,61,62,63,64,52,53,65,66,67,68,69,70,71,72,73,74,75,76,77,78,79,80,81,82,83,84,85,86,87,88,89,90,91,92,93,94,95,96,97,98,99,100,101,102,103,104,105,106,13,107,108,109,110,111,112,113,114,115,116,14,117,118,119,120,15,121,122,123,124,127,128,129,130,131,132,133,134,135,136,137,138,139,16,140,141,142,143,146,147,148,149,150,151,152,153,154,155,156,144,145,157,158,159,125,126]
theorem JSU:FT 245 187 JNr [.tmp 4]:=.o Tryz.func245
def JSV:Ic:=q (R (ow 2 false<|N) [2])<|q (R (om 3 0<|oi 4 .gtr 3 8<|om 2 4<|N) [0,3,4])<|.ret
theorem ok246:FT 246 5 JSV [.tmp 2]:=.o Tryz.func246
def JSW:Ic:=q (R (ow 4 false<|N) [4])<|q (R (om 5 0<|om 6 1<|oc 7 5<|oo 8 (.ixr 256 1 (t 7) (t 6))<|ol 9 8<|om 4 9<|N) [0,1,5,6,7,8,9])<|.ret
theorem ok248:FT 248 10 JSW [.tmp 4]:=.o Tryz.func248
def JSX:Ic:=q (R (ow 4 false<|N) [4])<|q (R (om 5 0<|oj 6 5<|om 7 1<|oj 8 7<|ot 9 .geq 6 8<|om 10 9<|.sc 10 true (om 11 0<|om 12 1<|oj 13 12<|oo 14 (.sls (t 11) none (some (t 13)))<|om 15 1<|ot 16 .seq 14 15<|N) (t 16) 17 (om 4 17<|N)) [0,1,5,6,7,8,9,10,17])<|.ret
theorem ok249:FT 249 18 JSX [.tmp 4]:=.o Tryz.func249
def JSY:Ic:=q (R (ok 4 (.k (.str []))<|ok 5 (.k (.str []))<|ow 6 false<|N) [4,5,6])<|q (q (R (om 8 0<|om 9 1<|cl 10 283 [t 8,t 9]<|om 7 10<|N) [8,9,10])<|q (R (om 11 7<|oi 12 .geq 11 0<|N) [11])<|D (I 12 (q (R (om 13 0<|om 14 7<|oo 15 (.sls (t 13) none (some (t 14)))<|om 16 0<|om 17 7<|om 18 1<|oj 19 18<|ot 20 .add 17 19<|oo 21 (.sls (t 16) (some (t 20)) none)<|om 4 15<|om 5 21<|ow 6 true<|N) [0,1,7,12,13,14,15,16,17,18,19,20,21])<|.ret) S) [1,7,12])<|q (R (om 22 0<|om 4 22<|ok 5 (.k (.str []))<|ow 6 false<|N) [0,22])<|.ret
theorem ok250:FT 250 23 JSY [.tmp 4,.tmp 5,.tmp 6]:=.o Tryz.func250
def JSZ:Ic:=q (R (oz 4 0<|N) [4])<|q (R (om 5 0<|om 6 1<|cl 7 315 [t 5,t 6]<|om 4 7<|N) [0,1,5,6,7])<|.ret
theorem ok279:FT 279 8 JSZ [.tmp 4]:=.o Tryz.func279
def JSa:Ic:=q (R (ow 2 false<|N) [2])<|q (D (.block 0<|q (R (om 4 0<|ob 5 .leq (.k (.int .i32 0)) (t 4)<|om 6 5<|.sc 6 true (om 7 0<|ob 8 .lss (t 7) (.k (.int .i32 55296))<|N) (t 8) 9 (om 3 9<|N)) [4,5,6,9])<|D (I 3 (q (R (ow 2 true<|N) [0,3])<|.ret) (q (R (om 11 0<|ob 12 .lss (.k (.int .i32 57343)) (t 11)<|om 13 12<|.sc 13 true (om 14 0<|ob 15 .leq (t 14) (.k (.int .i32 1114111))<|N) (t 15) 16 (om 10 16<|N)) [0,3,11,12,13,16])<|D (I 10 (q (R (ow 2 true<|N) [10])<|.ret) S) [10])) []) [])<|q (.reg (ow 2 false<|N))<|.ret
theorem ok280:FT 280 17 JSa [.tmp 2]:=.o Tryz.func280
def JSb:Ic:=q (R (oz 4 0<|N) [4])<|q (R (om 14 1<|oj 15 14<|om 5 15<|N) [14,15])<|q (D (.block 0<|q (R (om 17 5<|oi 18 .eql 17 0<|om 19 18<|.sc 19 false (om 20 1<|om 21 0<|ot 22 .seq 20 21<|N) (t 22) 23 (om 16 23<|N)) [17,18,19,23])<|D (I 16 (q (R (oz 4 0<|N) [0,1,5,16])<|.ret) (q (R (om 25 5<|oi 26 .eql 25 1<|om 24 26<|N) [16,25,26])<|D (I 24 (q (R (om 27 0<|om 28 1<|oo 29 (.ixs (t 28) (i 0))<|cl 30 315 [t 27,t 29]<|om 4 30<|N) [0,1,5,24,27,28,29,30])<|.ret) (q (R (om 32 5<|om 33 0<|oj 34 33<|ot 35 .geq 32 34<|om 31 35<|N) [24,32,33,34,35])<|D (I 31 (q (R (oz 4 (-1)<|N) [0,1,5,31])<|.ret) (q (R (om 37 5<|oo 38 (.ld none (.k (.glo 2)))<|ot 39 .leq 37 38<|om 40 39<|.sc 40 true (om 41 0<|oj 42 41<|oi 43 .leq 42 64<|N) (t 43) 44 (om 36 44<|N)) [31,37,38,39,40,44])<|D (I 36 (q (R (om 45 0<|om 46 1<|cl 47 282 [t 45,t 46]<|om 4 47<|N) [0,1,5,36,45,46,47])<|.ret) S) [36])) [])) [])) []) [])<|q (R (om 48 1<|oo 49 (.ixs (t 48) (i 0))<|om 6 49<|N) [48,49])<|q (R (om 50 1<|oo 51 (.ixs (t 50) (i 1))<|om 7 51<|N) [50,51])<|q (.reg (oz 8 0<|N))<|q (R (om 52 0<|oj 53 52<|om 54 5<|ot 55 .sub 53 54<|oi 56 .add 55 1<|om 9 56<|N) [52,53,54,55,56])<|q (.reg (oz 10 0<|N))<|q (D (.block 1<|.loop (q (q (R (om 57 8<|om 58 9<|ot 59 .lss 57 58<|N) [57,58])<|D (I 59 S (E 1)) [59])<|D (.block 2<|q (q (R (om 60 0<|om 61 8<|oo 62 (.ixs (t 60) (t 61))<|om 63 6<|ot 64 .neq 62 63<|N) [60,61,62,63])<|D (I 64 (q (R (om 65 0<|om 66 8<|oi 67 .add 66 1<|om 68 9<|oo 69 (.sls (t 65) (some (t 67)) (some (t 68)))<|om 70 6<|cl 71 315 [t 69,t 70]<|om 11 71<|N) [64,65,66,67,68,69,70,71])<|q (q (R (om 72 11<|oi 73 .lss 72 0<|N) [72])<|D (I 73 (q (R (oz 4 (-1)<|N) [0,1,5,6,7,8,9,10,11,73])<|.ret) S) [73])<|R (om 74 8<|om 75 11<|oi 76 .add 75 1<|ot 77 .add 74 76<|om 8 77<|N) [11,74,75,76,77]) S) [64])<|q (q (R (om 78 0<|om 79 8<|oi 80 .add 79 1<|oo 81 (.ixs (t 78) (t 80))<|om 82 7<|ot 83 .eql 81 82<|om 84 83<|.sc 84 true (om 85 0<|om 86 8<|om 87 8<|om 88 5<|ot 89 .add 87 88<|oo 90 (.sls (t 85) (some (t 86)) (some (t 89)))<|om 91 1<|ot 92 .seq 90 91<|N) (t 92) 93 N) [78,79,80,81,82,83,84])<|D (I 93 (q (R (om 94 8<|om 4 94<|N) [0,1,5,6,7,8,9,10,93,94])<|.ret) S) [93])<|q (R (om 95 8<|oi 96 .add 95 1<|om 8 96<|N) [95,96])<|q (R (om 97 10<|oi 98 .add 97 1<|om 10 98<|N) [97,98])<|q (R (om 99 5<|oo 100 (.ld none (.k (.glo 2)))<|ot 101 .leq 99 100<|om 102 101<|.sc 102 true (om 103 10<|om 104 8<|cl 105 281 [t 104]<|ot 106 .gtr 103 105<|N) (t 106) 107 N) [99,100,101,102])<|D (I 107 (q (R (om 108 0<|om 109 8<|oo 110 (.sls (t 108) (some (t 109)) none)<|om 111 1<|cl 112 282 [t 110,t 111]<|om 12 112<|N) [0,1,5,6,7,9,10,107,108,109,110,111,112])<|q (q (R (om 113 12<|oi 114 .geq 113 0<|N) [113])<|D (I 114 (q (R (om 115 12<|om 116 8<|ot 117 .add 115 116<|om 4 117<|N) [8,12,114,115,116,117])<|.ret) S) [8,12,114])<|q (.reg (oz 4 (-1)<|N))<|.ret) (q (R (om 118 5<|oo 119 (.ld none (.k (.glo 2)))<|ot 120 .gtr 118 119<|om 121 120<|.sc 121 true (om 122 10<|om 123 8<|oo 124 (.bit .shr (t 123) (.k (.int .u64 4)))<|ob 125 .add (i 4) (t 124)<|ot 126 .geq 122 125<|N) (t 126) 127 (om 128 127<|.sc 128 true (om 129 8<|om 130 9<|ot 131 .lss 129 130<|N) (t 131) 132 N)) [107,118,119,120,121,127,128])<|D (I 132 (q (R (om 133 0<|om 134 8<|oo 135 (.sls (t 133) (some (t 134)) none)<|om 136 1<|cl 137 316 [t 135,t 136]<|om 13 137<|N) [0,1,5,6,7,9,10,132,133,134,135,136,137])<|q (q (R (om 138 13<|oi 139 .lss 138 0<|N) [138])<|D (I 139 (q (R (oz 4 (-1)<|N) [8,13,139])<|.ret) S) [139])<|q (R (om 140 8<|om 141 13<|ot 142 .add 140 141<|om 4 142<|N) [8,13,140,141,142])<|.ret) S) [132])) []) [11])) [0,1,5,6,7,8,9,10,59,11])<|q (.reg (oz 4 (-1)<|N))<|.ret
theorem ok283:FT 283 143 JSb [.tmp 4]:=.o Tryz.func283
def JSc:Ic:=q (R (oz 4 0<|N) [4])<|q (R (om 5 0<|om 6 1<|cl 7 348 [t 5,t 6]<|om 4 7<|N) [0,1,5,6,7])<|.ret
theorem ok315:FT 315 8 JSc [.tmp 4]:=.o Tryz.func315
end Go.Proofs
namespace Go.Proofs
open Go Av
def ixb(s:Str)(c:Int):Int:=JAF s c.toNat.toUInt8 0
theorem JJO(s:Str)(c:Int): -1≤ixb s c∧ixb s c≤s.length:=by
 have:=JGb c.toNat.toUInt8 s 0;simpa[ixb]using this
theorem JKg(s:Str)(c:Int):PT 315 [.str s,.int .u8 c] (.d (.int .i64 (ixb s c))):=by
 refine ok315.pc ?_;simp only[go_sem,JSc,simprocAttr];refine wn (JNn s c) ?_;simp only[go_sem,Nat.reduceAdd,Nat.reduceEqDiff,Nat.reduceBEq,Nat.reduceLeDiff,reduceCtorEq,↓reduceIte,ixb]
theorem JGc(s:Str)(c:Int):PT 279 [.str s,.int .u8 c] (.d (.int .i64 (ixb s c))):=by
 refine ok279.pc ?_;simp only[go_sem,JSZ,simprocAttr];refine wc ((JKg s c).call trivial) trivial
def JCd(r:Int):Bool:=(decide (0≤r)&&decide (r<55296))||(decide (57343<r)&&decide (r≤1114111))
theorem JPu(r:Int):PT 280 [.int .i32 r] (.d (.bool (JCd r))):=by
 refine ok280.pc ?_;simp only[go_sem,JSa,simprocAttr];refine sq (decide (r<55296)) ?_ ?_
 all_goals simp only[go_sem,simprocAttr]
 apply ik<;>intro h
 ·simp only[JCd,h,Bool.true_or]
 refine sq (decide (r≤1114111)) ?_ ?_
 all_goals simp only[go_sem,simprocAttr]
 apply ik<;>intro h2
 ·simp only[JCd,h,h2,Bool.false_or]
 ·simp only[JCd,h,h2,Bool.false_or]
def JCe:Str:=[46,91,63]
theorem JGd{P:Program}{X:Ext}(hX:Uu P X){f:Nat}{ds:List Dat}{v:Av}(h:JKf P X [(f,ds,v)]=true):J3 P f ds v:=by
 rw[JKf,JKf,Bool.and_true]at h;cases ev:evF P false (Yw P X K1 500 40) 500 f (ds.map .d) []with
 |none=>rw[ev]at h;cases h
 |some y=>
  obtain⟨u,fh⟩:=y;rw[ev]at h;simp only[Vi]at h;obtain⟨hp,he⟩:=h;obtain rfl:=JPt he;exact JPr (X:=X) (K:=K1) (L:=500) (n:=40) hX ev hp
theorem JNs:PT 245 [.str JCe,.int .i32 65533] (.d (.int .i64 (-1))):=JGd JKe kR
def as3:List Bool:=(List.range 256).map fun k=>k==46||k==91||k==63
theorem set3:PT 247 [.str JCe] (.tup [.d (.agg (as3.map .bool)),.d (.bool true)]):=JGd JKe kR
theorem JNt{r:Int}(hv:Utf8.valid r=true)(h:128≤r):∃l:Str,∃c:UInt8,(Utf8.encode r).data.toList=l++[c]∧128≤c.toNat∧1≤l.length∧l.length≤3:=by
 have hc:¬r.toNat<128:=oM;unfold Utf8.encode;simp only[hv,if_true,hc,if_false];split
 ·exact⟨[_],_,rfl,sO,sP,sP⟩
 ·split
  ·exact⟨[_,_],_,rfl,sO,sP,sP⟩
  ·exact⟨[_,_,_],_,rfl,sO,sP,sP⟩
theorem JKh(r:Int):∃n:Int,PT 245 [.str JCe,.int .i32 r] (.d (.int .i64 n))∧ -1≤n∧n≤3:=by
 by_cases h0:(0≤r∧r<128)
 ·refine⟨ixb JCe (IntKind.u8.wrap r),?_,(JJO _ _).1,(JJO _ _).2⟩;refine JSU.pc ?_;have e1:decide (0≤r)=true:=decide_eq_true h0.1;have e2:decide (r<128)=true:=decide_eq_true h0.2;simp only[go_sem,JNr,e1,e2,Nat.reduceAdd,Nat.reduceEqDiff,Nat.reduceBEq,Nat.reduceLeDiff,reduceCtorEq,↓reduceIte];refine wc ((JGc _ _).call trivial) trivial
 by_cases h1:r=65533
 ·subst h1;exact⟨-1,JNs,oM,oM⟩
 refine⟨-1,?_,oM,oM⟩;refine JSU.pc ?_;simp only[go_sem,JNr,Nat.reduceAdd,Nat.reduceEqDiff,Nat.reduceBEq,Nat.reduceLeDiff,reduceCtorEq,↓reduceIte];refine sq (decide (r<128)) ?_ ?_
 all_goals simp only[go_sem,Nat.reduceAdd,Nat.reduceEqDiff,Nat.reduceBEq,Nat.reduceLeDiff,reduceCtorEq,↓reduceIte]
 have e0:(decide (0≤r)&&decide (r<128))=false:=sO;have e1:(r==65533)=false:=sX h1;simp only[go_sem,e0,e1,Nat.reduceAdd,Nat.reduceEqDiff,Nat.reduceBEq,Nat.reduceLeDiff,reduceCtorEq,↓reduceIte];refine wc ((JPu r).call trivial) ?_;apply ik<;>intro hv
 ·trivial
 have hval:Utf8.valid r=true:=by
  simp only[Bool.not_eq_false']at hv;simp only[JCd,Vx,Vi,decide_eq_true_eq]at hv;simp only[Utf8.valid,Vi,Vx,decide_eq_true_eq,Bool.not_eq_true',decide_eq_false_iff_not];omega
 have hr128:128≤r:=by
  simp only[Bool.not_eq_false']at hv;simp only[JCd,Vx,Vi,decide_eq_true_eq]at hv;omega
 obtain⟨l,c,he,hc1,hl1,hl2⟩:=JNt hval hr128;rw[he];have hw:IntKind.i64.wrap (((l++[c]).length:Int)-1)=(l.length:Int):=by
  rw[Vg,List.length_singleton];rw[wrap64 oM oM];omega
 rw[hw];have hnx:∀t:Str,(∀b∈t,b.toNat<128)→ixb t (c.toNat:Int)= -1:=by
  intro t ht;have hk:∀(t:Str) k,(∀b∈t,b.toNat<128)→JAF t c k= -1:=by
   intro t
   induction t with
   |nil=>intro k _;rfl
   |cons b t ih=>
    intro k ht;have hb:=ht b Vh;have hne:(b==c)=false:=by
     rw[beq_eq_false_iff_ne];rintro rfl;omega
    rw[JAF,hne];exact ih (k+1) fun b hb=>ht b (Vn _ hb)
  have e:(c.toNat:Int).toNat.toUInt8=c:=sP;rw[ixb,e];exact hk t 0 ht
 have hg:((l++[c]).getD l.length 0)=c:=sP;refine JJ (fun n s=>n=0∧s=⟨[(0,.d (.str JCe)),(7,.d (.str (l++[c]))),(8,.d (.int .i64 l.length)),(9,.d (.int .i64 l.length))],[]⟩) ⟨0,_,Wk.refl _,rfl,rfl⟩ ?_;rintro n s ⟨rfl,rfl⟩;have k1:((1:Nat):Int)=1:=rfl;have k2:((3:Nat):Int)=3:=rfl;have k3:((2:Nat):Int)=2:=rfl;rcases(by omega:l.length=1∨l.length=2∨l.length=3)with h|h|h
 ·rw[h]at hg⊢;have hlen:(l++[c]).length=2:=by simp[h]
  have t1:Int.toNat 1=1:=rfl;simp only[go_sem,JCe,hlen,hg,k1,k2,k3,t1,Vf,Vm,Nat.reduceAdd,Nat.reduceEqDiff,Nat.reduceBEq,Nat.reduceLeDiff,reduceCtorEq,↓reduceIte];refine⟨fun _=>⟨⟨dC,dC⟩,⟨dC,dC⟩,fun _=>⟨⟨dC,dC,dC⟩,⟨dC,dC⟩,?_⟩,fun hne=>?_⟩,fun h=>by simp at h⟩
  ·refine wn ((JGc _ _).call trivial) ?_;rw[hnx _ dC];refine zz ?_;refine⟨fun _=>?_,fun h=>by simp at h⟩;trivial
  ·exfalso;simp only[bne_eq_false_iff_eq,Int.ofNat_inj]at hne
   have:UInt8.toNat 91<128:=dC;omega
 ·rw[h]at hg⊢;have hlen:(l++[c]).length=3:=by simp[h]
  have t1:Int.toNat 2=2:=rfl;simp only[go_sem,JCe,hlen,hg,k1,k2,k3,t1,Vf,Vm,Nat.reduceAdd,Nat.reduceEqDiff,Nat.reduceBEq,Nat.reduceLeDiff,reduceCtorEq,↓reduceIte];refine⟨fun _=>⟨⟨dC,dC⟩,⟨dC,dC⟩,fun _=>⟨⟨dC,dC,dC⟩,⟨dC,dC⟩,?_⟩,fun hne=>?_⟩,fun h=>by simp at h⟩
  ·refine wn ((JGc _ _).call trivial) ?_;rw[hnx _ dC];refine zz ?_;refine⟨fun _=>?_,fun h=>by simp at h⟩;trivial
  ·exfalso;simp only[bne_eq_false_iff_eq,Int.ofNat_inj]at hne
   have:UInt8.toNat 63<128:=dC;omega
 ·rw[h]at hg⊢;have hlen:(l++[c]).length=4:=by simp[h]
  simp only[go_sem,JCe,hlen,hg,k1,k2,k3,Vf,Vm,Nat.reduceAdd,Nat.reduceEqDiff,Nat.reduceBEq,Nat.reduceLeDiff,reduceCtorEq,↓reduceIte];refine⟨fun h=>by simp at h,fun _=>?_⟩;trivial
theorem JPv(n:Int):PT 246 [.int .i64 n] (.d (.bool (decide (n>8)))):=by
 refine ok246.pc ?_;simp only[go_sem,JSV,simprocAttr]
theorem JES{G:Nat→Option Av.Obj}:∀cs:List Dat,JN G (cs.map .d)
 |[]=>trivial
 |_::r=>⟨trivial,JES r⟩
theorem JJP(ρ:Nat→Nat):∀cs:List Dat,J7 ρ (cs.map .d)=cs.map .d
 |[]=>rfl
 |_::r=>by simp only[Va,J7,Av.ren,JJP ρ r]
theorem Xo(i:Nat)(cs:List Dat):closed (get [(i,.box (cs.map .d))]):=by
 refine U4 ?_;simp only[Jc,J0,JES,and_true]
theorem Con.ro{P:Program}{f:Nat}{ds cs:List Dat}{r:Dat}(h:Con P f (.ref 1000 0::ds.map .d) [(1000,.box (cs.map .d))] (.d r) [])(i:Nat):
  JR P f (.ref i 0::ds.map .d) [(i,some (.box (cs.map .d)))] (.d r) []:=by
 have h1:∀j,(get [(1000,Obj.box (cs.map .d))] j).isSome=true→j=1000:=by
  intro j hj;simp only[Av.get]at hj;split at hj
  ·rename_i e;exact e.symm
  ·cases hj
 have:=h.call (fun _=>i) (fun j hj=>by rw[h1 j hj];decide) (fun a b ha hb _=>by rw[h1 a ha,h1 b hb]) ?_ (Xo _ _) [] sP (Xo _ _) trivial
 ·have e:(ds.map Av.d).map (Av.ren fun _=>i)=ds.map Av.d:=by
   rw[List.map_map];exact List.map_congr_left fun x _=>by simp[Av.ren]
  simpa[Av.ren,Obj.ren,JJP,e]using this
 ·intro c hc;rcases VA.1 hc with rfl|hc
  ·rfl
  ·obtain⟨x,_,rfl⟩:=VC.1 hc;trivial
theorem JPw(bs:List Bool)(c:Nat)(hb:bs.length=256)(hc:c<256):
  KT 248 (.ref 1000 0::[Dat.int .u8 c].map .d) [(1000,.box ((bs.map .bool).map .d))] (.d (.bool (bs.getD c false))) []:=by
 refine ok248.co (k:=false) (Xo _ _) trivial ?_;have hx:((bs.map Dat.bool).map Av.d)[c*1]? =some (.d (.bool (bs.getD c false))):=by simp[Vo,List.getD_eq_getElem?_getD,hb,hc]
 simp only[Va,Vb];simp only[go_sem,JSW,Vv,hx,simprocAttr];omega
noncomputable def rn(r:Int):Int:=Classical.choose (JKh r)
theorem JNu(r:Int):PT 245 [.str JCe,.int .i32 r] (.d (.int .i64 (rn r))):=(Classical.choose_spec (JKh r)).1
theorem JJQ(s:ByteArray)(i:Nat):1≤(Utf8.decode s i).2:=by
 unfold Utf8.decode;dsimp only
 repeat' split
 all_goals simp
noncomputable def rnR(s:Str):Nat→Nat→Int
 |0,_=> -1
 |f+1,p=>if p<s.length then(if 0≤rn (Utf8.decode ⟨s.toArray⟩ p).1 then(p:Int)else rnR s f (p+(Utf8.decode ⟨s.toArray⟩ p).2))else-1
theorem JNv(s:Str):∀f p,-1≤rnR s f p∧rnR s f p<s.length
 |0,p=>by simp only[rnR];omega
 |f+1,p=>by
  have:=JNv s f (p+(Utf8.decode ⟨s.toArray⟩ p).2);simp only[rnR];split
  ·split
   ·omega
   ·exact this
  ·omega
def JJR(s:Str):Int:=match s.findIdx? (fun c=>as3.getD c.toNat false)with
 |some k=>(k:Int)
 |none=> -1
theorem JPx(s:Str): -1≤JJR s∧JJR s<s.length:=by
 unfold JJR;split
 ·rename_i k h;have:=(List.findIdx?_eq_some_iff_getElem.1 h).1;omega
 ·omega
noncomputable def anyI(s:Str):Int:=if(s.length:Int)>8 then JJR s else rnR s (s.length+1) 0
theorem JKi(s:Str): -1≤anyI s∧anyI s<s.length:=by
 unfold anyI;split
 ·exact JPx s
 ·exact JNv _ _ _
theorem JKj:as3.length=256:=dC
theorem JPy(s:Str)(hs:s.length≤68719476736):PT 191 [.str s,.str JCe] (.d (.int .i64 (anyI s))):=by
 refine ok191.pc ?_;have e1:(JCe==([]:Str))=false:=dC;have e2:(((JCe.length:Nat):Int)==1)=false:=dC;simp only[go_sem,JSR,e1,e2,simprocAttr];refine wc ((JPv _).call trivial) ?_;apply ik<;>intro h8
 ·have ha:anyI s=JJR s:=by simp only[decide_eq_true_eq]at h8;unfold anyI;rw[if_pos h8]
  rw[ha];refine wn (set3.call (by simp[Jl])) ?_;have hl:(List.map Av.d (List.map Dat.bool as3)).length=256:=by simp[JKj]
  simp only[go_sem,hl,Vf,Vm,Nat.reduceAdd,Nat.reduceEqDiff,Nat.reduceBEq,Nat.reduceLeDiff,reduceCtorEq,↓reduceIte,Nat.le_refl,and_self];refine JJ (fun n st=>∃k:Nat,k≤s.length∧n=s.length-k∧(∀(j:Nat) (h:j<s.length),j<k→as3.getD s[j].toNat false=false)∧
   st=⟨[(0,.d (.str s)),(6,.ref 6 0),(8,.d (.int .i64 k))],[(6,.box ((as3.map .bool).map .d))]⟩) ?_ ?_
  ·exact⟨_,_,Wk.refl _,0,Nat.zero_le _,rfl,sP,rfl⟩
  ·rintro n st ⟨k,hk,rfl,hinv,rfl⟩;by_cases hlt:k<s.length
   ·have hd:=dT hlt;have hg:s.getD k 0=s[k]:=by simp[List.getD_eq_getElem?_getD,hlt]
    simp only[go_sem,hd,hg,Vv,simprocAttr];have hc:=Con.ro (JPw as3 s[k].toNat JKj (UInt8.toNat_lt _)) 6;refine⟨oM,wn hc ?_⟩;refine zz ?_;apply ik<;>intro hf
    ·have:s.findIdx? (fun c=>as3.getD c.toNat false)=some k:=by
      rw[List.findIdx?_eq_some_iff_getElem];exact⟨hlt,hf,fun j hj=>by rw[hinv j oM hj];decide⟩
     simp only[JJR,this]
    ·refine⟨s.length-(k+1),_,oM,Wk.less ?_,k+1,oM,rfl,?_,rfl⟩
     ·simp only[go_sem,JS k oM,JES,simprocAttr]
     ·intro j h hj;by_cases e:j=k
      ·subst e;exact hf
      ·exact hinv j h oM
   ·have hd:=dF hlt;refine zz5 ?_;have:s.findIdx? (fun c=>as3.getD c.toNat false)=none:=by
     rw[List.findIdx?_eq_none_iff];intro x hx;obtain⟨j,hj,rfl⟩:=List.getElem_of_mem hx;exact hinv j hj oM
    simp only[JJR,this]
 ·have ha:anyI s=rnR s (s.length+1) 0:=by simp only[decide_eq_false_iff_not]at h8;unfold anyI;rw[if_neg h8]
  rw[ha];generalize hR:rnR s (s.length+1) 0=R;refine JJ (fun n st=>∃p:Nat,s.length<n+p∧R=rnR s n p∧st=⟨[(1,.d (.str JCe)),(45,.mp 45)],[(45,.sit s p)]⟩) ?_ ?_
  ·exact⟨s.length+1,_,Wk.refl _,0,oM,hR.symm,rfl⟩
  ·rintro n st ⟨p,hp,hr,rfl⟩;by_cases hlt:p<s.length
   ·obtain⟨n,rfl⟩:∃m,n=m+1:=by
     cases n with
     |zero=>omega
     |succ m=>exact⟨m,rfl⟩
    have hdp:=JJQ ⟨s.toArray⟩ p;simp only[rnR,hlt,↓reduceIte]at hr;simp only[go_sem,hlt,simprocAttr];refine wc ((JNu _).call trivial) ?_;apply ik<;>intro hf
    ·simp only[decide_eq_true_eq]at hf;have hf':0≤rn (Utf8.decode ⟨s.toArray⟩ p).1:=hf;rw[if_pos hf']at hr;rw[hr]
    ·simp only[decide_eq_false_iff_not]at hf;have hf':¬0≤rn (Utf8.decode ⟨s.toArray⟩ p).1:=hf;refine⟨n,_,oM,Wk.less ?_,p+(Utf8.decode ⟨s.toArray⟩ p).2,oM,?_,rfl⟩
     ·exact zz trivial
     ·rw[if_neg hf']at hr;exact hr
   ·simp only[go_sem,hlt,simprocAttr];have:rnR s n p= -1:=by
     cases n with
     |zero=>rfl
     |succ n=>simp[rnR,hlt]
    rw[hr,this]
theorem JPz(s p:Str)(hp:p.length≤68719476736):PT 249 [.str s,.str p] (.d (.bool (decide ((s.length:Int)≥p.length)&&(s.take p.length==p)))):=by
 refine ok249.pc ?_;simp only[go_sem,JSX,simprocAttr];refine Jy (s.take p.length==p) (fun h=>?_) ?_
 ·simp only[decide_eq_true_eq]at h;simp only[go_sem,Vv,Int.toNat_zero,List.drop_zero,Nat.sub_zero,simprocAttr];have e:((p.length:Int)-0).toNat=p.length:=oM;rw[e];exact⟨oM,rfl⟩
 ·exact zz trivial
def JL0(s p:Str):Bool:=decide ((s.length:Int)≥p.length)&&(s.take p.length==p)
theorem JP0(s p:Str)(hp:p.length≤68719476736):PT 192 [.str s,.str p] (.d (.bool (JL0 s p))):=by
 refine ok192.pc ?_;simp only[go_sem,JSS,simprocAttr];refine wn ((JPz s p hp).call trivial) ?_;simp only[go_sem,JL0,simprocAttr]
theorem k1':((1:Nat):Int)=1:=rfl
theorem l10:((1:Int)==0)=false:=rfl
theorem l11:((1:Int)==1)=true:=rfl
theorem t0':Int.toNat 0=0:=rfl
theorem JP1(s:Str)(c:UInt8):PT 283 [.str s,.str [c]] (.d (.int .i64 (ixb s c.toNat))):=by
 refine ok283.pc ?_;have e3:(([c]:Str).getD 0 0)=c:=rfl;simp only[go_sem,JSb,k1',l10,l11,t0',e3,List.length_singleton,Nat.reduceAdd,Nat.reduceEqDiff,Nat.reduceBEq,Nat.reduceLeDiff,reduceCtorEq,↓reduceIte];refine⟨fun h=>?_,fun h=>⟨dC,?_⟩⟩
 ·simp only[beq_iff_eq]at h;subst h;have:ixb [c] c.toNat=0:=by simp[ixb,JAF]
  rw[this]
 ·refine wc ((JKg _ _).call trivial) trivial
theorem JNw(s:Str)(c:UInt8):ixb s c.toNat<s.length:=by
 have hk:∀(t:Str) k,JAF t c k<(t.length+k:Nat)∨JAF t c k= -1:=by
  intro t
  induction t with
  |nil=>intro k;right;rfl
  |cons b t ih=>
   intro k;rw[JAF];split
   ·left;simp only[Vf];omega
   ·rcases ih (k+1)with h|h
    ·left;simp only[Vf];omega
    ·right;exact h
 have e:(c.toNat:Int).toNat.toUInt8=c:=sP;rw[ixb,e];rcases hk s 0 with h|h
 ·simpa using h
 ·omega
def UV(s:Str)(c:UInt8):Str×Str×Bool:=if ixb s c.toNat≥0 then(s.take (ixb s c.toNat).toNat,s.drop ((ixb s c.toNat).toNat+1),true)else(s,[],false)
theorem JP2(s:Str)(c:UInt8)(hs:s.length≤68719476736):PT 250 [.str s,.str [c]] (.tup [.d (.str (UV s c).1),.d (.str (UV s c).2.1),.d (.bool (UV s c).2.2)]):=by
 refine ok250.pc ?_;simp only[go_sem,JSY,Nat.reduceAdd,Nat.reduceEqDiff,Nat.reduceBEq,Nat.reduceLeDiff,reduceCtorEq,↓reduceIte];refine wn ((JP1 s c).call trivial) ?_;simp only[go_sem,k1',List.length_singleton,Nat.reduceAdd,Nat.reduceEqDiff,Nat.reduceBEq,Nat.reduceLeDiff,reduceCtorEq,↓reduceIte];have hlt:=JNw s c;have hge:=(JJO s c.toNat).1;apply ik<;>intro h
 ·simp only[decide_eq_true_eq]at h;have hw:IntKind.i64.wrap (ixb s c.toNat+1)=ixb s c.toNat+1:=wrap64 oM oM;simp only[hw];have e1:s.take ((ixb s c.toNat)-0).toNat=s.take (ixb s c.toNat).toNat:=by rw[Int.sub_zero]
  have e2:((s.length:Int)-(ixb s c.toNat+1)).toNat=(s.drop (ixb s c.toNat+1).toNat).length:=by rw[List.length_drop];omega
  have e3:(ixb s c.toNat+1).toNat=(ixb s c.toNat).toNat+1:=oM;have e4:UV s c=(s.take (ixb s c.toNat).toNat,s.drop ((ixb s c.toNat).toNat+1),true):=by unfold UV;rw[if_pos h]
  refine⟨oM,oM,?_⟩;rw[t0',List.drop_zero,e1,e2,List.take_length,e3,e4]
 ·simp only[decide_eq_false_iff_not]at h;have:UV s c=(s,[],false):=by unfold UV;rw[if_neg h]
  rw[this]
theorem JP3(s:Str)(c:UInt8)(hs:s.length≤68719476736):PT 193 [.str s,.str [c]] (.tup [.d (.str (UV s c).1),.d (.str (UV s c).2.1),.d (.bool (UV s c).2.2)]):=by
 refine ok193.pc ?_;simp only[go_sem,JST,simprocAttr];refine wc ((JP2 s c hs).call (by simp[Jl])) trivial
def JH0(c:UInt8):Bool:= !((decide ((c.toNat:Int)<97)||decide ((c.toNat:Int)>122))&&(decide ((c.toNat:Int)<48)||decide ((c.toNat:Int)>57))&&((c.toNat:Int)!=95))
def Xe(s:Str):Bool:= !(s==[]||decide ((s.length:Int)>32)||decide (((s.getD 0 0).toNat:Int)<97)||decide (((s.getD 0 0).toNat:Int)>122))&&s.all JH0
theorem JDl(s:Str)(hs:s.length≤68719476736):PT 153 [.str s] (.d (.bool (Xe s))):=by
 refine JNq.pc ?_;cases s with
 |nil=>
  simp only[go_sem,JNp,Nat.reduceAdd,Nat.reduceEqDiff,Nat.reduceBEq,Nat.reduceLeDiff,reduceCtorEq,↓reduceIte];rfl
 |cons c t=>
  have e0:((c::t:Str)==[])=false:=rfl;have e1:(c::t).getD 0 0=c:=rfl;simp only[go_sem,JNp,e0,e1,t0',Nat.reduceAdd,Nat.reduceEqDiff,Nat.reduceBEq,Nat.reduceLeDiff,reduceCtorEq,↓reduceIte];generalize hb:(c::t:Str)=s at*;have hl:0<s.length:=by rw[←hb];simp
  have hlen:(t.length+1:Nat)=s.length:=by rw[←hb];simp
  have hc0:s.getD 0 0=c:=by rw[←hb];rfl
  have e0':(s==[])=false:=by rw[←hb];rfl
  rw[hlen];refine sq (decide ((c.toNat:Int)<97)) ?_ ?_
  ·simp only[go_sem,t0',hc0,Nat.reduceAdd,Nat.reduceEqDiff,Nat.reduceBEq,Nat.reduceLeDiff,reduceCtorEq,↓reduceIte];omega
  refine zz ?_;refine sq (decide ((c.toNat:Int)>122)) ?_ ?_
  ·simp only[go_sem,t0',hc0,Nat.reduceAdd,Nat.reduceEqDiff,Nat.reduceBEq,Nat.reduceLeDiff,reduceCtorEq,↓reduceIte];omega
  refine zz ?_;apply ik<;>intro h
  ·have:Xe s=false:=by unfold Xe;rw[e0',hc0,Bool.false_or,h];rfl
   rw[this]
  have hn:Xe s=s.all JH0:=by unfold Xe;rw[e0',hc0,Bool.false_or,h];rfl
  rw[hn];refine zz4 ?_;refine JJ (fun n st=>∃k:Nat,k≤s.length∧n=s.length-k∧s.all JH0=(s.drop k).all JH0∧
   st=⟨[(23,.d (.list 1 (s.map fun b=>.int .u8 b.toNat))),(24,.d (.int .i64 s.length)),(25,.d (.int .i64 k))],[]⟩) ?_ ?_
  ·exact⟨_,_,Wk.refl _,0,Nat.zero_le _,rfl,rfl,rfl⟩
  ·rintro n st ⟨k,hk,rfl,hinv,rfl⟩;by_cases hlt:k<s.length
   ·have hd:=dT hlt;have hg:nth (s.map fun b=>Dat.int .u8 b.toNat) k=.int .u8 s[k].toNat:=by rw[Uc (sX hlt)];simp
    rw[Vq hlt,List.all_cons]at hinv;simp only[go_sem,hd,hg,Vv,Vc,Nat.reduceAdd,Nat.reduceEqDiff,Nat.reduceBEq,Nat.reduceLeDiff,reduceCtorEq,↓reduceIte];generalize hx:(s[k].toNat:Int)=x at*;refine⟨oM,oM,?_⟩;refine sq (decide (x>122)) ?_ ?_
    ·exact zz trivial
    refine zz ?_;refine sq (decide (x<48)||decide (x>57)) ?_ ?_
    ·refine zz ?_;refine sq (decide (x>57)) ?_ ?_
     ·exact zz trivial
     exact zz trivial
    refine zz ?_;refine sq (x !=95) ?_ ?_
    ·exact zz trivial
    refine zz ?_;have hcx:JH0 s[k]= !((decide (x<97)||decide (x>122))&&(decide (x<48)||decide (x>57))&&(x !=95)):=by rw[←hx];rfl
    apply ik<;>intro hf
    ·rw[hcx,hf,Vr,Bool.false_and]at hinv;rw[hinv]
    ·rw[hcx,hf,Vs,Vt]at hinv;refine⟨s.length-(k+1),_,oM,Wk.less ?_,k+1,oM,rfl,hinv,rfl⟩;exact zz7 trivial
   ·have hd:=dF hlt;obtain rfl:k=s.length:=oM;rw[List.drop_length,List.all_nil]at hinv;simp only[go_sem,hd,hinv,Nat.reduceAdd,Nat.reduceEqDiff,Nat.reduceBEq,Nat.reduceLeDiff,reduceCtorEq,↓reduceIte]
structure Part where
 kind:Int
 index:Int
 name:Str
def Ja(p:Part):Dat:=.agg [.int .i64 p.kind,.int .i64 p.index,.str p.name]
def UI(p:Part):Bool:=
 if p.kind=1∨p.kind=4 then(p.index==0)&&Xe p.name else if p.kind=2 then(p.name==[])&&decide (p.index≥0)&&decide (p.index<256)else if p.kind=3 then(p.name==[])&&(p.index==0)else false
theorem JKk(p:Part)(hp:p.name.length≤68719476736):PT 128 [Ja p] (.d (.bool (UI p))):=by
 refine ok128.pc ?_;obtain⟨k,i,n⟩:=p;simp only at hp;simp only[Ja];by_cases h1:k=1∨k=4
 ·have hv:UI ⟨k,i,n⟩=((i==0)&&Xe n):=by unfold UI;rw[if_pos h1]
  rw[hv];rcases h1 with rfl|rfl
  ·simp only[go_sem,JFq,beq_self_eq_true,simprocAttr];refine sq (Xe n) ?_ ?_
   ·refine zz ?_;refine wc ((JDl n hp).call trivial) trivial
   ·exact zz trivial
  ·have q1:((4:Int)==1)=false:=rfl;simp only[go_sem,JFq,q1,beq_self_eq_true,simprocAttr];refine sq (Xe n) ?_ ?_
   ·refine zz ?_;refine wc ((JDl n hp).call trivial) trivial
   ·exact zz trivial
 ·have q1:(k==1)=false:=sO;have q4:(k==4)=false:=sO;by_cases h2:k=2
  ·subst h2;have hv:UI ⟨2,i,n⟩=((n==[])&&decide (i≥0)&&decide (i<256)):=by unfold UI;rw[if_neg h1,if_pos rfl]
   rw[hv];simp only[go_sem,JFq,q1,q4,beq_self_eq_true,simprocAttr];refine sq (decide (i≥0)) ?_ ?_
   ·exact zz trivial
   refine zz ?_;refine sq (decide (i<256)) ?_ ?_
   ·exact zz trivial
   exact zz trivial
  ·have q2:(k==2)=false:=sO;by_cases h3:k=3
   ·subst h3;have hv:UI ⟨3,i,n⟩=((n==[])&&(i==0)):=by unfold UI;rw[if_neg h1,if_neg h2,if_pos rfl]
    rw[hv];simp only[go_sem,JFq,q1,q2,q4,beq_self_eq_true,simprocAttr];refine sq (i==0) ?_ ?_
    ·exact zz trivial
    exact zz trivial
   ·have q3:(k==3)=false:=sO;have hv:UI ⟨k,i,n⟩=false:=by unfold UI;rw[if_neg h1,if_neg h2,if_neg h3]
    rw[hv];simp only[go_sem,JFq,q1,q2,q3,q4,simprocAttr]
end Go.Proofs
namespace Go.Proofs
open Go.Shelf
def Tryz.JHA:Go.Shelf.Ren:=⟨fun|171=>195|243=>253|246=>289|283=>320|284=>321|285=>322|286=>323|129=>237|317=>352|318=>353|319=>354|320=>355|337=>376|338=>377|n=>n,fun|3=>3|9=>9|2=>2|4=>4|171=>366|0=>0|53=>287|37=>267|5=>5|173=>368|212=>397|51=>285|20=>20|213=>398|46=>231|232=>423|233=>424|n=>n,fun|17=>5|18=>6|19=>7|n=>n⟩
theorem Tryz.JPA:Go.Proofs.LaysM.n171 Tryz.prog Tryz.JHA:={
 mixed:=kR
 f129:=Tryz.func237.trans (congrArg some kR)
 f171:=Tryz.func195.trans (congrArg some kR)
 f243:=Tryz.func253.trans (congrArg some kR)
 f246:=Tryz.func289.trans (congrArg some kR)
 f283:=Tryz.func320.trans (congrArg some kR)
 f284:=Tryz.func321.trans (congrArg some kR)
 f285:=Tryz.func322.trans (congrArg some kR)
 f286:=Tryz.func323.trans (congrArg some kR)
 f317:=Tryz.func352.trans (congrArg some kR)
 f318:=Tryz.func353.trans (congrArg some kR)
 f319:=Tryz.func354.trans (congrArg some kR)
 f320:=Tryz.func355.trans (congrArg some kR)
 f337:=Tryz.func376.trans (congrArg some kR)
 f338:=Tryz.func377.trans (congrArg some kR)
 t0:=Tryz.underlying0
 a0:=Tryz.isAgg0
 z0:=Tryz.sizeOf0
 v0:=Tryz.zeroValue0
 t2:=Tryz.underlying2
 a2:=Tryz.isAgg2
 z2:=Tryz.sizeOf2
 v2:=Tryz.zeroValue2
 t3:=Tryz.underlying3
 a3:=Tryz.isAgg3
 z3:=Tryz.sizeOf3
 v3:=Tryz.zeroValue3
 t4:=Tryz.underlying4
 a4:=Tryz.isAgg4
 z4:=Tryz.sizeOf4
 v4:=Tryz.zeroValue4
 t5:=Tryz.underlying5
 a5:=Tryz.isAgg5
 z5:=Tryz.sizeOf5
 v5:=Tryz.zeroValue5
 t9:=Tryz.underlying9
 a9:=Tryz.isAgg9
 z9:=Tryz.sizeOf9
 v9:=Tryz.zeroValue9
 t20:=Tryz.underlying20
 a20:=Tryz.isAgg20
 z20:=Tryz.sizeOf20
 v20:=Tryz.zeroValue20
 t37:=Tryz.underlying267
 a37:=Tryz.isAgg267
 z37:=Tryz.sizeOf267
 v37:=Tryz.zeroValue267
 t46:=Tryz.underlying231
 a46:=Tryz.isAgg231
 z46:=Tryz.sizeOf231
 v46:=Tryz.zeroValue231
 t51:=Tryz.underlying285
 a51:=Tryz.isAgg285
 z51:=Tryz.sizeOf285
 v51:=Tryz.zeroValue285
 t53:=Tryz.underlying287
 a53:=Tryz.isAgg287
 z53:=Tryz.sizeOf287
 v53:=Tryz.zeroValue287
 t171:=Tryz.underlying366
 a171:=Tryz.isAgg366
 z171:=Tryz.sizeOf366
 v171:=Tryz.zeroValue366
 t173:=Tryz.underlying368
 a173:=Tryz.isAgg368
 z173:=Tryz.sizeOf368
 v173:=Tryz.zeroValue368
 t212:=Tryz.underlying397
 a212:=Tryz.isAgg397
 z212:=Tryz.sizeOf397
 v212:=Tryz.zeroValue397
 t213:=Tryz.underlying398
 a213:=Tryz.isAgg398
 z213:=Tryz.sizeOf398
 t232:=Tryz.underlying423
 a232:=Tryz.isAgg423
 z232:=Tryz.sizeOf423
 v232:=Tryz.zeroValue423
 t233:=Tryz.underlying424
 a233:=Tryz.isAgg424
 z233:=Tryz.sizeOf424
 v233:=Tryz.zeroValue424
 g17:=kR
 g18:=kR
 g19:=kR
 i0:=kR
 i2:=kR
 i3:=kR
 i4:=kR
 i5:=kR
 i9:=kR
 i20:=kR
 i37:=kR
 i46:=kR
 i51:=kR
 i53:=kR
 i171:=kR
 i173:=kR
 i212:=kR
 i232:=kR
 i233:=kR
 m17:=kR
 m18:=kR
 m19:=by kernel_rfl}
def Tryz.JHB:Go.Shelf.Ren:=⟨fun|172=>194|244=>251|245=>252|247=>284|279=>285|280=>286|281=>287|282=>288|287=>317|316=>318|171=>195|205=>319|321=>350|322=>351|243=>253|246=>289|283=>320|284=>321|285=>322|286=>323|129=>237|317=>352|318=>353|319=>354|320=>355|337=>376|338=>377|n=>n,fun|9=>9|3=>3|75=>252|76=>253|4=>4|5=>5|167=>333|37=>267|0=>0|85=>334|2=>2|168=>336|53=>287|175=>361|46=>231|210=>364|127=>349|145=>395|143=>393|21=>21|171=>366|173=>368|212=>397|51=>285|20=>20|213=>398|232=>423|233=>424|80=>275|n=>n,fun|15=>3|16=>4|17=>5|18=>6|19=>7|n=>n⟩
theorem Tryz.JE7:Go.Proofs.LaysC.n172 Tryz.prog Tryz.JHB:={
 mixed:=kR
 f129:=Tryz.func237.trans (congrArg some kR)
 f171:=Tryz.func195.trans (congrArg some kR)
 f172:=Tryz.func194.trans (congrArg some kR)
 f205:=Tryz.func319.trans (congrArg some kR)
 f243:=Tryz.func253.trans (congrArg some kR)
 f244:=Tryz.func251.trans (congrArg some kR)
 f245:=Tryz.func252.trans (congrArg some kR)
 f246:=Tryz.func289.trans (congrArg some kR)
 f247:=Tryz.func284.trans (congrArg some kR)
 f279:=Tryz.func285.trans (congrArg some kR)
 f280:=Tryz.func286.trans (congrArg some kR)
 f281:=Tryz.func287.trans (congrArg some kR)
 f282:=Tryz.func288.trans (congrArg some kR)
 f283:=Tryz.func320.trans (congrArg some kR)
 f284:=Tryz.func321.trans (congrArg some kR)
 f285:=Tryz.func322.trans (congrArg some kR)
 f286:=Tryz.func323.trans (congrArg some kR)
 f287:=Tryz.func317.trans (congrArg some kR)
 f316:=Tryz.func318.trans (congrArg some kR)
 f317:=Tryz.func352.trans (congrArg some kR)
 f318:=Tryz.func353.trans (congrArg some kR)
 f319:=Tryz.func354.trans (congrArg some kR)
 f320:=Tryz.func355.trans (congrArg some kR)
 f321:=Tryz.func350.trans (congrArg some kR)
 f322:=Tryz.func351.trans (congrArg some kR)
 f337:=Tryz.func376.trans (congrArg some kR)
 f338:=Tryz.func377.trans (congrArg some kR)
 t0:=Tryz.underlying0
 a0:=Tryz.isAgg0
 z0:=Tryz.sizeOf0
 v0:=Tryz.zeroValue0
 t2:=Tryz.underlying2
 a2:=Tryz.isAgg2
 z2:=Tryz.sizeOf2
 v2:=Tryz.zeroValue2
 t3:=Tryz.underlying3
 a3:=Tryz.isAgg3
 z3:=Tryz.sizeOf3
 v3:=Tryz.zeroValue3
 t4:=Tryz.underlying4
 a4:=Tryz.isAgg4
 z4:=Tryz.sizeOf4
 v4:=Tryz.zeroValue4
 t5:=Tryz.underlying5
 a5:=Tryz.isAgg5
 z5:=Tryz.sizeOf5
 v5:=Tryz.zeroValue5
 t9:=Tryz.underlying9
 a9:=Tryz.isAgg9
 z9:=Tryz.sizeOf9
 v9:=Tryz.zeroValue9
 t20:=Tryz.underlying20
 a20:=Tryz.isAgg20
 z20:=Tryz.sizeOf20
 v20:=Tryz.zeroValue20
 t21:=Tryz.underlying21
 a21:=Tryz.isAgg21
 z21:=Tryz.sizeOf21
 v21:=Tryz.zeroValue21
 t37:=Tryz.underlying267
 a37:=Tryz.isAgg267
 z37:=Tryz.sizeOf267
 v37:=Tryz.zeroValue267
 t46:=Tryz.underlying231
 a46:=Tryz.isAgg231
 z46:=Tryz.sizeOf231
 v46:=Tryz.zeroValue231
 t51:=Tryz.underlying285
 a51:=Tryz.isAgg285
 z51:=Tryz.sizeOf285
 v51:=Tryz.zeroValue285
 t53:=Tryz.underlying287
 a53:=Tryz.isAgg287
 z53:=Tryz.sizeOf287
 v53:=Tryz.zeroValue287
 t75:=Tryz.underlying252
 a75:=Tryz.isAgg252
 z75:=Tryz.sizeOf252
 v75:=Tryz.zeroValue252
 t76:=Tryz.underlying253
 a76:=Tryz.isAgg253
 z76:=Tryz.sizeOf253
 v76:=Tryz.zeroValue253
 t85:=Tryz.underlying334
 a85:=Tryz.isAgg334
 z85:=Tryz.sizeOf334
 v85:=Tryz.zeroValue334
 t127:=Tryz.underlying349
 a127:=Tryz.isAgg349
 z127:=Tryz.sizeOf349
 v127:=Tryz.zeroValue349
 t143:=Tryz.underlying393
 a143:=Tryz.isAgg393
 z143:=Tryz.sizeOf393
 v143:=Tryz.zeroValue393
 t145:=Tryz.underlying395
 a145:=Tryz.isAgg395
 z145:=Tryz.sizeOf395
 v145:=Tryz.zeroValue395
 t167:=Tryz.underlying333
 a167:=Tryz.isAgg333
 z167:=Tryz.sizeOf333
 v167:=Tryz.zeroValue333
 t168:=Tryz.underlying336
 a168:=Tryz.isAgg336
 z168:=Tryz.sizeOf336
 v168:=Tryz.zeroValue336
 t171:=Tryz.underlying366
 a171:=Tryz.isAgg366
 z171:=Tryz.sizeOf366
 v171:=Tryz.zeroValue366
 t173:=Tryz.underlying368
 a173:=Tryz.isAgg368
 z173:=Tryz.sizeOf368
 v173:=Tryz.zeroValue368
 t175:=Tryz.underlying361
 a175:=Tryz.isAgg361
 z175:=Tryz.sizeOf361
 v175:=Tryz.zeroValue361
 t210:=Tryz.underlying364
 a210:=Tryz.isAgg364
 z210:=Tryz.sizeOf364
 v210:=Tryz.zeroValue364
 t212:=Tryz.underlying397
 a212:=Tryz.isAgg397
 z212:=Tryz.sizeOf397
 v212:=Tryz.zeroValue397
 t213:=Tryz.underlying398
 a213:=Tryz.isAgg398
 z213:=Tryz.sizeOf398
 t232:=Tryz.underlying423
 a232:=Tryz.isAgg423
 z232:=Tryz.sizeOf423
 v232:=Tryz.zeroValue423
 t233:=Tryz.underlying424
 a233:=Tryz.isAgg424
 z233:=Tryz.sizeOf424
 v233:=Tryz.zeroValue424
 g15:=kR
 g16:=kR
 g17:=kR
 g18:=kR
 g19:=kR
 t80:=Tryz.underlying275
 a80:=Tryz.isAgg275
 z80:=Tryz.sizeOf275
 v80:=Tryz.zeroValue275
 i0:=kR
 i2:=kR
 i3:=kR
 i4:=kR
 i5:=kR
 i9:=kR
 i20:=kR
 i21:=kR
 i37:=kR
 i46:=kR
 i51:=kR
 i53:=kR
 i75:=kR
 i76:=kR
 i80:=kR
 i85:=kR
 i127:=kR
 i143:=kR
 i145:=kR
 i167:=kR
 i168:=kR
 i171:=kR
 i173:=kR
 i175:=kR
 i210:=kR
 i212:=kR
 i232:=kR
 i233:=kR
 m15:=kR
 m16:=kR
 m17:=kR
 m18:=kR
 m19:=kR
 c0:=kR
 c2:=kR
 c3:=kR
 c4:=kR
 c5:=kR
 c9:=kR
 c20:=kR
 c21:=kR
 c37:=kR
 c46:=kR
 c51:=kR
 c53:=kR
 c75:=kR
 c76:=kR
 c80:=kR
 c85:=kR
 c127:=kR
 c143:=kR
 c145:=kR
 c167:=kR
 c168:=kR
 c171:=kR
 c173:=kR
 c175:=kR
 c210:=kR
 c212:=kR
 c213:=kR
 c232:=kR
 c233:=by kernel_rfl}
end Go.Proofs
namespace Go.Proofs
open Go Av Go.RowKit
variable {A:Nat→Prop}{w:World}
theorem JL1{f:Nat}{fn:Func}(h:Tryz.prog.funcs[f]? =some fn)(h1:fn.body.isSome=true)(h2:(fn.name== "runtime.NumGoroutine")=false):Has Tryz.prog f:=⟨fn,h,h1,h2⟩
theorem JGe{vs:Array Value}(h:1=vs.size):∃x,vs=#[x]:=by
 refine⟨vs[0],?_⟩;apply Array.ext
 ·simp[←h]
 ·intro i h1 h2;have:i=0:=oM;subst this;rfl
def XG(s:Str):Int×Dat:=match Lib.atoiAll s with
 |.ok v=>(v,.nilIface)
 |.range=>(Lib.atoiSat s,.iface 336 .opq)
 |_=>(0,.iface 336 .opq)
theorem JKl(hg:∀g cs,XU g=some cs→Zv A w g cs)(g:Nat)(h:XU g=some [.iface 393 .opq]):
  ∃ev,w.cell? ⟨g,0,none⟩=some ev∧(ev=.nilIface∨∃te pe,ev=.iface te pe):=by
 obtain⟨h0,C,T,fr,h1,h2,h3,h4⟩:=hg g _ h;have hs:C[0]? =some (C[0]'(by simp at h2;omega)):=sP;have:=h4 0 _ _ rfl hs;refine⟨C[0]'(by simp at h2;omega),?_,?_⟩
 ·simp[World.cell?,h1]
 ·generalize C[0]'(by simp at h2;omega)=v at this;cases this with
  |iface t x v h=>exact .inr ⟨_,_,rfl⟩
theorem JET{β:JP}{H:Heap}{x y:Dat}{u v:Value}(h1:Rep A w x u)(h2:Rep A w y v):VRep β A w H (.tup [.d x,.d y]) (.tuple #[u,v]):=by
 refine .tup _ _ rfl ?_;intro i c z hc hz
 match i,hc,hz with
 |0,hc,hz=>cases hc;cases hz;exact .d _ _ h1
 |1,hc,hz=>cases hc;cases hz;exact .d _ _ h2
theorem i64b{v:Int}(h0: -9223372036854775808≤v)(h1:v≤9223372036854775807):IntKind.i64.min≤v∧v≤IntKind.i64.max:=by
 have e1:IntKind.i64.min= -9223372036854775808:=dC;have e2:IntKind.i64.max=9223372036854775807:=dC;rw[e1,e2];exact⟨h0,h1⟩
theorem call194(s:Str)(hs:s.length≤68719476736):CT 194 [.d (.str s)] [] (.tup [.d (.int .i64 (XG s).1),.d (XG s).2]) []:=by
 refine JR.JCt (ds:=[.str s]) (JL1 Tryz.func194 kR kR) ?_;intro A w vs hg hl hv;obtain⟨x,rfl⟩:=JGe hl;have hx:=hv 0 _ x rfl rfl;cases hx with
 |str _ h=>
  have e:(⟨s.toArray⟩:ByteArray).data.toList=s:=sP;have hsz:(⟨s.toArray⟩:ByteArray).size=s.length:=by simp[ByteArray.size]
  cases ha:Lib.atoiAll s with
  |ok v=>
   have hv:XG s=(v,.nilIface):=by unfold XG;rw[ha]
   rw[hv];obtain⟨b0,b1⟩:=Lib.atoiAll_bounds ha;refine(Any.strconv_Atoi_ok Tryz.JE7 ⟨s.toArray⟩ oM v (by rw[e];exact ha) w).mono ?_;rintro e w' ⟨rfl,hw⟩;refine⟨_,rfl,?_,fun β H=>JET (.int _ _ (i64b b0 b1)) .nilIface⟩;rcases hw with rfl|⟨t,rfl⟩
   ·exact Below.refl _ _
   ·exact Lib.bytesWorld_below _ _ _
  |range=>
   have hv:XG s=(Lib.atoiSat s,.iface 336 .opq):=by unfold XG;rw[ha]
   rw[hv];obtain⟨ev,g1,g2⟩:=JKl hg 4 rfl;obtain⟨b0,b1⟩:=Lib.atoiSat_bounds s;refine(Any.strconv_Atoi_range Tryz.JE7 ⟨s.toArray⟩ oM (by rw[e];exact ha) ev w g1 g2).mono ?_;rintro e' w' ⟨N,rfl,h1,h2,hb⟩;rw[e];exact⟨_,rfl,hb,fun β H=>JET (.int _ _ (i64b b0 b1)) (.iface _ _ _ (.opq _ rfl))⟩
  |_=>
   have hv:XG s=(0,.iface 336 .opq):=by unfold XG;rw[ha]
   rw[hv];obtain⟨ev,g1,g2⟩:=JKl hg 3 rfl;refine(Any.strconv_Atoi_syntax Tryz.JE7 ⟨s.toArray⟩ oM (by rw[e];exact ha) ev w g1 g2).mono ?_;rintro e w' ⟨N,rfl,h1,h2,hb⟩;exact⟨_,rfl,hb,fun β H=>JET (.int _ _ (i64b oM oM)) (.iface _ _ _ (.opq _ rfl))⟩
theorem JNx(s:Str): -9223372036854775808≤(XG s).1∧(XG s).1≤9223372036854775807:=by
 unfold XG;cases ha:Lib.atoiAll s with
 |ok v=>exact Lib.atoiAll_bounds ha
 |range=>exact Lib.atoiSat_bounds s
 |_=>exact⟨by show(-9223372036854775808:Int)≤0;omega,by show(0:Int)≤9223372036854775807;omega⟩
theorem JL2(s:Str):(XG s).2=.nilIface∨(XG s).2=.iface 336 .opq:=by
 unfold XG;cases ha:Lib.atoiAll s with
 |ok v=>exact .inl rfl
 |range=>exact .inr rfl
 |_=>exact .inr rfl
theorem tabI(hg:∀g cs,XU g=some cs→Zv A w g cs):Lib.TabIs Tryz.prog w "internal/strconv.uint64pow10" .u64 Lib.pow10Tab:=by
 obtain⟨h0,C,T,fr,h1,h2,h3,h4⟩:=hg 5 JGa rfl;have hn:Tryz.prog.globalNamed "internal/strconv.uint64pow10" =some 5:=kR;unfold Lib.TabIs World.var?;rw[hn];simp only[Option.bind_some,h1,Vd];have hlen:JGa.length=20:=by simp[JGa]
 apply Array.ext
 ·rw[←h2,hlen];simp[Lib.pow10Tab]
 ·intro i hi hi';have hi20:i<20:=by rw[←h2,hlen]at hi;exact hi
  have e1:JGa[i]? =some (.int .u64 ((10^i:Nat):Int)):=by simp[JGa,hi20]
  have:=h4 i _ C[i] e1 sP;generalize C[i]=v at this;cases this;simp[Lib.pow10Tab]
theorem call195(n:Int)(h0: -9223372036854775808≤n)(h1:n≤9223372036854775807):CT 195 [.d (.int .i64 n)] [] (.d (.str (Lib.itoa n))) []:=by
 refine JR.JCt (ds:=[.int .i64 n]) (JL1 Tryz.func195 kR kR) ?_;intro A w vs hg hl hv;obtain⟨x,rfl⟩:=JGe hl;have hx:=hv 0 _ x rfl rfl;cases hx with
 |int=>
  refine(Any.strconv_Itoa Tryz.JPA n h0 h1 w (tabI hg)).mono ?_;rintro e w' ⟨rfl,k,os,rfl⟩;refine⟨_,rfl,?_,fun β H=>.d _ _ (.str _ ?_)⟩
  ·refine⟨rfl,rfl,rfl,by simp[Sort.grow],fun i hi=>?_⟩;show((w.drewN k).heap++os)[i]? =_;rw[Array.getElem?_append_left (by show i<w.heap.size;omega)];rfl
  ·have:=Lib.itoa_length_le n h0 h1;omega
end Go.Proofs
namespace Go.Proofs
open Go Av
theorem Con.rl{P:Program}{f:Nat}{ds cs:List Dat}{r:Dat}(h:Con P f (ds.map .d++[.ref 1000 0]) [(1000,.box (cs.map .d))] (.d r) [])(i:Nat):
  JR P f (ds.map .d++[.ref i 0]) [(i,some (.box (cs.map .d)))] (.d r) []:=by
 have h1:∀j,(get [(1000,Obj.box (cs.map .d))] j).isSome=true→j=1000:=by
  intro j hj;simp only[Av.get]at hj;split at hj
  ·rename_i e;exact e.symm
  ·cases hj
 have:=h.call (fun _=>i) (fun j hj=>by rw[h1 j hj];decide) (fun a b ha hb _=>by rw[h1 a ha,h1 b hb]) ?_ (Xo _ _) [] sP (Xo _ _) trivial
 ·have e:(ds.map Av.d).map (Av.ren fun _=>i)=ds.map Av.d:=by
   rw[List.map_map];exact List.map_congr_left fun x _=>by simp[Av.ren]
  simpa[Av.ren,Obj.ren,JJP,e]using this
 ·intro c hc;rcases List.mem_append.1 hc with hc|hc
  ·obtain⟨x,_,rfl⟩:=VC.1 hc;trivial
  ·rw[List.mem_singleton.1 hc];rfl
noncomputable def JAH(s:Str):Int:=if anyI (s.drop 1)<0 then s.length else 1+anyI (s.drop 1)
theorem JGf(s:Str)(h:0<s.length):1≤JAH s∧JAH s≤s.length:=by
 have:=JKi (s.drop 1);rw[List.length_drop]at this;unfold JAH;split<;>omega
theorem JB2(s:Str)(k:Nat):(s.drop k).take ((s.length:Int)-k).toNat=s.drop k:=by
 apply List.take_of_length_le;rw[List.length_drop];omega
theorem JL3(s:Str)(n:Int)(h:0≤n):(s.drop n.toNat).take ((s.length:Int)-n).toNat=s.drop n.toNat:=by
 have:=JB2 s n.toNat;rwa[Int.toNat_of_nonneg h]at this
theorem JP4(s:Str)(hs:s.length≤68719476736)(h0:0<s.length):KT 190 ([Dat.int .i64 1].map .d++[.ref 1000 0]) [(1000,.box ([Dat.str s].map .d))] (.d (.int .i64 (JAH s))) []:=by
 refine ok190.co (k:=false) (Xo _ _) trivial ?_;have t1:Int.toNat 1=1:=rfl;have e1:(s.drop 1).take ((s.length:Int)-1).toNat=s.drop 1:=JB2 s 1;have hd:(s.drop 1).length≤68719476736:=by rw[List.length_drop];omega
 have hb:=JKi (s.drop 1);rw[List.length_drop]at hb;simp only[Va,Vb,List.cons_append,List.nil_append];simp only[go_sem,JSQ,t1,e1,simprocAttr];refine⟨oM,wn ((JPy (s.drop 1) hd).call trivial) ?_⟩;refine zz ?_;apply ik<;>intro h
 ·simp only[decide_eq_true_eq]at h;have:JAH s=s.length:=by unfold JAH;rw[if_pos h]
  rw[this]
 ·simp only[decide_eq_false_iff_not]at h;have:JAH s=1+anyI (s.drop 1):=by unfold JAH;rw[if_neg h]
  rw[this];have hw:IntKind.i64.wrap (1+anyI (s.drop 1))=1+anyI (s.drop 1):=wrap64 oM oM;rw[hw]
noncomputable def Uo(s:Str):Part×Str×Bool:=
 if JL0 s [91,42,93]then(⟨3,0,[]⟩,s.drop 3,true)
 else if s.getD 0 0=46 then(⟨1,0,(s.drop 1).take ((JAH s)-1).toNat⟩,s.drop (JAH s).toNat,true)
 else if s.getD 0 0=63 then(⟨4,0,(s.drop 1).take ((JAH s)-1).toNat⟩,s.drop (JAH s).toNat,true)
 else(⟨2,(XG (UV (s.drop 1) 93).1).1,[]⟩,(UV (s.drop 1) 93).2.1,
  ((((s.getD 0 0).toNat:Int)==91)&&(UV (s.drop 1) 93).2.2)&&((Y0 (.d (XG (UV (s.drop 1) 93).1).2)).getD false)&&(Lib.itoa (XG (UV (s.drop 1) 93).1).1==(UV (s.drop 1) 93).1))
theorem JH1(s:Str)(c:UInt8):(UV s c).1.length≤s.length∧(UV s c).2.1.length≤s.length:=by
 unfold UV;split
 ·simp only[List.length_take,List.length_drop];omega
 ·simp
theorem JH2(s:Str)(h0:0<s.length):(Uo s).2.1.length<s.length∧(Uo s).1.name.length≤s.length:=by
 have he:=JGf s h0;unfold Uo;split
 ·simp only[List.length_drop,Vm];omega
 split
 ·simp only[List.length_drop,List.length_take];omega
 split
 ·simp only[List.length_drop,List.length_take];omega
 ·have:=JH1 (s.drop 1) 93;rw[List.length_drop]at this;simp only[Vm];omega
theorem JP5(s:Str)(hs:s.length≤68719476736)(h0:0<s.length):PT 127 [.str s] (.tup [.d (Ja (Uo s).1),.d (.str (Uo s).2.1),.d (.bool (Uo s).2.2)]):=by
 refine ok127.pc ?_;have he:=JGf s h0;have t1:Int.toNat 1=1:=rfl;have t3:Int.toNat 3=3:=rfl;simp only[go_sem,JSO,simprocAttr];refine wc (Con.rl (JP4 s hs h0) 1) ?_;refine wc ((JP0 s [91,42,93] dC).call trivial) ?_;apply ik<;>intro hp
 ·have hv:Uo s=(⟨3,0,[]⟩,s.drop 3,true):=by unfold Uo;rw[if_pos hp]
  have hl:3≤s.length:=by
   unfold JL0 at hp;simp only[Vi,decide_eq_true_eq]at hp;have:=hp.1;simp only[Vf,Vm]at this;omega
  rw[hv];have q:=JB2 s 3;refine⟨oM,dC,?_⟩;rw[show((s.length:Int)-3).toNat=((s.length:Int)-(3:Nat)).toNat from rfl,t3,q];rfl
 ·have q2:=JL3 s (JAH s) oM;have q3:=JB2 s 1;refine⟨oM,fun h46=>?_,fun h46=>⟨oM,fun h63=>?_,fun h63=>⟨oM,?_⟩⟩⟩
  ·have hc:s.getD 0 0=46:=by
    simp only[t0',beq_iff_eq]at h46;have:(s.getD 0 0).toNat=(46:UInt8).toNat:=by exact_mod_cast h46
    exact UInt8.toNat_inj.1 this
   have hv:Uo s=(⟨1,0,(s.drop 1).take ((JAH s)-1).toNat⟩,s.drop (JAH s).toNat,true):=by unfold Uo;rw[if_neg (by simp[hp]),if_pos hc]
   refine⟨oM,oM,dC,?_⟩;rw[q2,hv,t1];rfl
  ·have hn46:¬s.getD 0 0=46:=by
    intro e;simp only[t0',e]at h46;cases h46
   have hc:s.getD 0 0=63:=by
    simp only[t0',beq_iff_eq]at h63;have:(s.getD 0 0).toNat=(63:UInt8).toNat:=by exact_mod_cast h63
    exact UInt8.toNat_inj.1 this
   have hv:Uo s=(⟨4,0,(s.drop 1).take ((JAH s)-1).toNat⟩,s.drop (JAH s).toNat,true):=by unfold Uo;rw[if_neg (by simp[hp]),if_neg hn46,if_pos hc]
   refine⟨oM,oM,dC,?_⟩;rw[q2,hv,t1];rfl
  ·have hn46:¬s.getD 0 0=46:=by
    intro e;simp only[t0',e]at h46;cases h46
   have hn63:¬s.getD 0 0=63:=by
    intro e;simp only[t0',e]at h63;cases h63
   have hv:Uo s=(⟨2,(XG (UV (s.drop 1) 93).1).1,[]⟩,(UV (s.drop 1) 93).2.1,
     ((((s.getD 0 0).toNat:Int)==91)&&(UV (s.drop 1) 93).2.2)&&((Y0 (.d (XG (UV (s.drop 1) 93).1).2)).getD false)&&(Lib.itoa (XG (UV (s.drop 1) 93).1).1==(UV (s.drop 1) 93).1)):=by
    unfold Uo;rw[if_neg (by simp[hp]),if_neg hn46,if_neg hn63]
   rw[hv,t1,show((s.length:Int)-1).toNat=((s.length:Int)-(1:Nat)).toNat from rfl,q3];have hd:(s.drop 1).length≤68719476736:=by rw[List.length_drop];omega
   refine wn ((JP3 (s.drop 1) 93 hd).call (by simp[Jl])) ?_;have hcl:=JH1 (s.drop 1) 93;generalize hcut:UV (s.drop 1) 93=cu at*;obtain⟨num,rest,closed⟩:=cu;refine zz ?_;have hnl:num.length≤68719476736:=by simp only at hcl;omega
   have hab:=JNx num;have hae:=JL2 num;refine wn (call194 num hnl) ?_;generalize hat:XG num=av at*;obtain⟨iv,er⟩:=av;simp only at hab hae;simp only[go_sem,t0',simprocAttr];refine⟨oM,Jy closed (fun _=>?_) ?_⟩
   ·exact zz trivial
   refine zz ?_;rcases hae with rfl|rfl
   ·refine Jy true (fun _=>?_) ?_
    ·simp only[go_sem,Y0,simprocAttr]
    refine zz ?_;refine sq (Lib.itoa iv==num) ?_ ?_
    ·refine zz ?_;refine wc (call195 iv hab.1 hab.2) trivial
    simp only[go_sem,Y0,Vp,simprocAttr];rfl
   ·refine Jy false (fun _=>?_) ?_
    ·simp only[go_sem,Y0,simprocAttr]
    refine zz ?_;refine sq (Lib.itoa iv==num) ?_ ?_
    ·refine zz ?_;refine wc (call195 iv hab.1 hab.2) trivial
    simp only[go_sem,Y0,Vp,simprocAttr];rfl
noncomputable def Ym:Nat→Str→Option (List Part)
 |0,_=>some []
 |f+1,r=>if r==[]then some []else if !(Uo r).2.2|| !(UI (Uo r).1)then none else match Ym f (Uo r).2.1 with
  |some ps=>some ((Uo r).1::ps)
  |none=>none
noncomputable def JO(s:Str):List Part×Int:=
 if s==[]then([],4)else if(s.length:Int)>200 then([],5)else match Ym (s.length+2) (46::s)with
  |some ps=>if(ps.length:Int)>16 then([],9)else(ps,0)
  |none=>([],13)
theorem JB3(l:List Part):JQ (l.map Ja)=l.map Ja:=by
 rw[Jv,List.map_map];exact List.map_congr_left fun p _=>by simp[Ja,Dat.canon,JQ]
attribute [go_sem] JB3
theorem JEU(s:Str)(hs:s.length≤68719476736):PT 70 [.str s] (.tup [.d (.list 3 ((JO s).1.map Ja)),.d (.int .i64 (JO s).2)]):=by
 refine ok70.pc ?_;simp only[go_sem,ir70,simprocAttr];refine⟨fun h0=>?_,fun h0=>⟨fun h200=>?_,fun h200=>?_⟩⟩
 ·have:JO s=([],4):=by unfold JO;rw[if_pos h0]
  rw[this];rfl
 ·have:JO s=([],5):=by
   unfold JO;rw[if_neg (by simp[h0])];simp only[decide_eq_true_eq]at h200;rw[if_pos h200]
  rw[this];rfl
 have hR:JO s=match Ym (s.length+2) (46::s)with
  |some ps=>if(ps.length:Int)>16 then([],9)else(ps,0)
  |none=>([],13):=by
   unfold JO;rw[if_neg (by simp[h0])];simp only[decide_eq_false_iff_not]at h200;rw[if_neg h200]
 generalize hr0:Ym (s.length+2) (46::s)=R at hR;simp only[decide_eq_false_iff_not]at h200;refine⟨by first|omega|(simp;omega),?_⟩;refine JJ (fun n st=>∃(ps:List Part) (rest:Str),rest.length<n∧ps.length+rest.length≤201∧rest.length≤68719476736∧R=(Ym n rest).map (ps++ ·)∧
  st=⟨[(4,.ms 36 ps.length),(5,.d (.str rest))],[(36,.row ps.length 3 (ps.map Ja))]⟩) ?_ ?_
 ·refine⟨s.length+2,_,Wk.JG9 4 36 3 rfl rfl dC,[],46::s,sP,sO,sO,?_,rfl⟩;rw[hr0];cases R<;>simp
 ·rintro n st ⟨ps,rest,hn,hb,hl,hinv,rfl⟩;by_cases he:rest=[]
  ·subst he;obtain⟨n,rfl⟩:∃m,n=m+1:=by cases n with|zero=>simp at hn|succ m=>exact⟨m,rfl⟩
   have e1:(([]:Str)==[])=true:=rfl;have hRp:R=some ps:=by rw[hinv];simp[Ym]
   subst hRp;simp only at hR;simp only[go_sem,e1,Vr,Vc,simprocAttr];apply ik<;>intro h16
   ·have h16:(ps.length:Int)>16:=sX h16;rw[if_pos h16]at hR;rw[hR];rfl
   ·have h16:¬(ps.length:Int)>16:=sX h16;rw[if_neg h16]at hR;rw[hR]
  ·have h0r:0<rest.length:=List.length_pos_iff.2 he;have e2:(rest==[])=false:=sX he;obtain⟨n,rfl⟩:∃m,n=m+1:=by cases n with|zero=>omega|succ m=>exact⟨m,rfl⟩
   have hlt:=JH2 rest h0r;simp only[Ym,e2]at hinv;simp only[go_sem,e2,Vs,simprocAttr];refine wn ((JP5 rest hl h0r).call (by simp[Jl])) ?_;generalize htk:Uo rest=tk at*;obtain⟨⟨pk,pi,pn⟩,nx,is⟩:=tk;simp only at hlt hinv;simp only[go_sem,Ja,simprocAttr];have hv:=JKk ⟨pk,pi,pn⟩ (by simp only;omega);refine sq (!UI ⟨pk,pi,pn⟩) ?_ ?_
   ·refine zz ?_;refine wc (hv.call trivial) trivial
   refine zz ?_;apply ik<;>intro hf
   ·rw[hf]at hinv;simp only[↓reduceIte,Option.map_none]at hinv;subst hinv;rw[hR];rfl
   ·rw[hf]at hinv;refine⟨sP,sO,n,_,oM,Wk.less ?_,ps++[⟨pk,pi,pn⟩],nx,oM,sO,oM,?_,rfl⟩
    ·simp only[go_sem,Ja,Vg,List.length_singleton,Vw,Va,Vb,simprocAttr]
    ·rw[hinv];cases Ym n nx<;>simp
theorem JEV{xs:List Part}{k:Nat}(h:k<xs.length):nth (xs.map Ja) k=.agg [.int .i64 xs[k].kind,.int .i64 xs[k].index,.str xs[k].name]:=by
 rw[Uc (sX h),List.getElem_map,Ja]
theorem JKm(k:IntKind)(a:Int):PT 324 [.int k a] (.d (.bool false)):=by
 refine ok324.pc ?_;simp only[go_sem,JSN,simprocAttr];simp
theorem JP6(a b:Str):PT 242 [.str a,.str b] (.d (.int .i64 (JDY a b))):=by
 refine ok242.pc ?_;simp only[go_sem,JSM,simprocAttr];refine wc (JNm a b) trivial
theorem JKn(a b:Str):PT 186 [.str a,.str b] (.d (.int .i64 (JDY a b))):=by
 refine ok186.pc ?_;simp only[go_sem,JSH,simprocAttr];refine wc ((JP6 a b).call trivial) trivial
def JFI(a b:Int):Int:=if a<b then-1 else if b<a then 1 else 0
theorem JGg(a b:Int):PT 291 [.int .i64 a,.int .i64 b] (.d (.int .i64 (JFI a b))):=by
 refine ok291.pc ?_;simp only[go_sem,JSI,simprocAttr];refine wc ((JKm .i64 a).call trivial) ?_;refine wc ((JKm .i64 b).call trivial) ?_;refine⟨fun h=>?_,fun h=>⟨fun h2=>?_,fun h2=>?_⟩⟩
 ·simp only[decide_eq_true_eq]at h;simp[JFI,h]
 ·simp only[decide_eq_true_eq,decide_eq_false_iff_not]at h h2;have:b<a:=h2;simp[JFI,h,this]
 ·simp only[decide_eq_false_iff_not]at h h2;have:¬b<a:=h2;simp[JFI,h,this]
def orI:List Int→Int
 |[]=>0
 |x::r=>if x=0 then orI r else x
theorem JEW:∀(xs:List Int) (k:Nat),(∀(j:Nat) (h:j<xs.length),j<k→xs[j]=0)→orI xs=orI (xs.drop k)
 |[],k,_=>by simp
 |x::r,0,_=>rfl
 |x::r,k+1,h=>by
  have h0:=h 0 sP oM;simp only[List.getElem_cons_zero]at h0;simp only[orI,h0,if_true,List.drop_succ_cons];exact JEW r k fun j hj hk=>by have:=h (j+1) (sX hj) oM;simpa using this
theorem JKo(xs:List Int)(hl:xs.length≤68719476736):PT 290 [.list 1 (xs.map (.int .i64))] (.d (.int .i64 (orI xs))):=by
 refine ok290.pc ?_;simp only[go_sem,JSJ,simprocAttr];refine JJ (fun n s=>∃k:Nat,k≤xs.length∧n=xs.length-k∧(∀(j:Nat) (h:j<xs.length),j<k→xs[j]=0)∧
  s=⟨[(3,.d (.int .i64 0)),(6,.d (.list 1 (xs.map (.int .i64)))),(7,.d (.int .i64 xs.length)),(8,.d (.int .i64 k))],[]⟩) ?_ ?_
 ·refine⟨_,_,Wk.refl _,0,Nat.zero_le _,rfl,sP,?_⟩;simp
 ·rintro n s ⟨k,hk,rfl,hinv,rfl⟩;by_cases hlt:k<xs.length
  ·have hx:nth (xs.map (Dat.int .i64)) k=.int .i64 xs[k]:=by rw[Uc (sX hlt)];simp
   have hd:=dT hlt;refine JNX ?_;refine⟨sO,sP,fun hne=>?_,fun heq=>?_⟩
   ·simp only[bne_iff_ne,ne_eq]at hne;rw[JEW xs k hinv,Vq hlt];simp[orI,hne]
   ·simp only[bne_eq_false_iff_eq]at heq;refine zz7 ?_;refine⟨xs.length-(k+1),_,oM,Wk.less ?_,k+1,oM,rfl,?_,rfl⟩
    ·exact zz trivial
    ·intro j h1 hj;by_cases e:j=k
     ·subst e;exact heq
     ·exact hinv j h1 oM
  ·have hd:=dF hlt;refine zz5 ?_;have:orI xs=0:=by rw[JEW xs k hinv,List.drop_eq_nil_of_le oM];rfl
   rw[this]
def cmpL{α:Type}(f:α→α→Int):List α→List α→Int
 |[],[]=>0
 |[],_::_=> -1
 |_::_,[]=>1
 |x::xs,y::ys=>if f x y=0 then cmpL f xs ys else f x y
theorem U5{α:Type}{f:α→α→Int}:∀(xs ys:List α) (k:Nat),k≤xs.length→k≤ys.length→(∀(j:Nat) (h1:j<xs.length) (h2:j<ys.length),j<k→f xs[j] ys[j]=0)→cmpL f xs ys=cmpL f (xs.drop k) (ys.drop k)
 |xs,ys,0,_,_,_=>by simp
 |x::xs,y::ys,k+1,h1,h2,h=>by
  have h0:=h 0 sP sP oM;simp only[List.getElem_cons_zero]at h0;simp only[cmpL,h0,if_true,List.drop_succ_cons];exact U5 xs ys k (sX h1) (sX h2) fun j hj hj2 hk=>by have:=h (j+1) (sX hj) (sX hj2) oM;simpa using this
 |[],_,k+1,h1,_,_=>by simp at h1
 |_::_,[],k+1,_,h2,_=>by simp at h2
theorem JP7(xs ys:List Val)(f:Val→Val→Int)(g:Nat)(hl:xs.length≤68719476736)(_hly:ys.length≤68719476736)
  (h:∀x∈xs,∀y∈ys,CT g [.d (JM x),.d (JM y)] [] (.d (.int .i64 (f x y))) []):
  PT 292 [.list 6 (xs.map JM),.list 6 (ys.map JM),.fn (.func g) [] []] (.d (.int .i64 (cmpL f xs ys))):=by
 refine ok292.pc ?_;simp only[go_sem,JSK,simprocAttr];refine JJ (fun n s=>∃k:Nat,k≤xs.length∧k≤ys.length∧n=xs.length-k∧(∀(j:Nat) (h1:j<xs.length) (h2:j<ys.length),j<k→f xs[j] ys[j]=0)∧
  s=⟨[(0,.d (.list 6 (xs.map JM))),(1,.d (.list 6 (ys.map JM))),(2,.d (.fn (.func g) [] [])),(11,.d (.list 6 (xs.map JM))),(12,.d (.int .i64 xs.length)),(13,.d (.int .i64 k))],[]⟩) ?_ ?_
 ·refine⟨_,_,Wk.refl _,0,Nat.zero_le _,Nat.zero_le _,rfl,sP,?_⟩;simp
 ·rintro n s ⟨k,hk,hky,rfl,hinv,rfl⟩;by_cases hlt:k<xs.length
  ·have hx:=Uf hlt;have hd:=dT hlt;refine JNX ?_;refine⟨sO,fun hge=>?_,fun hge=>?_⟩
   ·simp only[Vc,decide_eq_true_eq]at hge;have hyk:k=ys.length:=oM;rw[U5 xs ys k hk hky hinv,Vq hlt,List.drop_eq_nil_of_le (show ys.length≤k by omega)];simp[cmpL]
   ·simp only[Vc,decide_eq_false_iff_not]at hge;have hlty:k<ys.length:=oM;have hy:=Uf hlty;refine zz37 ?_;have hc:=h xs[k] (Vk _) ys[k] (Vk _);rw[JI,JI]at hc;refine⟨sO,wn hc ?_⟩;refine zz ?_;refine⟨fun hne=>?_,fun heq=>?_⟩
    ·simp only[bne_iff_ne,ne_eq]at hne;rw[U5 xs ys k hk hky hinv,Vq hlt,Vq hlty];simp[cmpL,hne]
    ·simp only[bne_eq_false_iff_eq]at heq;refine zz7 ?_;refine⟨xs.length-(k+1),_,oM,Wk.less ?_,k+1,oM,oM,rfl,?_,rfl⟩
     ·exact zz trivial
     ·intro j h1 h2 hj;by_cases e:j=k
      ·subst e;exact heq
      ·exact hinv j h1 h2 oM
  ·have hd:=dF hlt;refine zz5 ?_;have e1:xs.drop k=[]:=List.drop_eq_nil_of_le oM;apply ik<;>intro hs
   ·simp only[Vc,decide_eq_true_eq]at hs;rw[U5 xs ys k hk hky hinv,e1,Vq (show k<ys.length by omega)];rfl
   ·simp only[Vc,decide_eq_false_iff_not]at hs;rw[U5 xs ys k hk hky hinv,e1,List.drop_eq_nil_of_le (show ys.length≤k by omega)];rfl
theorem JP8(xs ys:List Fld)(f:Fld→Fld→Int)(g:Nat)(hl:xs.length≤68719476736)(_hly:ys.length≤68719476736)
  (h:∀x∈xs,∀y∈ys,CT g [.d (UP x),.d (UP y)] [] (.d (.int .i64 (f x y))) []):
  PT 293 [.list 7 (xs.map UP),.list 7 (ys.map UP),.fn (.func g) [] []] (.d (.int .i64 (cmpL f xs ys))):=by
 refine ok293.pc ?_;simp only[go_sem,JSL,simprocAttr];refine JJ (fun n s=>∃k:Nat,k≤xs.length∧k≤ys.length∧n=xs.length-k∧(∀(j:Nat) (h1:j<xs.length) (h2:j<ys.length),j<k→f xs[j] ys[j]=0)∧
  s=⟨[(0,.d (.list 7 (xs.map UP))),(1,.d (.list 7 (ys.map UP))),(2,.d (.fn (.func g) [] [])),(11,.d (.list 7 (xs.map UP))),(12,.d (.int .i64 xs.length)),(13,.d (.int .i64 k))],[]⟩) ?_ ?_
 ·refine⟨_,_,Wk.refl _,0,Nat.zero_le _,Nat.zero_le _,rfl,sP,?_⟩;simp
 ·rintro n s ⟨k,hk,hky,rfl,hinv,rfl⟩;by_cases hlt:k<xs.length
  ·have hx:=Xd hlt;have hd:=dT hlt;refine JNX ?_;refine⟨sO,fun hge=>?_,fun hge=>?_⟩
   ·simp only[Vc,decide_eq_true_eq]at hge;have hyk:k=ys.length:=oM;rw[U5 xs ys k hk hky hinv,Vq hlt,List.drop_eq_nil_of_le (show ys.length≤k by omega)];simp[cmpL]
   ·simp only[Vc,decide_eq_false_iff_not]at hge;have hlty:k<ys.length:=oM;have hy:=Xd hlty;refine zz37 ?_;have hc:=h xs[k] (Vk _) ys[k] (Vk _);rw[Xc,Xc]at hc;refine⟨sO,wn hc ?_⟩;refine zz ?_;refine⟨fun hne=>?_,fun heq=>?_⟩
    ·simp only[bne_iff_ne,ne_eq]at hne;rw[U5 xs ys k hk hky hinv,Vq hlt,Vq hlty];simp[cmpL,hne]
    ·simp only[bne_eq_false_iff_eq]at heq;refine zz7 ?_;refine⟨xs.length-(k+1),_,oM,Wk.less ?_,k+1,oM,oM,rfl,?_,rfl⟩
     ·exact zz trivial
     ·intro j h1 h2 hj;by_cases e:j=k
      ·subst e;exact heq
      ·exact hinv j h1 h2 oM
  ·have hd:=dF hlt;refine zz5 ?_;have e1:xs.drop k=[]:=List.drop_eq_nil_of_le oM;apply ik<;>intro hs
   ·simp only[Vc,decide_eq_true_eq]at hs;rw[U5 xs ys k hk hky hinv,e1,Vq (show k<ys.length by omega)];rfl
   ·simp only[Vc,decide_eq_false_iff_not]at hs;rw[U5 xs ys k hk hky hinv,e1,List.drop_eq_nil_of_le (show ys.length≤k by omega)];rfl
mutual
def okV:Val→Prop
 |.mk _ _ _ _ l f=>l.length≤68719476736∧f.length≤68719476736∧JDZ l∧JDa f
def JDZ:List Val→Prop
 |[]=>True
 |v::r=>okV v∧JDZ r
def okF:Fld→Prop
 |.mk _ v=>okV v
def JDa:List Fld→Prop
 |[]=>True
 |v::r=>okF v∧JDa r
end
theorem JH3:∀{l:List Val},JDZ l→∀x∈l,okV x
 |[],_,x,h=>by cases h
 |v::r,ho,x,h=>by
  simp only[JDZ]at ho;rcases VA.1 h with rfl|h
  ·exact ho.1
  ·exact JH3 ho.2 x h
theorem JH4:∀{l:List Fld},JDa l→∀x∈l,okF x
 |[],_,x,h=>by cases h
 |v::r,ho,x,h=>by
  simp only[JDa]at ho;rcases VA.1 h with rfl|h
  ·exact ho.1
  ·exact JH4 ho.2 x h
mutual
def Zt:Val→Val→Int
 |.mk k i s t l f,b=>orI [JFI k b.kind,JFI i b.int,JFI s b.scale,JDY t b.text,JEX l b.list,JEY f b.fields]
def JEX:List Val→List Val→Int
 |[],[]=>0
 |[],_::_=> -1
 |_::_,[]=>1
 |x::xs,y::ys=>if Zt x y=0 then JEX xs ys else Zt x y
def JFJ:Fld→Fld→Int
 |.mk n v,g=>orI [JDY n g.name,Zt v g.value]
def JEY:List Fld→List Fld→Int
 |[],[]=>0
 |[],_::_=> -1
 |_::_,[]=>1
 |x::xs,y::ys=>if JFJ x y=0 then JEY xs ys else JFJ x y
end
theorem JH5:∀(xs ys:List Val),JEX xs ys=cmpL Zt xs ys
 |[],[]=>by simp[JEX,cmpL]
 |[],_::_=>by simp[JEX,cmpL]
 |_::_,[]=>by simp[JEX,cmpL]
 |x::xs,y::ys=>by simp[JEX,cmpL,JH5 xs ys]
theorem JH6:∀(xs ys:List Fld),JEY xs ys=cmpL JFJ xs ys
 |[],[]=>by simp[JEY,cmpL]
 |[],_::_=>by simp[JEY,cmpL]
 |_::_,[]=>by simp[JEY,cmpL]
 |x::xs,y::ys=>by simp[JEY,cmpL,JH6 xs ys]
theorem JP9(n n':Str)(v v':Val)(h:PT 254 [JM v,JM v'] (.d (.int .i64 (Zt v v')))):
  PT 294 [UP (.mk n v),UP (.mk n' v')] (.d (.int .i64 (JFJ (.mk n v) (.mk n' v')))):=by
 refine ok294.pc ?_;rw[Xc,Xc];have hc:=h.call trivial;rw[JI,JI]at hc;simp only[go_sem,JSG,Fld.name,Fld.value,simprocAttr];refine JE rfl ((JKn n n').call trivial) trivial ?_;refine zz ?_;refine JE rfl hc trivial ?_;refine zz ?_;refine⟨sP,JE rfl ((JKo [JDY n n',Zt v v'] sP).call trivial) trivial ?_⟩;refine zz ?_;exact⟨rfl,by simp only[JFJ,Fld.name,Fld.value]⟩
theorem JQA(a b:Val)(ha:a.list.length≤68719476736)(ha2:a.fields.length≤68719476736)(hb:b.list.length≤68719476736)(hb2:b.fields.length≤68719476736)
  (h1:∀x∈a.list,∀y∈b.list,CT 254 [.d (JM x),.d (JM y)] [] (.d (.int .i64 (Zt x y))) [])
  (h2:∀x∈a.fields,∀y∈b.fields,CT 294 [.d (UP x),.d (UP y)] [] (.d (.int .i64 (JFJ x y))) []):
  PT 254 [JM a,JM b] (.d (.int .i64 (Zt a b))):=by
 refine ok254.pc ?_;rw[JI,JI];simp only[go_sem,JSF,simprocAttr];refine JE rfl ((JGg a.kind b.kind).call trivial) trivial ?_;refine zz ?_;refine JE rfl ((JGg a.int b.int).call trivial) trivial ?_;refine zz ?_;refine JE rfl ((JGg a.scale b.scale).call trivial) trivial ?_;refine zz ?_;refine JE rfl ((JKn a.text b.text).call trivial) trivial ?_;refine zz ?_;refine JE rfl ((JP7 a.list b.list Zt 254 ha hb h1).call trivial) trivial ?_;refine zz ?_;refine JE rfl ((JP8 a.fields b.fields JFJ 294 ha2 hb2 h2).call trivial) trivial ?_;refine zz ?_;refine⟨sP,JE rfl ((JKo [JFI a.kind b.kind,JFI a.int b.int,JFI a.scale b.scale,JDY a.text b.text,cmpL Zt a.list b.list,cmpL JFJ a.fields b.fields] sP).call trivial) trivial ?_⟩;refine zz ?_;refine⟨rfl,?_⟩;cases a;simp only[Zt,Val.kind,Val.int,Val.scale,Val.text,Val.list,Val.fields,JH5,JH6]
mutual
theorem JGh:∀(a:Val),okV a→∀b,okV b→PT 254 [JM a,JM b] (.d (.int .i64 (Zt a b)))
 |.mk k i s t l f,ha,b,hb=>by
  simp only[okV]at ha;obtain⟨a1,a2,a3,a4⟩:=ha;have hb':b.list.length≤68719476736∧b.fields.length≤68719476736∧JDZ b.list∧JDa b.fields:=by cases b;simpa only[okV,Val.list,Val.fields]using hb
  exact JQA _ b a1 a2 hb'.1 hb'.2.1 (fun x hx y hy=>(JNy l a3 x hx y (JH3 hb'.2.2.1 y hy)).call trivial) (fun x hx y hy=>(JNz f a4 x hx y (JH4 hb'.2.2.2 y hy)).call trivial)
theorem JNy:∀(l:List Val),JDZ l→∀x∈l,∀b,okV b→PT 254 [JM x,JM b] (.d (.int .i64 (Zt x b)))
 |[],_,x,h,_,_=>by cases h
 |v::r,ho,x,h,b,hb=>by
  simp only[JDZ]at ho;by_cases e:x=v
  ·rw[e];exact JGh v ho.1 b hb
  ·exact JNy r ho.2 x ((VA.1 h).resolve_left e) b hb
theorem JQB:∀(a:Fld),okF a→∀b,okF b→PT 294 [UP a,UP b] (.d (.int .i64 (JFJ a b)))
 |.mk n v,ha,.mk n' v',hb=>JP9 n n' v v' (JGh v (by simpa only[okF]using ha) v' (by simpa only[okF]using hb))
theorem JNz:∀(l:List Fld),JDa l→∀x∈l,∀b,okF b→PT 294 [UP x,UP b] (.d (.int .i64 (JFJ x b)))
 |[],_,x,h,_,_=>by cases h
 |v::r,ho,x,h,b,hb=>by
  simp only[JDa]at ho;by_cases e:x=v
  ·rw[e];exact JQB v ho.1 b hb
  ·exact JNz r ho.2 x ((VA.1 h).resolve_left e) b hb
end
def eqF{α:Type}(eq:α→α→Bool)(xs ys:List α):Bool:=xs.length==ys.length&&(xs.zip ys).all fun p=>eq p.1 p.2
theorem Yx{α:Type}{eq:α→α→Bool}{xs ys:List α}(hl:xs.length=ys.length):eqF eq xs ys=true↔∀(j:Nat) (h1:j<xs.length) (h2:j<ys.length),eq xs[j] ys[j]=true:=by
 simp only[eqF,hl,beq_self_eq_true,Vt,List.all_eq_true];constructor
 ·intro h j h1 h2;have:(xs.zip ys)[j]? =some (xs[j],ys[j]):=by rw[List.getElem?_zip_eq_some];simp[h1,h2]
  exact h _ (List.mem_of_getElem? this)
 ·intro h p hp;obtain⟨j,hj⟩:=List.getElem?_of_mem hp;rw[List.getElem?_zip_eq_some]at hj;obtain⟨h1,e1⟩:=VB.1 hj.1;obtain⟨h2,e2⟩:=VB.1 hj.2;rw[←e1,←e2];exact h j oM oM
theorem JQC(xs ys:List Val)(eq:Val→Val→Bool)(g:Nat)(hl:xs.length≤68719476736)
  (h:∀x∈xs,∀y∈ys,CT g [.d (JM x),.d (JM y)] [] (.d (.bool (eq x y))) []):
  PT 203 [.list 6 (xs.map JM),.list 6 (ys.map JM),.fn (.func g) [] []] (.d (.bool (eqF eq xs ys))):=by
 refine ok203.pc ?_;simp only[go_sem,JSA,simprocAttr];refine⟨fun hne=>?_,fun heq=>?_⟩
 ·simp only[Vc,bne_iff_ne,ne_eq,Int.ofNat_inj]at hne;simp[eqF,hne]
 simp only[Vc,bne_eq_false_iff_eq,Int.ofNat_inj]at heq;refine JJ (fun n s=>∃k:Nat,k≤xs.length∧n=xs.length-k∧(∀(j:Nat) (h1:j<xs.length) (h2:j<ys.length),j<k→eq xs[j] ys[j]=true)∧
  s=⟨[(1,.d (.list 6 (ys.map JM))),(2,.d (.fn (.func g) [] [])),(15,.d (.list 6 (xs.map JM))),(16,.d (.int .i64 xs.length)),(17,.d (.int .i64 k))],[]⟩) ?_ ?_
 ·refine⟨_,_,Wk.refl _,0,Nat.zero_le _,rfl,sP,?_⟩;simp
 ·rintro n s ⟨k,hk,rfl,hinv,rfl⟩;by_cases hlt:k<xs.length
  ·have hlty:k<ys.length:=oM;have hx:=Uf hlt;have hy:=Uf hlty;have hd:=dT hlt;refine JPj ?_;have hc:=h xs[k] (Vk _) ys[k] (Vk _);rw[JI,JI]at hc;refine⟨sO,sO,wn hc ?_⟩;refine zz ?_;refine⟨fun hne=>?_,fun heq'=>?_⟩
   ·have:eqF eq xs ys=false:=by
     cases h0:eqF eq xs ys with
     |false=>rfl
     |true=>rw[(Yx heq).1 h0 k hlt oM]at hne;cases hne
    rw[this]
   ·refine zz7 ?_;refine⟨xs.length-(k+1),_,oM,Wk.less ?_,k+1,oM,rfl,?_,rfl⟩
    ·exact zz trivial
    ·intro j h1 h2 hj;by_cases e:j=k
     ·subst e;simpa using heq'
     ·exact hinv j h1 h2 oM
  ·have hd:=dF hlt;refine zz5 ?_;rw[(Yx heq).2 fun j h1 h2=>hinv j h1 h2 oM]
theorem JQD(a b:Val)(ha:okV a)(hb:okV b):PT 204 [JM a,JM b] (.d (.bool (Zt a b==0))):=by
 refine JSE.pc ?_;have hc:=(JGh a ha b hb).call trivial;rw[JI,JI]at hc;rw[JI,JI];simp only[go_sem,JSD,simprocAttr];refine wc hc trivial
theorem step30(a:Val)(ha:a.list.length≤68719476736)(ha2:a.fields.length≤68719476736)(h1:∀x∈a.list,CT 30 [.d (JM x)] [] (.d (JM x)) [])(h2:∀x∈a.fields,CT 30 [.d (JM x.value)] [] (.d (JM x.value)) []):
  PT 30 [JM a] (.d (JM a)):=by
 refine ok30.pc ?_;rw[JI];simp only[go_sem,ir30,simprocAttr];refine JJ (fun n s=>∃k:Nat,k≤a.list.length∧n=a.list.length-k∧
  s=⟨[(1,.ref 1 0),(2,.ref 2 0),(3,.ref 3 0),(12,.d (.list 6 (a.list.map JM))),(13,.d (.int .i64 a.list.length)),(14,.d (.int .i64 k))],
   [(1,.box [.d (.int .i64 a.kind),.d (.int .i64 a.int),.d (.int .i64 a.scale),.d (.str a.text),.d (.list 6 (a.list.map JM)),.d (.list 7 (a.fields.map UP))]),
    (2,.box [.d (.int .i64 0),.d (.int .i64 0),.d (.int .i64 0),.d (.str []),.d (.nil 6),.d (.nil 7)]),
    (3,.box [.d (.int .i64 a.kind),.d (.int .i64 a.int),.d (.int .i64 a.scale),.d (.str a.text),.ms 23 k,.d (.nil 7)]),
    (23,.row k 6 ((a.list.take k).map JM))]⟩) ?_ ?_
 ·refine⟨_,_,Wk.JR6 3 4 23 6 _ rfl rfl rfl dC,0,Nat.zero_le _,rfl,?_⟩;simp[put]
 ·rintro n s ⟨k,hk,rfl,rfl⟩;by_cases hlt:k<a.list.length
  ·have hx:=Uf hlt;have hd:=dT hlt;refine JNX ?_;have hc:=h1 a.list[k] (Vk _);rw[JI]at hc;refine⟨sO,JE rfl hc trivial ?_⟩;refine zz ?_;refine⟨sP,sO,rfl,a.list.length-(k+1),_,oM,Wk.less ?_,k+1,oM,rfl,rfl⟩;rw[List.take_succ_eq_append_getElem hlt,Vw];simp only[go_sem,JS k oM,Va,Vb,JI a.list[k],Nat.reduceAdd,Nat.reduceEqDiff,Nat.reduceBEq,Nat.reduceLeDiff,reduceCtorEq,↓reduceIte]
  ·have hd:=dF hlt;obtain rfl:k=a.list.length:=oM;refine JLq ?_;refine JJ (fun n s=>∃k:Nat,k≤a.fields.length∧n=a.fields.length-k∧
    s=⟨[(2,.ref 2 0),(3,.ref 3 0),(27,.d (.list 7 (a.fields.map UP))),(28,.d (.int .i64 a.fields.length)),(29,.d (.int .i64 k))],
     [(2,.box [.d (.int .i64 0),.d (.int .i64 0),.d (.int .i64 0),.d (.str []),.d (.nil 6),.d (.nil 7)]),
      (3,.box [.d (.int .i64 a.kind),.d (.int .i64 a.int),.d (.int .i64 a.scale),.d (.str a.text),.ms 23 a.list.length,.ms 42 k]),
      (23,.row a.list.length 6 (a.list.map JM)),
      (42,.row k 7 ((a.fields.take k).map UP))]⟩) ?_ ?_
   ·refine⟨_,_,(Wk.JR6 3 5 42 7 _ rfl rfl rfl dC).trans (Wk.less ?_),0,Nat.zero_le _,rfl,rfl⟩;simp[put,go_sem]
   ·rintro n s ⟨k,hk,rfl,rfl⟩;by_cases hlt:k<a.fields.length
    ·have hx:=Xd hlt;have hd:=dT hlt;have hc:=h2 a.fields[k] (Vk _);rw[JI]at hc;refine JNX ?_;refine⟨sO,JE rfl hc trivial ?_⟩;refine zz ?_;refine⟨sP,sO,rfl,a.fields.length-(k+1),_,oM,Wk.less ?_,k+1,oM,rfl,rfl⟩;rw[List.take_succ_eq_append_getElem hlt,Vw];simp only[go_sem,JS k oM,Va,Vb,Xc a.fields[k],Nat.reduceAdd,Nat.reduceEqDiff,Nat.reduceBEq,Nat.reduceLeDiff,reduceCtorEq,↓reduceIte]
    ·have hd:=dF hlt;obtain rfl:k=a.fields.length:=oM;exact JLq trivial
mutual
theorem JJS:∀(a:Val),okV a→PT 30 [JM a] (.d (JM a))
 |.mk k i s t l f,ha=>by
  simp only[okV]at ha;obtain⟨a1,a2,a3,a4⟩:=ha;exact step30 _ a1 a2 (fun x hx=>(JKp l a3 x hx).call trivial) (fun x hx=>(JKq f a4 x hx).call trivial)
theorem JKp:∀(l:List Val),JDZ l→∀x∈l,PT 30 [JM x] (.d (JM x))
 |[],_,x,h=>by cases h
 |v::r,ho,x,h=>by
  simp only[JDZ]at ho;by_cases e:x=v
  ·rw[e];exact JJS v ho.1
  ·exact JKp r ho.2 x ((VA.1 h).resolve_left e)
theorem JKq:∀(l:List Fld),JDa l→∀x∈l,PT 30 [JM x.value] (.d (JM x.value))
 |[],_,x,h=>by cases h
 |.mk n v::r,ho,x,h=>by
  simp only[JDa,okF]at ho;by_cases e:x=.mk n v
  ·rw[e];exact JJS v ho.1
  ·exact JKq r ho.2 x ((VA.1 h).resolve_left e)
end
end Go.Proofs
namespace Go.Proofs
open Go Av
open Av.Y
def JSd:Ic:=q (R (oz 2 0<|N) [2])<|q (q (R (om 6 0<|oh 7 6<|oi 8 .lss 7 1<|om 9 8<|.sc 9 false (om 10 0<|oh 11 10<|oi 12 .gtr 11 16<|N) (t 12) 13 (om 14 13<|.sc 14 false (om 15 0<|oo 16 (.ixa true 3 (t 15) (i 0))<|of 17 16 0<|ol 18 17<|oi 19 .neq 18 1<|N) (t 19) 20 N)) [6,7,8,9,13,14])<|D (I 20 (q (R (oz 2 3<|N) [0,20])<|.ret) S) [20])<|q (.reg (oz 3 (-1)<|N))<|q (q (R (om 21 0<|oh 22 21<|oz 23 0<|N) [0])<|D (.block 0<|.loop (q (.reg (ot 24 .lss 23 22<|N))<|q (D (I 24 S (E 0)) [24])<|q (D (.block 1<|q (R (oa true 25 3 21 23<|oL 26 3 25<|oN 5 [.int .i64 0,.int .i64 0,.str []]<|oS 3 5 26<|N) [25,26])<|q (q (R (oL 27 3 5<|cl 28 128 [t 27]<|og 29 28<|N) [27,28])<|D (I 29 (q (R (oz 2 3<|N) [3,21,22,23,5,29])<|.ret) S) [29])<|R (om 30 3<|oL 31 3 5<|cl 32 225 [t 31]<|oj 33 32<|ot 34 .add 30 33<|om 3 34<|N) [5,30,31,32,33,34]) [])<|R (oi 35 .add 23 1<|om 23 35<|N) [35])) [21,22,23,24,5])<|q (q (R (om 36 3<|oi 37 .gtr 36 200<|N) [3,36])<|D (I 37 (q (R (oz 2 3<|N) [37])<|.ret) S) [37])<|q (.reg (oz 2 0<|N))<|.ret
theorem ok196:FT 196 38 JSd [.tmp 2]:=.o Tryz.func196
def JSe:Ic:=q (R (ox 1 0<|ok 2 (.k (.str []))<|N) [0,2])<|q (q (R (of 3 1 0<|ol 4 3<|N) [3])<|D (.block 0<|q (R (oi 6 .eql 4 1<|om 5 6<|N) [6])<|D (I 5 (q (R (of 7 1 2<|ol 8 7<|ob 9 .cat (.k (.str [46])) (t 8)<|om 2 9<|N) [1,4,5,7,8,9])<|.ret) (q (R (oi 11 .eql 4 2<|om 10 11<|N) [5,11])<|D (I 10 (q (R (of 12 1 1<|ol 13 12<|cl 14 195 [t 13]<|ob 15 .cat (.k (.str [91])) (t 14)<|ob 16 .cat (t 15) (.k (.str [93]))<|om 2 16<|N) [1,4,10,12,13,14,15,16])<|.ret) (q (R (oi 18 .eql 4 3<|om 17 18<|N) [4,10,18])<|D (I 17 (q (R (ok 2 (.k (.str [91,42,93]))<|N) [1,17])<|.ret) S) [17])) [])) []) [7,8,9])<|q (R (of 19 1 2<|ol 20 19<|ob 21 .cat (.k (.str [63])) (t 20)<|om 2 21<|N) [1,19,20,21])<|.ret
theorem ok225:FT 225 22 JSe [.tmp 2]:=.o Tryz.func225
def ir29:Ic:=q (R (ox 2 0<|ox 3 1<|oz 4 0<|N) [0,1,4])<|q (R (of 5 2 5<|ol 6 5<|oo 7 (.fnv (.func 44) [] [t 3])<|cl 8 43 [t 6,t 7]<|om 4 8<|N) [2,3,5,6,7,8])<|.ret
theorem ok29:FT 29 9 ir29 [.tmp 4]:=.o Tryz.func29
def ir44:Ic:=q (R (ox 2 0<|ow 3 false<|N) [0,3])<|q (R (of 4 2 0<|ol 5 4<|ol 6 1<|ot 7 .seq 5 6<|om 3 7<|N) [2,4,5,6,7])<|.ret
theorem ok44:FT 44 8 ir44 [.tmp 3]:=.o Tryz.func44
def ir43:Ic:=q (R (oz 4 0<|N) [4])<|q (q (R (om 6 0<|oh 7 6<|oz 8 0<|N) [6])<|D (.block 0<|.loop (q (.reg (ot 9 .lss 8 7<|N))<|q (D (I 9 S (E 0)) [9])<|q (D (.block 1<|q (R (om 10 8<|om 5 10<|N) [10])<|q (R (om 11 1<|om 12 0<|om 13 5<|oa true 14 7 12 13<|oL 15 7 14<|.call (some 16) (.dyn (t 11)) [t 15] N) [11,12,13,14,15])<|D (I 16 (q (R (om 17 5<|om 4 17<|N) [0,1,7,8,5,16,17])<|.ret) S) [5,16]) [])<|R (oi 18 .add 8 1<|om 8 18<|N) [18])) [0,1,7,8,9,10,5,11])<|q (.reg (oz 4 (-1)<|N))<|.ret
theorem ok43:FT 43 19 ir43 [.tmp 4]:=.o Tryz.func43
def ir16:Ic:=q (R (ox 2 0<|oN 4 y6<|ow 5 false<|N) [0,5])<|q (R (oL 7 6 2<|om 8 1<|cl 9 29 [t 7,t 8]<|om 6 9<|N) [1,7,8,9])<|q (q (R (of 10 2 0<|ol 11 10<|oi 12 .neq 11 9<|om 13 12<|.sc 13 false (om 14 6<|oi 15 .lss 14 0<|N) (t 15) 16 N) [10,11,12,13])<|D (I 16 (q (R (oo 17 (.bld y6 [])<|oS 6 4 17<|ow 5 false<|N) [2,6,16,17])<|.ret) S) [16])<|q (R (of 18 2 5<|ol 19 18<|om 20 6<|oa true 21 7 19 20<|of 22 21 1<|oL 23 6 22<|cl 24 30 [t 23]<|oS 6 4 24<|ow 5 true<|N) [2,6,18,19,20,21,22,23,24])<|.ret
theorem ok16:FT 16 25 ir16 [.cell 4 (some 6),.tmp 5]:=.o Tryz.func16
def ir72:Ic:=q (R (ox 2 0<|ox 3 1<|oN 4 yG<|ow 5 false<|N) [0,1,5])<|q (R (oL 6 7 2<|oo 7 (.fnv (.func 131) [] [t 3])<|cl 8 130 [t 6,t 7]<|oe 9 8 0<|oe 10 8 1<|oS 11 4 9<|om 5 10<|N) [2,3,6,7,8,9,10])<|.ret
theorem ok72:FT 72 11 ir72 [.cell 4 (some 11),.tmp 5]:=.o Tryz.func72
def JSf:Ic:=q (R (ox 2 0<|oN 4 yG<|ow 5 false<|N) [0,5])<|q (q (R (of 7 2 0<|ol 8 7<|oi 9 .neq 8 9<|om 10 9<|.sc 10 true (of 11 2 0<|ol 12 11<|oi 13 .neq 12 10<|N) (t 13) 14 N) [7,8,9,10])<|D (I 14 (q (R (oo 15 (.bld yG [])<|oS 11 4 15<|ow 5 false<|N) [1,2,14,15])<|.ret) S) [14])<|q (R (of 16 2 6<|ol 17 16<|om 18 1<|cl 19 198 [t 17,t 18]<|om 6 19<|N) [1,16,17,18,19])<|q (q (R (om 20 6<|oi 21 .lss 20 0<|N) [20])<|D (I 21 (q (R (oo 22 (.bld yG [])<|oS 11 4 22<|ow 5 false<|N) [2,6,21,22])<|.ret) S) [21])<|q (R (of 23 2 6<|ol 24 23<|om 25 6<|oa true 26 11 24 25<|oL 27 11 26<|cl 28 55 [t 27]<|oS 11 4 28<|ow 5 true<|N) [2,6,23,24,25,26,27,28])<|.ret
theorem JSg:FT 130 29 JSf [.cell 4 (some 11),.tmp 5]:=.o Tryz.func130
def JSh:Ic:=q (R (ox 2 0<|ow 3 false<|N) [0,3])<|q (R (of 4 2 1<|ol 5 4<|ol 6 1<|ot 7 .seq 5 6<|om 3 7<|N) [2,4,5,6,7])<|.ret
theorem ok131:FT 131 8 JSh [.tmp 3]:=.o Tryz.func131
end Go.Proofs
namespace Av
open Go
variable {P:Program}{f:Nat}
mutual
def fits:Dat→Prop
 |.str s=>s.length≤68719476736
 |.int k n=>k.min≤n∧n≤k.max
 |.list _ xs=>xs.length≤68719476736∧XA xs
 |.agg cs=>XA cs
 |.ptr cs=>XA cs
 |.iface _ d=>fits d
 |_=>True
def XA:List Dat→Prop
 |[]=>True
 |x::r=>fits x∧XA r
end
theorem J5:∀{l:List Dat},XA l↔∀x∈l,fits x
 |[]=>by simp[XA]
 |x::r=>by simp[XA,J5 (l:=r)]
theorem JJT{x:Dat}(h:∀c∈x.cells,fits c):fits x:=by
 cases x with
 |agg cs=>simp only[fits];exact J5.2 h
 |_=>exact h _ (by simp[Dat.cells])
theorem Rep.fits{A:Nat→Prop}{w:World}{x:Dat}{v:Value}(h:Rep A w x v):Av.fits x:=by
 induction h with
 |str s h=>exact h
 |int k n h=>exact h
 |emp sz a cap=>simp[Av.fits,XA]
 |list sz xs b o n cap vs hn hAb hl hc h1 hsz hh hvl hv ih=>
  refine⟨hc,J5.2 fun x hx=>JJT fun c hc'=>?_⟩;have hm:c∈flat xs:=List.mem_flatMap.2 ⟨x,hx,hc'⟩;obtain⟨i,hi,rfl⟩:=List.getElem_of_mem hm;exact ih i _ _ (Vl hi) (Vl oM)
 |agg cs arr hl h1 hv ih=>
  simp only[Av.fits];refine J5.2 fun c hc=>?_
  obtain⟨i,hi,rfl⟩:=List.getElem_of_mem hc;exact ih i _ _ (Vl hi) (Array.getElem?_eq_getElem oM)
 |ptr cs b o vs hAb h1 hh hvl hv ih=>
  simp only[Av.fits];refine J5.2 fun c hc=>?_
  obtain⟨i,hi,rfl⟩:=List.getElem_of_mem hc;exact ih i _ _ (Vl hi) (Vl oM)
 |iface t x v h ih=>exact ih
 |_=>trivial
variable [Glb][Rls]
theorem J3.Jg{ds:List Dat}{v:Av}(hh:Has P f)(h:(∀d∈ds,fits d)→J3 P f ds v):J3 P f ds v:=by
 refine⟨hh,fun β A w vs hc hvs=>(h fun d hd=>?_).2 β A w vs hc hvs⟩;obtain⟨i,hi,rfl⟩:=List.getElem_of_mem hd;have hl:ds.length=vs.size:=sX hvs.1;have:=hvs.2 i (.d ds[i]) vs[i] (by simp[hi]) sP;exact this.JZ.fits
theorem Con.Jg{args:List Av}{T:List (Nat×Obj)}{v:Av}{ups:List (Nat×Obj)}(hh:Has P f)(h:(∀d,.d d∈args→fits d)→Con P f args T v ups):Con P f args T v ups:=by
 refine⟨hh,fun β A w vs hc hvs=>(h fun d hd=>?_).2 β A w vs hc hvs⟩;obtain⟨i,hi,e⟩:=List.getElem_of_mem hd;have:=hvs.2 i (.d d) (vs[i]'(by have:=hvs.1;omega)) (by rw[←e];simp) sP;exact this.JZ.fits
theorem FnOk.has{N:Nat}{ic:Ic}{ris:List RI}(h:FnOk P f N ic ris):Has P f:=by
 obtain⟨fn,code,h1,h2,h3,_⟩:=h.ex;exact⟨fn,h1,by rw[h2];rfl,h3⟩
end Av
namespace Av
open Go Go.Sort Go.Proofs
variable [Glb][Rls]
variable {b:Nat}
theorem JFK{w:World}{C:Array Value}{T:TypeId}{fr:Nat×Nat}(d:Array (List UInt8))(hh:w.heap[b]? =some (.cells C T fr)):putRow encStr w b 0 d=w.setRow b (putCells encStr 0 d C):=by
 unfold putRow mapBlock World.setRow;congr 1;apply Array.ext_getElem?;intro k;simp only[Array.getElem?_modify];by_cases hk:b=k
 ·subst hk;rw[hh];rfl
 ·simp[hk]
theorem X9(l:List (List UInt8)):flat (l.map .str)=l.map .str:=by
 induction l with
 |nil=>rfl
 |cons x r ih=>simp only[flat,Va,List.flatMap_cons,Dat.cells,List.singleton_append,List.cons.injEq,true_and];exact ih
section
variable {β:JP}{A:Nat→Prop}{w:World}{H:Heap}
theorem Stp.JPB(hc:Core β A w H){i ver ver' cap m n:Nat}{ss ys:List (List UInt8)}{C:Array Value}{T:TypeId}(os:Array Go.Obj)(hi:H i=some (.row ver 1 (ss.map .str)))(hb:β i=some b)
  (hh:w.heap[b]? =some (.cells C T (0,0)))(hcap:C.size=cap*1)(hys:ys.length≤cap)(hm:m≤ys.length)(hver:ver≤ver')(hlen:ver'=ver→m=ss.length)(hl:∀y∈ys.take m,y.length≤68719476736)(hbnd:m≤68719476736):
  Stp β A w H β A (grow (putRow encStr (ahead w n) b 0 ys.toArray) os) (upd H i (some (.row ver' 1 ((ys.take m).map .str))))∧
   (grow (putRow encStr (ahead w n) b 0 ys.toArray) os).heap[b]? =some (.cells (putCells encStr 0 ys.toArray C) T (0,0)):=by
 have h1:Stp β A w H β A (ahead w n) H:=Stp.draw hc rfl rfl rfl rfl;have hh':(ahead w n).heap[b]? =some (.cells C T (0,0)):=hh;rw[JFK _ hh'];have hsz:(putCells encStr 0 ys.toArray C).size=C.size:=by simp[putCells]
 have hget:∀k,(putCells encStr 0 ys.toArray C)[k]? =(C[k]?).map fun x=>if k<ys.length then encStr ys.toArray[k]! else x:=by
  intro k;simp only[putCells,Array.getElem?_mapIdx,Nat.zero_le,true_and,Nat.zero_add,List.size_toArray,Nat.sub_zero]
 have hcell:∀(j:Nat) y v,(ys.take m)[j]? =some y→(putCells encStr 0 ys.toArray C)[j]? =some v→v=.string ⟨y.toArray⟩:=by
  intro j y v hy hv;rw[hget]at hv;obtain⟨hj,rfl⟩:=VB.1 hy;have hj':j<m∧j<ys.length:=by simp only[List.length_take]at hj;omega
  cases hC:C[j]? with
  |none=>rw[hC]at hv;cases hv
  |some x=>
   rw[hC]at hv;simp only[Vj,if_pos hj'.2,Vd]at hv;rw[←hv];simp[hj'.2]
 have h2:=Stp.JJ7 h1.core (ver':=ver') (xs':=(ys.take m).map .str) (C':=putCells encStr 0 ys.toArray C) hi hb hh' hcap hsz hver (fun e=>by have:=hlen e;simp;omega)
  (fun x hx=>by obtain⟨y,_,rfl⟩:=VC.1 hx;rfl) sO sO
  (fun j v hj hv=>by
   rw[X9]at hj;obtain⟨y,hy⟩:∃y,(ys.take m)[j]? =some y:=⟨_,Vl (sX hj)⟩;rw[hcell j y v hy hv]
   rfl)
  (fun j c v hc' hv=>by
   rw[X9,Vo]at hc';cases hy:(ys.take m)[j]? with
   |none=>rw[hy]at hc';cases hc'
   |some y=>
    rw[hy]at hc';cases hc';rw[hcell j y v hy hv];exact .str _ (hl y (List.mem_of_getElem? hy)))
 have hsame:∀k,k<((ahead w n).setRow b (putCells encStr 0 ys.toArray C)).heap.size→(grow ((ahead w n).setRow b (putCells encStr 0 ys.toArray C)) os).heap[k]? =((ahead w n).setRow b (putCells encStr 0 ys.toArray C)).heap[k]? :=by
  intro k hk;show(_++os)[k]? =_;rw[Array.getElem?_append_left hk]
 have h3:Stp β A ((ahead w n).setRow b (putCells encStr 0 ys.toArray C)) (upd H i (some (.row ver' 1 ((ys.take m).map .str)))) β A (grow ((ahead w n).setRow b (putCells encStr 0 ys.toArray C)) os) (upd H i (some (.row ver' 1 ((ys.take m).map .str)))):=
  Stp.new h2.core rfl rfl rfl (by simp[grow]) hsame (fun _ h=>h) (fun _ h=>.inl h) (fun k h=>by have:=h2.core.old k h;simp[grow]at this⊢;omega)
 refine⟨(h1.trans h2).trans h3,?_⟩;have hset:=setRow_heap (ahead w n) b C (putCells encStr 0 ys.toArray C) T (0,0) hh';rw[hsame b (Array.getElem?_eq_some_iff.1 hset).1,hset]
theorem JB4{vs:Array Value}(h:1=vs.size):∃x,vs=#[x]:=by
 refine⟨vs[0],?_⟩;apply Array.ext
 ·simp[←h]
 ·intro i h1 h2;have:i=0:=oM;subst this;rfl
theorem JKr(hc:Core β A w H){i v:Nat}{ss:List (List UInt8)}(hi:H i=some (.row v 1 (ss.map .str))){u:Value}(hu:VRep β A w H (.ms i v) u):
  (β i=(none:Option Nat)∧ss=[]∧∃a,u=.slice a 0 0)∨∃b,∃C T cap,β i=(some b:Option Nat)∧w.heap[b]? =some (.cells C T (0,0))∧C.size=cap*1∧ss.length≤cap∧u=.slice (some ⟨b,0,none⟩) ss.length cap∧
   Go.Sort.Holds encStr w b 0 ss.toArray∧∀s∈ss,s.length≤68719476736:=by
 obtain⟨_,hcell,hbnd,hrow⟩:=hc.objs i _ hi;cases hu with
 |ms _ _ _ hoc h0 h1 h2=>
  obtain⟨_,hrv⟩:=h1 _ _ _ hi;have hrv:=hrv rfl;rcases hrv with⟨hbn,hn,a,rfl⟩|⟨b,C,T,fz,cap,hb,hh,hC,hle,rfl⟩
  ·exact .inl ⟨hbn,by simpa using hn,a,rfl⟩
  ·rcases hrow with⟨hbn,_⟩|⟨b',C',T',cap',hb',hh',hC',hle',h1c,h2c⟩
   ·rw[hb]at hbn;cases hbn
   ·rw[hb]at hb';cases hb';rw[hh]at hh';cases hh';have hval:∀j (hj:j<ss.length),C[j]? =some (encStr ss[j])∧ss[j].length≤68719476736:=by
     intro j hj;have hlt:j<C.size:=by rw[hC];simp at hle;omega
     have:=h2c j (.str ss[j]) C[j] (by rw[X9];simp[hj]) (by simp[hlt]);generalize hz:C[j]=z at this;cases this with
     |str _ hs=>exact⟨by rw[Array.getElem?_eq_getElem hlt,hz],hs⟩
    refine .inr ⟨b,C,T,cap,hb,hh,hC,by simpa using hle,sP,?_,?_⟩
    ·intro j hj;have hj:j<ss.length:=sX hj;refine⟨?_,?_⟩
     ·simp only[World.cell?,hh,Nat.zero_add];rw[(hval j hj).1];simp[hj]
     ·simp[World.frozen?,hh]
    ·intro s hs;obtain⟨j,hj,rfl⟩:=List.getElem_of_mem hs;exact(hval j hj).2
end
def JEZ(ss:List (List UInt8)):List (List UInt8):=ss.mergeSort fun x y=>decide (x≤y)
theorem JEa(ss:List (List UInt8)):(JEZ ss).Perm ss:=List.mergeSort_perm _ _
theorem JR.sort{P:Program}{f:Nat}(hh:Has P f)
  (hS:∀(b cap:Nat) (ss:List (List UInt8)) (w:World),Go.Sort.Holds encStr w b 0 ss.toArray→b<w.heap.size→ss.length<4611686018427387904→Calls P f #[.slice (some ⟨b,0,none⟩) ss.length cap] w fun e w'=>e=.returned (.tuple #[])∧
   ∃n os,w'=grow (putRow encStr (ahead w n) b 0 (ss.mergeSort fun x y=>decide (x≤y)).toArray) os)
  (hN:∀(a:Option Addr) (cap:Nat) (w:World),Calls P f #[.slice a 0 cap] w fun e w'=>e=.returned (.tuple #[])∧w'=w)(i v:Nat)(ss:List (List UInt8)):
  JR P f [.ms i v] [(i,some (.row v 1 (ss.map .str)))] (.tup []) [(i,.row v 1 ((JEZ ss).map .str))]:=by
 intro β A w H vs hT hc hvs;have hi:H i=some (.row v 1 (ss.map .str)):=hT _ (List.mem_singleton.2 rfl);have hbnd:=(hc.objs i _ hi).2.2.1;obtain⟨u,rfl⟩:=JB4 hvs.1;have hu:=hvs.2 0 (.ms i v) u rfl rfl;refine .inl ⟨hh,?_⟩;rcases JKr hc hi hu with⟨hbn,rfl,a,rfl⟩|⟨b,C,T,cap,hb,hheap,hC,hle,rfl,hH,hlen⟩
 ·refine(hN a 0 w).mono ?_;rintro e w' ⟨rfl,rfl⟩;refine⟨_,rfl,β,A,?_,.tup [] #[] rfl sP⟩;have:JB H [(i,.row v 1 ((JEZ []).map .str))]=H:=by
   simp only[JB,JEZ,List.mergeSort_nil,Vb];exact Xx _ _ _ (sX hi)
  rw[this];exact Stp.refl hc
 ·refine(hS b cap ss w hH (Array.getElem?_eq_some_iff.1 hheap).1 (by simp at hbnd;omega)).mono ?_;rintro e w' ⟨rfl,n,os,rfl⟩;refine⟨_,rfl,β,A,?_,.tup [] #[] rfl sP⟩;have hl:(JEZ ss).length=ss.length:=(JEa ss).length_eq;have:=(Stp.JPB hc (ver':=v) (m:=ss.length) (n:=n) (ys:=JEZ ss) os hi hb hheap hC oM oM (Nat.le_refl _) (fun _=>rfl) (fun y hy=>hlen y ((JEa ss).mem_iff.1 (List.mem_of_mem_take hy))) (sX hbnd)).1;rw[List.take_of_length_le oM]at this;exact this
theorem JR.compact{P:Program}{f:Nat}(hh:Has P f)
  (hS:∀(b cap:Nat) (ss:List (List UInt8)) (w:World),Go.Sort.Holds encStr w b 0 ss.toArray→ss.length≤9223372036854775807→ss.length≤cap→Calls P f #[.slice (some ⟨b,0,none⟩) ss.length cap] w fun e w'=>e=.returned (.slice (some ⟨b,0,none⟩) (Lib.compact ss).length cap)∧
   ∃q,w'=putRow encStr (ahead w q) b 0 (Lib.compact ss++List.replicate (ss.length-(Lib.compact ss).length) []).toArray)
  (hN:∀(a:Option Addr) (cap:Nat) (w:World),Calls P f #[.slice a 0 cap] w fun e w'=>e=.returned (.slice a 0 cap)∧w'=w)(hsub:∀ss:List (List UInt8),(Lib.compact ss).Sublist ss)(i v:Nat)(ss:List (List UInt8)):
  JR P f [.ms i v] [(i,some (.row v 1 (ss.map .str)))] (.ms i (v+1)) [(i,.row (v+1) 1 ((Lib.compact ss).map .str))]:=by
 intro β A w H vs hT hc hvs;have hi:H i=some (.row v 1 (ss.map .str)):=hT _ (List.mem_singleton.2 rfl);have hbnd:=(hc.objs i _ hi).2.2.1;obtain⟨u,rfl⟩:=JB4 hvs.1;have hu:=hvs.2 0 (.ms i v) u rfl rfl;refine .inl ⟨hh,?_⟩;rcases JKr hc hi hu with⟨hbn,rfl,a,rfl⟩|⟨b,C,T,cap,hb,hheap,hC,hle,rfl,hH,hlen⟩
 ·refine(hN a 0 w).mono ?_;rintro e w' ⟨rfl,hw⟩;have hw:=hw.symm;subst hw;have hc0:Lib.compact ([]:List (List UInt8))=[]:=List.eq_nil_of_length_eq_zero (Nat.le_zero.1 (hsub []).length_le);rw[hc0];have hst:Stp β A w H (upd β i (none:Option Nat)) A w (upd H i (some (.row (v+1) 1 []))):=
   Stp.one hc i (.row (v+1) 1 []) none rfl rfl rfl (Nat.le_refl _) (fun _ _ _=>rfl) (fun _ h=>h) (fun _ h=>.inl h) (fun b h=>hc.old b h) sP (fun c u hcase hvr=>JBi (.inr ⟨v,1,_,hi,oM⟩) c u hcase hvr)
    (fun _=>⟨dC,sP,sP,.inl ⟨JG _ _ _,rfl⟩⟩)
  refine⟨_,rfl,_,A,hst,?_⟩;refine .ms _ _ _ rfl (by simp[JB,upd]) ?_ (by simp[JB,upd]);intro v3 sz3 xs3 h3;simp only[JB,upd,Vb,if_true,Vd,Obj.row.injEq]at h3;obtain⟨rfl,rfl,rfl⟩:=h3;exact⟨Nat.le_refl _,fun _=>.inl ⟨JG _ _ _,rfl,a,rfl⟩⟩
 ·refine(hS b cap ss w hH (by simp at hbnd;omega) hle).mono ?_;rintro e w' ⟨rfl,q,rfl⟩;have hs:=hsub ss;have hl:=hs.length_le;obtain⟨h1,h2⟩:=Stp.JPB hc (ver':=v+1) (m:=(Lib.compact ss).length) (n:=q) (ys:=Lib.compact ss++List.replicate (ss.length-(Lib.compact ss).length) []) #[] hi hb hheap hC sO sP oM (fun h=>by omega)
   (fun y hy=>hlen y (hs.subset (sX hy))) (by simp at hbnd;omega)
  have e0:∀w:World,grow w #[]=w:=fun w=>by simp[grow]
  rw[e0]at h1 h2;simp only[List.take_left']at h1;refine⟨_,rfl,β,A,h1,?_⟩;refine .ms _ _ _ rfl (by simp[JB,upd]) ?_ (by simp[JB,upd]);intro v3 sz3 xs3 h3;simp only[JB,upd,if_true,Vd,Obj.row.injEq]at h3;obtain⟨rfl,rfl,rfl⟩:=h3;refine⟨Nat.le_refl _,fun _=>.inr ⟨b,_,T,(0,0),cap,hb,h2,by simp[putCells,hC],sO,sP⟩⟩
theorem Stp.JR6{β:JP}{A:Nat→Prop}{w:World}{H:Heap}(hc:Core β A w H){j k sz:Nat}{cs:List Av}(hb:H b=some (.box cs))(hj:cs[j]? =some (.d (.nil sz)))(hk:H k=none)(hsz:0<sz):
  ∃β',Stp β A w H β' A w (upd (upd H k (some (.row 0 sz []))) b (some (.box (cs.set j (.ms k 0))))):=by
 have hne:b≠k:=fun e=>by subst e;rw[hk]at hb;cases hb
 have hst:=Stp.JBX (β:=β) hc hk hsz;have hb1:upd H k (some (.row 0 sz [])) b=some (.box cs):=by rw[JV _ _ hne];exact hb
 obtain⟨bb,C,T,e1,e2,e3,e4,e5⟩:=hst.core.objs b _ hb1;have hset:w.setRow bb C=w:=Z4 e2;have hst2:=Stp.JJ6 (cs':=cs.set j (.ms k 0)) (C':=C) hst.core hb1 e1 e2 (sX e3) e4 (fun hall i c v hc' hv'=>by
  rw[List.getElem?_set]at hc';split at hc'
  ·rename_i e;subst e;split at hc'
   ·cases hc';obtain⟨bb0,C0,T0,q1,q2,q3,q4,q5⟩:=hc.objs b _ hb;have hbb:bb0=bb:=by
     rw[JV _ _ hne]at e1;rw[q1]at e1;exact Option.some.inj (BK.mk.inj e1).1
    subst hbb;rw[e2]at q2;cases q2;have hr:=(q5 j _ v hj hv').JZ;exact hall _ _ (VRep.JBX hr)
   ·cases hc'
  ·exact hall _ _ (e5 i c v hc' hv'))
 rw[hset]at hst2;exact⟨_,hst.trans hst2⟩
end Av
namespace Av
open Go
variable [Glb][Rls]
section
variable {β:JP}{A:Nat→Prop}{w:World}{H:Heap}{D:Nat→Prop}
end
end Av
namespace Av
open Go
variable [Glb][Rls]
theorem JH7(ρ:Nat→Nat)(ds:List Dat):J7 ρ (ds.map .d)=ds.map .d:=by
 induction ds with
 |nil=>rfl
 |cons x r ih=>simp[J7,Av.ren,ih]
theorem JN0{v:Av}(h:Jl v)(ρ:Nat→Nat):v.ren ρ=v:=by
 cases v with
 |d x=>rfl
 |tup cs=>
  have h':∀c∈cs,∃x,c=.d x:=h;have e:∃ds:List Dat,cs=ds.map .d:=by
   clear h
   induction cs with
   |nil=>exact⟨[],rfl⟩
   |cons c r ih=>
    obtain⟨x,rfl⟩:=h' c Vh;obtain⟨ds,rfl⟩:=ih fun c hc=>h' c (Vn _ hc)
    exact⟨x::ds,rfl⟩
  obtain⟨ds,rfl⟩:=e;simp only[Av.ren,JH7]
 |_=>exact h.elim
theorem JH8(G:Nat→Option Obj)(ds:List Dat):JN G (ds.map .d):=by
 induction ds with
 |nil=>trivial
 |cons x r ih=>exact⟨trivial,ih⟩
theorem JN1{v:Av}(h:Jl v)(G:Heap):inT G v:=by
 cases v with
 |d x=>trivial
 |tup cs=>
  have h':∀c∈cs,∃x,c=.d x:=h;show JN _ cs;clear h
  induction cs with
  |nil=>trivial
  |cons c r ih=>
   obtain⟨x,rfl⟩:=h' c Vh;exact⟨trivial,ih fun c hc=>h' c (Vn _ hc)⟩
 |_=>exact h.elim
theorem Con.rw1{P:Program}{f:Nat}{az cs cs':List Dat}{v:Av}(h:Con P f (.ref 1000 0::az.map .d) [(1000,.box (cs.map .d))] v [(1000,.box (cs'.map .d))])(hv:Jl v)(i:Nat):
  JR P f (.ref i 0::az.map .d) [(i,some (.box (cs.map .d)))] v [(i,.box (cs'.map .d))]:=by
 have hcl:∀a:List Dat,closed (get [(1000,.box (a.map .d))]):=fun a=>U4 ⟨JH8 _ a,trivial⟩
 have hu:JB (get [(1000,.box (cs.map .d))]) [(1000,.box (cs'.map .d))]=get [(1000,.box (cs'.map .d))]:=by
  rw[←Jr];rfl
 have hdom:∀(a:List Dat) j,(get [(1000,Obj.box (a.map .d))] j).isSome=true→j=1000:=by
  intro a j hj;simp only[get]at hj;split at hj
  ·rename_i e;exact e.symm
  ·cases hj
 have:=h.call (fun _=>i) ?_ ?_ ?_ (hcl cs) [] ?_ ?_ ?_
 ·have e:(az.map Av.d).map (Av.ren fun _=>i)=az.map Av.d:=by
   rw[List.map_map];exact List.map_congr_left fun x _=>by simp[Av.ren]
  simpa[Av.ren,Obj.ren,JH7,e,JN0 hv]using this
 ·intro j hj;rw[hdom _ j hj];decide
 ·intro a b ha hb _;rw[hu]at ha hb;rw[hdom _ a ha,hdom _ b hb]
 ·intro c hc;rcases VA.1 hc with rfl|hc
  ·rfl
  ·obtain⟨x,_,rfl⟩:=VC.1 hc;trivial
 ·intro e he;simp only[List.mem_singleton]at he;subst he;exact .inl rfl
 ·rw[hu];exact hcl cs'
 ·exact JN1 hv _
end Av
namespace Av
open Go
variable [Glb][Rls]
theorem Wk.frzT{D:Nat→Prop}{st:St}(t i v sz:Nat)(xs:List Dat)(ht:get st.tm t=some (.ms i v))(hi:get st.hp i=some (.row v sz xs)):Wk D st ⟨put st.tm t (.d (.list sz xs)),put st.hp i (.frz v sz xs)⟩:=by
 refine Wk.JG8 ?_;intro β A w a hc htr;obtain⟨u,q1,q2⟩:=htr t _ ht;have hd:Jk (get st.hp) [.ms i v]=some (v=v∧True,[.list sz xs],[(i,.frz v sz xs)]):=by simp[Jk,U8,Uk,hi]
 obtain⟨A1,s1,l1,r1,m1⟩:=XP hc hd ⟨rfl,trivial⟩ (us:=[u]) rfl (fun k c u' h1 h2=>by
  cases k with
  |zero=>simp at h1 h2;subst h1;subst h2;exact q2
  |succ k=>simp at h1)
 have hh:get (put st.hp i (.frz v sz xs))=JB (get st.hp) [(i,.frz v sz xs)]:=funext fun j=>by rw[UD];rfl
 rw[hh];refine⟨β,A1,s1,?_⟩;intro t' v' hv;rw[UD]at hv;split at hv
 ·rename_i e;subst e;cases hv;exact⟨u,q1,.d _ _ (r1 0 _ u rfl rfl)⟩
 ·obtain⟨u',g1,g2⟩:=htr t' v' hv;exact⟨u',g1,s1.vals _ _ g2⟩
end Av
namespace Av
open Go
variable [Glb][Rls]
abbrev JBO(g:Nat)(cs:List Dat):Dat:=.fn (.func g) [] [.ptr cs]
theorem JH9(cs:List Dat):YE (cs.map .d)=some cs:=by
 induction cs with
 |nil=>rfl
 |cons x r ih=>simp only[Va,YE,ih]
theorem JR.clo{P:Program}{f g:Nat}{ds cs:List Dat}{r:Dat}(h:J3 P f (ds++[JBO g cs]) (.d r))(hr:scalar r=true)(i:Nat):
  JR P f (ds.map .d++[.clo (.func g) [] [.ref i 0]]) [(i,some (.box (cs.map .d)))] (.d r) []:=by
 intro β A w H vs hT hc hvs;have hi:H i=some (.box (cs.map .d)):=hT _ (List.mem_singleton.2 rfl);have st:=Stp.JAo hc hi (JH9 cs);have hc0:Core β (fun k=>A k∨β i=some k) w (get []):=⟨(by intro i o hi;cases hi),(by intro i j o o' b hi;cases hi),(by intro i o b hi;cases hi),st.core.old,st.core.glob⟩;refine .inl ⟨h.1,(h.2 β (fun k=>A k∨β i=some k) w vs hc0 ⟨by have:=hvs.1;simp at this⊢;omega,?_⟩).mono ?_⟩
 ·intro k c v h1 h2;rw[Vo]at h1;cases e:(ds++[JBO g cs])[k]? with
  |none=>simp[e]at h1
  |some x=>
   simp only[e,Vj,Vd]at h1;subst h1;refine .d _ _ ?_;by_cases hk:k<ds.length
   ·rw[Vz hk]at e;have:=hvs.2 k (.d x) v (by rw[Vz (sX hk),Vo,e];rfl) h2;exact(st.vals _ _ this).JZ
   ·rw[Vy oM]at e;have hk0:k-ds.length=0:=by
     rcases Nat.eq_zero_or_pos (k-ds.length)with h|h
     ·exact h
     ·rw[List.getElem?_eq_none sO]at e;cases e
    rw[hk0]at e;cases e;have hlen:(ds.map Av.d).length=ds.length:=sP;have:=hvs.2 k (.clo (.func g) [] [.ref i 0]) v (by rw[Vy sO,hlen,hk0];rfl) h2;have h3:=st.vals _ _ this;cases h3 with
    |clo _ _ _ a1 a2 l1 l2 hf hvv=>
     refine .fn _ _ _ a1 a2 l1 (sX l2) (by intro j c v hj;cases hj) ?_;intro j c v hj hjv
     match j,hj with
     |0,hj=>
      cases hj;have hrf:=hvv 0 _ v rfl hjv;cases hrf with
      |ref _ _ _ _ _ hu g0 g1 g2=>
       have:=g2 cs sU;simpa using this
     |j+1,hj=>cases hj
 ·rintro e w' ⟨v,β1,A1,rfl,hsince,hc1,hv⟩;obtain⟨s1,s2,s3,s4,s5,sl,s6,s7,s8⟩:=hsince;dsimp only at s1 s2 s3 s4 s5 sl;have hsame:∀b,b<w.heap.size→w'.heap[b]? =w.heap[b]? :=fun b hb=>s5 b hb (by intro i o hi;cases hi)
  have hst:Stp β A w H β A w' H:=Stp.new hc s1 s2 s3 s4 hsame (fun _ h=>h) (fun _ h=>.inl h) (fun b hb=>by have:=hc.old b hb;omega);exact⟨v,rfl,β,A,hst,.d _ _ (hv.JZ.scalar hr)⟩
end Av
namespace Go.Proofs
open Go Av
def ixF(q:Fld→Bool)(l:List Fld):Int:=match l.findIdx? q with
 |some k=>(k:Int)
 |none=> -1
theorem walk43{g:Nat}{cs:List Dat}{q:Fld→Bool}(hq:∀x,PT g [UP x,.ptr cs] (.d (.bool (q x))))(l:List Fld)(hl:l.length≤68719476736):
  PT 43 [.list 7 (l.map UP),JBO g cs] (.d (.int .i64 (ixF q l))):=by
 refine ok43.pc ?_;simp only[go_sem,ir43,Vc,simprocAttr];refine JJ (fun n s=>∃k:Nat,k≤l.length∧n=l.length-k∧(∀(j:Nat) (h1:j<l.length),j<k→q l[j]=false)∧
  s=⟨[(0,.d (.list 7 (l.map UP))),(1,.d (JBO g cs)),(7,.d (.int .i64 l.length)),(8,.d (.int .i64 k))],[]⟩) ?_ ?_
 ·exact⟨_,_,Wk.refl _,0,Nat.zero_le _,rfl,sP,rfl⟩
 ·rintro n s ⟨k,hk,rfl,hinv,rfl⟩;by_cases hlt:k<l.length
  ·have hx:=Xd hlt;have hd:=dT hlt;have hc:=(hq l[k]).call trivial;rw[Xc]at hc;refine zz6 ?_;refine⟨oM,wn hc ?_⟩;refine zz ?_;apply ik<;>intro hf
   ·have:l.findIdx? q=some k:=by
     rw[List.findIdx?_eq_some_iff_getElem];exact⟨hlt,hf,fun j hj=>by rw[hinv j oM hj];decide⟩
    simp only[ixF,this]
   ·refine⟨l.length-(k+1),_,oM,Wk.less ?_,k+1,oM,rfl,?_,rfl⟩
    ·exact zz7 trivial
    ·intro j h1 hj;by_cases e:j=k
     ·subst e;exact hf
     ·exact hinv j h1 oM
  ·have hd:=dF hlt;refine zz5 ?_;have:l.findIdx? q=none:=by
    rw[List.findIdx?_eq_none_iff];intro x hx;obtain⟨j,hj,rfl⟩:=List.getElem_of_mem hx;exact hinv j hj oM
   simp only[ixF,this]
theorem ixF_bd{q:Fld→Bool}{l:List Fld}: -1≤ixF q l∧ixF q l<l.length:=by
 unfold ixF;cases e:l.findIdx? q with
 |none=>simp only;omega
 |some k=>
  obtain⟨h,_⟩:=List.findIdx?_eq_some_iff_getElem.1 e;simp only;omega
theorem walk44(x:Fld)(n:Str):PT 44 [UP x,.ptr [.str n]] (.d (.bool (x.name==n))):=by
 refine ok44.pc ?_;rw[Xc];simp only[go_sem,ir44,Nat.reduceAdd,Nat.reduceEqDiff,Nat.reduceBEq,Nat.reduceLeDiff,reduceCtorEq,↓reduceIte];exact Nat.one_pos
def ixN(n:Str)(l:List Fld):Int:=ixF (fun f=>f.name==n) l
theorem walk29(v:Val)(n:Str)(hl:v.fields.length≤68719476736):PT 29 [JM v,.str n] (.d (.int .i64 (ixN n v.fields))):=by
 refine ok29.pc ?_;have hc:=JR.clo (ds:=[.list 7 (v.fields.map UP)]) (walk43 (fun x=>walk44 x n) v.fields hl) rfl 3;simp only[Va,Vb,List.cons_append,List.nil_append]at hc;rw[JI];simp only[go_sem,ir29,simprocAttr];refine wn hc ?_;simp only[go_sem,ixN,simprocAttr]
def ZK(p:Part):Str:=if p.kind==1 then[46]++p.name else if p.kind==2 then([91]++Lib.itoa p.index)++[93]else if p.kind==3 then[91,42,93]else[63]++p.name
theorem JKs(p:Part)(hp:p.name.length≤1000)(h0: -9223372036854775808≤p.index)(h1:p.index≤9223372036854775807):PT 225 [Ja p] (.d (.str (ZK p))):=by
 refine ok225.pc ?_;have c195:=call195 p.index h0 h1;have hil:=Lib.itoa_length_le p.index h0 h1;simp only[Ja,ZK];simp only[go_sem,JSe,simprocAttr];apply ik<;>intro h
 ·simp only[h,↓reduceIte,Vg,Vf,Vm];exact⟨oM,trivial⟩
 simp only[h,Vu,↓reduceIte]
 try refine zz ?_
 apply ik<;>intro h2
 ·simp only[h2,↓reduceIte];refine wn c195 ?_;simp only[go_sem,Vg,Vf,Vm,simprocAttr]
  try exact⟨oM,oM⟩
  try omega
 simp only[h2,Vu,↓reduceIte]
 try refine zz ?_
 apply ik<;>intro h3
 ·simp only[h3,↓reduceIte]
 simp only[h3,Vu,↓reduceIte,Vg,Vf,Vm];exact⟨oM,trivial⟩
theorem JCf{s:Str}(h:Xe s=true):s.length≤32:=by
 simp only[Xe,Vi,Bool.not_eq_true',Bool.or_eq_false_iff,decide_eq_false_iff_not]at h;omega
theorem JAi{p:Part}(h:UI p=true):p.name.length≤32∧0≤p.index∧p.index≤255:=by
 unfold UI at h;split at h
 ·simp only[Vi,beq_iff_eq]at h;exact⟨JCf h.2,oM,oM⟩
 split at h
 ·simp only[Vi,beq_iff_eq,decide_eq_true_eq]at h;refine⟨by rw[h.1.1];simp,oM,oM⟩
 split at h
 ·simp only[Vi,beq_iff_eq]at h;exact⟨by rw[h.1];simp,oM,oM⟩
 ·cases h
theorem JEb{p:Part}(h:UI p=true):(ZK p).length≤40:=by
 obtain⟨h1,h2,h3⟩:=JAi h;have:=Lib.itoa_length_le p.index oM oM;unfold ZK;split
 ·simp;omega
 split
 ·simp;omega
 split
 ·simp
 ·simp;omega
def szP(l:List Part):Int:=l.foldl (fun n p=>n+((ZK p).length:Int)) (-1)
def hdP(l:List Part):Bool:=(decide ((l.length:Int)<1)||decide ((l.length:Int)>16))||((l[0]?.map Part.kind).getD 0 !=1)
def JCg(l:List Part):Int:=if hdP l then 3 else if l.all UI&&decide (szP l≤200)then 0 else 3
theorem JIA{l:List Part}{k:Nat}(h:k<l.length):szP (l.take (k+1))=szP (l.take k)+((ZK l[k]).length:Int):=by
 rw[List.take_succ_eq_append_getElem h];unfold szP;rw[List.foldl_append];rfl
theorem JN2{l:List Part}:∀{k:Nat},k≤l.length→(∀(j:Nat) (h:j<l.length),j<k→UI l[j]=true)→ -1≤szP (l.take k)∧szP (l.take k)≤40*k
 |0,_,_=>by simp[szP]
 |k+1,hk,hv=>by
  obtain⟨h1,h2⟩:=JN2 (k:=k) oM (fun j h hj=>hv j h oM);have:=JEb (hv k oM oM);rw[JIA oM]
  push_cast
  omega
theorem JKt(l:List Part)(hl:l.length≤68719476736)(hn:∀p∈l,p.name.length≤68719476736):PT 196 [.list 3 (l.map Ja)] (.d (.int .i64 (JCg l))):=by
 refine ok196.pc ?_;generalize hT:JCg l=T;unfold JCg at hT;simp only[go_sem,JSd,Vc,simprocAttr];refine sq (decide ((l.length:Int)>16)) ?_ ?_
 ·exact zz4 trivial
 refine zz ?_;refine Jy ((l[0]?.map Part.kind).getD 0 !=1) (fun hq=>?_) ?_
 ·simp only[Bool.or_eq_false_iff,decide_eq_false_iff_not]at hq;have h0:0<l.length:=oM;have hx:=JEV (xs:=l) h0;have e0:Int.toNat 0=0:=rfl;have e1:(l[0]?.map Part.kind).getD 0=l[0].kind:=by rw[Vl h0];rfl
  simp only[go_sem,e0,e1,hx,Vc,simprocAttr]
  try exact⟨oM,sP⟩
  try omega
 refine zz ?_;have hh:hdP l=((decide ((l.length:Int)<1)||decide ((l.length:Int)>16))||((l[0]?.map Part.kind).getD 0 !=1)):=rfl;rw[←hh];apply ik<;>intro h
 ·rw[if_pos h]at hT;rw[←hT]
 rw[if_neg (nF h)]at hT;have hl16:l.length≤16:=by
  simp only[hdP,Bool.or_eq_false_iff,decide_eq_false_iff_not]at h;omega
 try refine zz4 ?_
 refine JJ (fun n s=>∃k:Nat,k≤l.length∧n=l.length-k∧(∀(j:Nat) (h1:j<l.length),j<k→UI l[j]=true)∧
  s=⟨[(3,.d (.int .i64 (szP (l.take k)))),(21,.d (.list 3 (l.map Ja))),(22,.d (.int .i64 l.length)),(23,.d (.int .i64 k))],[]⟩) ?_ ?_
 ·exact⟨_,_,Wk.refl _,0,Nat.zero_le _,rfl,sP,rfl⟩
 ·rintro n s ⟨k,hk,rfl,hinv,rfl⟩;by_cases hlt:k<l.length
  ·have hx:=JEV hlt;have hd:=dT hlt;have hc:=(JKk l[k] (hn _ (Vk hlt))).call trivial;simp only[Ja]at hc;refine zz6 ?_;refine⟨oM,wn hc ?_⟩;refine zz ?_;apply ik<;>intro hf
   ·simp only[Bool.not_eq_true']at hf;have:l.all UI=false:=by
     rw[List.all_eq_false];exact⟨_,Vk hlt,by rw[hf];decide⟩
    rw[this,Bool.false_and,if_neg Bool.false_ne_true]at hT;rw[←hT]
   ·simp only[Bool.not_eq_false']at hf;obtain⟨b1,b2,b3⟩:=JAi hf;have ht:=(JKs l[k] oM oM oM).call trivial;have htl:=JEb hf;obtain⟨s1,s2⟩:=JN2 (k:=k) hk hinv;simp only[Ja]at ht
    try refine zz ?_
    refine wc ht ?_;refine⟨l.length-(k+1),_,oM,Wk.less ?_,k+1,oM,rfl,?_,rfl⟩
    ·have hw:IntKind.i64.wrap (szP (l.take k)+((ZK l[k]).length:Int))=szP (l.take k)+((ZK l[k]).length:Int):=wrap64 oM oM;simp only[go_sem,hw,JIA hlt,JS k oM,simprocAttr]
    ·intro j h1 hj;by_cases e:j=k
     ·subst e;exact hf
     ·exact hinv j h1 oM
  ·have hd:=dF hlt;obtain rfl:k=l.length:=oM;have hall:l.all UI=true:=by
    rw[List.all_eq_true];intro x hx;obtain⟨j,hj,rfl⟩:=List.getElem_of_mem hx;exact hinv j hj hj
   rw[hall,Vt]at hT;refine JLq ?_;apply ik<;>intro h2
   ·simp only[decide_eq_true_eq]at h2;rw[if_neg sO]at hT;rw[←hT]
   ·simp only[decide_eq_false_iff_not]at h2;rw[if_pos sO]at hT;rw[←hT]
theorem JN3(s:Str)(h0:0<s.length)(ht:(Uo s).2.2=true):(ZK (Uo s).1).length+(Uo s).2.1.length=s.length:=by
 have he:=JGf s h0;unfold Uo at ht⊢;split at ht
 ·rename_i h;rw[if_pos h];have:3≤s.length:=by
   simp only[JL0,Vi,decide_eq_true_eq]at h;have:=h.1;simp at this;omega
  simp[ZK];omega
 rename_i h;rw[if_neg h];split at ht
 ·rename_i h1;rw[if_pos h1];simp[ZK];omega
 rename_i h1;rw[if_neg h1];split at ht
 ·rename_i h2;rw[if_pos h2];simp[ZK];omega
 rename_i h2;rw[if_neg h2];simp only[Vi,beq_iff_eq]at ht;obtain⟨⟨⟨ha,hb⟩,hc⟩,hd⟩:=ht;have hl:(UV (s.drop 1) 93).1.length+1+(UV (s.drop 1) 93).2.1.length=s.length-1:=by
  unfold UV at hb⊢;split at hb
  ·rename_i hk;rw[if_pos hk];have hlt:=JNw (s.drop 1) 93;simp only[List.length_drop]at hlt;simp only[List.length_take,List.length_drop];omega
  ·cases hb
 simp only[ZK,hd,Int.reduceBEq,Vu,↓reduceIte,if_true,Vg,Vf,Vm];omega
theorem JFr:∀(f:Nat) (r:Str) (ps:List Part),Ym f r=some ps→r.length<f→(∀p∈ps,UI p=true)∧(ps.map fun p=>(ZK p).length).sum=r.length
 |0,r,ps,_,h=>absurd h (Nat.not_lt_zero _)
 |f+1,r,ps,h,hl=>by
  rw[Ym]at h;split at h
  ·rename_i h1;obtain rfl:r=[]:=sX h1;cases h;simp
  rename_i h1;have h0:0<r.length:=by
   cases r with
   |nil=>simp at h1
   |cons a l=>simp
  split at h
  ·cases h
  rename_i h2;simp only[Vx,Bool.not_eq_true',not_or,Bool.not_eq_false]at h2;have hz:=JN3 r h0 h2.1;have hlt:=(JH2 r h0).1;split at h
  ·rename_i qs hq;cases h;obtain⟨a,b⟩:=JFr f _ qs hq oM;refine⟨fun p hp=>?_,?_⟩
   ·rcases VA.1 hp with rfl|hp
    ·exact h2.2
    ·exact a p hp
   ·simp only[Va,List.sum_cons,b];exact hz
  ·cases h
theorem JKu:∀(l:List Part) (n:Int),l.foldl (fun n p=>n+((ZK p).length:Int)) n=n+(((l.map fun p=>(ZK p).length).sum:Nat):Int)
 |[],n=>by simp
 |p::r,n=>by
  rw[List.foldl_cons,JKu r];simp only[Va,List.sum_cons];omega
theorem JL4(s:Str):(Uo (46::s)).1.kind=1:=by
 unfold Uo;rw[if_neg (by simp[JL0]),if_pos (by rfl)]
theorem JN4(l:List Nat)(k:Nat):(l.take k).sum≤l.sum:=by
 induction l generalizing k with
 |nil=>simp
 |cons a r ih=>
  cases k with
  |zero=>simp
  |succ k=>simp only[List.take_succ_cons,List.sum_cons];have:=ih k;omega
theorem JAj{s:Str}(h:(JO s).2=0):(JO s).1.length≤16∧∀k,0<k→k≤(JO s).1.length→JCg ((JO s).1.take k)=0:=by
 generalize hR:JO s=R at h;unfold JO at hR;split at hR
 ·subst hR;cases h
 split at hR
 ·subst hR;cases h
 rename_i hs;split at hR
 ·rename_i ps hp;split at hR
  ·subst hR;cases h
  rename_i h16;subst hR;obtain⟨a,b⟩:=JFr _ _ ps hp sP;refine⟨by simp at h16⊢;omega,fun k hk hk2=>?_⟩;have hd:∃p r,ps=p::r∧p.kind=1:=by
   rw[Ym,if_neg sP]at hp;split at hp
   ·cases hp
   split at hp
   ·cases hp;exact⟨_,_,rfl,JL4 s⟩
   ·cases hp
  obtain⟨p,r,rfl,hp1⟩:=hd;unfold JCg;rw[if_neg,if_pos]
  ·simp only[Vi,decide_eq_true_eq,List.all_eq_true];refine⟨fun x hx=>a x (List.mem_of_mem_take hx),?_⟩;unfold szP;rw[JKu,List.map_take];have:=JN4 ((p::r).map fun p=>(ZK p).length) k;rw[b]at this;simp only[Vf]at this;omega
  ·obtain⟨j,rfl⟩:∃j,k=j+1:=⟨k-1,oM⟩;simp[hdP,hp1];simp at h16 hk2;omega
 ·subst hR;cases h
end Go.Proofs
namespace Av
open Go
variable [Glb][Rls]
variable {P:Program}
theorem JDm:∀(s:Ss) (K:St→Log→Prop) (st:St) (lg:Log),UG P s K st lg→∃st' lg',K st' lg'∧UG P s (fun s l=>s=st'∧l=lg') st lg
 |.nil,K,st,lg,h=>⟨st,lg,h,rfl,rfl⟩
 |.op d o r,K,st,lg,h=>by
  simp only[UG]at h⊢;split at h
  ·obtain⟨a,b,h1,h2⟩:=JDm r K _ _ h.2;exact⟨a,b,h1,h.1,h2⟩
  ·exact h.elim
 |.call d f args r,K,st,lg,h=>by
  simp only[UG]at h⊢;split at h
  ·obtain⟨T,v,ups,hp,h1,h2,h3,h4⟩:=h;obtain⟨a,b,g1,g2⟩:=JDm r K _ _ h4;exact⟨a,b,g1,T,v,ups,hp,h1,h2,h3,g2⟩
  ·exact h.elim
 |.sc c b body y d r,K,st,lg,h=>by
  simp only[UG]at h⊢;split at h
  ·obtain⟨yv,hp,l,h1,h2,h3,h4⟩:=h;obtain⟨a,b,g1,g2⟩:=JDm r K _ _ h4;exact⟨a,b,g1,yv,hp,l,h1,h2,h3,g2⟩
  ·exact h.elim
def noR:Ic→Bool
 |.dn a _=>noR a
 |.seq a b=>noR a&&noR b
 |.ite _ a b=>noR a&&noR b
 |.block _ b=>noR b
 |.loop b=>noR b
 |.scp b=>noR b
 |.rng .. =>false
 |_=>true
theorem Zg{D:Nat→Prop}{α:Type}:∀(ic:Ic) (R:α→Exit→St→Prop) (st:St),noR ic=true→wpc P D ic (fun e s=>∃x,R x e s) st→∃x,wpc P D ic (R x) st
 |.skip,R,st,nr,h=>h
 |.reg s,R,st,nr,h=>by
  obtain⟨s',⟨x,hx⟩,h2⟩:=JBI s _ st h;exact⟨x,ZG (by rintro _ rfl;exact hx) s st h2⟩
 |.regd un s,R,st,nr,h=>by
  obtain⟨s',l',⟨h1,x,hx⟩,h2⟩:=JDm s _ st [] h;exact⟨x,UE (by rintro _ _ ⟨rfl,rfl⟩;exact⟨h1,hx⟩) s st [] h2⟩
 |.dn a ts,R,st,nr,h=>by
  obtain⟨x,hx⟩:=Zg (α:=α) a (fun x e s=>match e with|.normal=>R x .normal ⟨Ub s.tm ts,s.hp⟩|e=>R x e s) st nr (Jd a st (fun e s h=>by cases e<;>exact h) h);exact⟨x,Jd a st (fun e s h=>by cases e<;>exact h) hx⟩
 |.seq a b,R,st,nr,h=>by
  simp only[noR,Vi]at nr;obtain⟨x,hx⟩:=Zg (α:=α) a (fun x e s=>match e with|.normal=>wpc P D b (R x) s|e=>R x e s) st nr.1 (Jd a st (fun e s h=>by
   cases e with
   |normal=>exact Zg b R s nr.2 h
   |_=>exact h) h)
  exact⟨x,Jd a st (fun e s h=>by cases e<;>exact h) hx⟩
 |.ite c a b,R,st,nr,h=>by
  simp only[noR,Vi]at nr;rw[JGP]at h;simp only[JGP];split at h
  ·rename_i v hv;cases v with
   |true=>obtain⟨x,hx⟩:=Zg a R st nr.1 (h.1 rfl);exact⟨x,fun _=>hx,fun e=>by cases e⟩
   |false=>obtain⟨x,hx⟩:=Zg b R st nr.2 (h.2 rfl);exact⟨x,fun e=>(by cases e),fun _=>hx⟩
  ·exact h.elim
 |.block id b,R,st,nr,h=>by
  obtain⟨x,hx⟩:=Zg (α:=α) b (fun x e s=>match e with|.exit id'=>if id'=id then R x .normal s else R x (.exit id') s|e=>R x e s) st nr (Jd b st (fun e s h=>by
   cases e with
   |exit id'=>
    simp only at h⊢;split at h
    ·rename_i q;simp only[q,if_true];exact h
    ·rename_i q;simp only[q,if_false];exact h
   |_=>exact h) h)
  exact⟨x,Jd b st (fun e s h=>by cases e<;>exact h) hx⟩
 |.loop b,R,st,nr,h=>by
  obtain⟨I,⟨n,s,hw,hi⟩,hI⟩:=h;have nr:noR b=true:=nr;have main:∀n s,I n s→∃x,∃J:Nat→St→Prop,(∃n0 s0,n0≤n∧Wk D s s0∧J n0 s0)∧∀n s,J n s→wpc P D b (fun e s'=>match e with|.normal=>∃m s'',m<n∧Wk D s' s''∧J m s''|e=>R x e s') s:=by
   intro n
   induction n using Nat.strongRecOn with
   |_ n ih=>
    intro s hs;obtain⟨x,hx⟩:=Zg (α:=α) b (fun x e s'=>match e with
     |.normal=>∃J:Nat→St→Prop,(∃n0 s0,n0<n∧Wk D s' s0∧J n0 s0)∧∀n s,J n s→wpc P D b (fun e s'=>match e with|.normal=>∃m s'',m<n∧Wk D s' s''∧J m s''|e=>R x e s') s
     |e=>R x e s') s nr (Jd b s (fun e s' h=>by
      cases e with
      |normal=>
       obtain⟨m,s'',hm,hw,hi⟩:=h;obtain⟨x,J,⟨n0,s0,h1,h2,h3⟩,h4⟩:=ih m hm s'' hi;exact⟨x,J,⟨n0,s0,oM,hw.trans h2,h3⟩,h4⟩
      |_=>exact h) (hI n s hs))
    refine⟨x,fun k t=>(k=n∧t=s)∨(k<n∧∃J:Nat→St→Prop,J k t∧∀n s,J n s→wpc P D b (fun e s'=>match e with|.normal=>∃m s'',m<n∧Wk D s' s''∧J m s''|e=>R x e s') s),
     ⟨n,s,Nat.le_refl _,Wk.refl _,.inl ⟨rfl,rfl⟩⟩,?_⟩
    rintro k t (⟨rfl,rfl⟩|⟨hk,J,hJ,hV⟩)
    ·refine Jd b t (fun e s' h=>?_) hx;cases e with
     |normal=>
      obtain⟨J,⟨n0,s0,h1,h2,h3⟩,h4⟩:=h;exact⟨n0,s0,h1,h2,.inr ⟨h1,J,h3,h4⟩⟩
     |_=>exact h
    ·refine Jd b t (fun e s' h=>?_) (hV k t hJ);cases e with
     |normal=>
      obtain⟨m,s'',h1,h2,h3⟩:=h;exact⟨m,s'',h1,h2,.inr ⟨oM,J,h3,hV⟩⟩
     |_=>exact h
  obtain⟨x,J,⟨n0,s0,h1,h2,h3⟩,h4⟩:=main n s hi;exact⟨x,J,⟨n0,s0,hw.trans h2,h3⟩,h4⟩
 |.exit id,R,st,nr,h=>h
 |.lab,R,st,nr,h=>h
 |.scp a,R,st,nr,h=>by
  obtain⟨x,hx⟩:=Zg (α:=α) a (fun x e s=>match e with|.goto _=>False|e=>R x e s) st nr (Jd a st (fun e s h=>by
   cases e with
   |goto l=>exact h.elim
   |_=>exact h) h)
  exact⟨x,Jd a st (fun e s h=>by cases e<;>exact h) hx⟩
 |.ret,R,st,nr,h=>h
 |.bad,_,_,_,h=>h.elim
 |.rng f N lid ps c1 c2 asg body,R,st,nr,h=>by cases nr
def XK{α:Type}(k:Option Bool)(ris:List RI)(T:List (Nat×Obj))(v:α→Av)(ups:α→List (Nat×Obj))(good:α→Prop)(e:Exit)(s:St):Prop:=∃x,good x∧JEF k ris T (v x) (ups x) e s
attribute [go_sem] XK
theorem FnOk.cex{f N:Nat}{ic:Ic}{ris:List RI}(h:FnOk P f N ic ris){k:Option Bool}{α:Type}{args:List Av}{T:List (Nat×Obj)}(v:α→Av)(ups:α→List (Nat×Obj))(good:α→Prop)(hn:args.length≤N)
  (hc:∀x,good x→closed (JB (get T) (ups x)))(hv:∀x,good x→inT (JB (get T) (ups x)) (v x))
  (hw:wpc P D0 ic (XK k ris T v ups good) ⟨enum 0 args,T⟩)(nr:noR ic=true:=by rfl):∃x,good x∧Con P f args T (v x) (ups x):=by
 obtain⟨⟨x,hg⟩,hx⟩:=Zg (α:={x//good x}) ic (fun x e s=>JEF k ris T (v x.1) (ups x.1) e s) _ nr (Jd ic _ (fun e s ⟨x,h1,h2⟩=>⟨⟨x,h1⟩,h2⟩) hw);exact⟨x,hg,h.con hn (hc x hg) (hv x hg) hx⟩
theorem FnOk.pex{f N:Nat}{ic:Ic}{ris:List RI}(h:FnOk P f N ic ris){α:Type}{args:List Dat}(v:α→Av)(good:α→Prop)(hn:args.length≤N)(hv:∀x,good x→Uv (get []) (v x))
  (hw:wpc P D0 ic (XK (some false) ris [] v (fun _=>[]) good) ⟨enum 0 (args.map .d),[]⟩)(nr:noR ic=true:=by rfl):∃x,good x∧J3 P f args (v x):=
 h.cex v (fun _=>[]) good (sX hn) (fun _ _=>by intro i o h;cases h) hv hw nr
end Av
namespace Av
open Go
variable [Glb][Rls]
variable {f:Nat}{args:List Dat}{T:List (Nat×Obj)}
variable {P:Program}{st:St}
theorem Jt{x b:Bool}{body:Ss}{y:Opd}{d:Nat}{r:Ss}{K:St→Prop}(h1:x=b→wps P body (fun st'=>∃yv,val (get st'.tm) y=some (.d (.bool yv))∧st'.hp=st.hp) st)
  (h2:∀z:Bool,wps P r K ⟨put (Ub st.tm body.Ju) d (.d (.bool z)),st.hp⟩):scQ P x b body y d r K st:=by
 by_cases h:x=b
 ·obtain⟨s',⟨yv,h3,h4⟩,h5⟩:=JBI body _ st (h1 h);exact Jy yv (fun _=>ZG (by rintro _ rfl;exact⟨h3,h4⟩) body st h5) (h2 _)
 ·exact Jy false (fun e=>absurd e h) (h2 _)
theorem JD{x:Bool}{A B:Prop}(h1:x=true→A)(h2:x=false→B):JJG x A B:=⟨h1,h2⟩
noncomputable def PA{P:Program}{f:Nat}{α:Type}{args:List Dat}{v:α→Av}{good:α→Prop}(h:∃x,good x∧J3 P f args (v x)):α:=Classical.choose h
theorem UW{P:Program}{α:Type}{v:α→Av}{good:α→Prop}(h:∃x,good x∧J3 P f args (v x)):good (PA h):=(Classical.choose_spec h).1
theorem UQ{P:Program}{α:Type}{v:α→Av}{good:α→Prop}(h:∃x,good x∧J3 P f args (v x)):J3 P f args (v (PA h)):=(Classical.choose_spec h).2
theorem FnOk.JIu{N:Nat}{ic:Ic}{ris:List RI}(h:FnOk P f N ic ris){α:Type}(v:α→Av)(good:α→Prop)(x0:α)(g0:good x0)(hn:args.length≤N)(hv:∀x,good x→Uv (get []) (v x))
  (hw:(∀d∈args,fits d)→wpc P D0 ic (XK (some false) ris [] v (fun _=>[]) good) ⟨enum 0 (args.map .d),[]⟩)(nr:noR ic=true:=by rfl):∃x,good x∧J3 P f args (v x):=by
 by_cases hf:∀d∈args,fits d
 ·exact h.pex v good hn hv (hw hf) nr
 ·exact⟨x0,g0,J3.Jg h.has fun h=>absurd h hf⟩
theorem FnOk.Us{N:Nat}{ic:Ic}{ris:List RI}(h:FnOk P f N ic ris){k:Option Bool}{α:Type}{args:List Av}(v:α→Av)(ups:α→List (Nat×Obj))(good:α→Prop)(x0:α)(g0:good x0)(hn:args.length≤N)
  (hc:∀x,good x→closed (JB (get T) (ups x)))(hv:∀x,good x→inT (JB (get T) (ups x)) (v x))
  (hw:(∀d,.d d∈args→fits d)→wpc P D0 ic (XK k ris T v ups good) ⟨enum 0 args,T⟩)(nr:noR ic=true:=by rfl):∃x,good x∧Con P f args T (v x) (ups x):=by
 by_cases hf:∀d,.d d∈args→fits d
 ·exact h.cex v ups good hn hc hv (hw hf) nr
 ·exact⟨x0,g0,Con.Jg h.has fun h=>absurd h hf⟩
theorem JN5{i:Nat}(h:(get T i).isSome=true):i∈T.map (·.1):=by
 cases e:get T i with
 |none=>rw[e]at h;cases h
 |some o=>exact VC.2 ⟨(i,o),get_mem T i o e,rfl⟩
theorem JKv{i:Nat}:∀{ups T:List (Nat×Obj)},(∀e∈ups,e.1∈T.map (·.1))→(get (J6 T ups) i).isSome=true→i∈T.map (·.1):=by
 intro ups
 induction ups with
 |nil=>intro T _ h;exact JN5 h
 |cons e r ih=>
  intro T h1 h2;rw[Jr]at h2;simp only[JB]at h2;by_cases he:i=e.1
  ·rw[he];exact h1 e Vh
  ·have:JB (upd (get T) e.1 (some e.2)) r i=JB (get T) r i∨(∃x∈r,x.1=i):=by
    clear h1 h2 ih;by_cases hr:∃x∈r,x.1=i
    ·exact .inr hr
    ·left;have key:∀(r:List (Nat×Obj)) (G G':Heap),(¬∃x∈r,x.1=i)→G i=G' i→JB G r i=JB G' r i:=by
      intro r
      induction r with
      |nil=>intro G G' _ h;exact h
      |cons y s ih2=>
       intro G G' hn hg;simp only[JB];refine ih2 _ _ (fun⟨x,hx,h⟩=>hn ⟨x,Vn _ hx,h⟩) ?_;simp only[upd];split
       ·rfl
       ·exact hg
     exact key r _ _ hr (by simp[upd,he])
   rcases this with h|⟨x,hx,rfl⟩
   ·rw[h,←Jr]at h2;exact ih (fun e he=>h1 e (Vn _ he)) h2
   ·exact h1 x (Vn _ hx)
theorem Con.JIv{args:List Av}{v:Av}{ups:List (Nat×Obj)}(h:Con P f args T v ups)(ρ:Nat→Nat)(L:List Nat)(hL:T.map (·.1)=L)(hbig:∀i∈L,1000≤i)(hinj:∀i∈L,∀j∈L,ρ i=ρ j→i=j)
  (hups:∀e∈ups,e.1∈L)(hargs:JN (get T) args)(hcl:Jc (get T) T)(hcl':Jc (get (J6 T ups)) (J6 T ups))(hv:inT (JB (get T) ups) v):
  JR P f (args.map (Av.ren ρ)) (T.map fun e=>(ρ e.1,some (e.2.ren ρ))) (v.ren ρ) (ups.map fun e=>(ρ e.1,e.2.ren ρ)):=by
 subst hL;have hs:∀i,i∈T.map (·.1)→(get T i).isSome=true:=by
  intro i hi;clear h hbig hinj hups hargs hcl hcl' hv
  induction T with
  |nil=>cases hi
  |cons e r ih=>
   simp only[get];split
   ·rfl
   ·rename_i hne;simp only[Va,VA]at hi;rcases hi with rfl|hi
    ·exact absurd rfl hne
    ·exact ih hi
 have:=h.call ρ (fun i hi=>hbig i (JN5 hi)) (fun i j hi hj h=>hinj i (JKv hups (by rw[Jr];exact hi)) j (JKv hups (by rw[Jr];exact hj)) h)
  (fun c hc=>by
   obtain⟨i,hi,rfl⟩:=List.getElem_of_mem hc;exact J2 hargs i _ (Vl hi)) (U4 hcl) [] (fun e he=>.inl (hs _ (hups e he))) (Jj hcl') hv
 simpa using this
theorem JDD{lg:Log}{d:Option Nat}{f:Cal}{args:List Opd}{rs:Ss}{K:St→Log→Prop}{f':Nat}{vs:List Av}{p:Prop}{ds:List Dat}{u:List (Nat×Obj)}{r:Dat}(ht:target (get st.tm) f args=some (.fn f',vs))
  (hd:Jk (get st.hp) vs=some (p,ds,u))(hp:p)(hc:J3 P f' (ds.map Dat.canon) (.d r))(hs:scalar r=true)(hr:UG P rs K (st.app d (.d r) []) (lg++[((tOf st.hp vs).map (·.1),[])])):UG P (.call d f args rs) K st lg:=
 JE ht (hc.borrow hs (fun H hH=>by rw[JBx hH];exact hd) hp) (JFn _ _) hr
end Av
namespace Go.Proofs
open Go Av
open Av.Y
def JSi:Ic:=q (R (oz 4 0<|ow 5 false<|N) [4,5])<|q (q (R (om 9 0<|oi 10 .eql 9 0<|om 11 10<|.sc 11 false (om 12 1<|oi 13 .eql 12 0<|N) (t 13) 14 N) [9,10,11])<|D (I 14 (q (R (oz 4 0<|ow 5 true<|N) [0,1,14])<|.ret) S) [14])<|q (R (om 15 0<|oi 16 .lss 15 0<|om 17 1<|oi 18 .lss 17 0<|ot 19 .bne 16 18<|om 6 19<|N) [15,16,17,18,19])<|q (q (R (om 20 0<|om 21 0<|oo 22 (.neg .i64 (t 21))<|oo 23 (.mx (t 20) (t 22))<|om 24 1<|om 25 1<|oo 26 (.neg .i64 (t 25))<|oo 27 (.mx (t 24) (t 26))<|om 7 23<|om 8 27<|N) [20,21,22,23,24,25,26,27])<|q (R (om 28 7<|om 29 8<|ob 30 .quo (i 999999999999999) (t 29)<|ot 31 .gtr 28 30<|N) [7,8,28,29,30])<|D (I 31 (q (q (R (om 32 6<|N) [0,1,6,31])<|D (I 32 (q (R (oz 4 (-999999999999999)<|ow 5 false<|N) [32])<|.ret) S) [32])<|q (.reg (oz 4 999999999999999<|ow 5 false<|N))<|.ret) S) [6,31])<|q (R (om 33 0<|om 34 1<|ot 35 .mul 33 34<|om 4 35<|ow 5 true<|N) [0,1,33,34,35])<|.ret
theorem ok134:FT 134 36 JSi [.tmp 4,.tmp 5]:=.o Tryz.func134
def JSj:Ic:=q (R (oz 4 0<|ow 5 false<|N) [4,5])<|q (q (R (om 6 1<|oz 7 0<|N) [1])<|D (.block 0<|.loop (q (.reg (ot 8 .lss 7 6<|N))<|q (D (I 8 S (E 0)) [8])<|q (D (.block 1<|q (q (R (om 9 0<|oi 10 .gtr 9 99999999999999<|om 11 10<|.sc 11 false (om 12 0<|oi 13 .lss 12 (-99999999999999)<|N) (t 13) 14 N) [9,10,11])<|D (I 14 (q (q (R (om 15 0<|oi 16 .gtr 15 0<|N) [0,6,7,14,15])<|D (I 16 (q (R (oz 4 999999999999999<|ow 5 false<|N) [16])<|.ret) S) [16])<|q (.reg (oz 4 (-999999999999999)<|ow 5 false<|N))<|.ret) S) [14])<|R (om 17 0<|oi 18 .mul 17 10<|om 0 18<|N) [17,18]) [])<|R (oi 19 .add 7 1<|om 7 19<|N) [19])) [6,7,8,9,10,11])<|q (R (om 20 0<|cl 21 142 [t 20]<|om 22 0<|cl 23 142 [t 22]<|om 24 0<|ot 25 .eql 23 24<|om 4 21<|om 5 25<|N) [0,20,21,22,23,24,25])<|.ret
theorem ok136:FT 136 26 JSj [.tmp 4,.tmp 5]:=.o Tryz.func136
def JSk:Ic:=q (R (oz 2 0<|N) [2])<|q (R (om 3 0<|oo 4 (.mn (i 999999999999999) (t 3))<|oo 5 (.mx (i (-999999999999999)) (t 4))<|om 2 5<|N) [0,3,4,5])<|.ret
theorem ok142:FT 142 6 JSk [.tmp 2]:=.o Tryz.func142
def JSl:Ic:=q (R (ox 3 0<|ox 4 1<|oz 6 0<|N) [0,1,6])<|q (q (R (of 7 3 0<|ol 8 7<|oi 9 .eql 8 2<|om 10 9<|.sc 10 true (of 11 4 0<|ol 12 11<|oi 13 .eql 12 2<|N) (t 13) 14 N) [3,4,7,8,9,10])<|D (I 14 (q (R (oz 6 (-1)<|N) [2,14])<|.ret) S) [14])<|q (R (om 15 2<|om 6 15<|N) [2,15])<|.ret
theorem ok143:FT 143 16 JSl [.tmp 6]:=.o Tryz.func143
def JSm:Ic:=q (R (oz 4 0<|N) [4])<|q (q (R (om 5 1<|oz 6 0<|N) [1])<|D (.block 0<|.loop (q (.reg (ot 7 .lss 6 5<|N))<|q (D (I 7 S (E 0)) [7])<|q (D (.block 1<|q (q (R (om 8 0<|oi 9 .gtr 8 115292150460684697<|om 10 9<|.sc 10 false (om 11 0<|oi 12 .lss 11 (-115292150460684697)<|N) (t 12) 13 N) [8,9,10])<|D (I 13 (q (q (R (om 14 0<|oi 15 .gtr 14 0<|N) [0,5,6,13,14])<|D (I 15 (q (R (oz 4 1152921504606846976<|N) [15])<|.ret) S) [15])<|q (.reg (oz 4 (-1152921504606846976)<|N))<|.ret) S) [13])<|R (om 16 0<|oi 17 .mul 16 10<|om 0 17<|N) [16,17]) [])<|R (oi 18 .add 6 1<|om 6 18<|N) [18])) [5,6,7,8,9,10,11])<|q (R (om 19 0<|om 4 19<|N) [0,19])<|.ret
theorem ok146:FT 146 20 JSm [.tmp 4]:=.o Tryz.func146
def ir89:Ic:=q (R (ox 1 0<|ow 2 false<|N) [0,2])<|q (R (of 3 1 0<|ol 4 3<|oi 5 .eql 4 2<|om 6 5<|.sc 6 false (of 7 1 0<|ol 8 7<|oi 9 .eql 8 3<|N) (t 9) 10 (om 2 10<|N)) [1,3,4,5,6,10])<|.ret
theorem ok89:FT 89 11 ir89 [.tmp 2]:=.o Tryz.func89
def ir91:Ic:=q (.reg (oN 6 yT<|N))<|q (q (R (om 7 0<|oi 8 .lss 7 0<|N) [7])<|D (I 8 (q (R (om 9 1<|om 10 2<|oo 11 (.bld yT [(0,1,i 2),(1,1,t 9),(2,1,t 10)])<|oS 7 6 11<|N) [0,1,2,8,9,10,11])<|.ret) S) [8])<|q (R (om 12 0<|om 13 1<|om 14 2<|oo 15 (.bld yT [(0,1,i 3),(3,1,t 12),(1,1,t 13),(2,1,t 14)])<|oS 7 6 15<|N) [0,1,2,12,13,14,15])<|.ret
theorem ok91:FT 91 16 ir91 [.cell 6 (some 7)]:=.o Tryz.func91
def ir87:Ic:=q (R (ox 2 0<|ox 3 1<|ow 4 false<|N) [0,1,4])<|q (R (oL 5 7 2<|cl 6 89 [t 5]<|om 7 6<|.sc 7 true (oL 8 7 3<|cl 9 89 [t 8]<|N) (t 9) 10 (om 11 10<|.sc 11 false (of 12 2 0<|ol 13 12<|of 14 3 0<|ol 15 14<|ot 16 .eql 13 15<|om 17 16<|.sc 17 true (of 18 2 0<|ol 19 18<|oi 20 .eql 19 4<|om 21 20<|.sc 21 false (of 22 2 0<|ol 23 22<|oi 24 .eql 23 6<|N) (t 24) 25 (om 26 25<|.sc 26 false (of 27 2 0<|ol 28 27<|oi 29 .eql 28 7<|N) (t 29) 30 (om 31 30<|.sc 31 false (of 32 2 0<|ol 33 32<|oi 34 .eql 33 1<|N) (t 34) 35 N))) (t 35) 36 N) (t 36) 37 (om 4 37<|N))) [2,3,5,6,7,10,11,37])<|.ret
theorem ok87:FT 87 38 ir87 [.tmp 4]:=.o Tryz.func87
def ir86:Ic:=q (R (ox 2 0<|ox 3 1<|ow 4 false<|N) [0,1,4])<|q (D (.block 0<|q (R (oL 6 7 2<|cl 7 89 [t 6]<|om 8 7<|.sc 8 true (oL 9 7 3<|cl 10 89 [t 9]<|N) (t 10) 11 (om 5 11<|N)) [6,7,8,11])<|D (I 5 (q (R (ow 4 true<|N) [2,3,5])<|.ret) (q (R (of 13 2 0<|ol 14 13<|of 15 3 0<|ol 16 15<|ot 17 .neq 14 16<|om 12 17<|N) [5,13,14,15,16,17])<|D (I 12 (q (R (ow 4 false<|N) [2,3,12])<|.ret) (q (R (of 19 2 0<|ol 20 19<|oi 21 .geq 20 8<|om 18 21<|N) [12,19,20,21])<|D (I 18 (q (R (oL 22 7 2<|oL 23 7 3<|cl 24 138 [t 22,t 23]<|om 4 24<|N) [2,3,18,22,23,24])<|.ret) S) [2,3,18])) [])) []) [])<|q (.reg (ow 4 true<|N))<|.ret
theorem ok86:FT 86 25 ir86 [.tmp 4]:=.o Tryz.func86
def ir90:Ic:=q (R (ox 1 0<|oz 2 0<|oz 3 0<|N) [0])<|q (q (R (of 6 1 4<|ol 7 6<|oh 8 7<|oz 9 0<|N) [6])<|D (.block 0<|.loop (q (.reg (ot 10 .lss 9 8<|N))<|q (D (I 10 S (E 0)) [10])<|q (D (.block 1<|q (R (om 11 9<|oa false 12 1 7 9<|ol 13 12<|om 4 11<|om 5 13<|N) [11,12,13])<|q (q (R (om 14 4<|oi 15 .eql 14 0<|N) [4,14])<|D (I 15 (R (om 16 5<|oj 17 16<|om 18 5<|oj 19 18<|om 2 17<|om 3 19<|N) [15,16,17,18,19]) S) [15])<|R (om 20 2<|om 21 5<|oj 22 21<|oo 23 (.mn (t 20) (t 22))<|om 24 3<|om 25 5<|oj 26 25<|oo 27 (.mx (t 24) (t 26))<|om 2 23<|om 3 27<|N) [5,20,21,22,23,24,25,26,27]) [])<|R (oi 28 .add 9 1<|om 9 28<|N) [28])) [7,8,9,10,11,4,5])<|q (q (R (of 29 1 4<|ol 30 29<|oh 31 30<|oi 32 .eql 31 0<|N) [29,30,31])<|D (I 32 (q (R (of 33 1 1<|ol 34 33<|of 35 1 2<|ol 36 35<|om 2 34<|om 3 36<|N) [1,32,33,34,35,36])<|.ret) S) [1,32])<|q (R (om 37 2<|om 38 3<|om 2 37<|om 3 38<|N) [37,38])<|.ret
theorem ok90:FT 90 39 ir90 [.tmp 2,.tmp 3]:=.o Tryz.func90
def ir85:Ic:=q (.reg (oN 4 [.int .i64 0,.int .i64 0,.int .i64 0,.int .i64 0,.nil 1,.nil 7,.nil 11,.bool false,.bool false]<|N))<|q (q (R (om 5 0<|oc 6 5<|of 7 6 7<|ol 8 7<|oi 9 .eql 8 0<|N) [5,6,7,8])<|D (I 9 (R (om 10 0<|om 11 1<|oc 12 10<|of 13 12 7<|os 13 11<|N) [0,1,9,10,11,12,13]) S) [0,1,9])<|q (R (oo 14 (.bld [.int .i64 0,.int .i64 0,.int .i64 0,.int .i64 0,.nil 1,.nil 7,.nil 11,.bool false,.bool false] [])<|oS 9 4 14<|N) [14])<|.ret
theorem ok85:FT 85 15 ir85 [.cell 4 (some 9)]:=.o Tryz.func85
def ir80:Ic:=q (R (ox 1 0<|oN 2 yT<|N) [0])<|q (q (R (of 3 1 0<|ol 4 3<|N) [3])<|D (.block 0<|q (R (oi 6 .eql 4 1<|om 5 6<|N) [6])<|I 5 (q (R (oo 7 (.bld yT [(0,1,i 1)])<|oS 7 2 7<|N) [1,4,5,7])<|.ret) (q (R (oi 9 .eql 4 4<|om 8 9<|N) [5,9])<|I 8 (q (R (of 10 1 3<|ol 11 10<|oo 12 (.bls 1 [t 11])<|oo 13 (.bld yT [(0,1,i 4),(4,1,t 12)])<|oS 7 2 13<|N) [1,4,8,10,11,12,13])<|.ret) (q (R (oi 15 .eql 4 5<|om 14 15<|N) [4,8,15])<|D (I 14 (q (R (of 16 1 3<|ol 17 16<|oj 18 17<|of 19 1 3<|ol 20 19<|oj 21 20<|oo 22 (.bld yT [(0,1,i 5),(1,1,t 18),(2,1,t 21)])<|oS 7 2 22<|N) [1,14,16,17,18,19,20,21,22])<|.ret) S) [14]))) [7,10,11])<|q (R (of 23 1 0<|ol 24 23<|of 25 1 1<|ol 26 25<|of 27 1 1<|ol 28 27<|of 29 1 2<|ol 30 29<|oo 31 (.bld yT [(0,1,t 24),(1,1,t 26),(2,1,t 28),(3,1,t 30)])<|oS 7 2 31<|N) [1,23,24,25,26,27,28,29,30,31])<|.ret
theorem ok80:FT 80 32 ir80 [.cell 2 (some 7)]:=.o Tryz.func80
def ir81:Ic:=q (.reg (oN 4 [.int .i64 0,.int .i64 0,.int .i64 0,.int .i64 0,.nil 1,.nil 7,.nil 11,.bool false,.bool false]<|N))<|q (R (om 11 1<|cl 12 70 [t 11]<|om 10 12<|oe 13 10 0<|oe 14 10 1<|om 5 13<|om 6 14<|N) [1,11,12,10,13,14,6])<|q (R (om 16 0<|oc 17 16<|of 18 17 0<|oL 19 7 18<|om 20 5<|cl 21 129 [t 19,t 20]<|om 15 21<|oe 22 15 0<|oe 23 15 1<|oe 24 15 2<|oN 7 yT<|oS 7 7 22<|om 8 23<|om 9 24<|N) [5,16,17,18,19,20,21,15,22,23,24])<|q (q (R (om 25 9<|oi 26 .neq 25 0<|N) [9,25])<|D (I 26 (q (R (om 27 0<|cl 28 85 [t 27,i 22]<|oS 9 4 28<|N) [0,7,8,26,27,28])<|.ret) S) [0,26])<|q (R (oL 29 7 7<|om 30 8<|oo 31 (.bld [.int .i64 0,.int .i64 0,.int .i64 0,.int .i64 0,.nil 1,.nil 7,.nil 11,.bool false,.bool false] [(0,7,t 29),(7,1,t 30),(8,1,B true)])<|oS 9 4 31<|N) [7,8,29,30,31])<|.ret
theorem ok81:FT 81 32 ir81 [.cell 4 (some 9)]:=.o Tryz.func81
def ir82:Ic:=q (R (ox 3 1<|oN 4 [.int .i64 0,.int .i64 0,.int .i64 0,.int .i64 0,.nil 1,.nil 7,.nil 11,.bool false,.bool false]<|N) [1])<|q (R (of 23 3 2<|ol 24 23<|cl 25 70 [t 24]<|om 22 25<|oe 26 22 0<|oe 27 22 1<|om 5 26<|om 6 27<|N) [23,24,25,22,26,27,6])<|q (.reg (oN 7 [.int .i64 0]<|oN 8 [.bool false]<|on (.sto none (t 7) (i 1))<|on (.sto none (t 8) (B true))<|N))<|q (q (.reg (om 28 5<|oh 29 28<|oz 30 0<|N))<|D (.block 0<|.loop (q (.reg (ot 31 .lss 30 29<|N))<|q (D (I 31 S (E 0)) [31])<|q (D (.block 1<|q (R (om 32 30<|oa true 33 3 28 30<|oL 34 3 33<|oN 10 [.int .i64 0,.int .i64 0,.str []]<|om 9 32<|oS 3 10 34<|N) [32,33,34])<|q (q (R (of 35 10 0<|ol 36 35<|oi 37 .neq 36 3<|N) [10,35,36])<|D (I 37 (E 1) S) [37])<|q (D (.regd [(3,12),(6,12),(7,12)] (om 39 0<|oc 40 39<|of 41 40 0<|oL 42 7 41<|om 43 5<|om 44 9<|oo 45 (.slc 3 (t 43) none (some (t 44)) none)<|cl 46 129 [t 42,t 45]<|om 38 46<|oe 47 38 0<|oe 48 38 1<|oe 49 38 2<|oN 11 yT<|oS 7 11 47<|om 12 48<|om 13 49<|N)) [9,39,40,41,42,43,44,45,46,38,47,48,49,12])<|q (q (R (om 50 13<|oi 51 .neq 50 0<|N) [13,50])<|D (I 51 (q (R (om 52 0<|cl 53 85 [t 52,i 22]<|oS 9 4 53<|N) [0,3,5,7,8,28,29,30,11,51,52,53])<|.ret) S) [51])<|q (R (ow 14 false<|N) [14])<|q (R (ol 55 7<|of 56 11 2<|ol 57 56<|cl 58 134 [t 55,t 57]<|om 54 58<|oe 59 54 0<|oe 60 54 1<|os 7 59<|om 14 60<|N) [11,55,56,57,58,54,59,60])<|R (ol 61 8<|om 62 61<|.sc 62 true (om 63 14<|N) (t 63) 64 (os 8 64<|N)) [14,61,62,64]) [9,37,11])<|R (oi 65 .add 30 1<|om 30 65<|N) [65])) [28,29,30,31,10,9,11])<|q (R (om 67 0<|oc 68 67<|of 69 68 0<|oL 70 7 69<|om 71 5<|cl 72 129 [t 70,t 71]<|om 66 72<|oe 73 66 0<|oe 74 66 1<|oe 75 66 2<|oN 15 yT<|oS 7 15 73<|om 16 74<|om 17 75<|N) [5,67,68,69,70,71,72,66,73,74,75,16])<|q (D (.block 2<|q (R (om 77 17<|oi 78 .neq 77 0<|om 76 78<|N) [17,77,78])<|I 76 (q (R (om 79 0<|cl 80 85 [t 79,i 22]<|oS 9 4 80<|N) [0,3,7,8,15,76,79,80])<|.ret) (q (R (of 82 3 1<|ol 83 82<|oi 84 .eql 83 0<|om 85 84<|.sc 85 true (of 86 15 0<|ol 87 86<|oi 88 .neq 87 2<|N) (t 88) 89 (om 90 89<|.sc 90 false (oL 91 7 15<|cl 92 89 [t 91]<|og 93 92<|N) (t 93) 94 (om 95 94<|.sc 95 false (of 96 15 3<|ol 97 96<|of 98 3 1<|ol 99 98<|ot 100 .gtr 97 99<|N) (t 100) 101 (om 81 101<|N)))) [76,82,83,84,85,89,90,94,95,101])<|D (I 81 (q (R (om 102 0<|cl 103 85 [t 102,i 18]<|oS 9 4 103<|N) [0,3,7,8,15,81,102,103])<|.ret) S) [0,81])) [])<|q (R (of 104 3 1<|ol 105 104<|om 18 105<|N) [104,105])<|q (q (R (of 106 3 1<|ol 107 106<|oi 108 .eql 107 0<|N) [106,107])<|D (I 108 (R (oz 18 (-1)<|N) [108]) S) [108])<|q (R (oo 109 (.fnv (.func 135) [] [t 3,t 15,t 7,t 8])<|om 19 109<|N) [3,109])<|q (D (.regd [(3,7)] (om 110 19<|of 111 15 1<|ol 112 111<|.call (some 113) (.dyn (t 110)) [t 112] (oo 114 (.mn (i 0) (t 113))<|om 115 19<|of 116 15 2<|ol 117 116<|.call (some 118) (.dyn (t 115)) [t 117] (oo 119 (.mx (i 0) (t 118))<|om 20 114<|om 21 119<|N)))) [15,19,110,111,112,113,114,115,116,117,118,119])<|q (D (.regd [(3,4)] (om 120 18<|om 121 20<|om 122 21<|cl 123 91 [t 120,t 121,t 122]<|ol 124 8<|om 125 124<|.sc 125 true (ol 126 7<|oi 127 .leq 126 256<|N) (t 127) 128 (oo 129 (.bld [.int .i64 0,.int .i64 0,.int .i64 0,.int .i64 0,.nil 1,.nil 7,.nil 11,.bool false,.bool false] [(0,7,t 123),(7,1,B false),(8,1,t 128)])<|oS 9 4 129<|N))) [7,8,18,20,21,120,121,122,123,124,125,128,129])<|.ret
theorem ok82:FT 82 130 ir82 [.cell 4 (some 9)]:=.o Tryz.func82
def JSn:Ic:=q (R (oz 6 0<|N) [6])<|q (R (om 12 0<|of 13 1 1<|ol 14 13<|of 15 2 3<|ol 16 15<|ot 17 .sub 14 16<|cl 18 136 [t 12,t 17]<|om 11 18<|oe 19 11 0<|oe 20 11 1<|om 7 19<|om 8 20<|N) [0,12,13,14,15,16,17,18,11,19,20])<|q (q (R (om 21 8<|og 22 21<|N) [8,21])<|D (I 22 (q (q (R (ol 23 3<|oi 24 .eql 23 0<|N) [22,23])<|D (I 24 (q (R (oz 6 0<|N) [7,24])<|.ret) S) [24])<|.reg (on (.sto none (t 4) (B false))<|N)) S) [22])<|q (R (ol 26 3<|om 27 7<|cl 28 134 [t 26,t 27]<|om 25 28<|oe 29 25 0<|oe 30 25 1<|om 9 29<|om 10 30<|N) [7,26,27,28,25,29,30])<|q (R (ol 31 4<|om 32 31<|.sc 32 true (om 33 10<|N) (t 33) 34 (os 4 34<|N)) [10,31,32,34])<|q (R (om 35 9<|om 6 35<|N) [9,35])<|.ret
theorem ok135:FT 135 36 JSn [.tmp 6]:=.o Tryz.func135
def ir88:Ic:=q (R (ox 5 1<|ox 6 2<|ox 7 3<|oN 8 [.int .i64 0,.int .i64 0,.int .i64 0,.int .i64 0,.nil 1,.nil 7,.nil 11,.bool false,.bool false]<|N) [1,2,3])<|q (q (R (oL 23 7 6<|cl 24 89 [t 23]<|og 25 24<|om 26 25<|.sc 26 false (oL 27 7 7<|cl 28 89 [t 27]<|og 29 28<|N) (t 29) 30 N) [23,24,25,26])<|D (I 30 (q (R (om 31 0<|cl 32 85 [t 31,i 18]<|oS 9 8 32<|N) [0,5,6,7,30,31,32])<|.ret) S) [30])<|q (.reg (oN 9 [.bool false]<|on (.sto none (t 9) (B true))<|N))<|q (R (oo 33 (.fnv (.func 139) [] [t 9])<|oN 10 [.nilFn]<|os 10 33<|N) [33])<|q (R (oo 34 (.fnv (.func 140) [] [t 10])<|om 11 34<|N) [34])<|q (R (oo 35 (.fnv (.func 141) [] [t 10])<|om 12 35<|N) [35])<|q (q (R (of 36 5 0<|ol 37 36<|N) [36])<|D (.block 0<|q (R (oi 39 .eql 37 14<|om 38 39<|N) [39])<|I 38 (q (R (of 40 6 3<|ol 41 40<|of 42 7 3<|ol 43 42<|ot 44 .add 41 43<|om 13 44<|N) [5,11,12,37,38,40,41,42,43,44])<|q (q (R (om 45 13<|oi 46 .gtr 45 12<|N) [45])<|D (I 46 (q (R (om 47 0<|cl 48 85 [t 47,i 14]<|oS 9 8 48<|N) [0,6,7,9,10,13,46,47,48])<|.ret) S) [0,46])<|q (.reg (ok 14 (.k (.nil 1))<|N))<|q (q (R (of 49 6 1<|ol 50 49<|of 51 6 2<|ol 52 51<|oo 53 (.bls 1 [t 50,t 52])<|oh 54 53<|oz 55 0<|N) [49,50,51,52])<|D (.block 1<|.loop (q (.reg (ot 56 .lss 55 54<|N))<|q (D (I 56 S (E 1)) [56])<|q (D (.block 2<|q (R (oa false 57 1 53 55<|ol 58 57<|om 16 58<|N) [57,58])<|q (R (of 59 7 1<|ol 60 59<|of 61 7 2<|ol 62 61<|oo 63 (.bls 1 [t 60,t 62])<|oh 64 63<|oz 65 0<|N) [59,60,61,62])<|D (.block 3<|.loop (q (.reg (ot 66 .lss 65 64<|N))<|q (D (I 66 S (E 3)) [66])<|q (D (.block 4<|q (R (oa false 67 1 63 65<|ol 68 67<|om 18 68<|N) [67,68])<|D (.regd [(1,4)] (om 69 14<|ol 70 10<|om 71 16<|om 72 18<|cl 73 134 [t 71,t 72]<|oe 74 73 0<|oe 75 73 1<|.call (some 76) (.dyn (t 70)) [t 74,t 75] (oo 77 (.bls 1 [t 76])<|oo 78 (.app 1 (t 69) (t 77))<|om 14 78<|N))) [18,69,70,71,72,73,74,75,76,77,78]) [])<|R (oi 79 .add 65 1<|om 65 79<|N) [79])) [16,63,64,65,66]) [])<|R (oi 80 .add 55 1<|om 55 80<|N) [80])) [10,53,54,55,56])<|q (D (.regd [(3,9),(5,9),(7,9),(8,9)] (oL 81 7 6<|oL 82 7 7<|om 83 13<|cl 84 143 [t 81,t 82,t 83]<|om 85 14<|cl 86 144 [t 85]<|om 87 14<|cl 88 145 [t 87]<|cl 89 91 [t 84,t 86,t 88]<|ol 90 9<|oo 91 (.bld [.int .i64 0,.int .i64 0,.int .i64 0,.int .i64 0,.nil 1,.nil 7,.nil 11,.bool false,.bool false] [(0,7,t 89),(7,1,B false),(8,1,t 90)])<|oS 9 8 91<|N)) [6,7,9,13,14,81,82,83,84,85,86,87,88,89,90,91])<|.ret) (q (R (oi 93 .eql 37 15<|om 92 93<|N) [0,10,37,38,93])<|D (I 92 (q (R (om 94 11<|of 95 6 1<|ol 96 95<|of 97 6 1<|ol 98 97<|oo 99 (.neg .i64 (t 98))<|oo 100 (.mx (t 96) (t 99))<|of 101 6 2<|ol 102 101<|of 103 6 2<|ol 104 103<|oo 105 (.neg .i64 (t 104))<|oo 106 (.mx (t 102) (t 105))<|oo 107 (.mx (t 100) (t 106))<|of 108 5 1<|ol 109 108<|of 110 7 3<|ol 111 110<|ot 112 .add 109 111<|of 113 6 3<|ol 114 113<|ot 115 .sub 112 114<|oo 116 (.mx (i 0) (t 115))<|.call (some 117) (.dyn (t 94)) [t 107,t 116] (om 19 117<|N)) [6,11,12,92,94,95,96,97,98,99,100,101,102,103,104,105,106,107,108,109,110,111,112,113,114,115,116,117])<|q (D (.regd [(5,6)] (of 118 5 1<|ol 119 118<|om 120 19<|oo 121 (.neg .i64 (t 120))<|om 122 19<|cl 123 91 [t 119,t 121,t 122]<|ol 124 9<|om 125 124<|.sc 125 true (of 126 7 1<|ol 127 126<|oi 128 .gtr 127 0<|om 129 128<|.sc 129 false (of 130 7 2<|ol 131 130<|oi 132 .lss 131 0<|N) (t 132) 133 N) (t 133) 134 (oo 135 (.bld [.int .i64 0,.int .i64 0,.int .i64 0,.int .i64 0,.nil 1,.nil 7,.nil 11,.bool false,.bool false] [(0,7,t 123),(7,1,B false),(8,1,t 134)])<|oS 9 8 135<|N))) [5,7,9,19,118,119,120,121,122,123,124,125,134,135])<|.ret) S) [11,92])) [])<|q (R (of 136 6 3<|ol 137 136<|of 138 7 3<|ol 139 138<|oo 140 (.mx (t 137) (t 139))<|om 20 140<|N) [136,137,138,139,140])<|q (D (.regd [(6,8),(6,11),(6,15),(13,15),(6,18),(13,18),(6,22),(13,22),(20,22),(6,25),(13,25),(20,25)] (of 141 6 1<|ol 142 141<|om 143 20<|of 144 6 3<|ol 145 144<|ot 146 .sub 143 145<|cl 147 146 [t 142,t 146]<|of 148 6 2<|ol 149 148<|om 150 20<|of 151 6 3<|ol 152 151<|ot 153 .sub 150 152<|cl 154 146 [t 149,t 153]<|of 155 7 1<|ol 156 155<|om 157 20<|of 158 7 3<|ol 159 158<|ot 160 .sub 157 159<|cl 161 146 [t 156,t 160]<|of 162 7 2<|ol 163 162<|om 164 20<|of 165 7 3<|ol 166 165<|ot 167 .sub 164 166<|cl 168 146 [t 163,t 167]<|of 169 6 1<|os 169 147<|of 170 6 2<|os 170 154<|of 171 7 1<|os 171 161<|of 172 7 2<|os 172 168<|N)) [141,142,143,144,145,146,147,148,149,150,151,152,153,154,155,156,157,158,159,160,161,162,163,164,165,166,167,168,169,170,171,172])<|q (q (R (of 173 5 0<|ol 174 173<|oi 175 .eql 174 13<|N) [5,173,174])<|D (I 175 (R (of 176 7 2<|ol 177 176<|oo 178 (.neg .i64 (t 177))<|of 179 7 1<|ol 180 179<|oo 181 (.neg .i64 (t 180))<|of 182 7 1<|os 182 178<|of 183 7 2<|os 183 181<|N) [175,176,177,178,179,180,181,182,183]) S) [175])<|q (D (.regd [(5,8),(5,10)] (om 184 12<|of 185 6 1<|ol 186 185<|of 187 7 1<|ol 188 187<|.call (some 189) (.dyn (t 184)) [t 186,t 188] (om 190 12<|of 191 6 2<|ol 192 191<|of 193 7 2<|ol 194 193<|.call (some 195) (.dyn (t 190)) [t 192,t 194] (om 21 189<|om 22 195<|N)))) [12,184,185,186,187,188,189,190,191,192,193,194,195])<|q (D (.regd [(3,7),(6,7)] (oL 196 7 6<|oL 197 7 7<|om 198 20<|cl 199 143 [t 196,t 197,t 198]<|om 200 21<|om 201 22<|cl 202 91 [t 199,t 200,t 201]<|ol 203 9<|oo 204 (.bld [.int .i64 0,.int .i64 0,.int .i64 0,.int .i64 0,.nil 1,.nil 7,.nil 11,.bool false,.bool false] [(0,7,t 202),(7,1,B false),(8,1,t 203)])<|oS 9 8 204<|N)) [6,7,9,20,21,22,196,197,198,199,200,201,202,203,204])<|.ret
theorem ok88:FT 88 205 ir88 [.cell 8 (some 9)]:=.o Tryz.func88
def JSo:Ic:=q (R (oz 5 0<|N) [5])<|q (R (ol 6 2<|om 7 6<|.sc 7 true (om 8 1<|N) (t 8) 9 (os 2 9<|N)) [1,6,7,9])<|q (R (om 10 0<|om 5 10<|N) [0,10])<|.ret
theorem ok139:FT 139 11 JSo [.tmp 5]:=.o Tryz.func139
def JSp:Ic:=q (R (oz 5 0<|N) [5])<|q (D (.regd [(0,3)] (ol 6 2<|om 7 0<|om 8 1<|cl 9 136 [t 7,t 8]<|oe 10 9 0<|oe 11 9 1<|.call (some 12) (.dyn (t 6)) [t 10,t 11] (om 5 12<|N))) [0,1,6,7,8,9,10,11,12])<|.ret
theorem ok140:FT 140 13 JSp [.tmp 5]:=.o Tryz.func140
def JSq:Ic:=q (R (oz 5 0<|N) [5])<|q (D (.regd [(0,4),(0,8)] (ol 6 2<|om 7 0<|om 8 1<|ot 9 .add 7 8<|cl 10 142 [t 9]<|om 11 0<|om 12 1<|ot 13 .add 11 12<|cl 14 142 [t 13]<|om 15 0<|om 16 1<|ot 17 .add 15 16<|ot 18 .eql 14 17<|.call (some 19) (.dyn (t 6)) [t 10,t 18] (om 5 19<|N))) [0,1,6,7,8,9,10,11,12,13,14,15,16,17,18,19])<|.ret
theorem ok141:FT 141 20 JSq [.tmp 5]:=.o Tryz.func141
def JN6:Ic:=q (R (ox 4 1<|oN 6 [.int .i64 0,.int .i64 0,.int .i64 0,.int .i64 0,.nil 1,.nil 7,.nil 11,.bool false,.bool false]<|N) [1])<|q (R (om 18 2<|oo 19 (.ixa true 9 (t 18) (i 0))<|of 20 19 0<|oL 21 7 20<|oN 7 yT<|oS 7 7 21<|N) [18,19,20,21])<|q (q (R (of 22 7 0<|ol 23 22<|oi 24 .neq 23 4<|N) [22,23])<|D (I 24 (q (R (om 25 0<|cl 26 85 [t 25,i 18]<|oS 9 6 26<|N) [0,2,4,7,24,25,26])<|.ret) S) [24])<|q (R (oL 28 7 7<|cl 29 90 [t 28]<|om 27 29<|oe 30 27 0<|oe 31 27 1<|om 8 30<|om 9 31<|N) [28,29,27,30,31])<|q (q (R (of 32 4 0<|ol 33 32<|N) [32])<|D (.block 0<|q (R (oi 35 .eql 33 17<|om 34 35<|N) [35])<|I 34 (q (q (R (om 36 2<|oo 37 (.ixa true 9 (t 36) (i 1))<|of 38 37 0<|of 39 38 0<|ol 40 39<|oi 41 .neq 40 4<|N) [4,7,33,34,36,37,38,39,40])<|D (I 41 (q (R (om 42 0<|cl 43 85 [t 42,i 18]<|oS 9 6 43<|N) [0,2,8,9,41,42,43])<|.ret) S) [0,41])<|q (R (om 45 2<|oo 46 (.ixa true 9 (t 45) (i 1))<|of 47 46 0<|oL 48 7 47<|cl 49 90 [t 48]<|om 44 49<|oe 50 44 0<|oe 51 44 1<|om 10 50<|om 11 51<|N) [2,45,46,47,48,49,44,50,51])<|q (R (om 52 8<|om 53 10<|ot 54 .add 52 53<|oo 55 (.mn (t 54) (i 1024))<|om 56 9<|om 57 11<|ot 58 .add 56 57<|oo 59 (.mn (t 58) (i 1024))<|oo 60 (.bld yT [(0,1,i 4),(1,1,t 55),(2,1,t 59)])<|om 61 9<|om 62 11<|ot 63 .add 61 62<|oi 64 .leq 63 1024<|oo 65 (.bld [.int .i64 0,.int .i64 0,.int .i64 0,.int .i64 0,.nil 1,.nil 7,.nil 11,.bool false,.bool false] [(0,7,t 60),(7,1,B false),(8,1,t 64)])<|oS 9 6 65<|N) [8,9,10,11,52,53,54,55,56,57,58,59,60,61,62,63,64,65])<|.ret) (q (R (oi 67 .eql 33 21<|om 66 67<|N) [8,34,67])<|I 66 (q (D (.regd [(1,8),(3,8),(5,8),(7,8),(1,9),(3,9),(5,9),(7,9),(8,9),(5,10),(7,10)] (om 68 2<|oo 69 (.ixa true 9 (t 68) (i 1))<|of 70 69 0<|oL 71 7 70<|om 72 2<|oo 73 (.ixa true 9 (t 72) (i 2))<|of 74 73 0<|oL 75 7 74<|oN 12 yT<|oN 13 yT<|oS 7 12 71<|oS 7 13 75<|N)) [2,4,7,33,66,68,69,70,71,72,73,74,75])<|q (q (R (of 76 12 0<|ol 77 76<|oi 78 .neq 77 2<|om 79 78<|.sc 79 false (of 80 13 0<|ol 81 80<|oi 82 .neq 81 2<|N) (t 82) 83 N) [76,77,78,79])<|D (I 83 (q (R (om 84 0<|cl 85 85 [t 84,i 18]<|oS 9 6 85<|N) [0,9,12,13,83,84,85])<|.ret) S) [0,83])<|q (R (of 86 13 2<|ol 87 86<|of 88 12 1<|ol 89 88<|oo 90 (.mx (i 0) (t 89))<|ot 91 .sub 87 90<|oo 92 (.mx (i 0) (t 91))<|om 14 92<|N) [86,87,88,89,90,91,92])<|q (R (om 93 9<|om 94 14<|ob 95 .mul (i 4) (t 94)<|oo 96 (.mn (t 93) (t 95))<|oo 97 (.bld yT [(0,1,i 4),(2,1,t 96)])<|of 98 12 1<|ol 99 98<|oi 100 .geq 99 0<|om 101 100<|.sc 101 true (of 102 12 2<|ol 103 102<|of 104 13 1<|ol 105 104<|ot 106 .leq 103 105<|N) (t 106) 107 (oo 108 (.bld [.int .i64 0,.int .i64 0,.int .i64 0,.int .i64 0,.nil 1,.nil 7,.nil 11,.bool false,.bool false] [(0,7,t 97),(7,1,B false),(8,1,t 107)])<|oS 9 6 108<|N)) [9,12,13,14,93,94,95,96,97,98,99,100,101,107,108])<|.ret) (q (R (oi 110 .eql 33 28<|om 109 110<|N) [0,2,9,33,66,110])<|D (I 109 (q (R (cl 111 91 [i (-1),i (-999999999999999),i 999999999999999]<|oo 112 (.bld [.int .i64 0,.int .i64 0,.int .i64 0,.int .i64 0,.nil 1,.nil 7,.nil 11,.bool false,.bool false] [(0,7,t 111),(7,1,B false),(8,1,B false)])<|oS 9 6 112<|N) [4,7,109,111,112])<|.ret) S) [109]))) [10,11])<|q (q (R (of 113 7 4<|ol 114 113<|oh 115 114<|oi 116 .eql 115 0<|N) [113,114,115])<|D (I 116 (q (R (oL 117 7 7<|oo 118 (.bld [.int .i64 0,.int .i64 0,.int .i64 0,.int .i64 0,.nil 1,.nil 7,.nil 11,.bool false,.bool false] [(0,7,t 117),(7,1,B false),(8,1,B true)])<|oS 9 6 118<|N) [4,7,116,117,118])<|.ret) S) [116])<|q (.reg (ok 15 (.k (.nil 1))<|N))<|q (q (R (of 119 7 4<|ol 120 119<|oh 121 120<|oz 122 0<|N) [7,119])<|D (.block 1<|.loop (q (.reg (ot 123 .lss 122 121<|N))<|q (D (I 123 S (E 1)) [123])<|q (D (.block 2<|q (R (oa false 124 1 120 122<|ol 125 124<|om 17 125<|N) [124,125])<|q (R (of 126 4 0<|ol 127 126<|oi 128 .eql 127 19<|N) [126,127])<|I 128 (R (om 129 15<|om 130 17<|cl 131 149 [t 130]<|oo 132 (.bls 1 [t 131])<|oo 133 (.app 1 (t 129) (t 132))<|om 15 133<|N) [17,128,129,130,131,132,133]) (R (om 134 15<|om 135 17<|cl 136 150 [t 135]<|oo 137 (.bls 1 [t 136])<|oo 138 (.app 1 (t 134) (t 137))<|om 15 138<|N) [17,128,134,135,136,137,138])) [])<|R (oi 139 .add 122 1<|om 122 139<|N) [139])) [4,120,121,122,123])<|q (R (om 140 15<|cl 141 117 [t 140]<|N) [140,141])<|q (R (om 142 15<|cl 143 151 [t 142]<|oo 144 (.bld yT [(0,1,i 4),(4,1,t 143)])<|oo 145 (.bld [.int .i64 0,.int .i64 0,.int .i64 0,.int .i64 0,.nil 1,.nil 7,.nil 11,.bool false,.bool false] [(0,7,t 144),(7,1,B false),(8,1,B true)])<|oS 9 6 145<|N) [15,142,143,144,145])<|.ret
theorem JQE:FT 94 146 JN6 [.cell 6 (some 9)]:=.o Tryz.func94
def ir92:Ic:=q (R (ox 3 1<|oN 4 [.int .i64 0,.int .i64 0,.int .i64 0,.int .i64 0,.nil 1,.nil 7,.nil 11,.bool false,.bool false]<|N) [1])<|q (R (oo 6 (.bld yT [(0,1,i 4)])<|oN 5 yT<|oS 7 5 6<|N) [6])<|q (q (R (of 7 3 0<|ol 8 7<|N) [7])<|D (.block 0<|q (R (oi 12 .eql 8 1<|om 11 12<|N) [12])<|I 11 (R (oo 13 (.bls 1 [.k (.str [102,97,108,115,101]),.k (.str [116,114,117,101])])<|of 14 5 4<|os 14 13<|N) [0,3,8,11,13,14]) (q (q (R (oi 16 .eql 8 2<|om 15 16<|N) [11,16])<|I 15 S (R (oi 17 .eql 8 3<|om 15 17<|N) [17]))<|I 15 (R (of 18 5 1<|on (.sto none (t 18) (i 1))<|of 19 5 2<|on (.sto none (t 19) (i 17))<|N) [0,3,8,15,18,19]) (q (R (oi 21 .eql 8 6<|om 20 21<|N) [15,21])<|I 20 (R (of 22 5 1<|on (.sto none (t 22) (i 10))<|of 23 5 2<|on (.sto none (t 23) (i 10))<|N) [0,3,8,20,22,23]) (q (R (oi 25 .eql 8 7<|om 24 25<|N) [20,25])<|I 24 (R (of 26 5 1<|on (.sto none (t 26) (i 20))<|of 27 5 2<|on (.sto none (t 27) (i 24))<|N) [0,3,8,24,26,27]) (q (R (oi 29 .eql 8 4<|om 28 29<|N) [8,24,29])<|I 28 (R (oL 30 7 3<|oS 7 5 30<|N) [0,3,28,30]) (q (R (om 9 0<|cl 10 85 [t 9,i 18]<|oS 9 4 10<|N) [0,3,5,28,9,10])<|.ret)))))) [9,10])<|q (R (oL 31 7 5<|oo 32 (.bld [.int .i64 0,.int .i64 0,.int .i64 0,.int .i64 0,.nil 1,.nil 7,.nil 11,.bool false,.bool false] [(0,7,t 31),(7,1,B false),(8,1,B true)])<|oS 9 4 32<|N) [5,31,32])<|.ret
theorem ok92:FT 92 33 ir92 [.cell 4 (some 9)]:=.o Tryz.func92
def ir79:Ic:=q (R (oz 3 0<|N) [3])<|q (R (ol 4 1<|om 5 0<|oa true 6 9 4 5<|of 7 6 0<|of 8 7 0<|ol 9 8<|om 3 9<|N) [0,4,5,6,7,8,9])<|.ret
theorem ok79:FT 79 10 ir79 [.tmp 3]:=.o Tryz.func79
def ir84:Ic:=q (R (ox 1 0<|ow 2 false<|N) [0,2])<|q (R (of 3 1 0<|of 4 3 0<|ol 5 4<|oi 6 .neq 5 1<|om 2 6<|N) [1,3,4,5,6])<|.ret
theorem ok84:FT 84 7 ir84 [.tmp 2]:=.o Tryz.func84
def ir83:Ic:=q (R (ow 4 false<|N) [4])<|q (R (om 5 0<|om 6 1<|cl 7 137 [t 5,t 6]<|oi 8 .geq 7 0<|om 4 8<|N) [0,1,5,6,7,8])<|.ret
theorem ok83:FT 83 9 ir83 [.tmp 4]:=.o Tryz.func83
def JSr:Ic:=q (R (oz 4 0<|N) [4])<|q (q (R (om 6 0<|oh 7 6<|oz 8 0<|N) [6])<|D (.block 0<|.loop (q (.reg (ot 9 .lss 8 7<|N))<|q (D (I 9 S (E 0)) [9])<|q (D (.block 1<|q (R (om 10 8<|om 5 10<|N) [10])<|q (R (om 11 1<|om 12 0<|om 13 5<|oa true 14 9 12 13<|oL 15 9 14<|.call (some 16) (.dyn (t 11)) [t 15] N) [11,12,13,14,15])<|D (I 16 (q (R (om 17 5<|om 4 17<|N) [0,1,7,8,5,16,17])<|.ret) S) [5,16]) [])<|R (oi 18 .add 8 1<|om 8 18<|N) [18])) [0,1,7,8,9,10,5,11])<|q (.reg (oz 4 (-1)<|N))<|.ret
theorem ok137:FT 137 19 JSr [.tmp 4]:=.o Tryz.func137
def ir53:Ic:=q (R (ow 4 false<|N) [4])<|q (R (om 5 0<|oi 6 .eql 5 23<|om 7 6<|.sc 7 false (om 8 0<|oi 9 .eql 8 24<|om 10 9<|.sc 10 true (om 11 1<|oi 12 .gtr 11 0<|N) (t 12) 13 N) (t 13) 14 (om 4 14<|N)) [0,1,5,6,7,14])<|.ret
theorem ok53:FT 53 15 ir53 [.tmp 4]:=.o Tryz.func53
def ir34:Ic:=q (R (ox 3 1<|oN 4 [.int .i64 0,.int .i64 0,.int .i64 0,.int .i64 0,.nil 1,.nil 7,.nil 11,.bool false,.bool false]<|N) [1])<|q (.reg (ok 5 (.k (.nil 9))<|N))<|q (.reg (ow 6 true<|N))<|q (q (R (of 11 3 4<|ol 12 11<|oh 13 12<|oz 14 0<|N) [11])<|D (.block 0<|.loop (q (.reg (ot 15 .lss 14 13<|N))<|q (D (I 15 S (E 0)) [15])<|q (D (.block 1<|q (R (om 16 14<|oa true 17 5 12 14<|oL 18 5 17<|oN 8 [.int .i64 0,.int .i64 0,.str [],.nil 6,.nil 5]<|om 7 16<|oS 5 8 18<|N) [16,17,18])<|q (R (om 19 0<|oL 20 5 8<|cl 21 34 [t 19,t 20]<|oN 9 [.int .i64 0,.int .i64 0,.int .i64 0,.int .i64 0,.nil 1,.nil 7,.nil 11,.bool false,.bool false]<|oS 9 9 21<|N) [8,19,20,21])<|q (R (om 22 6<|om 23 22<|.sc 23 true (of 24 9 8<|ol 25 24<|N) (t 25) 26 (om 27 26<|.sc 27 true (of 28 9 7<|ol 29 28<|og 30 29<|om 31 30<|.sc 31 false (of 32 3 0<|ol 33 32<|om 34 7<|cl 35 53 [t 33,t 34]<|N) (t 35) 36 N) (t 36) 37 (om 6 37<|N))) [7,22,23,26,27,37])<|R (om 38 5<|oL 39 9 9<|oo 40 (.bls 9 [t 39])<|oo 41 (.app 9 (t 38) (t 40))<|om 5 41<|N) [9,38,39,40,41]) [])<|R (oi 42 .add 14 1<|om 14 42<|N) [42])) [12,13,14,15,8,7,9])<|q (q (R (om 43 0<|oc 44 43<|of 45 44 7<|ol 46 45<|oi 47 .neq 46 0<|N) [43,44,45,46])<|D (I 47 (q (R (oo 48 (.bld [.int .i64 0,.int .i64 0,.int .i64 0,.int .i64 0,.nil 1,.nil 7,.nil 11,.bool false,.bool false] [])<|oS 9 4 48<|N) [0,3,5,6,47,48])<|.ret) S) [47])<|q (R (om 49 0<|oL 50 5 3<|om 51 5<|cl 52 54 [t 49,t 50,t 51]<|oN 10 [.int .i64 0,.int .i64 0,.int .i64 0,.int .i64 0,.nil 1,.nil 7,.nil 11,.bool false,.bool false]<|oS 9 10 52<|N) [0,3,5,49,50,51,52])<|q (R (of 53 10 8<|ol 54 53<|om 55 54<|.sc 55 true (om 56 6<|N) (t 56) 57 (of 58 10 8<|os 58 57<|N)) [6,53,54,55,57,58])<|q (R (oL 59 9 10<|oS 9 4 59<|N) [10,59])<|.ret
theorem ok34:FT 34 60 ir34 [.cell 4 (some 9)]:=.o Tryz.func34
def ir22:Ic:=q (R (ox 2 0<|ox 3 1<|oN 4 [.int .i64 0,.int .i64 0,.int .i64 0,.int .i64 0,.nil 1,.nil 7,.nil 11,.bool false,.bool false]<|oz 5 0<|N) [0,1,5])<|q (q (R (oL 10 5 2<|cl 11 33 [t 10]<|om 6 11<|N) [10,11])<|q (R (om 12 6<|oi 13 .neq 12 0<|N) [12])<|D (I 13 (q (R (oo 14 (.bld [.int .i64 0,.int .i64 0,.int .i64 0,.int .i64 0,.nil 1,.nil 7,.nil 11,.bool false,.bool false] [])<|om 15 6<|oS 9 4 14<|om 5 15<|N) [2,3,6,13,14,15])<|.ret) S) [6,13])<|q (q (R (oL 16 7 3<|cl 17 23 [t 16]<|om 7 17<|N) [16,17])<|q (R (om 18 7<|oi 19 .neq 18 0<|N) [18])<|D (I 19 (q (R (oo 20 (.bld [.int .i64 0,.int .i64 0,.int .i64 0,.int .i64 0,.nil 1,.nil 7,.nil 11,.bool false,.bool false] [])<|om 21 7<|oS 9 4 20<|om 5 21<|N) [2,3,7,19,20,21])<|.ret) S) [7,19])<|q (q (R (of 22 3 0<|ol 23 22<|oi 24 .neq 23 9<|N) [22,23])<|D (I 24 (q (R (oo 25 (.bld [.int .i64 0,.int .i64 0,.int .i64 0,.int .i64 0,.nil 1,.nil 7,.nil 11,.bool false,.bool false] [])<|oS 9 4 25<|oz 5 11<|N) [2,3,24,25])<|.ret) S) [24])<|q (R (oL 26 7 3<|oo 27 (.bld [.int .i64 0,.int .i64 0,.int .i64 0,.int .i64 0,.nil 1,.nil 7,.nil 11,.int .i64 0] [(0,7,t 26)])<|ox 28 27<|om 8 28<|N) [3,26,27,28])<|q (R (om 29 8<|oL 30 5 2<|cl 31 34 [t 29,t 30]<|oN 9 [.int .i64 0,.int .i64 0,.int .i64 0,.int .i64 0,.nil 1,.nil 7,.nil 11,.bool false,.bool false]<|oS 9 9 31<|N) [2,29,30,31])<|q (q (R (om 32 8<|oc 33 32<|of 34 33 7<|ol 35 34<|oi 36 .neq 35 0<|N) [32,33,34,35])<|D (I 36 (q (D (.regd [(4,5)] (oo 37 (.bld [.int .i64 0,.int .i64 0,.int .i64 0,.int .i64 0,.nil 1,.nil 7,.nil 11,.bool false,.bool false] [])<|om 38 8<|oc 39 38<|of 40 39 7<|ol 41 40<|oS 9 4 37<|om 5 41<|N)) [8,9,36,37,38,39,40,41])<|.ret) S) [8,36])<|q (R (of 42 9 0<|oL 43 7 42<|cl 44 35 [t 43]<|of 45 9 0<|oS 7 45 44<|N) [42,43,44,45])<|q (R (oL 46 9 9<|oS 9 4 46<|oz 5 0<|N) [9,46])<|.ret
theorem ok22:FT 22 47 ir22 [.cell 4 (some 9),.tmp 5]:=.o Tryz.func22
def ir56:Ic:=q (R (ok 2 (.k (.nil 1))<|N) [2])<|q (q (R (om 3 0<|oo 4 (.nilq false false (t 3))<|N) [3])<|D (I 4 (q (R (ok 2 (.k (.nil 1))<|N) [0,4])<|.ret) S) [4])<|q (R (oo 5 (.bls 1 [])<|om 6 0<|oo 7 (.app 1 (t 5) (t 6))<|om 2 7<|N) [0,5,6,7])<|.ret
theorem ok56:FT 56 8 ir56 [.tmp 2]:=.o Tryz.func56
def JSs:Ic:=q (R (oz 2 0<|N) [2])<|q (q (R (om 5 0<|oh 6 5<|oi 7 .lss 6 1<|N) [5,6])<|D (I 7 (R (oo 8 (.ifc 9 (.k (.str [115,108,105,99,101,115,46,77,105,110,58,32,101,109,112,116,121,32,108,105,115,116])))<|on .bad<|N) [7,8]) S) [7])<|q (R (om 9 0<|oo 10 (.ixa false 1 (t 9) (i 0))<|ol 11 10<|om 3 11<|N) [9,10,11])<|q (q (.reg (oz 4 1<|N))<|D (.block 0<|.loop (q (q (R (om 12 4<|om 13 0<|oh 14 13<|ot 15 .lss 12 14<|N) [12,13,14])<|D (I 15 S (E 0)) [15])<|q (D (.block 1<|R (om 18 3<|om 19 0<|om 20 4<|oa false 21 1 19 20<|ol 22 21<|oo 23 (.mn (t 18) (t 22))<|om 3 23<|N) [18,19,20,21,22,23]) [])<|R (om 16 4<|oi 17 .add 16 1<|om 4 17<|N) [16,17])) [0,4,15])<|q (R (om 24 3<|om 2 24<|N) [3,24])<|.ret
theorem ok144:FT 144 25 JSs [.tmp 2]:=.o Tryz.func144
def JSt:Ic:=q (R (oz 2 0<|N) [2])<|q (q (R (om 5 0<|oh 6 5<|oi 7 .lss 6 1<|N) [5,6])<|D (I 7 (R (oo 8 (.ifc 9 (.k (.str [115,108,105,99,101,115,46,77,97,120,58,32,101,109,112,116,121,32,108,105,115,116])))<|on .bad<|N) [7,8]) S) [7])<|q (R (om 9 0<|oo 10 (.ixa false 1 (t 9) (i 0))<|ol 11 10<|om 3 11<|N) [9,10,11])<|q (q (.reg (oz 4 1<|N))<|D (.block 0<|.loop (q (q (R (om 12 4<|om 13 0<|oh 14 13<|ot 15 .lss 12 14<|N) [12,13,14])<|D (I 15 S (E 0)) [15])<|q (D (.block 1<|R (om 18 3<|om 19 0<|om 20 4<|oa false 21 1 19 20<|ol 22 21<|oo 23 (.mx (t 18) (t 22))<|om 3 23<|N) [18,19,20,21,22,23]) [])<|R (om 16 4<|oi 17 .add 16 1<|om 4 17<|N) [16,17])) [0,4,15])<|q (R (om 24 3<|om 2 24<|N) [3,24])<|.ret
theorem ok145:FT 145 25 JSt [.tmp 2]:=.o Tryz.func145
end Go.Proofs
namespace Go.Proofs
open Go Av
open Av.Y
end Go.Proofs
namespace Av
open Go
variable [Glb]
mutual
inductive Typ where
 |mk (kind min max scale:Int) (words:List Str) (elem:List Typ) (fields:List TFl)
inductive TFl where
 |mk (number:Int) (name:Str) (need:Int) (type:Typ) (dflt:List Val)
end
namespace Typ
def kind:Typ→Int|.mk k _ _ _ _ _ _=>k
def min:Typ→Int|.mk _ a _ _ _ _ _=>a
def max:Typ→Int|.mk _ _ b _ _ _ _=>b
def scale:Typ→Int|.mk _ _ _ s _ _ _=>s
def words:Typ→List Str|.mk _ _ _ _ w _ _=>w
def elem:Typ→List Typ|.mk _ _ _ _ _ e _=>e
def fields:Typ→List TFl|.mk _ _ _ _ _ _ f=>f
end Typ
namespace TFl
def number:TFl→Int|.mk n _ _ _ _=>n
def name:TFl→Str|.mk _ n _ _ _=>n
def need:TFl→Int|.mk _ _ n _ _=>n
def type:TFl→Typ|.mk _ _ _ t _=>t
def dflt:TFl→List Val|.mk _ _ _ _ d=>d
end TFl
mutual
def JH:Typ→Dat
 |.mk k a b s w e f=>.agg [.int .i64 k,.int .i64 a,.int .i64 b,.int .i64 s,.list 1 (w.map .str),.list 7 (JAI e),.list 11 (JAJ f)]
def JAI:List Typ→List Dat
 |[]=>[]
 |v::r=>JH v::JAI r
def Jn:TFl→Dat
 |.mk n m d t v=>.agg ([.int .i64 n,.str m,.int .i64 d]++((JH t).cells++[.list 6 (v.map JM)]))
def JAJ:List TFl→List Dat
 |[]=>[]
 |v::r=>Jn v::JAJ r
end
theorem JCh:∀l:List Typ,JAI l=l.map JH
 |[]=>by simp[JAI]
 |v::r=>by simp[JAI,JCh r]
theorem JCi:∀l:List TFl,JAJ l=l.map Jn
 |[]=>by simp[JAJ]
 |v::r=>by simp[JAJ,JCi r]
theorem JA(t:Typ):JH t=.agg [.int .i64 t.kind,.int .i64 t.min,.int .i64 t.max,.int .i64 t.scale,.list 1 (t.words.map .str),.list 7 (t.elem.map JH),.list 11 (t.fields.map Jn)]:=by
 cases t;simp[JH,JCh,JCi,Typ.kind,Typ.min,Typ.max,Typ.scale,Typ.words,Typ.elem,Typ.fields]
theorem Jw(f:TFl):Jn f=.agg [.int .i64 f.number,.str f.name,.int .i64 f.need,.int .i64 f.type.kind,.int .i64 f.type.min,.int .i64 f.type.max,.int .i64 f.type.scale,
  .list 1 (f.type.words.map .str),.list 7 (f.type.elem.map JH),.list 11 (f.type.fields.map Jn),.list 6 (f.dflt.map JM)]:=by
 cases f;simp[Jn,JA,TFl.number,TFl.name,TFl.need,TFl.type,TFl.dflt,Dat.cells]
theorem YA{xs:List Typ}{k:Nat}(h:k<xs.length):nth (xs.map JH) k=.agg [.int .i64 xs[k].kind,.int .i64 xs[k].min,.int .i64 xs[k].max,.int .i64 xs[k].scale,.list 1 (xs[k].words.map .str),.list 7 (xs[k].elem.map JH),.list 11 (xs[k].fields.map Jn)]:=by
 rw[Uc (sX h),List.getElem_map,JA]
theorem Ug{xs:List TFl}{k:Nat}(h:k<xs.length):nth (xs.map Jn) k=.agg [.int .i64 xs[k].number,.str xs[k].name,.int .i64 xs[k].need,.int .i64 xs[k].type.kind,.int .i64 xs[k].type.min,.int .i64 xs[k].type.max,.int .i64 xs[k].type.scale,
  .list 1 (xs[k].type.words.map .str),.list 7 (xs[k].type.elem.map JH),.list 11 (xs[k].type.fields.map Jn),.list 6 (xs[k].dflt.map JM)]:=by
 rw[Uc (sX h),List.getElem_map,Jw]
theorem Yy(l:List Str):JQ (l.map .str)=l.map .str:=by
 rw[Jv,List.map_map];exact List.map_congr_left fun p _=>by simp[Dat.canon]
mutual
theorem JBP:∀t:Typ,(JH t).canon=JH t
 |.mk k a b s w e f=>by simp only[JH,Dat.canon,JQ,Yy,JAK e,JAL f]
theorem JAK:∀l:List Typ,JQ (JAI l)=JAI l
 |[]=>by simp[JAI,JQ]
 |v::r=>by simp only[JAI,JQ,JBP v,JAK r]
theorem JEc:∀f:TFl,(Jn f).canon=Jn f
 |.mk n m d t v=>by
  have:=JBP t;cases t with
  |mk k a b s w e f=>
   simp only[JH,Dat.canon,JQ,Dat.agg.injEq,List.cons.injEq,true_and,and_true,Dat.list.injEq]at this;simp only[Jn,JH,Dat.cells,List.cons_append,List.nil_append,Dat.canon,JQ,X8,this]
theorem JAL:∀l:List TFl,JQ (JAJ l)=JAJ l
 |[]=>by simp[JAJ,JQ]
 |v::r=>by simp only[JAJ,JQ,JEc v,JAL r]
end
theorem JAM(l:List Typ):JQ (l.map JH)=l.map JH:=by rw[←JCh,JAK]
theorem JAN(l:List TFl):JQ (l.map Jn)=l.map Jn:=by rw[←JCi,JAL]
attribute [go_sem] Yy JBP JEc JAM JAN
end Av
namespace Go.Proofs
open Go Av
mutual
def szV:Val→Nat
 |.mk _ _ _ _ l f=>1+Y4 l+JIB f
def Y4:List Val→Nat
 |[]=>0
 |v::r=>szV v+Y4 r
def JIB:List Fld→Nat
 |[]=>0
 |.mk _ v::r=>szV v+JIB r
end
theorem JGi(v:Val):szV v=1+Y4 v.list+JIB v.fields:=by cases v;rfl
theorem JIC:∀{l:List Val} {x:Val},x∈l→szV x≤Y4 l
 |v::r,x,h=>by
  rcases VA.1 h with rfl|h
  ·simp only[Y4];omega
  ·have:=JIC h;simp only[Y4];omega
end Go.Proofs
namespace Go.Proofs
open Go Av
open Av.Y
def JSu:Ic:=q (R (ox 1 0<|ow 2 false<|N) [0,2])<|q (R (of 3 1 0<|ol 4 3<|oi 5 .eql 4 0<|om 6 5<|.sc 6 true (of 7 1 1<|ol 8 7<|oi 9 .eql 8 0<|N) (t 9) 10 (om 11 10<|.sc 11 true (of 12 1 2<|ol 13 12<|oi 14 .eql 13 0<|N) (t 14) 15 (om 16 15<|.sc 16 true (of 17 1 3<|ol 18 17<|ob 19 .seq (t 18) (.k (.str []))<|N) (t 19) 20 (om 21 20<|.sc 21 true (of 22 1 4<|ol 23 22<|oh 24 23<|oi 25 .eql 24 0<|N) (t 25) 26 (om 27 26<|.sc 27 true (of 28 1 5<|ol 29 28<|oh 30 29<|oi 31 .eql 30 0<|N) (t 31) 32 (om 2 32<|N)))))) [1,3,4,5,6,10,11,15,16,20,21,26,27,32])<|.ret
theorem ok158:FT 158 33 JSu [.tmp 2]:=.o Tryz.func158
def JJU:Ic:=q (R (om 5 11<|N) [10,11])<|R (oN 6 y6<|oS 6 6 12<|N) [12]
def JGj:Ic:=D (.block 1<|q (R (ol 13 4<|oi 14 .add 13 1<|os 4 14<|N) [13,14])<|q (D (.block 2<|q (R (ol 16 4<|oi 17 .gtr 16 4096<|om 15 17<|N) [4,16,17])<|I 15 (q (R (on (.sto none (t 2) (i 9))<|N) [2,3,5,6,15])<|.ret) (q (R (om 19 5<|oi 20 .gtr 19 8<|om 18 20<|N) [5,15,19,20])<|I 18 (q (R (on (.sto none (t 2) (i 23))<|N) [2,3,6,18])<|.ret) (q (R (oL 22 6 6<|cl 23 158 [t 22]<|om 21 23<|N) [18,22,23])<|I 21 (q (R (on (.sto none (t 2) (i 19))<|N) [2,3,6,21])<|.ret) (q (R (of 25 6 0<|ol 26 25<|oi 27 .lss 26 1<|om 28 27<|.sc 28 false (of 29 6 0<|ol 30 29<|oi 31 .gtr 30 10<|N) (t 31) 32 (om 24 32<|N)) [21,25,26,27,28,29,30,31,32])<|I 24 (q (R (on (.sto none (t 2) (i 11))<|N) [2,3,6,24])<|.ret) (q (R (oL 34 6 6<|cl 35 159 [t 34]<|og 36 35<|om 33 36<|N) [24,34,35,36])<|D (I 33 (q (R (on (.sto none (t 2) (i 3))<|N) [2,3,6,33])<|.ret) S) [33]))))) [4,5,16,17,15,19,20,18,22,23,21,25,26,27,28,29,30,31,32,24,34,35,36,33])<|q (R (of 37 6 0<|ol 38 37<|oo 39 (.ixr 11 1 (t 3) (t 38))<|ol 40 39<|oL 41 6 6<|.call (some 42) (.dyn (t 40)) [t 41] (om 7 42<|N)) [3,6,37,38,39,40,41,42])<|q (R (om 43 7<|oi 44 .neq 43 0<|N) [43])<|D (I 44 (q (R (om 45 7<|os 2 45<|N) [2,7,44,45])<|.ret) S) [2,7,44]) [2,3,4,5,6,13,14,16,17,15,19,20,18,22,23,21,25,26,27,28,29,30,31,32,24,34,35,36,33,37,38,39,40,41,42,7,43,44,45]
noncomputable def JSv:Ic:=q (R (ox 1 0<|oN 2 [.int .i64 0]<|N) [0])<|q (R (cl 8 156 []<|oN 3 [.nilFn,.nilFn,.nilFn,.nilFn,.nilFn,.nilFn,.nilFn,.nilFn,.nilFn,.nilFn,.nilFn]<|oS 11 3 8<|N) [8])<|q (.reg (oN 4 [.int .i64 0]<|on (.sto none (t 4) (i 0))<|N))<|q (q (R (oL 9 6 1<|cl 10 157 [t 9]<|N) [1,9])<|D (.block 0<|D (.rng (t 10) 46 57 #[11,12] (Y3 (YG Tryz.f100) [1,1,1,0,1,0,0]) (Y3 (YG Tryz.f100) [1,1,1,0,1,0,1]) JJU JGj) [3,4,10]) [3,4,10])<|q (.reg (on (.sto none (t 2) (i 0))<|N))<|.ret
theorem ok100:FT 100 46 JSv [.cell 2 none]:=.o Tryz.func100
def JSw:Ic:=q (.reg (oN 0 [.nilFn,.nilFn,.nilFn,.nilFn,.nilFn,.nilFn,.nilFn,.nilFn,.nilFn,.nilFn,.nilFn]<|N))<|q (R (oo 1 (.bld [.nilFn,.nilFn,.nilFn,.nilFn,.nilFn,.nilFn,.nilFn,.nilFn,.nilFn,.nilFn,.nilFn] [(1,1,.k (.fn (.func 207) [] [])),(2,1,.k (.fn (.func 209) [] [])),(3,1,.k (.fn (.func 210) [] [])),(4,1,.k (.fn (.func 212) [] [])),(5,1,.k (.fn (.func 215) [] [])),(6,1,.k (.fn (.func 216) [] [])),(7,1,.k (.fn (.func 217) [] [])),(8,1,.k (.fn (.func 218) [] [])),(9,1,.k (.fn (.func 219) [] [])),(10,1,.k (.fn (.func 220) [] []))])<|oS 11 0 1<|N) [1])<|.ret
theorem ok156:FT 156 2 JSw [.cell 0 (some 11)]:=.o Tryz.func156
def JSx:Ic:=q (R (ox 1 0<|ok 2 (.k .nilFn)<|N) [0,2])<|q (R (oo 3 (.fnv (.func 221) [] [t 1])<|om 2 3<|N) [1,3])<|.ret
theorem ok157:FT 157 4 JSx [.tmp 2]:=.o Tryz.func157
def JSy:Ic:=q (R (ox 1 0<|ow 2 false<|N) [0,2])<|q (R (of 6 1 0<|ol 7 6<|oi 8 .eql 7 1<|om 9 8<|.sc 9 false (of 10 1 0<|ol 11 10<|oi 12 .eql 11 2<|N) (t 12) 13 (om 14 13<|.sc 14 false (of 15 1 0<|ol 16 15<|oi 17 .eql 16 6<|N) (t 17) 18 (om 19 18<|.sc 19 false (of 20 1 0<|ol 21 20<|oi 22 .eql 21 7<|N) (t 22) 23 (om 24 23<|.sc 24 false (of 25 1 0<|ol 26 25<|oi 27 .eql 26 3<|N) (t 27) 28 (om 3 28<|N))))) [6,7,8,9,13,14,18,19,23,24,28])<|q (R (of 29 1 0<|ol 30 29<|oi 31 .eql 30 4<|om 32 31<|.sc 32 false (of 33 1 0<|ol 34 33<|oi 35 .eql 34 5<|N) (t 35) 36 (om 37 36<|.sc 37 false (of 38 1 0<|ol 39 38<|oi 40 .eql 39 10<|N) (t 40) 41 (om 4 41<|N))) [29,30,31,32,36,37,41])<|q (R (of 42 1 0<|ol 43 42<|oi 44 .eql 43 8<|om 45 44<|.sc 45 false (of 46 1 0<|ol 47 46<|oi 48 .eql 47 10<|N) (t 48) 49 (om 5 49<|N)) [42,43,44,45,49])<|q (R (om 50 3<|om 51 50<|.sc 51 false (of 52 1 1<|ol 53 52<|oi 54 .eql 53 0<|N) (t 54) 55 (om 56 55<|.sc 56 true (of 57 1 0<|ol 58 57<|oi 59 .eql 58 3<|om 60 59<|.sc 60 false (of 61 1 2<|ol 62 61<|oi 63 .eql 62 0<|N) (t 63) 64 N) (t 64) 65 (om 66 65<|.sc 66 true (om 67 4<|om 68 67<|.sc 68 false (of 69 1 3<|ol 70 69<|ob 71 .seq (t 70) (.k (.str []))<|N) (t 71) 72 N) (t 72) 73 (om 74 73<|.sc 74 true (om 75 5<|om 76 75<|.sc 76 false (of 77 1 4<|ol 78 77<|oh 79 78<|oi 80 .eql 79 0<|N) (t 80) 81 N) (t 81) 82 (om 83 82<|.sc 83 true (of 84 1 0<|ol 85 84<|oi 86 .eql 85 9<|om 87 86<|.sc 87 false (of 88 1 5<|ol 89 88<|oh 90 89<|oi 91 .eql 90 0<|N) (t 91) 92 N) (t 92) 93 (om 2 93<|N)))))) [1,3,4,5,50,51,55,56,65,66,73,74,82,83,93])<|.ret
theorem ok159:FT 159 94 JSy [.tmp 2]:=.o Tryz.func159
def ir33:Ic:=q (R (ox 1 0<|oz 2 0<|N) [0,2])<|q (.reg (oN 3 [.int .i64 0]<|on (.sto none (t 3) (i 0))<|N))<|q (.reg (oN 4 [.nilFn]<|N))<|q (R (oo 5 (.fnv (.func 51) [] [t 3,t 4])<|os 4 5<|N) [3,5])<|q (R (ol 6 4<|oL 7 5 1<|.call (some 8) (.dyn (t 6)) [t 7,i 1] (om 2 8<|N)) [1,4,6,7,8])<|.ret
theorem ok33:FT 33 9 ir33 [.tmp 2]:=.o Tryz.func33
def ir74:Ic:=q (R (ow 2 false<|N) [2])<|q (R (om 3 0<|oi 4 .eql 3 2<|om 5 4<|.sc 5 false (om 6 0<|oi 7 .eql 6 22<|N) (t 7) 8 (om 9 8<|.sc 9 false (om 10 0<|oi 11 .eql 10 26<|N) (t 11) 12 (om 2 12<|N))) [0,3,4,5,8,9,12])<|.ret
theorem ok74:FT 74 13 ir74 [.tmp 2]:=.o Tryz.func74
def JSz:Ic:=q (R (ox 1 0<|oz 2 0<|N) [0,2])<|q (R (of 3 1 1<|ol 4 3<|cl 5 208 [t 4,i 0,i 1]<|om 2 5<|N) [1,3,4,5])<|.ret
theorem ok207:FT 207 6 JSz [.tmp 2]:=.o Tryz.func207
def JS0:Ic:=q (R (oz 6 0<|N) [6])<|q (q (R (om 7 0<|om 8 1<|ot 9 .lss 7 8<|om 10 9<|.sc 10 false (om 11 0<|om 12 2<|ot 13 .gtr 11 12<|N) (t 13) 14 N) [0,1,2,7,8,9,10])<|D (I 14 (q (R (oz 6 2<|N) [14])<|.ret) S) [14])<|q (.reg (oz 6 0<|N))<|.ret
theorem ok208:FT 208 15 JS0 [.tmp 6]:=.o Tryz.func208
def JS1:Ic:=q (R (ox 1 0<|oz 2 0<|N) [0,2])<|q (R (of 3 1 1<|ol 4 3<|cl 5 208 [t 4,i (-999999999999999),i 999999999999999]<|om 2 5<|N) [1,3,4,5])<|.ret
theorem ok209:FT 209 6 JS1 [.tmp 2]:=.o Tryz.func209
def JS2:Ic:=q (R (ox 1 0<|oz 2 0<|N) [0,2])<|q (D (.regd [(2,4)] (of 3 1 1<|ol 4 3<|cl 5 208 [t 4,i (-999999999999999),i 999999999999999]<|of 6 1 2<|ol 7 6<|cl 8 208 [t 7,i 0,i 12]<|oo 9 (.bls 1 [t 5,t 8])<|cl 10 211 [t 9]<|om 2 10<|N)) [1,3,4,5,6,7,8,9,10])<|.ret
theorem ok210:FT 210 11 JS2 [.tmp 2]:=.o Tryz.func210
def JS3:Ic:=q (R (oz 2 0<|N) [2])<|q (q (R (om 5 0<|oh 6 5<|oz 7 0<|N) [0])<|D (.block 0<|.loop (q (.reg (ot 8 .lss 7 6<|N))<|q (D (I 8 S (E 0)) [8])<|q (D (.block 1<|q (R (oa false 9 1 5 7<|ol 10 9<|om 4 10<|N) [9,10])<|q (R (om 11 4<|oi 12 .neq 11 0<|N) [11])<|D (I 12 (q (R (om 13 4<|om 2 13<|N) [5,6,7,4,12,13])<|.ret) S) [4,12]) [])<|R (oi 14 .add 7 1<|om 7 14<|N) [14])) [5,6,7,8,9,10,4,11])<|q (.reg (oz 2 0<|N))<|.ret
theorem ok211:FT 211 15 JS3 [.tmp 2]:=.o Tryz.func211
def JS4:Ic:=q (R (ox 1 0<|oz 2 0<|N) [0,2])<|q (R (of 4 1 3<|ol 5 4<|oj 6 5<|cl 7 213 [t 6,i 1024,i 5]<|om 3 7<|N) [4,5,6,7])<|q (q (R (om 8 3<|oi 9 .eql 8 0<|om 10 9<|.sc 10 true (of 11 1 3<|ol 12 11<|cl 13 214 [t 12]<|og 14 13<|N) (t 14) 15 N) [1,8,9,10])<|D (I 15 (R (oz 3 16<|N) [15]) S) [15])<|q (R (om 16 3<|om 2 16<|N) [3,16])<|.ret
theorem ok212:FT 212 17 JS4 [.tmp 2]:=.o Tryz.func212
def JS5:Ic:=q (R (oz 6 0<|N) [6])<|q (q (R (om 7 0<|om 8 1<|ot 9 .gtr 7 8<|N) [0,1,7,8])<|D (I 9 (q (R (om 10 2<|om 6 10<|N) [2,9,10])<|.ret) S) [2,9])<|q (.reg (oz 6 0<|N))<|.ret
theorem ok213:FT 213 11 JS5 [.tmp 6]:=.o Tryz.func213
def JS6:Ic:=q (R (ox 1 0<|oz 2 0<|N) [0,2])<|q (R (of 3 1 3<|ol 4 3<|oj 5 4<|cl 6 213 [t 5,i 1024,i 5]<|om 2 6<|N) [1,3,4,5,6])<|.ret
theorem ok215:FT 215 7 JS6 [.tmp 2]:=.o Tryz.func215
def JS7:Ic:=q (R (ox 1 0<|oz 2 0<|N) [0,2])<|q (R (of 3 1 1<|ol 4 3<|cl 5 208 [t 4,i (-719162),i 2932896]<|om 2 5<|N) [1,3,4,5])<|.ret
theorem ok216:FT 216 6 JS7 [.tmp 2]:=.o Tryz.func216
def JS8:Ic:=q (R (ox 1 0<|oz 2 0<|N) [0,2])<|q (R (of 3 1 1<|ol 4 3<|cl 5 208 [t 4,i (-62135596800000),i 253402300799999]<|om 2 5<|N) [1,3,4,5])<|.ret
theorem ok217:FT 217 6 JS8 [.tmp 2]:=.o Tryz.func217
def JS9:Ic:=q (R (ox 1 0<|oz 2 0<|N) [0,2])<|q (R (of 3 1 4<|ol 4 3<|oh 5 4<|cl 6 213 [t 5,i 256,i 9]<|om 2 6<|N) [1,3,4,5,6])<|.ret
theorem ok218:FT 218 7 JS9 [.tmp 2]:=.o Tryz.func218
def JTA:Ic:=q (R (ox 1 0<|oz 2 0<|N) [0,2])<|q (q (R (of 6 1 5<|ol 7 6<|oh 8 7<|cl 9 213 [t 8,i 64,i 9]<|om 3 9<|N) [6,7,8,9])<|q (R (om 10 3<|oi 11 .neq 10 0<|N) [10])<|D (I 11 (q (R (om 12 3<|om 2 12<|N) [1,3,11,12])<|.ret) S) [3,11])<|q (q (R (of 13 1 5<|ol 14 13<|oh 15 14<|oz 16 0<|N) [13])<|D (.block 0<|.loop (q (.reg (ot 17 .lss 16 15<|N))<|q (D (I 17 S (E 0)) [17])<|q (D (.block 1<|q (R (om 18 16<|oa true 19 7 14 16<|oL 20 7 19<|oN 5 y7<|om 4 18<|oS 7 5 20<|N) [18,19,20])<|D (.block 2<|q (R (of 22 5 0<|ol 23 22<|cl 24 153 [t 23]<|og 25 24<|om 21 25<|N) [22,23,24,25])<|D (I 21 (q (R (oz 2 12<|N) [1,14,15,16,5,4,21])<|.ret) (q (R (om 27 4<|oi 28 .gtr 27 0<|om 29 28<|.sc 29 true (of 30 5 0<|ol 31 30<|of 32 1 5<|ol 33 32<|om 34 4<|oi 35 .sub 34 1<|oa true 36 7 33 35<|of 37 36 0<|ol 38 37<|ot 39 .seq 31 38<|N) (t 39) 40 (om 26 40<|N)) [21,27,28,29,40])<|D (I 26 (q (R (oz 2 7<|N) [1,14,15,16,5,4,26])<|.ret) (q (R (om 42 4<|oi 43 .gtr 42 0<|om 44 43<|.sc 44 true (of 45 5 0<|ol 46 45<|of 47 1 5<|ol 48 47<|om 49 4<|oi 50 .sub 49 1<|oa true 51 7 48 50<|of 52 51 0<|ol 53 52<|ot 54 .slt 46 53<|N) (t 54) 55 (om 41 55<|N)) [5,4,26,42,43,44,55])<|D (I 41 (q (R (oz 2 24<|N) [1,14,15,16,41])<|.ret) S) [41])) [])) []) []) [])<|R (oi 56 .add 16 1<|om 16 56<|N) [56])) [1,14,15,16,17,5,4])<|q (.reg (oz 2 0<|N))<|.ret
theorem JTB:FT 219 57 JTA [.tmp 2]:=.o Tryz.func219
def JTC:Ic:=q (R (ox 1 0<|oz 2 0<|N) [0,2])<|q (D (.block 0<|q (R (of 4 1 3<|ol 5 4<|cl 6 153 [t 5]<|og 7 6<|om 3 7<|N) [4,5,6,7])<|D (I 3 (q (R (oz 2 12<|N) [1,3])<|.ret) (q (R (of 9 1 4<|ol 10 9<|oh 11 10<|oi 12 .eql 11 0<|om 8 12<|N) [3,9,10,11,12])<|D (I 8 (q (R (oz 2 4<|N) [1,8])<|.ret) S) [8])) []) [])<|q (R (of 13 1 4<|ol 14 13<|oh 15 14<|cl 16 213 [t 15,i 1,i 3]<|om 2 16<|N) [1,13,14,15,16])<|.ret
theorem ok220:FT 220 17 JTC [.tmp 2]:=.o Tryz.func220
def JN7:Ic:=R (oL 3 6 1<|om 4 0<|cl 5 222 [t 3,i 1,t 4]<|N) [0,3,4,5]
theorem JID:FT 221 6 JN7 []:=.o Tryz.func221
def JKw:Ic:=q (R (ox 3 0<|ow 6 false<|N) [0,6])<|q (q (R (om 9 2<|om 10 1<|oL 11 6 3<|.call (some 12) (.dyn (t 9)) [t 10,t 11] (og 13 12<|N)) [9,10,11,12])<|D (I 13 (q (R (ow 6 false<|N) [1,2,3,13])<|.ret) S) [13])<|q (q (R (oL 14 6 3<|cl 15 257 [t 14]<|oh 16 15<|oz 17 0<|N) [3,14])<|D (.block 0<|.loop (q (.reg (ot 18 .lss 17 16<|N))<|q (D (I 18 S (E 0)) [18])<|q (D (.block 1<|q (R (oa true 19 6 15 17<|oL 20 6 19<|oN 8 y6<|oS 6 8 20<|N) [19,20])<|q (R (oL 21 6 8<|om 22 1<|oi 23 .add 22 1<|om 24 2<|cl 25 222 [t 21,t 23,t 24]<|og 26 25<|N) [8,21,22,23,24,25])<|D (I 26 (q (R (ow 6 false<|N) [1,2,15,16,17,26])<|.ret) S) [26]) [])<|R (oi 27 .add 17 1<|om 17 27<|N) [27])) [1,2,15,16,17,18,8])<|q (.reg (ow 6 true<|N))<|.ret
theorem JIE:FT 222 28 JKw [.tmp 6]:=.o Tryz.func222
def ir51:Ic:=q (R (ox 4 0<|oz 6 0<|N) [0,6])<|q (q (R (ol 11 2<|oi 12 .eql 11 256<|N) [11])<|D (I 12 (q (R (oz 6 9<|N) [1,4,12])<|.ret) S) [12])<|q (R (ol 13 2<|oi 14 .add 13 1<|os 2 14<|N) [13,14])<|q (q (R (om 15 1<|oi 16 .gtr 15 8<|N) [15])<|D (I 16 (q (R (oz 6 23<|N) [1,4,16])<|.ret) S) [16])<|q (q (R (oL 17 5 4<|cl 18 52 [t 17]<|om 7 18<|N) [17,18])<|q (R (om 19 7<|oi 20 .neq 19 0<|N) [19])<|D (I 20 (q (R (om 21 7<|om 6 21<|N) [1,4,7,20,21])<|.ret) S) [7,20])<|q (q (R (of 22 4 4<|ol 23 22<|oh 24 23<|oz 25 0<|N) [4,22])<|D (.block 0<|.loop (q (.reg (ot 26 .lss 25 24<|N))<|q (D (I 26 S (E 0)) [26])<|q (D (.block 1<|q (R (oa true 27 5 23 25<|oL 28 5 27<|oN 9 [.int .i64 0,.int .i64 0,.str [],.nil 6,.nil 5]<|oS 5 9 28<|N) [27,28])<|q (R (ol 29 3<|oL 30 5 9<|om 31 1<|oi 32 .add 31 1<|.call (some 33) (.dyn (t 29)) [t 30,t 32] (om 10 33<|N)) [9,29,30,31,32,33])<|q (R (om 34 10<|oi 35 .neq 34 0<|N) [34])<|D (I 35 (q (R (om 36 10<|om 6 36<|N) [1,23,24,25,10,35,36])<|.ret) S) [10,35]) [])<|R (oi 37 .add 25 1<|om 25 37<|N) [37])) [1,23,24,25,26,9,10])<|q (.reg (oz 6 0<|N))<|.ret
theorem ok51:FT 51 38 ir51 [.tmp 6]:=.o Tryz.func51
def ir52:Ic:=q (R (ox 1 0<|oz 2 0<|N) [0,2])<|q (q (R (of 8 1 0<|ol 9 8<|oi 10 .lss 9 1<|om 11 10<|.sc 11 false (of 12 1 0<|ol 13 12<|oi 14 .gtr 13 28<|N) (t 14) 15 N) [8,9,10,11])<|D (I 15 (q (R (oz 2 11<|N) [1,15])<|.ret) S) [15])<|q (R (of 17 1 0<|ol 18 17<|cl 19 73 [t 18]<|om 16 19<|oe 20 16 0<|oe 21 16 1<|om 3 20<|om 4 21<|N) [17,18,19,16,20,21])<|q (D (.block 0<|q (R (of 23 1 0<|ol 24 23<|oi 25 .neq 24 1<|om 26 25<|.sc 26 true (of 27 1 3<|ol 28 27<|oh 29 28<|oi 30 .gtr 29 0<|N) (t 30) 31 (om 32 31<|.sc 32 false (of 33 1 0<|ol 34 33<|cl 35 74 [t 34]<|og 36 35<|om 37 36<|.sc 37 true (of 38 1 2<|ol 39 38<|ob 40 .sne (t 39) (.k (.str []))<|N) (t 40) 41 N) (t 41) 42 (om 43 42<|.sc 43 false (of 44 1 0<|ol 45 44<|cl 46 75 [t 45]<|og 47 46<|om 48 47<|.sc 48 true (of 49 1 1<|ol 50 49<|oi 51 .neq 50 0<|N) (t 51) 52 N) (t 52) 53 (om 22 53<|N)))) [23,24,25,26,31,32,42,43,53])<|D (I 22 (q (R (oz 2 3<|N) [1,3,4,22])<|.ret) (q (R (om 55 4<|oi 56 .eql 55 0<|om 57 56<|.sc 57 true (of 58 1 4<|ol 59 58<|oh 60 59<|oi 61 .gtr 60 0<|N) (t 61) 62 (om 54 62<|N)) [22,55,56,57,62])<|D (I 54 (q (R (oz 2 3<|N) [1,3,4,54])<|.ret) (q (R (of 64 1 4<|ol 65 64<|oh 66 65<|om 67 3<|ot 68 .lss 66 67<|om 63 68<|N) [3,54,64,65,66,67,68])<|D (I 63 (q (R (oz 2 4<|N) [1,4,63])<|.ret) (q (R (of 70 1 4<|ol 71 70<|oh 72 71<|om 73 4<|ot 74 .gtr 72 73<|om 75 74<|.sc 75 true (of 76 1 0<|ol 77 76<|oi 78 .neq 77 25<|N) (t 78) 79 (om 69 79<|N)) [4,63,70,71,72,73,74,75,79])<|D (I 69 (q (R (oz 2 3<|N) [1,69])<|.ret) (q (R (of 81 1 0<|ol 82 81<|oi 83 .eql 82 1<|om 80 83<|N) [69,81,82,83])<|D (I 80 (q (R (of 84 1 3<|ol 85 84<|cl 86 76 [t 85]<|om 2 86<|N) [1,80,84,85,86])<|.ret) (q (R (of 88 1 0<|ol 89 88<|cl 90 74 [t 89]<|om 87 90<|N) [80,88,89,90])<|D (I 87 (q (R (of 92 1 2<|ol 93 92<|cl 94 70 [t 93]<|om 91 94<|oe 95 91 0<|oe 96 91 1<|om 5 95<|om 6 96<|N) [87,92,93,94,91,95,96])<|q (q (R (om 97 6<|oi 98 .neq 97 0<|N) [97])<|D (I 98 (q (R (om 99 6<|om 2 99<|N) [1,5,6,98,99])<|.ret) S) [6,98])<|q (R (om 100 5<|cl 101 77 [t 100,.k (.fn (.func 78) [] [])]<|om 7 101<|N) [5,100,101])<|q (R (om 102 7<|of 103 1 0<|ol 104 103<|oi 105 .eql 104 26<|ot 106 .bne 102 105<|N) [7,102,103,104,105])<|D (I 106 (q (R (oz 2 22<|N) [1,106])<|.ret) S) [106]) S) [87])) [])) [])) [])) [])) []) [5,6,7])<|q (q (R (of 107 1 0<|ol 108 107<|cl 109 75 [t 108]<|om 110 109<|.sc 110 true (of 111 1 1<|ol 112 111<|oi 113 .lss 112 0<|om 114 113<|.sc 114 false (of 115 1 1<|ol 116 115<|oi 117 .gtr 116 12<|N) (t 117) 118 N) (t 118) 119 N) [1,107,108,109,110])<|D (I 119 (q (R (oz 2 2<|N) [119])<|.ret) S) [119])<|q (.reg (oz 2 0<|N))<|.ret
theorem ok52:FT 52 120 ir52 [.tmp 2]:=.o Tryz.func52
def JIF:Ic:=q (R (ox 1 0<|ok 2 (.k (.nil 6))<|N) [0,2])<|q (q (R (of 6 1 0<|ol 7 6<|N) [6])<|D (.block 0<|q (q (R (oi 9 .eql 7 8<|om 8 9<|N) [9])<|I 8 S (R (oi 10 .eql 7 10<|om 8 10<|N) [10]))<|D (I 8 (q (R (of 11 1 4<|ol 12 11<|om 2 12<|N) [1,7,8,11,12])<|.ret) (q (R (oi 14 .eql 7 9<|om 13 14<|N) [7,8,14])<|D (I 13 (q (R (ok 3 (.k (.nil 6))<|N) [13])<|q (q (R (of 15 1 5<|ol 16 15<|oh 17 16<|oz 18 0<|N) [1,15])<|D (.block 1<|.loop (q (.reg (ot 19 .lss 18 17<|N))<|q (D (I 19 S (E 1)) [19])<|q (D (.block 2<|q (R (oa true 20 7 16 18<|oL 21 7 20<|oN 5 y7<|oS 7 5 21<|N) [20,21])<|R (om 22 3<|of 23 5 1<|oL 24 6 23<|oo 25 (.bls 6 [t 24])<|oo 26 (.app 6 (t 22) (t 25))<|om 3 26<|N) [5,22,23,24,25,26]) [])<|R (oi 27 .add 18 1<|om 18 27<|N) [27])) [16,17,18,19,5])<|q (R (om 28 3<|om 2 28<|N) [3,28])<|.ret) S) [1,13])) []) [10,11,3,5])<|q (.reg (ok 2 (.k (.nil 6))<|N))<|.ret
theorem ok257:FT 257 29 JIF [.tmp 2]:=.o Tryz.func257
def JAs:Ic:=q (R (oz 2 0<|oz 3 0<|N) [2,3])<|q (q (R (om 4 0<|N) [0])<|D (.block 0<|q (q (R (oi 6 .eql 4 1<|om 5 6<|N) [6])<|I 5 S (q (R (oi 7 .eql 4 2<|om 5 7<|N) [7])<|I 5 S (q (R (oi 8 .eql 4 22<|om 5 8<|N) [8])<|I 5 S (R (oi 9 .eql 4 26<|om 5 9<|N) [9]))))<|D (I 5 (q (R (oz 2 0<|oz 3 0<|N) [4,5])<|.ret) (q (q (R (oi 11 .eql 4 3<|om 10 11<|N) [5,11])<|I 10 S (q (R (oi 12 .eql 4 16<|om 10 12<|N) [12])<|I 10 S (q (R (oi 13 .eql 4 18<|om 10 13<|N) [13])<|I 10 S (q (R (oi 14 .eql 4 19<|om 10 14<|N) [14])<|I 10 S (q (R (oi 15 .eql 4 20<|om 10 15<|N) [15])<|I 10 S (q (R (oi 16 .eql 4 27<|om 10 16<|N) [16])<|I 10 S (R (oi 17 .eql 4 28<|om 10 17<|N) [17])))))))<|D (I 10 (q (R (oz 2 1<|oz 3 1<|N) [4,10])<|.ret) (q (q (R (oi 19 .eql 4 21<|om 18 19<|N) [10,19])<|I 18 S (R (oi 20 .eql 4 24<|om 18 20<|N) [20]))<|D (I 18 (q (R (oz 2 3<|oz 3 3<|N) [4,18])<|.ret) (q (R (oi 22 .eql 4 25<|om 21 22<|N) [4,18,22])<|D (I 21 (q (R (oz 2 2<|oz 3 256<|N) [21])<|.ret) S) [21])) [])) [])) []) [7,8,9])<|q (.reg (oz 2 2<|oz 3 2<|N))<|.ret
theorem ok73:FT 73 23 JAs [.tmp 2,.tmp 3]:=.o Tryz.func73
def ir75:Ic:=q (R (ow 2 false<|N) [2])<|q (R (om 3 0<|oi 4 .eql 3 15<|om 5 4<|.sc 5 false (om 6 0<|oi 7 .eql 6 26<|N) (t 7) 8 (om 2 8<|N)) [0,3,4,5,8])<|.ret
theorem ok75:FT 75 9 ir75 [.tmp 2]:=.o Tryz.func75
def JQF:Ic:=q (R (oz 2 0<|N) [2])<|q (q (R (om 4 0<|oh 5 4<|N) [4])<|D (.block 0<|q (R (oi 7 .eql 5 0<|om 6 7<|N) [7])<|D (I 6 (q (R (oz 2 4<|N) [0,5,6])<|.ret) (q (R (oi 9 .eql 5 1<|om 8 9<|N) [5,6,9])<|D (I 8 (q (q (R (om 10 0<|oo 11 (.ixa true 6 (t 10) (i 0))<|oL 12 6 11<|cl 13 100 [t 12]<|om 3 13<|N) [8,10,11,12,13])<|q (R (om 14 3<|oi 15 .neq 14 0<|N) [14])<|D (I 15 (q (R (om 16 3<|om 2 16<|N) [0,3,15,16])<|.ret) S) [3,15])<|q (q (R (om 17 0<|oo 18 (.ixa true 6 (t 17) (i 0))<|of 19 18 0<|ol 20 19<|cl 21 132 [t 20]<|og 22 21<|N) [0,17,18,19,20,21])<|D (I 22 (q (R (oz 2 18<|N) [22])<|.ret) S) [22])<|q (.reg (oz 2 0<|N))<|.ret) S) [0,8])) []) [10,11,3])<|q (.reg (oz 2 3<|N))<|.ret
theorem ok76:FT 76 23 JQF [.tmp 2]:=.o Tryz.func76
def ir78:Ic:=q (R (ox 1 0<|ow 2 false<|N) [0,2])<|q (R (of 3 1 0<|ol 4 3<|oi 5 .eql 4 3<|om 2 5<|N) [1,3,4,5])<|.ret
theorem ok78:FT 78 6 ir78 [.tmp 2]:=.o Tryz.func78
def JTD:Ic:=q (R (ow 2 false<|N) [2])<|q (R (om 3 0<|oi 4 .geq 3 1<|om 5 4<|.sc 5 true (om 6 0<|oi 7 .leq 6 7<|N) (t 7) 8 (om 2 8<|N)) [0,3,4,5,8])<|.ret
theorem ok132:FT 132 9 JTD [.tmp 2]:=.o Tryz.func132
end Go.Proofs
namespace Go.Proofs
open Go Av Go.RowKit
def btw(n lo hi:Int):Int:=if decide (n<lo)||decide (n>hi)then 2 else 0
theorem JAk(n lo hi:Int):PT 208 [.int .i64 n,.int .i64 lo,.int .i64 hi] (.d (.int .i64 (btw n lo hi))):=by
 refine ok208.pc ?_;simp only[go_sem,JS0,simprocAttr];refine sq (decide (n>hi)) ?_ ?_
 ·exact zz trivial
 refine zz ?_;apply ik<;>intro h
 ·rw[btw,if_pos h]
 ·rw[btw,if_neg (by simp[h])]
def szE(n m e:Int):Int:=if decide (n>m)then e else 0
theorem JB5(n m e:Int):PT 213 [.int .i64 n,.int .i64 m,.int .i64 e] (.d (.int .i64 (szE n m e))):=by
 refine ok213.pc ?_;simp only[go_sem,JS5,simprocAttr];apply ik<;>intro h
 ·rw[szE,if_pos h]
 ·rw[szE,if_neg (by simp[h])]
theorem JQG(v:Val):PT 207 [JM v] (.d (.int .i64 (btw v.int 0 1))):=by
 refine ok207.pc ?_;rw[JI];simp only[go_sem,JSz,Vc,simprocAttr];refine wc ((JAk _ _ _).call trivial) trivial
theorem JQH(v:Val):PT 209 [JM v] (.d (.int .i64 (btw v.int (-999999999999999) 999999999999999))):=by
 refine ok209.pc ?_;rw[JI];simp only[go_sem,JS1,Vc,simprocAttr];refine wc ((JAk _ _ _).call trivial) trivial
theorem JQI(v:Val):PT 216 [JM v] (.d (.int .i64 (btw v.int (-719162) 2932896))):=by
 refine ok216.pc ?_;rw[JI];simp only[go_sem,JS7,Vc,simprocAttr];refine wc ((JAk _ _ _).call trivial) trivial
theorem JQJ(v:Val):PT 217 [JM v] (.d (.int .i64 (btw v.int (-62135596800000) 253402300799999))):=by
 refine ok217.pc ?_;rw[JI];simp only[go_sem,JS8,Vc,simprocAttr];refine wc ((JAk _ _ _).call trivial) trivial
theorem JQK(v:Val):PT 215 [JM v] (.d (.int .i64 (szE v.text.length 1024 5))):=by
 refine ok215.pc ?_;rw[JI];simp only[go_sem,JS6,Vc,simprocAttr];refine wc ((JB5 _ _ _).call trivial) trivial
theorem JQL(v:Val):PT 218 [JM v] (.d (.int .i64 (szE v.list.length 256 9))):=by
 refine ok218.pc ?_;rw[JI];simp only[go_sem,JS9,Vc,simprocAttr];refine wc ((JB5 _ _ _).call trivial) trivial
def JGk:List Int→Int
 |[]=>0
 |x::r=>if x !=0 then x else JGk r
theorem JQM(l:List Int)(hl:l.length≤68719476736):PT 211 [.list 1 (l.map fun x=>.int .i64 x)] (.d (.int .i64 (JGk l))):=by
 refine ok211.pc ?_;simp only[go_sem,JS3,Vc,simprocAttr];generalize hR:JGk l=R;refine JJ (fun n s=>∃k:Nat,k≤l.length∧n=l.length-k∧R=JGk (l.drop k)∧
  s=⟨[(5,.d (.list 1 (l.map fun x=>.int .i64 x))),(6,.d (.int .i64 l.length)),(7,.d (.int .i64 k))],[]⟩) ?_ ?_
 ·exact⟨_,_,Wk.refl _,0,Nat.zero_le _,rfl,hR.symm,rfl⟩
 ·rintro n s ⟨k,hk,rfl,hinv,rfl⟩;by_cases hlt:k<l.length
  ·have hx:nth (l.map fun x=>Dat.int .i64 x) k=.int .i64 l[k]:=by rw[Uc (sX hlt)];simp
   have hd:=dT hlt;rw[Vq hlt,JGk]at hinv;refine zz6 ?_;refine⟨oM,dC,fun hf=>?_,fun hf=>?_⟩
   ·rw[if_pos hf]at hinv;rw[hinv]
   ·rw[if_neg (by simp[hf])]at hinv;refine⟨l.length-(k+1),_,oM,Wk.less ?_,k+1,oM,rfl,hinv,rfl⟩;exact zz7 trivial
  ·have hd:=dF hlt;obtain rfl:k=l.length:=oM;rw[List.drop_length,JGk]at hinv;simp only[go_sem,hd,hinv,simprocAttr]
theorem JQN(v:Val):PT 210 [JM v] (.d (.int .i64 (JGk [btw v.int (-999999999999999) 999999999999999,btw v.scale 0 12]))):=by
 refine ok210.pc ?_;rw[JI];simp only[go_sem,JS2,simprocAttr];refine JE rfl ((JAk _ _ _).call trivial) trivial ?_;refine zz ?_;refine JE rfl ((JAk _ _ _).call trivial) trivial ?_;refine zz ?_;refine⟨sP,?_⟩;refine JE rfl ((JQM [btw v.int (-999999999999999) 999999999999999,btw v.scale 0 12] sP).call trivial) trivial ?_;refine zz ?_;rfl
def JN8(v:Val):Bool:=(v.kind==0)&&(v.int==0)&&(v.scale==0)&&(v.text==[])&&(((v.list.length:Nat):Int)==0)&&(((v.fields.length:Nat):Int)==0)
theorem JQO(v:Val):PT 158 [JM v] (.d (.bool (JN8 v))):=by
 refine ok158.pc ?_;rw[JI];simp only[go_sem,JSu,simprocAttr];refine sq (v.int==0) ?_ ?_
 ·exact zz trivial
 refine zz ?_;refine sq (v.scale==0) ?_ ?_
 ·exact zz trivial
 refine zz ?_;refine sq (v.text==[]) ?_ ?_
 ·exact zz trivial
 refine zz ?_;refine sq (((v.list.length:Nat):Int)==0) ?_ ?_
 ·exact zz4 trivial
 refine zz ?_;refine sq (((v.fields.length:Nat):Int)==0) ?_ ?_
 ·exact zz4 trivial
 simp only[go_sem,JN8,simprocAttr]
def useN(v:Val):Bool:=(v.kind==1)||(v.kind==2)||(v.kind==6)||(v.kind==7)||(v.kind==3)
def JQP(v:Val):Bool:=(v.kind==4)||(v.kind==5)||(v.kind==10)
def JQQ(v:Val):Bool:=(v.kind==8)||(v.kind==10)
def JEd(v:Val):Bool:=(useN v||(v.int==0))&&((v.kind==3)||(v.scale==0))&&(JQP v||(v.text==[]))&&(JQQ v||(((v.list.length:Nat):Int)==0))&&((v.kind==9)||(((v.fields.length:Nat):Int)==0))
theorem JQR(v:Val):PT 159 [JM v] (.d (.bool (JEd v))):=by
 refine ok159.pc ?_;rw[JI];simp only[go_sem,JSy,simprocAttr];refine sq (v.kind==2) ?_ ?_
 ·exact zz trivial
 refine zz ?_;refine sq (v.kind==6) ?_ ?_
 ·exact zz trivial
 refine zz ?_;refine sq (v.kind==7) ?_ ?_
 ·exact zz trivial
 refine zz ?_;refine sq (v.kind==3) ?_ ?_
 ·exact zz trivial
 refine zz ?_;refine sq (v.kind==5) ?_ ?_
 ·exact zz trivial
 refine zz ?_;refine sq (v.kind==10) ?_ ?_
 ·exact zz trivial
 refine zz ?_;refine sq (v.kind==10) ?_ ?_
 ·exact zz trivial
 refine zz ?_;refine sq (v.int==0) ?_ ?_
 ·exact zz trivial
 refine zz ?_;refine sq ((v.kind==3)||(v.scale==0)) ?_ ?_
 ·refine zz ?_;refine sq (v.scale==0) ?_ ?_
  ·exact zz trivial
  exact zz trivial
 refine zz ?_;refine sq (JQP v||(v.text==[])) ?_ ?_
 ·refine zz ?_;refine sq (v.text==[]) ?_ ?_
  ·exact zz trivial
  simp only[go_sem,JQP,simprocAttr]
 refine zz ?_;refine sq (JQQ v||(((v.list.length:Nat):Int)==0)) ?_ ?_
 ·refine zz ?_;refine sq (((v.list.length:Nat):Int)==0) ?_ ?_
  ·exact zz4 trivial
  simp only[go_sem,JQQ,simprocAttr]
 refine zz ?_;refine sq ((v.kind==9)||(((v.fields.length:Nat):Int)==0)) ?_ ?_
 ·refine zz ?_;refine sq (((v.fields.length:Nat):Int)==0) ?_ ?_
  ·exact zz4 trivial
  exact zz trivial
 simp only[go_sem,JEd,useN,simprocAttr]
def Uh(v:Val):List Val:=if v.kind=8∨v.kind=10 then v.list else if v.kind=9 then v.fields.map Fld.value else[]
theorem JEe(v:Val)(h:v.list.length≤68719476736)(h2:v.fields.length≤68719476736):(Uh v).length≤68719476736:=by
 unfold Uh;split
 ·exact h
 ·split
  ·simpa using h2
  ·simp
theorem JKx(v:Val)(h2:v.fields.length≤68719476736):PT 257 [JM v] (.d (.list 6 ((Uh v).map JM))):=by
 refine ok257.pc ?_;rw[JI];by_cases h:v.kind=8∨v.kind=10
 ·have hp:Uh v=v.list:=by unfold Uh;rw[if_pos h]
  rw[hp];rcases h with h|h
  ·rw[h];simp only[go_sem,JIF,beq_self_eq_true,simprocAttr]
  ·rw[h];have q:((10:Int)==8)=false:=rfl;simp only[go_sem,JIF,q,beq_self_eq_true,simprocAttr]
 ·have q8:(v.kind==8)=false:=sO;have q10:(v.kind==10)=false:=sO;by_cases h9:v.kind=9
  ·have hp:Uh v=v.fields.map Fld.value:=by unfold Uh;rw[if_neg h,if_pos h9]
   rw[hp];have q9:(v.kind==9)=true:=by simp[h9]
   simp only[go_sem,JIF,q8,q9,q10,Vc,simprocAttr];refine JJ (fun n s=>∃k:Nat,k≤v.fields.length∧n=v.fields.length-k∧
    s=⟨[(3,.ms 26 k),(16,.d (.list 7 (v.fields.map UP))),(17,.d (.int .i64 v.fields.length)),(18,.d (.int .i64 k))],[(26,.row k 6 (((v.fields.take k).map Fld.value).map JM))]⟩) ?_ ?_
   ·refine⟨_,_,(Wk.JG9 3 26 6 rfl rfl dC).trans (Wk.less ?_),0,Nat.zero_le _,rfl,rfl⟩;simp[put,go_sem]
   ·rintro n s ⟨k,hk,rfl,rfl⟩;by_cases hlt:k<v.fields.length
    ·have hx:=Xd hlt;have hd:=dT hlt;refine zz6 ?_;refine⟨⟨oM,oM⟩,sP,sO,v.fields.length-(k+1),_,oM,Wk.less ?_,k+1,oM,rfl,rfl⟩;simp only[go_sem,JS k oM,List.take_succ_eq_append_getElem hlt,Vw,Va,Vb,JI,simprocAttr]
    ·have hd:=dF hlt;obtain rfl:k=v.fields.length:=oM;exact zz14 trivial
  ·have hp:Uh v=[]:=by unfold Uh;rw[if_neg h,if_neg h9]
   rw[hp];have q9:(v.kind==9)=false:=by simp[h9]
   simp only[go_sem,JIF,q8,q9,q10,Vb,simprocAttr]
end Go.Proofs
namespace Go.Proofs
open Go Av
open Av.Y
end Go.Proofs
namespace Go.Proofs
open Go Av
open Av.Y
end Go.Proofs
namespace Go.Proofs
open Go Av
def zeroV:Val:=.mk 0 0 0 [] [] []
end Go.Proofs
namespace Go.Proofs
open Go Av
open Av.Y
end Go.Proofs
namespace Go.Proofs
open Go Av
end Go.Proofs
namespace Go.Proofs
open Go Av
open Av.Y
end Go.Proofs
namespace Go.Proofs
open Go Av
end Go.Proofs
namespace Go.Proofs
open Go Av
open Av.Y
def JTE:Ic:=q (.reg (oN 2 y6<|N))<|q (R (om 3 0<|oo 4 (.bld y6 [(0,1,i 4),(3,1,t 3)])<|oS 6 2 4<|N) [0,3,4])<|.ret
theorem ok152:FT 152 5 JTE [.cell 2 (some 6)]:=.o Tryz.func152
end Go.Proofs
namespace Go.Proofs
open Go Av
theorem JGl{v:Val}(h:fits (JM v)):v.text.length≤68719476736∧v.list.length≤68719476736∧v.fields.length≤68719476736:=by
 rw[JI]at h;simp only[fits,XA,Vc,and_true]at h;exact⟨h.2.2.2.1,h.2.2.2.2.1.1,h.2.2.2.2.2.1⟩
theorem JQS(s:Str):PT 152 [.str s] (.d (JM (.mk 4 0 0 s [] []))):=by
 refine ok152.pc ?_;simp only[go_sem,JTE,simprocAttr];rfl
end Go.Proofs
namespace Go.Proofs
open Go Av
open Av.Y
def JTF:Ic:=q (R (ok 2 (.k (.str []))<|N) [2])<|q (R (om 3 0<|cl 4 206 [t 3,.k (.int .u8 65),i 32]<|om 2 4<|N) [0,3,4])<|.ret
theorem ok149:FT 149 5 JTF [.tmp 2]:=.o Tryz.func149
def JTG:Ic:=q (R (ok 2 (.k (.str []))<|N) [2])<|q (R (om 3 0<|cl 4 206 [t 3,.k (.int .u8 97),i (-32)]<|om 2 4<|N) [0,3,4])<|.ret
theorem ok150:FT 150 5 JTG [.tmp 2]:=.o Tryz.func150
end Go.Proofs
namespace Go.Proofs
open Go Av
end Go.Proofs
namespace Go.Proofs
open Go Av Go.RowKit
theorem JJV{v:Val}(h:fits (JM v)):v.text.length≤68719476736∧v.list.length≤68719476736∧v.fields.length≤68719476736∧(∀x∈v.list,fits (JM x))∧∀f∈v.fields,f.name.length≤68719476736∧fits (JM f.value):=by
 rw[JI]at h;simp only[fits,XA,Vc,and_true]at h;obtain⟨_,_,_,h1,⟨h2,h3⟩,h4,h5⟩:=h;refine⟨h1,h2,h4,fun x hx=>J5.1 h3 _ (VC.2 ⟨x,hx,rfl⟩),fun f hf=>?_⟩;have:=J5.1 h5 _ (VC.2 ⟨f,hf,rfl⟩);rw[Xc]at this;simp only[fits,XA,and_true]at this;refine⟨this.1,?_⟩;rw[JI];simp only[fits,XA,and_true];exact this.2
theorem u8Of{A:Nat→Prop}{w:World}{g:Nat}{cs:List Dat}(h:Zv A w g cs)(j:Nat)(n:Int)(hj:cs[j]? =some (.int .u8 n)):w.cell? ⟨g,j,none⟩=some (.int .u8 n):=by
 obtain⟨h0,C,T,fr,h1,h2,h3,h4⟩:=h;have hlt:j<C.size:=by rw[←h2];exact(VB.1 hj).1
 have:=h4 j _ C[j] hj (by simp[hlt]);generalize hz:C[j]=z at this;cases this;simp[World.cell?,h1,hlt,hz]
theorem utabs{A:Nat→Prop}{w:World}(hg:∀g cs,XU g=some cs→Zv A w g cs):Lib.Utf8Tabs 0 1 w:=by
 have h0:=hg 0 JHv rfl;have h1:=hg 1 JGZ rfl;refine⟨fun c hc=>u8Of h0 c _ (by simp[JHv,hc]),fun i hi=>?_⟩;have e0:JGZ[2*i]? =some (.int .u8 (Lib.accLo i))∧JGZ[2*i+1]? =some (.int .u8 (Lib.accHi i)):=by
  match i,hi with
  |0,_|1,_|2,_|3,_|4,_|5,_|6,_|7,_|8,_|9,_|10,_|11,_|12,_|13,_|14,_|15,_=>exact⟨rfl,rfl⟩
  |n+16,h=>omega
 exact⟨u8Of h1 _ _ e0.1,u8Of h1 _ _ e0.2⟩
def JJW(s:Str):Bool:=Lib.validD s
theorem call214(s:Str):CT 214 [.d (.str s)] [] (.d (.bool (JJW s))) []:=by
 refine JR.JCt (ds:=[.str s]) (JL1 Tryz.func214 kR kR) ?_;intro A w vs hg hl hv;obtain⟨x,rfl⟩:=JGe hl;have hx:=hv 0 _ x rfl rfl;cases hx with
 |str _ h=>
  have e:(⟨s.toArray⟩:ByteArray).data.toList=s:=sP;have hsz:(⟨s.toArray⟩:ByteArray).size=s.length:=by simp[ByteArray.size]
  refine(Any.utf8_ValidString Tryz.JAr ⟨s.toArray⟩ w oM (utabs hg)).mono ?_;rintro e' w' ⟨rfl,hb⟩;rw[e];exact⟨_,rfl,hb,fun β H=>.d _ _ (.bool _)⟩
def JFs(v:Val):Int:=if szE v.text.length 1024 5==0&& !JJW v.text then 16 else szE v.text.length 1024 5
theorem JQT(v:Val):PT 212 [JM v] (.d (.int .i64 (JFs v))):=by
 refine ok212.pc ?_;rw[JI];simp only[go_sem,JS4,simprocAttr];refine wc ((JB5 _ _ _).call trivial) ?_;refine sq (!JJW v.text) ?_ ?_
 ·refine zz ?_;refine wc (call214 _) trivial
 refine zz ?_;apply ik<;>intro h
 ·rw[JFs,if_pos h]
 ·rw[JFs,if_neg (by simp[h])]
theorem JIG(s:Str):PT 153 [.str s] (.d (.bool (Xe s))):=J3.Jg JNq.has fun h=>JDl s (h _ (List.mem_singleton.2 rfl))
def JIH(v:Val):Int:=if !Xe v.text then 12 else if((v.list.length:Nat):Int)==0 then 4 else szE v.list.length 1 3
theorem JQU(v:Val):PT 220 [JM v] (.d (.int .i64 (JIH v))):=by
 refine ok220.pc ?_;rw[JI];simp only[go_sem,JTC,simprocAttr];refine wn ((JIG _).call trivial) ?_;refine zz4 ?_;refine⟨fun h=>?_,fun h=>⟨fun h2=>?_,fun h2=>?_⟩⟩
 ·rw[JIH,if_pos h]
 ·rw[JIH,if_neg (by simp[h]),if_pos h2]
 ·rw[JIH,if_neg (by simp[h]),if_neg (by simp[h2])];refine wc ((JB5 _ _ _).call trivial) trivial
def JEf:Option Str→List Fld→Int
 |_,[]=>0
 |none,f::r=>if !Xe f.name then 12 else JEf (some f.name) r
 |some p,f::r=>if !Xe f.name then 12 else if f.name==p then 7 else if strLt f.name p then 24 else JEf (some f.name) r
def JL5(v:Val):Int:=if szE v.fields.length 64 9 !=0 then szE v.fields.length 64 9 else JEf none v.fields
def JA3(l:List Fld):Nat→Option Str
 |0=>none
 |k+1=>l[k]?.map Fld.name
theorem JQV(v:Val):PT 219 [JM v] (.d (.int .i64 (JL5 v))):=by
 refine J3.Jg JTB.has fun hfit=>?_
 obtain⟨_,_,hfl,_,_⟩:=JJV (hfit _ (List.mem_singleton.2 rfl));refine JTB.pc ?_;rw[JI];simp only[go_sem,JTA,Vc,Nat.reduceAdd,Nat.reduceEqDiff,Nat.reduceBEq,Nat.reduceLeDiff,reduceCtorEq,↓reduceIte];refine wc ((JB5 _ _ _).call trivial) ?_;apply ik<;>intro h
 ·rw[JL5,if_pos h]
 rw[JL5,if_neg (by simp[h])];refine zz4 ?_;generalize hR:JEf none v.fields=R;refine JJ (fun n s=>∃k:Nat,k≤v.fields.length∧n=v.fields.length-k∧R=JEf (JA3 v.fields k) (v.fields.drop k)∧
  s=⟨[(1,.ref 1 0),(14,.d (.list 7 (v.fields.map UP))),(15,.d (.int .i64 v.fields.length)),(16,.d (.int .i64 k))],
   [(1,.box [.d (.int .i64 v.kind),.d (.int .i64 v.int),.d (.int .i64 v.scale),.d (.str v.text),.d (.list 6 (v.list.map JM)),.d (.list 7 (v.fields.map UP))])]⟩) ?_ ?_
 ·exact⟨_,_,Wk.refl _,0,Nat.zero_le _,rfl,hR.symm,rfl⟩
 ·rintro n s ⟨k,hk,rfl,hinv,rfl⟩;by_cases hlt:k<v.fields.length
  ·have hx:=Xd hlt;have hd:=dT hlt;rw[Vq hlt]at hinv;refine zz6 ?_;refine⟨oM,wn ((JIG _).call trivial) ?_⟩;refine zz ?_;apply ik<;>intro h12
   ·have:R=12:=by
     rw[hinv];cases JA3 v.fields k<;>simp only[JEf,h12,↓reduceIte]
    rw[this]
   cases k with
   |zero=>
    simp only[JA3,JEf,h12,Vu,↓reduceIte]at hinv;have hg:decide (((0:Nat):Int)>0)=false:=rfl;simp only[go_sem,hg,Nat.reduceAdd,Nat.reduceEqDiff,Nat.reduceBEq,Nat.reduceLeDiff,reduceCtorEq,↓reduceIte];have hp:JA3 v.fields (0+1)=some v.fields[0].name:=by simp[JA3,hlt]
    refine⟨v.fields.length-1,_,oM,Wk.less ?_,0+1,oM,rfl,by rw[hp];exact hinv,rfl⟩;simp only[go_sem,JS 0 oM,Nat.reduceAdd,Nat.reduceEqDiff,Nat.reduceBEq,Nat.reduceLeDiff,reduceCtorEq,↓reduceIte]
   |succ k=>
    have hlt':k<v.fields.length:=oM;have hx':=Xd hlt';have hp:JA3 v.fields (k+1)=some v.fields[k].name:=by simp[JA3,hlt']
    have hp2:JA3 v.fields (k+1+1)=some v.fields[k+1].name:=by simp[JA3,hlt]
    rw[hp]at hinv;simp only[JEf,h12,Vu,↓reduceIte]at hinv;have hg:decide (((k+1:Nat):Int)>0)=true:=sP;have hw:IntKind.i64.wrap (((k+1:Nat):Int)-1)=k:=by rw[wrap64 oM oM];omega
    simp only[go_sem,hg,hw,hx',Vv,Vc,Nat.reduceAdd,Nat.reduceEqDiff,Nat.reduceBEq,Nat.reduceLeDiff,reduceCtorEq,↓reduceIte];refine⟨⟨oM,oM⟩,dC,fun q=>?_,fun q=>⟨⟨oM,oM⟩,dC,fun q2=>?_,fun q2=>?_⟩⟩
    ·rw[if_pos q]at hinv;rw[hinv]
    ·rw[if_neg (by simp[q]),if_pos q2]at hinv;rw[hinv]
    ·rw[if_neg (by simp[q]),if_neg (by simp[q2])]at hinv;refine⟨v.fields.length-(k+1+1),_,oM,Wk.less ?_,k+1+1,oM,rfl,by rw[hp2];exact hinv,rfl⟩;simp only[go_sem,JS (k+1) oM,Nat.reduceAdd,Nat.reduceEqDiff,Nat.reduceBEq,Nat.reduceLeDiff,reduceCtorEq,↓reduceIte]
  ·have hd:=dF hlt;obtain rfl:k=v.fields.length:=oM;rw[List.drop_length]at hinv;have:R=0:=by rw[hinv];cases JA3 v.fields v.fields.length<;>rfl
   simp only[go_sem,hd,this,Nat.reduceAdd,Nat.reduceEqDiff,Nat.reduceBEq,Nat.reduceLeDiff,reduceCtorEq,↓reduceIte]
end Go.Proofs
namespace Go.Proofs
open Go.Shelf
end Go.Proofs
namespace Go.Proofs
open Go Av
open Av.Y
def JN9:Ic:=q (R (oz 4 0<|N) [4])<|q (q (R (om 6 0<|oh 7 6<|oz 8 0<|N) [6])<|D (.block 0<|.loop (q (.reg (ot 9 .lss 8 7<|N))<|q (D (I 9 S (E 0)) [9])<|q (D (.block 1<|q (R (om 10 8<|om 5 10<|N) [10])<|q (R (om 11 1<|om 12 0<|om 13 5<|oa true 14 11 12 13<|oL 15 11 14<|.call (some 16) (.dyn (t 11)) [t 15] N) [11,12,13,14,15])<|D (I 16 (q (R (om 17 5<|om 4 17<|N) [0,1,7,8,5,16,17])<|.ret) S) [5,16]) [])<|R (oi 18 .add 8 1<|om 8 18<|N) [18])) [0,1,7,8,9,10,5,11])<|q (.reg (oz 4 (-1)<|N))<|.ret
theorem JTH:FT 198 19 JN9 [.tmp 4]:=.o Tryz.func198
def JTI:Ic:=q (R (ow 4 false<|N) [4])<|q (R (om 5 0<|om 6 1<|cl 7 223 [t 5,t 6]<|oi 8 .geq 7 0<|om 4 8<|N) [0,1,5,6,7,8])<|.ret
theorem ok160:FT 160 9 JTI [.tmp 4]:=.o Tryz.func160
def JTJ:Ic:=q (R (oz 4 0<|N) [4])<|q (q (R (om 6 0<|oh 7 6<|oz 8 0<|N) [6])<|D (.block 0<|.loop (q (.reg (ot 9 .lss 8 7<|N))<|q (D (I 9 S (E 0)) [9])<|q (D (.block 1<|q (R (om 10 8<|om 5 10<|N) [10])<|q (R (om 11 1<|om 12 0<|om 13 5<|oa false 14 1 12 13<|ol 15 14<|ot 16 .seq 11 15<|N) [11,12,13,14,15])<|D (I 16 (q (R (om 17 5<|om 4 17<|N) [0,1,7,8,5,16,17])<|.ret) S) [5,16]) [])<|R (oi 18 .add 8 1<|om 8 18<|N) [18])) [0,1,7,8,9,10,5,11])<|q (.reg (oz 4 (-1)<|N))<|.ret
theorem ok223:FT 223 19 JTJ [.tmp 4]:=.o Tryz.func223
end Go.Proofs
namespace Go.Proofs
open Go Av Go.RowKit
end Go.Proofs
namespace Go.Proofs
open Go Av
def UZ(v:Val):Int:=
 if v.kind=1 then btw v.int 0 1 else if v.kind=2 then btw v.int (-999999999999999) 999999999999999
 else if v.kind=3 then JGk [btw v.int (-999999999999999) 999999999999999,btw v.scale 0 12]else if v.kind=4 then JFs v else if v.kind=5 then szE v.text.length 1024 5
 else if v.kind=6 then btw v.int (-719162) 2932896 else if v.kind=7 then btw v.int (-62135596800000) 253402300799999 else if v.kind=8 then szE v.list.length 256 9
 else if v.kind=9 then JL5 v else JIH v
def YB(n level:Int)(v:Val):Int:=
 if decide (n>4096)then 9 else if decide (level>8)then 23 else if JN8 v then 19 else if decide (v.kind<1)||decide (v.kind>10)then 11 else if !JEd v then 3 else UZ v
def Ul:List Dat:=[.nilFn,.fn (.func 207) [] [],.fn (.func 209) [] [],.fn (.func 210) [] [],.fn (.func 212) [] [],.fn (.func 215) [] [],.fn (.func 216) [] [],.fn (.func 217) [] [],.fn (.func 218) [] [],.fn (.func 219) [] [],.fn (.func 220) [] []]
theorem JQW:PT 156 [] (.d (.agg Ul)):=by
 refine ok156.pc ?_;simp only[go_sem,JSw,simprocAttr];rfl
theorem JKy(v:Val):PT 157 [JM v] (.d (.fn (.func 221) [] [.ptr (JM v).cells])):=by
 refine ok157.pc ?_;rw[JI];simp only[go_sem,JSx,simprocAttr];simp only[go_sem,decide_eq_true_eq,reduceCtorEq,↓reduceIte]
noncomputable def lpL(tm:List (Nat×Av))(s:LoopState)(j:Option Code):Lp:=⟨tm,46,#[11,12],Y3 (YG Tryz.f100) [1,1,1,0,1,0,0],Y3 (YG Tryz.f100) [1,1,1,0,1,0,1],s,j⟩
def tmL(c:Dat):List (Nat×Av):=[(2,.ref 1002 0),(3,.ref 1003 0),(4,.ref 1004 0),(10,.d c)]
noncomputable abbrev TL(c:Dat)(e n:Int):List (Nat×Av.Obj):=[(1000,.lp (lpL (tmL c) .ready none)),(1002,.box [.d (.int .i64 e)]),(1003,.box (Ul.map .d)),(1004,.box [.d (.int .i64 n)])]
noncomputable def U0(c:Dat)(x:Int):Av.Obj:=if x=0 then .lp (lpL (tmL c) .ready none)else .lp (lpL (tmL c) .done (some .ret))
theorem JQX(c:Dat)(e n level:Int)(v:Val)(hn:0≤n∧n≤4096):
  JFC Tryz.prog 1000 [.d (.int .i64 level),.d (JM v)] (TL c e n) (.d (.bool (YB (n+1) level v==0)))
   [(1000,U0 c (YB (n+1) level v)),(1002,.box [.d (.int .i64 (if YB (n+1) level v=0 then e else YB (n+1) level v))]),(1004,.box [.d (.int .i64 (n+1))])]:=by
 refine JFC.JAp (asg:=JJU) (body:=JGj) rfl rfl kR kR rfl (show∀p∈[11,12],p<46 by decide) ?_ ?_
 ·refine Jj ?_;unfold U0;split<;>simp[TL,J6,put,Jc,J0,JN,JT,Xa,tmL,lpL,Ul,Av.get]
 ·rw[JI];generalize hx:YB (n+1) level v=x;generalize hD:(fun i=>(get (TL c e n) i).isSome=true)=D;generalize hK:JCV 1000 (TL c e n) D (.d (.bool (x==0))) _=K;have hw:IntKind.i64.wrap (n+1)=n+1:=wrap64 oM oM;have leaf:x≠0→∀cs,K .ret ⟨[],[(1000,.lp (lpL (tmL c) .busy none)),(1002,.box [.d (.int .i64 x)]),(1003,.box (Ul.map .d)),(1004,.box [.d (.int .i64 (n+1))]),(6,.box cs)]⟩:=by
   intro h0 cs;have hb:(x==0)=false:=by simp[h0]
   rw[←hK,←hD,hb];refine⟨_,_,rfl,rfl,⟨[],[(1000,.lp (lpL (tmL c) .done (some .ret))),(1002,.box [.d (.int .i64 x)]),(1003,.box (Ul.map .d)),(1004,.box [.d (.int .i64 (n+1))])]⟩,Wk.less ?_,?_⟩
   ·simp[put,tmL,lpL,Ul,go_sem]
   ·intro i o h;rw[←h,←Jr];simp[J6,put,U0,h0]
  have leaf0:x=0→∀cs,K .normal ⟨[],[(1000,.lp (lpL (tmL c) .busy none)),(1002,.box [.d (.int .i64 e)]),(1003,.box (Ul.map .d)),(1004,.box [.d (.int .i64 (n+1))]),(6,.box cs)]⟩:=by
   intro h0 cs;have hb:(x==0)=true:=by simp[h0]
   rw[←hK,←hD,hb];refine⟨_,_,rfl,rfl,⟨[],[(1000,.lp (lpL (tmL c) .ready none)),(1002,.box [.d (.int .i64 e)]),(1003,.box (Ul.map .d)),(1004,.box [.d (.int .i64 (n+1))])]⟩,Wk.less ?_,?_⟩
   ·simp[put,tmL,lpL,Ul,go_sem]
   ·intro i o h;rw[←h,←Jr];simp[J6,put,U0,h0]
  clear hK hD;simp only[TL,lpL,tmL,JJU,JGj,hw,go_sem,simprocAttr];refine⟨_,rfl,rfl,?_⟩;have cOLD21:=(JQO v).call trivial;rw[JI]at cOLD21;refine⟨fun h1=>?_,fun h1=>⟨fun h2=>?_,fun h2=>wn cOLD21 ?_⟩⟩
  ·obtain rfl:x=9:=by rw[←hx,YB,if_pos h1]
   exact leaf dC _
  ·obtain rfl:x=23:=by rw[←hx,YB,if_neg (by simp[h1]),if_pos h2]
   exact leaf dC _
  rw[YB,if_neg (by simp[h1]),if_neg (by simp[h2])]at hx;refine zz ?_;apply ik<;>intro h3
  ·obtain rfl:x=19:=by rw[←hx,if_pos h3]
   exact leaf dC _
  rw[if_neg (by simp[h3])]at hx;refine sq (decide (v.kind>10)) ?_ ?_
  ·exact zz trivial
  have cOLD96:=(JQR v).call trivial;rw[JI]at cOLD96;refine zz ?_;refine⟨fun h4=>?_,fun h4=>wn cOLD96 ?_⟩
  ·obtain rfl:x=11:=by rw[←hx,if_pos h4]
   exact leaf dC _
  rw[if_neg (by simp only[h4];decide)]at hx;refine zz ?_;apply ik<;>intro h5
  ·obtain rfl:x=3:=by rw[←hx,if_pos h5]
   exact leaf dC _
  rw[if_neg (by simp[h5])]at hx;obtain⟨k1,k2⟩:1≤v.kind∧v.kind≤10:=by simp at h4;omega
  have hk:v.kind=1∨v.kind=2∨v.kind=3∨v.kind=4∨v.kind=5∨v.kind=6∨v.kind=7∨v.kind=8∨v.kind=9∨v.kind=10:=oM;rcases hk with hk|hk|hk|hk|hk|hk|hk|hk|hk|hk
  ·have cr:=(JQG v).call trivial;have hr:UZ v=btw v.int 0 1:=by simp[UZ,hk]
   rw[JI,hk,←hr,hx]at cr;refine JFE ?_;refine⟨⟨dC,dC⟩,wn cr ?_⟩;refine zz ?_;exact⟨fun h6=>leaf (sX h6) _,fun h6=>leaf0 (sX h6) _⟩
  ·have cr:=(JQH v).call trivial;have hr:UZ v=btw v.int (-999999999999999) 999999999999999:=by simp[UZ,hk]
   rw[JI,hk,←hr,hx]at cr;refine JFE ?_;refine⟨⟨dC,dC⟩,wn cr ?_⟩;refine zz ?_;exact⟨fun h6=>leaf (sX h6) _,fun h6=>leaf0 (sX h6) _⟩
  ·have cr:=(JQN v).call trivial;have hr:UZ v=JGk [btw v.int (-999999999999999) 999999999999999,btw v.scale 0 12]:=by simp[UZ,hk]
   rw[JI,hk,←hr,hx]at cr;refine JFE ?_;refine⟨⟨dC,dC⟩,wn cr ?_⟩;refine zz ?_;exact⟨fun h6=>leaf (sX h6) _,fun h6=>leaf0 (sX h6) _⟩
  ·have cr:=(JQT v).call trivial;have hr:UZ v=JFs v:=by simp[UZ,hk]
   rw[JI,hk,←hr,hx]at cr;refine JFE ?_;refine⟨⟨dC,dC⟩,wn cr ?_⟩;refine zz ?_;exact⟨fun h6=>leaf (sX h6) _,fun h6=>leaf0 (sX h6) _⟩
  ·have cr:=(JQK v).call trivial;have hr:UZ v=szE v.text.length 1024 5:=by simp[UZ,hk]
   rw[JI,hk,←hr,hx]at cr;refine JFE ?_;refine⟨⟨dC,dC⟩,wn cr ?_⟩;refine zz ?_;exact⟨fun h6=>leaf (sX h6) _,fun h6=>leaf0 (sX h6) _⟩
  ·have cr:=(JQI v).call trivial;have hr:UZ v=btw v.int (-719162) 2932896:=by simp[UZ,hk]
   rw[JI,hk,←hr,hx]at cr;refine JFE ?_;refine⟨⟨dC,dC⟩,wn cr ?_⟩;refine zz ?_;exact⟨fun h6=>leaf (sX h6) _,fun h6=>leaf0 (sX h6) _⟩
  ·have cr:=(JQJ v).call trivial;have hr:UZ v=btw v.int (-62135596800000) 253402300799999:=by simp[UZ,hk]
   rw[JI,hk,←hr,hx]at cr;refine JFE ?_;refine⟨⟨dC,dC⟩,wn cr ?_⟩;refine zz ?_;exact⟨fun h6=>leaf (sX h6) _,fun h6=>leaf0 (sX h6) _⟩
  ·have cr:=(JQL v).call trivial;have hr:UZ v=szE v.list.length 256 9:=by simp[UZ,hk]
   rw[JI,hk,←hr,hx]at cr;refine JFE ?_;refine⟨⟨dC,dC⟩,wn cr ?_⟩;refine zz ?_;exact⟨fun h6=>leaf (sX h6) _,fun h6=>leaf0 (sX h6) _⟩
  ·have cr:=(JQV v).call trivial;have hr:UZ v=JL5 v:=by simp[UZ,hk]
   rw[JI,hk,←hr,hx]at cr;refine JFE ?_;refine⟨⟨dC,dC⟩,wn cr ?_⟩;refine zz ?_;exact⟨fun h6=>leaf (sX h6) _,fun h6=>leaf0 (sX h6) _⟩
  ·have cr:=(JQU v).call trivial;have hr:UZ v=JIH v:=by simp[UZ,hk]
   rw[JI,hk,←hr,hx]at cr;refine JFE ?_;refine⟨⟨dC,dC⟩,wn cr ?_⟩;refine zz ?_;exact⟨fun h6=>leaf (sX h6) _,fun h6=>leaf0 (sX h6) _⟩
end Go.Proofs
namespace Go.Proofs
open Go Av
variable {n:Int}
noncomputable abbrev JBQ(c:Dat)(e x n:Int):List (Nat×Av.Obj):=[(1000,U0 c x),(1002,.box [.d (.int .i64 (if x=0 then e else x))]),(1004,.box [.d (.int .i64 n)])]
theorem JAl(c:Dat)(e n x m:Int):closed (JB (get (TL c e n)) (JBQ c e x m)):=by
 refine Jj ?_;simp only[JBQ,TL];unfold U0;split<;>simp[TL,J6,put,Jc,J0,JN,JT,Xa,tmL,lpL,Ul,Av.get]
theorem JGm(c:Dat)(e n:Int):closed (get (TL c e n)):=by
 refine U4 ?_;simp[TL,Jc,J0,JN,JT,Xa,tmL,lpL,Ul,Av.get]
theorem JJX{c:Dat}{e:Int}{i:Nat}(h:(get (TL c e n) i).isSome=true):i=1000∨i=1002∨i=1003∨i=1004:=by
 simp only[TL,Av.get]at h;split at h
 ·rename_i e;exact .inl e.symm
 ·split at h
  ·rename_i e;exact .inr (.inl e.symm)
  ·split at h
   ·rename_i e;exact .inr (.inr (.inl e.symm))
   ·split at h
    ·rename_i e;exact .inr (.inr (.inr e.symm))
    ·cases h
theorem Zh(ds:List Dat):J7 (fun i:Nat=>i) (ds.map .d)=ds.map .d:=by
 induction ds with
 |nil=>rfl
 |cons d r ih=>simp only[Va,J7,Av.ren,ih]
theorem JKz(c:Dat)(e n level:Int)(v:Val)(hn:0≤n∧n≤4096):
  CT .yld [.mp 1000,.d (.int .i64 level),.d (JM v)] ((TL c e n).map fun x=>(x.1,some x.2)) (.d (.bool (YB (n+1) level v==0))) (JBQ c e (YB (n+1) level v) (n+1)):=by
 have:=(JQX c e n level v hn).call (fun i=>i) ⟨_,rfl⟩ (fun i j _ _ h=>h) (by simp[JT]) (JGm c e n) [] (by simp[Av.get]) (JAl c e n _ _) trivial;have ha:∀x,(U0 c x).ren (fun i=>i)=U0 c x:=by
  intro x;unfold U0;split<;>simp[Obj.ren,X0,tmL,lpL,Av.ren]
 simp only[ha,JBQ,Va,Vb]at this;simp only[TL,JBQ,Va,Vb,Obj.ren,Av.ren,J7,Zh,lpL,tmL,X0,List.append_nil]at this⊢;exact this
def YC(f:Int→Val→Int×Int):Int→List Val→Int×Int
 |n,[]=>(0,n)
 |n,v::r=>if(f n v).1≠0 then f n v else YC f (f n v).2 r
def XT:Nat→Int→Val→Int×Int
 |0,n,v=>(YB (n+1) 9 v,n+1)
 |k+1,n,v=>if YB (n+1) (8-k) v≠0 then(YB (n+1) (8-k) v,n+1)else YC (XT k) (n+1) (Uh v)
theorem JOA(n:Int)(v:Val):YB n 9 v≠0:=by
 unfold YB;split
 ·decide
 ·rw[if_pos dC];decide
theorem JTK{level:Int}{v:Val}(h:YB n level v=0):n≤4096:=by
 unfold YB at h;split at h
 ·cases h
 ·rename_i hx;simpa using hx
theorem JK0{f:Int→Val→Int×Int}(hf:∀n v,0≤n→n≤4096→(f n v).1=0→0≤(f n v).2∧(f n v).2≤4096):∀(l:List Val) (n:Int),0≤n→n≤4096→(YC f n l).1=0→0≤(YC f n l).2∧(YC f n l).2≤4096
 |[],n,h0,h1,h=>⟨h0,h1⟩
 |v::r,n,h0,h1,h=>by
  simp only[YC]at h⊢;split at h
  ·rename_i hx;exact absurd h hx
  ·rename_i hx;rw[if_neg hx];simp only[ne_eq,Decidable.not_not]at hx;obtain⟨q0,q1⟩:=hf n v h0 h1 hx;exact JK0 hf r _ q0 q1 h
theorem JJY:∀(k:Nat) (n:Int) (v:Val),0≤n→n≤4096→(XT k n v).1=0→0≤(XT k n v).2∧(XT k n v).2≤4096
 |0,n,v,h0,h1,h=>absurd h (JOA _ _)
 |k+1,n,v,h0,h1,h=>by
  simp only[XT]at h⊢;split at h
  ·rename_i hx;exact absurd h hx
  ·rename_i hx;rw[if_neg hx];simp only[ne_eq,Decidable.not_not]at hx;exact JK0 (JJY k) _ _ oM (JTK hx) h
theorem JK1(c:Dat)(e n level:Int)(v:Val)(h0:0≤n)(h1:n≤4096)(hx:YB (n+1) level v≠0):
  KT 222 [.d (JM v),.d (.int .i64 level),.mp 1000] (TL c e n) (.d (.bool false)) (JBQ c e (YB (n+1) level v) (n+1)):=by
 refine JIE.co (k:=false) (JAl c e n _ _) trivial ?_;have hy:=JKz c e n level v ⟨h0,h1⟩;have hb:(YB (n+1) level v==0)=false:=by simp[hx]
 rw[JI]at hy⊢;rw[hb]at hy;simp only[TL,go_sem,JKw,simprocAttr];refine Yh rfl hy ⟨rfl,rfl,rfl,rfl,trivial⟩ ?_;refine zz ?_;exact⟨fun _=>trivial,fun h=>by cases h⟩
theorem call222{c:Dat}{level e x m:Int}{v:Val}(h:KT 222 [.d (JM v),.d (.int .i64 level),.mp 1000] (TL c e n) (.d (.bool (x==0))) (JBQ c e x m)):
  CT 222 [.d (JM v),.d (.int .i64 level),.mp 1000] ((TL c e n).map fun x=>(x.1,some x.2)) (.d (.bool (x==0))) (JBQ c e x m):=by
 have:=h.call (fun i=>i) (fun i hi=>by rcases JJX hi with rfl|rfl|rfl|rfl<;>decide) (fun i j _ _ h=>h) (by simp[JT,Av.get]) (JGm c e n) [] (by simp[Av.get]) (JAl c e n _ _) trivial;have ha:∀x,(U0 c x).ren (fun i=>i)=U0 c x:=by
  intro x;unfold U0;split<;>simp[Obj.ren,X0,tmL,lpL,Av.ren]
 simp only[ha,JBQ,Va,Vb]at this;simp only[TL,JBQ,Va,Vb,Obj.ren,Av.ren,J7,Zh,lpL,tmL,X0,List.append_nil]at this⊢;exact this
theorem JQY(c:Dat):∀(k:Nat) (e n:Int) (v:Val),k≤8→0≤n→n≤4096→
  KT 222 [.d (JM v),.d (.int .i64 (9-k)),.mp 1000] (TL c e n) (.d (.bool ((XT k n v).1==0))) (JBQ c e (XT k n v).1 (XT k n v).2):=by
 intro k
 induction k with
 |zero=>
  intro e n v hk h0 h1;have hb:(YB (n+1) 9 v==0)=false:=by simp[JOA]
  simp only[XT,hb];exact JK1 c e n 9 v h0 h1 (JOA _ _)
 |succ k ih=>
  intro e n v hk h0 h1;have hl:9-((k+1:Nat):Int)=8-k:=oM;rw[hl];by_cases hx:YB (n+1) (8-k) v=0
  ·refine Con.Jg JIE.has fun hfit=>?_
   obtain⟨_,f2,f3,_⟩:=JJV (hfit (JM v) sP);have hv:XT (k+1) n v=YC (XT k) (n+1) (Uh v):=by rw[XT,if_neg (by simp[hx])]
   rw[hv];generalize hF:YC (XT k) (n+1) (Uh v)=F;refine JIE.co (k:=false) (JAl c e n _ _) trivial ?_;have hy:=JKz c e n (8-k) v ⟨h0,h1⟩;have h217:=(JKx v f3).call trivial;have hpl:=JEe v f2 f3;rw[hx]at hy;have hm:=JTK hx;rw[JI]at hy h217⊢;simp only[TL,go_sem,JKw,simprocAttr];refine Yh rfl hy ⟨rfl,rfl,rfl,rfl,trivial⟩ ?_;simp only[go_sem,U0,beq_self_eq_true,Vr,simprocAttr];refine wc h217 ?_;clear h217 hy hv hfit;generalize hP:Uh v=ps at*;simp only[Vc];refine JJ (fun r s=>∃(j:Nat) (m:Int),j≤ps.length∧r=ps.length-j∧0≤m∧m≤4096∧YC (XT k) m (ps.drop j)=F∧
    s=⟨[(1,.d (.int .i64 (8-k))),(2,.mp 1000),(15,.d (.list 6 (ps.map JM))),(16,.d (.int .i64 ps.length)),(17,.d (.int .i64 j))],
     [(1000,.lp (lpL (tmL c) .ready none)),(1002,.box [.d (.int .i64 e)]),(1003,.box (Ul.map .d)),(1004,.box [.d (.int .i64 m)])]⟩) ?_ ?_
   ·refine⟨_,_,Wk.less ?_,0,n+1,Nat.zero_le _,rfl,oM,hm,hF,rfl⟩;simp[go_sem,lpL,tmL,Ul]
   ·rintro r s ⟨j,m,hj,rfl,hm0,hm1,hinv,rfl⟩;by_cases hlt:j<ps.length
    ·have hx':=Uf hlt;have hd:=dT hlt;have hw:IntKind.i64.wrap (8-(k:Int)+1)=9-k:=by rw[wrap64 oM oM];omega
     have hc:=call222 (ih e m ps[j] oM hm0 hm1);have hn:=JJY k m ps[j] hm0 hm1;rw[Vq hlt,YC]at hinv;generalize hV:XT k m ps[j]=V at*;rw[JI]at hc;refine zz38 ?_;refine⟨oM,Yh rfl hc ⟨rfl,rfl,rfl,rfl,trivial⟩ ?_⟩;by_cases h0:V.1=0
     ·rw[if_neg (by simp[h0])]at hinv;simp only[go_sem,h0,U0,beq_self_eq_true,Vr,simprocAttr];refine⟨ps.length-(j+1),_,oM,Wk.less ?_,j+1,V.2,oM,rfl,(hn h0).1,(hn h0).2,hinv,rfl⟩;simp[go_sem,JS j oM,lpL,tmL,Ul]
     ·rw[if_pos h0]at hinv;have hb:(V.1==0)=false:=by simp[h0]
      subst hinv;simp only[go_sem,hb,Vs,simprocAttr]
    ·have hd:=dF hlt;obtain rfl:j=ps.length:=oM;rw[List.drop_length,YC]at hinv;subst hinv;simp only[go_sem,hd,U0,beq_self_eq_true,Vr,simprocAttr]
  ·have hb:(YB (n+1) (8-k) v==0)=false:=by simp[hx]
   have hv:XT (k+1) n v=(YB (n+1) (8-k) v,n+1):=by rw[XT,if_pos hx]
   rw[hv];simp only[hb];exact JK1 c e n _ v h0 h1 hx
def Zu(v:Val):Int:=(XT 8 0 v).1
theorem JQZ(v:Val)(c:Dat)(e:Int):
  KT 221 [.mp 1000,.d (.ptr (JM v).cells)] (TL c e 0) (.tup []) (JBQ c e (XT 8 0 v).1 (XT 8 0 v).2):=by
 refine JID.co (k:=false) (JAl c e 0 _ _) trivial ?_;have hc:=call222 (JQY c 8 e 0 v dC dC dC);rw[JI]at hc⊢;simp only[TL,go_sem,JN7,simprocAttr];have e1:(9:Int)-((8:Nat):Int)=1:=rfl;rw[e1]at hc;refine Yh rfl hc ⟨rfl,rfl,rfl,rfl,trivial⟩ ?_;exact zz trivial
noncomputable def JL6(c:Dat)(s:LoopState)(j:Option Code):Av.Obj:=.lp ⟨[(2,.ref 2 0),(3,.ref 3 0),(4,.ref 4 0),(10,.d c)],46,#[11,12],Y3 (YG Tryz.f100) [1,1,1,0,1,0,0],Y3 (YG Tryz.f100) [1,1,1,0,1,0,1],s,j⟩
theorem call221(v:Val)(c:Dat)(e:Int):
  CT 221 [.mp 57,.d (.ptr (JM v).cells)] [(57,some (JL6 c .ready none)),(2,some (.box [.d (.int .i64 e)])),(3,some (.box (Ul.map .d))),(4,some (.box [.d (.int .i64 0)]))] (.tup [])
   [(57,if(XT 8 0 v).1=0 then JL6 c .ready none else JL6 c .done (some .ret)),(2,.box [.d (.int .i64 (if(XT 8 0 v).1=0 then e else(XT 8 0 v).1))]),(4,.box [.d (.int .i64 (XT 8 0 v).2)])]:=by
 have hd:∀i x m,(JB (get (TL c e 0)) (JBQ c e x m) i).isSome=true→i=1000∨i=1002∨i=1003∨i=1004:=by
  intro i x m h;rw[←Jr]at h;have:(get (TL c e 0) i).isSome=true:=by
   simp only[TL,JBQ,J6,put,simprocAttr]at h;simp only[Av.get]at h⊢;split at h
   ·simp[*]
   ·split at h
    ·simp[*]
    ·split at h
     ·simp[*]
     ·split at h
      ·simp[*]
      ·cases h
  exact JJX this
 have:=(JQZ v c e).call (fun i=>if i=1000 then 57 else i-1000) (fun i hi=>by rcases JJX hi with rfl|rfl|rfl|rfl<;>decide)
  (fun i j hi hj h=>by rcases hd i _ _ hi with rfl|rfl|rfl|rfl<;>rcases hd j _ _ hj with rfl|rfl|rfl|rfl<;>first|rfl|simp at h) (by simp[JT,Av.get]) (JGm c e 0) [] (by simp[Av.get]) (JAl c e 0 _ _) trivial
 have ha:∀x,(U0 c x).ren (fun i=>if i=1000 then 57 else i-1000)=if x=0 then JL6 c .ready none else JL6 c .done (some .ret):=by
  intro x;unfold U0;split<;>simp[Obj.ren,X0,tmL,lpL,JL6,Av.ren]
 have hr:(Obj.box (Ul.map .d)).ren (fun i=>if i=1000 then 57 else i-1000)=.box (Ul.map .d):=rfl;simp only[ha,hr,TL,JBQ,Va,Vb]at this;simp only[Va,Vb,Obj.ren,Av.ren,J7,lpL,tmL,X0,List.append_nil,Nat.reduceSub,simprocAttr]at this;exact this
theorem JGn{P:Program}{D:Nat→Prop}{f:Opd}{N lid:Nat}{ps:Array Nat}{c1 c2:Code}{asg body:Ic}{Q:Exit→St→Prop}{st:St}{g:Nat}{vs:List Av}{T:List (Nat×Option Av.Obj)}{v:Av}
  {ups:List (Nat×Av.Obj)}{l:Lp}(hno:get st.hp lid=none)(ht:Xs (get st.tm) (.dyn f) [.mp lid]=some (.fn g,vs))(hh:Has P g)(hc:JR P g vs T v ups)
  (hT:U9 (Av.upd (get st.hp) lid (some (.lp ⟨st.tm,N,ps,c1,c2,.ready,none⟩))) T)(hl:JB (Av.upd (get st.hp) lid (some (.lp ⟨st.tm,N,ps,c1,c2,.ready,none⟩))) ups lid=some (.lp l))(hb:l.s≠ .busy)
  (hj:(l.j=none∧Q .normal ⟨st.tm,put (J6 st.hp ups) lid .gone⟩)∨(l.j=some .ret∧Q .ret ⟨st.tm,put (J6 st.hp ups) lid .gone⟩)):wpc P D (.rng f N lid ps c1 c2 asg body) Q st:=by
 simp only[wpc];refine⟨hno,fun _ _=>?_⟩;rw[ht];refine⟨T,v,ups,hh,hc,hT,put (J6 st.hp ups) lid .gone,l,fun i hi=>by rw[UD,if_neg hi,Jr],by rw[UD,if_pos rfl],hl,hb,?_⟩;rcases hj with⟨h,q⟩|⟨h,q⟩<;>rw[h]<;>exact q
theorem JGo(v:Val):PT 100 [JM v] (.d (.int .i64 (Zu v))):=by
 refine ok100.pc ?_;have h91:=(JKy v).call trivial;have h90:=JQW.call trivial;have h176:=call221 v (.fn (.func 221) [] [.ptr (JM v).cells]) 0;rw[JI]at h91 h176⊢;simp only[go_sem,JSv,simprocAttr];refine wn h90 ?_;simp only[Ul,go_sem,simprocAttr];refine wc h91 ?_;by_cases hx:(XT 8 0 v).1=0
 ·simp only[hx,↓reduceIte]at h176;refine JGn rfl rfl JID.has h176 ⟨rfl,rfl,rfl,rfl,trivial⟩ rfl sP (.inl ⟨rfl,?_⟩);simp only[go_sem,Zu,hx,simprocAttr]
 ·simp only[hx,↓reduceIte]at h176;refine JGn rfl rfl JID.has h176 ⟨rfl,rfl,rfl,rfl,trivial⟩ rfl sP (.inr ⟨rfl,?_⟩);simp only[go_sem,Zu,simprocAttr]
end Go.Proofs
namespace Go.Proofs
open Go Av
def Jb(k:Int):Int×Int:=if k=1∨k=2∨k=22∨k=26 then(0,0)else if k=3∨k=16∨k=18∨k=19∨k=20∨k=27∨k=28 then(1,1)else if k=21∨k=24 then(3,3)else if k=25 then(2,256)else(2,2)
theorem walk73(k:Int):PT 73 [.int .i64 k] (.tup [.d (.int .i64 (Jb k).1),.d (.int .i64 (Jb k).2)]):=by
 refine ok73.pc ?_;by_cases h1:k=1
 ·subst h1;have e:Jb 1=(0,0):=dC;rw[e];simp only[go_sem,JAs,Int.reduceBEq,Int.reduceEq,simprocAttr]
 have b1:(k==1)=false:=by simp[h1]
 by_cases h2:k=2
 ·subst h2;have e:Jb 2=(0,0):=dC;rw[e];simp only[go_sem,JAs,Int.reduceBEq,Int.reduceEq,simprocAttr]
 have b2:(k==2)=false:=by simp[h2]
 by_cases h22:k=22
 ·subst h22;have e:Jb 22=(0,0):=dC;rw[e];simp only[go_sem,JAs,Int.reduceBEq,Int.reduceEq,simprocAttr]
 have b22:(k==22)=false:=by simp[h22]
 by_cases h26:k=26
 ·subst h26;have e:Jb 26=(0,0):=dC;rw[e];simp only[go_sem,JAs,Int.reduceBEq,Int.reduceEq,simprocAttr]
 have b26:(k==26)=false:=by simp[h26]
 by_cases h3:k=3
 ·subst h3;have e:Jb 3=(1,1):=dC;rw[e];simp only[go_sem,JAs,Int.reduceBEq,Int.reduceEq,simprocAttr]
 have b3:(k==3)=false:=by simp[h3]
 by_cases h16:k=16
 ·subst h16;have e:Jb 16=(1,1):=dC;rw[e];simp only[go_sem,JAs,Int.reduceBEq,Int.reduceEq,simprocAttr]
 have b16:(k==16)=false:=by simp[h16]
 by_cases h18:k=18
 ·subst h18;have e:Jb 18=(1,1):=dC;rw[e];simp only[go_sem,JAs,Int.reduceBEq,Int.reduceEq,simprocAttr]
 have b18:(k==18)=false:=by simp[h18]
 by_cases h19:k=19
 ·subst h19;have e:Jb 19=(1,1):=dC;rw[e];simp only[go_sem,JAs,Int.reduceBEq,Int.reduceEq,simprocAttr]
 have b19:(k==19)=false:=by simp[h19]
 by_cases h20:k=20
 ·subst h20;have e:Jb 20=(1,1):=dC;rw[e];simp only[go_sem,JAs,Int.reduceBEq,Int.reduceEq,simprocAttr]
 have b20:(k==20)=false:=by simp[h20]
 by_cases h27:k=27
 ·subst h27;have e:Jb 27=(1,1):=dC;rw[e];simp only[go_sem,JAs,Int.reduceBEq,Int.reduceEq,simprocAttr]
 have b27:(k==27)=false:=by simp[h27]
 by_cases h28:k=28
 ·subst h28;have e:Jb 28=(1,1):=dC;rw[e];simp only[go_sem,JAs,Int.reduceBEq,Int.reduceEq,simprocAttr]
 have b28:(k==28)=false:=by simp[h28]
 by_cases h21:k=21
 ·subst h21;have e:Jb 21=(3,3):=dC;rw[e];simp only[go_sem,JAs,Int.reduceBEq,Int.reduceEq,simprocAttr]
 have b21:(k==21)=false:=by simp[h21]
 by_cases h24:k=24
 ·subst h24;have e:Jb 24=(3,3):=dC;rw[e];simp only[go_sem,JAs,Int.reduceBEq,Int.reduceEq,simprocAttr]
 have b24:(k==24)=false:=by simp[h24]
 by_cases h25:k=25
 ·subst h25;have e:Jb 25=(2,256):=dC;rw[e];simp only[go_sem,JAs,Int.reduceBEq,Int.reduceEq,simprocAttr]
 have b25:(k==25)=false:=by simp[h25]
 have e:Jb k=(2,2):=by simp[Jb,h1,h2,h22,h26,h3,h16,h18,h19,h20,h27,h28,h21,h24,h25]
 rw[e];simp only[go_sem,JAs,b1,b2,b22,b26,b3,b16,b18,b19,b20,b27,b28,b21,b24,b25,simprocAttr]
def JAm(k:Int):Bool:=(k==2)||(k==22)||(k==26)
theorem JOB(k:Int):PT 74 [.int .i64 k] (.d (.bool (JAm k))):=by
 refine ok74.pc ?_;simp only[go_sem,ir74,simprocAttr];refine sq (k==22) ?_ ?_
 ·exact zz trivial
 refine zz ?_;refine sq (k==26) ?_ ?_
 ·exact zz trivial
 simp only[go_sem,JAm,simprocAttr]
def JB6(k:Int):Bool:=(k==15)||(k==26)
theorem JJZ(k:Int):PT 75 [.int .i64 k] (.d (.bool (JB6 k))):=by
 refine ok75.pc ?_;simp only[go_sem,ir75,simprocAttr];refine sq (k==26) ?_ ?_
 ·exact zz trivial
 simp only[go_sem,JB6,simprocAttr]
def JDn(k:Int):Bool:=decide (k≥1)&&decide (k≤7)
theorem JQa(k:Int):PT 132 [.int .i64 k] (.d (.bool (JDn k))):=by
 refine ok132.pc ?_;simp only[go_sem,JTD,simprocAttr];refine sq (decide (k≤7)) ?_ ?_
 ·exact zz trivial
 simp only[go_sem,JDn,simprocAttr]
def cvE:List Val→Int
 |[]=>4
 |[v]=>if Zu v !=0 then Zu v else if !JDn v.kind then 18 else 0
 |_=>3
theorem walk76(l:List Val):PT 76 [.list 6 (l.map JM)] (.d (.int .i64 (cvE l))):=by
 refine ok76.pc ?_
 match l with
 |[]=>
  have e0:(((0:Nat):Int)==0)=true:=rfl;simp only[go_sem,JQF,Vb,Vm,e0,Nat.reduceAdd,Nat.reduceEqDiff,Nat.reduceBEq,Nat.reduceLeDiff,reduceCtorEq,↓reduceIte];rfl
 |[v]=>
  have e0:(((1:Nat):Int)==0)=false:=rfl;have e1:(((1:Nat):Int)==1)=true:=rfl;have hx:=Uf (xs:=[v]) (k:=0) sP;have cOLD22:=(JGo v).call trivial;have c247:=(JQa v.kind).call trivial;rw[JI]at cOLD22;simp only[Va,Vb,List.getElem_cons_zero]at hx;simp only[go_sem,JQF,Va,Vb,Vf,Vm,Int.toNat_zero,hx,Nat.zero_add,e0,e1,Nat.reduceAdd,Nat.reduceEqDiff,Nat.reduceBEq,Nat.reduceLeDiff,reduceCtorEq,↓reduceIte];refine⟨dC,wn cOLD22 ?_⟩;simp only[go_sem,Int.toNat_zero,hx,Nat.reduceAdd,Nat.reduceEqDiff,Nat.reduceBEq,Nat.reduceLeDiff,reduceCtorEq,↓reduceIte];refine⟨fun h=>?_,fun h=>⟨dC,dC,?_⟩⟩
  ·rw[cvE,if_pos h]
  rw[cvE,if_neg (by simp[h])];refine wc c247 ?_;apply ik<;>intro h2
  ·rw[if_pos h2]
  ·rw[if_neg (by simp[h2])]
 |v::w::r=>
  have e0:((((r.map JM).length+1+1:Nat):Int)==0)=false:=sO;have e1:((((r.map JM).length+1+1:Nat):Int)==1)=false:=sO;simp only[go_sem,JQF,Va,Vf,e0,e1,Nat.reduceAdd,Nat.reduceEqDiff,Nat.reduceBEq,Nat.reduceLeDiff,reduceCtorEq,↓reduceIte];rfl
theorem walk78(p:Part):PT 78 [Ja p] (.d (.bool (p.kind==3))):=by
 refine ok78.pc ?_;simp only[Ja];simp only[go_sem,ir78,simprocAttr]
def JOC(q:Part→Bool)(l:List Part):Int:=match l.findIdx? q with
 |some k=>(k:Int)
 |none=> -1
theorem JOD{f:Nat}{q:Part→Bool}(hq:∀p,PT f [Ja p] (.d (.bool (q p))))(l:List Part)(hl:l.length≤68719476736):PT 133 [.list 3 (l.map Ja),.fn (.func f) [] []] (.d (.int .i64 (JOC q l))):=by
 refine ok133.pc ?_;simp only[go_sem,JSP,Vc,simprocAttr];refine JJ (fun n s=>∃k:Nat,k≤l.length∧n=l.length-k∧(∀(j:Nat) (h1:j<l.length),j<k→q l[j]=false)∧
  s=⟨[(0,.d (.list 3 (l.map Ja))),(1,.d (.fn (.func f) [] [])),(7,.d (.int .i64 l.length)),(8,.d (.int .i64 k))],[]⟩) ?_ ?_
 ·exact⟨_,_,Wk.refl _,0,Nat.zero_le _,rfl,sP,rfl⟩
 ·rintro n s ⟨k,hk,rfl,hinv,rfl⟩;by_cases hlt:k<l.length
  ·have hx:=JEV hlt;have hd:=dT hlt;have hc:=(hq l[k]).call trivial;simp only[Ja]at hc;refine zz6 ?_;refine⟨oM,wn hc ?_⟩;refine zz ?_;apply ik<;>intro hf
   ·have:l.findIdx? q=some k:=by
     rw[List.findIdx?_eq_some_iff_getElem];exact⟨hlt,hf,fun j hj=>by rw[hinv j oM hj];decide⟩
    simp only[JOC,this]
   ·refine⟨l.length-(k+1),_,oM,Wk.less ?_,k+1,oM,rfl,?_,rfl⟩
    ·exact zz7 trivial
    ·intro j h1 hj;by_cases e:j=k
     ·subst e;exact hf
     ·exact hinv j h1 oM
  ·have hd:=dF hlt;refine zz5 ?_;have:l.findIdx? q=none:=by
    rw[List.findIdx?_eq_none_iff];intro x hx;obtain⟨j,hj,rfl⟩:=List.getElem_of_mem hx;exact hinv j hj oM
   simp only[JOC,this]
theorem JK2{f:Nat}{q:Part→Bool}(hq:∀p,PT f [Ja p] (.d (.bool (q p))))(l:List Part)(hl:l.length≤68719476736):PT 77 [.list 3 (l.map Ja),.fn (.func f) [] []] (.d (.bool (l.any q))):=by
 refine ok77.pc ?_;simp only[go_sem,ir77,simprocAttr];refine wn ((JOD hq l hl).call trivial) ?_;have:decide (JOC q l≥0)=l.any q:=by
  unfold JOC;cases e:l.findIdx? q with
  |none=>
   rw[List.findIdx?_eq_none_iff]at e;have:l.any q=false:=by rw[List.any_eq_false];intro x hx;rw[e x hx];decide
   rw[this];simp
  |some k=>
   obtain⟨h1,h2,_⟩:=List.findIdx?_eq_some_iff_getElem.1 e;have:l.any q=true:=by rw[List.any_eq_true];exact⟨_,Vk h1,h2⟩
   rw[this];simp
 simp only[go_sem,this,simprocAttr]
noncomputable def JBR(e:Exp):Int:=
 if decide (e.op<1)||decide (e.op>28)then 11
 else if((e.op !=1&&decide ((e.value.length:Int)>0))||(!JAm e.op&&e.text !=[]))||(!JB6 e.op&&e.int !=0)then 3
 else if(Jb e.op).2==0&&decide ((e.args.length:Int)>0)then 3
 else if decide ((e.args.length:Int)<(Jb e.op).1)then 4
 else if decide ((e.args.length:Int)>(Jb e.op).2)&&e.op !=25 then 3
 else if e.op==1 then cvE e.value
 else if JAm e.op&&(JO e.text).2 !=0 then(JO e.text).2
 else if JAm e.op&& !(((JO e.text).1.any fun p=>p.kind==3)==(e.op==26))then 22
 else if JB6 e.op&&(decide (e.int<0)||decide (e.int>12))then 2 else 0
theorem YI{e:Exp}(h:fits (JL e)):e.text.length≤68719476736∧e.value.length≤68719476736∧e.args.length≤68719476736∧∀x∈e.args,fits (JL x):=by
 rw[JF]at h;simp only[fits,XA,Vc,and_true]at h;obtain⟨_,_,h1,⟨h2,h3⟩,h4,h5⟩:=h;exact⟨h1,h2,h4,fun x hx=>J5.1 h5 _ (VC.2 ⟨x,hx,rfl⟩)⟩
theorem JGp(s:Str):(JO s).1.length≤68719476736:=by
 unfold JO;split
 ·simp
 split
 ·simp
 split
 ·split
  ·simp
  ·rename_i h;simp at h⊢;omega
 ·simp
theorem walk52(e:Exp):PT 52 [JL e] (.d (.int .i64 (JBR e))):=by
 refine J3.Jg ok52.has fun hfit=>?_
 obtain⟨ft,fv,fa,_⟩:=YI (hfit _ (List.mem_singleton.2 rfl));refine ok52.pc ?_;generalize hR:JBR e=R;rw[JF];simp only[go_sem,ir52,simprocAttr];refine sq (decide (e.op>28)) ?_ ?_
 ·exact zz trivial
 refine zz ?_;refine⟨fun h1=>?_,fun h1=>wn ((walk73 e.op).call (by simp[Jl])) ?_⟩
 ·rw[←hR,JBR,if_pos h1]
 rw[JBR,if_neg (by simp only[h1];decide)]at hR;refine zz4 ?_;refine sq (decide ((e.value.length:Int)>0)) ?_ ?_
 ·exact zz4 trivial
 refine zz ?_;refine sq (!JAm e.op&&e.text !=[]) ?_ ?_
 ·refine zz ?_;refine wc ((JOB _).call trivial) ?_;refine sq (e.text !=[]) ?_ ?_
  ·refine zz ?_;exact zf
  exact zz trivial
 refine zz ?_;refine sq (!JB6 e.op&&e.int !=0) ?_ ?_
 ·refine zz ?_;refine wc ((JJZ _).call trivial) ?_;refine sq (e.int !=0) ?_ ?_
  ·exact zz trivial
  exact zz trivial
 refine zz ?_;apply ik<;>intro h2
 ·rw[if_pos h2]at hR;rw[hR]
 rw[if_neg (nF h2)]at hR;refine sq (decide ((e.args.length:Int)>0)) ?_ ?_
 ·exact zz4 trivial
 refine zz4 ?_;refine⟨fun h3=>?_,fun h3=>⟨fun h4=>?_,fun h4=>?_⟩⟩
 ·rw[if_pos h3]at hR;rw[hR]
 ·rw[if_neg (nF h3),if_pos h4]at hR;rw[hR]
 rw[if_neg (nF h3),if_neg (nF h4)]at hR;refine sq (e.op !=25) ?_ ?_
 ·exact zz trivial
 refine zz ?_;refine⟨fun h5=>?_,fun h5=>⟨fun h6=>?_,fun h6=>?_⟩⟩
 ·rw[if_pos h5]at hR;rw[hR]
 ·rw[if_neg (nF h5),if_pos h6]at hR;refine wn ((walk76 e.value).call trivial) ?_;simp only[go_sem,hR,simprocAttr]
 rw[if_neg (nF h5),if_neg (nF h6)]at hR;refine wc ((JOB _).call trivial) ?_;apply ik<;>intro hp
 ·rw[hp]at hR;simp only[Vt]at hR;refine wc ((JEU e.text ft).call (by simp[Jl])) ?_;apply ik<;>intro h7
  ·rw[if_pos h7]at hR;rw[hR]
  rw[if_neg (nF h7)]at hR;refine wc ((JK2 walk78 _ (JGp e.text)).call trivial) ?_;apply ik<;>intro h8
  ·rw[if_pos h8]at hR;rw[hR]
  rw[if_neg (nF h8)]at hR;refine wc ((JJZ _).call trivial) ?_;refine sq (decide (e.int<0)||decide (e.int>12)) ?_ ?_
  ·refine zz ?_;refine sq (decide (e.int>12)) ?_ ?_
   ·exact zz trivial
   exact zz trivial
  refine zz ?_;apply ik<;>intro h9
  ·rw[if_pos h9]at hR;rw[hR]
  ·rw[if_neg (nF h9)]at hR;rw[hR]
 ·rw[hp]at hR;simp only[Bool.false_and,Vu,if_false]at hR;refine wc ((JJZ _).call trivial) ?_;refine sq (decide (e.int<0)||decide (e.int>12)) ?_ ?_
  ·refine zz ?_;refine sq (decide (e.int>12)) ?_ ?_
   ·exact zz trivial
   exact zz trivial
  refine zz ?_;apply ik<;>intro h9
  ·rw[if_pos h9]at hR;rw[hR]
  ·rw[if_neg (nF h9)]at hR;rw[hR]
theorem JAn{o1 o2:Av.Obj}{i:Nat}(h:(get [(1000,o1),(1001,o2)] i).isSome=true):i=1000∨i=1001:=by
 simp only[Av.get]at h;split at h
 ·rename_i e;exact .inl e.symm
 ·split at h
  ·rename_i e;exact .inr e.symm
  ·cases h
theorem Con.two{P:Program}{f:Nat}{args:List Av}{o1 o2:Av.Obj}{r:Dat}(h:Con P f args [(1000,o1),(1001,o2)] (.d r) [])(i j:Nat)(hij:i≠j)
  (hargs:∀c∈args,inT (get [(1000,o1),(1001,o2)]) c)(hcl:closed (get [(1000,o1),(1001,o2)])):
  JR P f (args.map (Av.ren fun n=>if n=1000 then i else j)) [(i,some (o1.ren fun n=>if n=1000 then i else j)),(j,some (o2.ren fun n=>if n=1000 then i else j))] (.d r) []:=by
 have:=h.call (fun n=>if n=1000 then i else j) (fun k hk=>by rcases JAn hk with rfl|rfl<;>decide) (fun a b ha hb e=>?_) hargs hcl [] sP hcl trivial
 ·simpa[Av.ren]using this
 ·rcases JAn ha with rfl|rfl<;>rcases JAn hb with rfl|rfl
  ·rfl
  ·simp at e;exact absurd e hij
  ·simp at e;exact absurd e.symm hij
  ·rfl
end Go.Proofs
