/- Part K of a proof. -/
import Derived.Test.YtpncocdpglfifaaGreatDoorCfD
import Derived.Test.YtpncocdpglfifaaGreatDoorCfC
import Derived.Test.YtpncocdpglfifaaGreatDoorCfA
import Derived.Test.YtpncocdpglfifaaGreatDoorProg
import Derived.Shelf.SlGeneric
import Derived.Shelf.LaysM
import Derived.Shelf.Strconv.Itoa3
import Derived.Shelf.LaysC
import Derived.Shelf.Strconv.AtoiAll
import Derived.Ground.Names2Prog
import Derived.Ground.SlgnProg
import Derived.Lib.ItoaLen
import Derived.Shelf.Strings.BuilderK
import Derived.Shelf.Strings.BuilderRune
import Derived.Shelf.Strings.Repeat
import Derived.Shelf.Unicode.DecodeAny
import Derived.Shelf.Sort.Plain
import Derived.Shelf.Slices.In.SortNone
import Derived.Shelf.Slices.CompactS
import Derived.Lib.RuneLoops
import Derived.WalkKit
import Derived.Laws.CopyRow
import Derived.Shelf.Spec.SlicesInsertGrow
import Derived.Shelf.Slices.Clone
set_option linter.unusedVariables false
set_option linter.unusedSimpArgs false
set_option linter.unusedSectionVars false
set_option linter.constructorNameAsVariable false
set_option linter.unnecessarySimpa false
set_option maxRecDepth 10000
namespace Av
open Go
variable [Glb]
mutual
inductive Typ where
 |mk (kind min max scale:Int) (words:List Str) (elem:List Typ) (fields:List TFl)
inductive TFl where
 |mk (number:Int) (name:Str) (need:Int) (type:Typ) (dflt:List Val)
end
namespace Typ
def kind:Typ→Int|.mk k _ _ _ _ _ _=>k
def min:Typ→Int|.mk _ a _ _ _ _ _=>a
def max:Typ→Int|.mk _ _ b _ _ _ _=>b
def scale:Typ→Int|.mk _ _ _ s _ _ _=>s
def words:Typ→List Str|.mk _ _ _ _ w _ _=>w
def elem:Typ→List Typ|.mk _ _ _ _ _ e _=>e
def fields:Typ→List TFl|.mk _ _ _ _ _ _ f=>f
end Typ
namespace TFl
def number:TFl→Int|.mk n _ _ _ _=>n
def name:TFl→Str|.mk _ n _ _ _=>n
def need:TFl→Int|.mk _ _ n _ _=>n
def type:TFl→Typ|.mk _ _ _ t _=>t
def dflt:TFl→List Val|.mk _ _ _ _ d=>d
end TFl
mutual
def UX:Typ→Dat
 |.mk k a b s w e f=>.agg [.int .i64 k,.int .i64 a,.int .i64 b,.int .i64 s,.list 1 (w.map .str),.list 7 (JCF e),.list 11 (JCG f)]
def JCF:List Typ→List Dat
 |[]=>[]
 |v::r=>UX v::JCF r
def XY:TFl→Dat
 |.mk n m d t v=>.agg ([.int .i64 n,.str m,.int .i64 d]++((UX t).cells++[.list 6 (v.map J0)]))
def JCG:List TFl→List Dat
 |[]=>[]
 |v::r=>XY v::JCG r
end
theorem JCs:∀l:List Typ,JCF l=l.map UX
 |[]=>by simp[JCF]
 |v::r=>by simp[JCF,JCs r]
theorem JCt:∀l:List TFl,JCG l=l.map XY
 |[]=>by simp[JCG]
 |v::r=>by simp[JCG,JCt r]
theorem Us(t:Typ):UX t=.agg [.int .i64 t.kind,.int .i64 t.min,.int .i64 t.max,.int .i64 t.scale,.list 1 (t.words.map .str),.list 7 (t.elem.map UX),.list 11 (t.fields.map XY)]:=by
 cases t;simp[UX,JCs,JCt,Typ.kind,Typ.min,Typ.max,Typ.scale,Typ.words,Typ.elem,Typ.fields]
theorem JCH(f:TFl):XY f=.agg [.int .i64 f.number,.str f.name,.int .i64 f.need,.int .i64 f.type.kind,.int .i64 f.type.min,.int .i64 f.type.max,.int .i64 f.type.scale,
  .list 1 (f.type.words.map .str),.list 7 (f.type.elem.map UX),.list 11 (f.type.fields.map XY),.list 6 (f.dflt.map J0)]:=by
 cases f;simp[XY,Us,TFl.number,TFl.name,TFl.need,TFl.type,TFl.dflt,Dat.cells]
theorem JOA{xs:List Typ}{k:Nat}(h:k<xs.length):nth (xs.map UX) k=.agg [.int .i64 xs[k].kind,.int .i64 xs[k].min,.int .i64 xs[k].max,.int .i64 xs[k].scale,.list 1 (xs[k].words.map .str),.list 7 (xs[k].elem.map UX),.list 11 (xs[k].fields.map XY)]:=by
 rw[XW (sX h),List.getElem_map,Us]
theorem JOB{xs:List TFl}{k:Nat}(h:k<xs.length):nth (xs.map XY) k=.agg [.int .i64 xs[k].number,.str xs[k].name,.int .i64 xs[k].need,.int .i64 xs[k].type.kind,.int .i64 xs[k].type.min,.int .i64 xs[k].type.max,.int .i64 xs[k].type.scale,
  .list 1 (xs[k].type.words.map .str),.list 7 (xs[k].type.elem.map UX),.list 11 (xs[k].type.fields.map XY),.list 6 (xs[k].dflt.map J0)]:=by
 rw[XW (sX h),List.getElem_map,JCH]
theorem YT(l:List Str):JG (l.map .str)=l.map .str:=by
 rw[Jw,List.map_map];exact List.map_congr_left fun p _=>by simp[Dat.canon]
mutual
theorem JBf:∀t:Typ,(UX t).canon=UX t
 |.mk k a b s w e f=>by simp only[UX,Dat.canon,JG,YT,JAj e,JAk f]
theorem JAj:∀l:List Typ,JG (JCF l)=JCF l
 |[]=>by simp[JCF,JG]
 |v::r=>by simp only[JCF,JG,JBf v,JAj r]
theorem JEY:∀f:TFl,(XY f).canon=XY f
 |.mk n m d t v=>by
  have:=JBf t;cases t with
  |mk k a b s w e f=>
   simp only[UX,Dat.canon,JG,Dat.agg.injEq,List.cons.injEq,true_and,and_true,Dat.list.injEq]at this;simp only[XY,UX,Dat.cells,List.cons_append,List.nil_append,Dat.canon,JG,ZT,this]
theorem JAk:∀l:List TFl,JG (JCG l)=JCG l
 |[]=>by simp[JCG,JG]
 |v::r=>by simp only[JCG,JG,JEY v,JAk r]
end
theorem YU(l:List Typ):JG (l.map UX)=l.map UX:=by rw[←JCs,JAj]
theorem ZU(l:List TFl):JG (l.map XY)=l.map XY:=by rw[←JCt,JAk]
attribute [go_sem] YT JBf JEY YU ZU
end Av
namespace Av
open Go
variable [Glb]
variable {k:Nat}
structure Kal where
 service:Str
 rules:List Rule
def Je(c:Kal):Dat:=.agg [.str c.service,.list 6 (c.rules.map UT)]
mutual
inductive Ste where
 |mk (name:Str) (kind number time limit:Int) (text schema:Str) (exprs:List Exp) (rules:List Rule) (calls:List Kal) (branches:List Brn)
inductive Brn where
 |mk (cond:List Exp) (steps:List Ste)
end
namespace Ste
def name:Ste→Str|.mk n _ _ _ _ _ _ _ _ _ _=>n
def kind:Ste→Int|.mk _ n _ _ _ _ _ _ _ _ _=>n
def number:Ste→Int|.mk _ _ n _ _ _ _ _ _ _ _=>n
def time:Ste→Int|.mk _ _ _ n _ _ _ _ _ _ _=>n
def limit:Ste→Int|.mk _ _ _ _ n _ _ _ _ _ _=>n
def text:Ste→Str|.mk _ _ _ _ _ n _ _ _ _ _=>n
def schema:Ste→Str|.mk _ _ _ _ _ _ n _ _ _ _=>n
def exprs:Ste→List Exp|.mk _ _ _ _ _ _ _ n _ _ _=>n
def rules:Ste→List Rule|.mk _ _ _ _ _ _ _ _ n _ _=>n
def calls:Ste→List Kal|.mk _ _ _ _ _ _ _ _ _ n _=>n
def branches:Ste→List Brn|.mk _ _ _ _ _ _ _ _ _ _ n=>n
end Ste
namespace Brn
def cond:Brn→List Exp|.mk w _=>w
def steps:Brn→List Ste|.mk _ s=>s
end Brn
mutual
def JH:Ste→Dat
 |.mk n k u t l x c e r a b=>.agg [.str n,.int .i64 k,.int .i64 u,.int .i64 t,.int .i64 l,.str x,.str c,.list 5 (e.map Jf),.list 6 (r.map UT),.list 2 (a.map Je),.list 2 (Zn b)]
def YB:List Ste→List Dat
 |[]=>[]
 |v::r=>JH v::YB r
def J1:Brn→Dat
 |.mk w s=>.agg [.list 5 (w.map Jf),.list 11 (YB s)]
def Zn:List Brn→List Dat
 |[]=>[]
 |v::r=>J1 v::Zn r
end
theorem Z9:∀l:List Ste,YB l=l.map JH
 |[]=>by simp[YB]
 |v::r=>by simp[YB,Z9 r]
theorem JCu:∀l:List Brn,Zn l=l.map J1
 |[]=>by simp[Zn]
 |v::r=>by simp[Zn,JCu r]
theorem JV(s:Ste):JH s=.agg [.str s.name,.int .i64 s.kind,.int .i64 s.number,.int .i64 s.time,.int .i64 s.limit,.str s.text,.str s.schema,.list 5 (s.exprs.map Jf),.list 6 (s.rules.map UT),.list 2 (s.calls.map Je),.list 2 (s.branches.map J1)]:=by
 cases s;simp[JH,JCu,Ste.name,Ste.kind,Ste.number,Ste.time,Ste.limit,Ste.text,Ste.schema,Ste.exprs,Ste.rules,Ste.calls,Ste.branches]
theorem Xy(b:Brn):J1 b=.agg [.list 5 (b.cond.map Jf),.list 11 (b.steps.map JH)]:=by
 cases b;simp[J1,Z9,Brn.cond,Brn.steps]
structure Sch where
 name:Str
 version:Int
 type:Typ
def UB(c:Sch):Dat:=.agg [.str c.name,.int .i64 c.version,.int .i64 c.type.kind,.int .i64 c.type.min,.int .i64 c.type.max,.int .i64 c.type.scale,.list 1 (c.type.words.map .str),.list 7 (c.type.elem.map UX),.list 11 (c.type.fields.map XY)]
structure Epd where
 name:Str
 kind:Int
 schema:Str
 version:Int
 fkind:Int
 sep:Int
 widths:List Int
def Jo(x:Epd):Dat:=.agg [.str x.name,.int .i64 x.kind,.str x.schema,.int .i64 x.version,.int .i64 x.fkind,.int .i64 x.sep,.list 1 (x.widths.map (.int .i64))]
structure Svc where
 name:Str
 request:Str
 reply:Str
 undo:Bool
def Uy(x:Svc):Dat:=.agg [.str x.name,.str x.request,.str x.reply,.bool x.undo]
structure Rou where
 name:Str
 src:Str
 steps:List Ste
def Ui(x:Rou):Dat:=.agg [.str x.name,.str x.src,.list 11 (x.steps.map JH)]
structure Prg where
 version:Int
 schemas:List Sch
 endpoints:List Epd
 services:List Svc
 routes:List Rou
def UD(p:Prg):Dat:=.agg [.int .i64 p.version,.list 9 (p.schemas.map UB),.list 7 (p.endpoints.map Jo),.list 4 (p.services.map Uy),.list 3 (p.routes.map Ui)]
structure Prb where
 code:Int
 route:Str
 place:List Int
 name:Str
def JOC(x:Prb):Dat:=.agg [.int .i64 x.code,.str x.route,.list 1 (x.place.map (.int .i64)),.str x.name]
structure Wlk where
 route:Int
 place:List Int
 step:Ste
def JHh(x:Wlk):Dat:=.agg [.int .i64 x.route,.list 1 (x.place.map (.int .i64)),.str x.step.name,.int .i64 x.step.kind,.int .i64 x.step.number,.int .i64 x.step.time,.int .i64 x.step.limit,.str x.step.text,.str x.step.schema,.list 5 (x.step.exprs.map Jf),.list 6 (x.step.rules.map UT),.list 2 (x.step.calls.map Je),.list 2 (x.step.branches.map J1)]
theorem Zo{xs:List Ste}(h:k<xs.length):nth (xs.map JH) k=.agg [.str xs[k].name,.int .i64 xs[k].kind,.int .i64 xs[k].number,.int .i64 xs[k].time,.int .i64 xs[k].limit,.str xs[k].text,.str xs[k].schema,.list 5 (xs[k].exprs.map Jf),.list 6 (xs[k].rules.map UT),.list 2 (xs[k].calls.map Je),.list 2 (xs[k].branches.map J1)]:=by
 rw[XW (sX h),List.getElem_map,JV]
theorem YV{xs:List Brn}(h:k<xs.length):nth (xs.map J1) k=.agg [.list 5 (xs[k].cond.map Jf),.list 11 (xs[k].steps.map JH)]:=by
 rw[XW (sX h),List.getElem_map,Xy]
theorem JU{α:Type}(f:α→Dat){xs:List α}(h:k<xs.length):nth (xs.map f) k=f xs[k]:=by
 rw[XW (sX h),List.getElem_map]
theorem XB(l:List Int):JG (l.map (.int .i64))=l.map (.int .i64):=by
 rw[Jw,List.map_map];exact List.map_congr_left fun p _=>by simp[Dat.canon]
theorem JDI(c:Kal):(Je c).canon=Je c:=by simp only[Je,Dat.canon,JG,Uf]
theorem Xp(l:List Kal):JG (l.map Je)=l.map Je:=by
 rw[Jw,List.map_map];exact List.map_congr_left fun r _=>JDI r
mutual
theorem ZV:∀s:Ste,(JH s).canon=JH s
 |.mk n k u t l x c e r a b=>by simp only[JH,Dat.canon,JG,UH,Uf,Xp,JAl b]
theorem JAA:∀l:List Ste,JG (YB l)=YB l
 |[]=>by simp[YB,JG]
 |v::r=>by simp only[YB,JG,ZV v,JAA r]
theorem JEZ:∀b:Brn,(J1 b).canon=J1 b
 |.mk w s=>by simp only[J1,Dat.canon,JG,UH,JAA s]
theorem JAl:∀l:List Brn,JG (Zn l)=Zn l
 |[]=>by simp[Zn,JG]
 |v::r=>by simp only[Zn,JG,JEZ v,JAl r]
end
theorem Xq(l:List Ste):JG (l.map JH)=l.map JH:=by rw[←Z9,JAA]
theorem JDJ(l:List Brn):JG (l.map J1)=l.map J1:=by rw[←JCu,JAl]
theorem JEa(c:Sch):(UB c).canon=UB c:=by simp only[UB,Dat.canon,JG,YT,YU,ZU]
theorem JDK(c:Epd):(Jo c).canon=Jo c:=by simp only[Jo,Dat.canon,JG,XB]
theorem JEb(c:Svc):(Uy c).canon=Uy c:=by simp only[Uy,Dat.canon,JG]
theorem JEc(c:Rou):(Ui c).canon=Ui c:=by simp only[Ui,Dat.canon,JG,Xq]
theorem JEd(c:Prb):(JOC c).canon=JOC c:=by simp only[JOC,Dat.canon,JG,XB]
theorem JDL(c:Wlk):(JHh c).canon=JHh c:=by simp only[JHh,Dat.canon,JG,XB,UH,Uf,Xp,JDJ]
theorem Yx{α:Type}(f:α→Dat)(h:∀a,(f a).canon=f a)(l:List α):JG (l.map f)=l.map f:=by
 rw[Jw,List.map_map];exact List.map_congr_left fun r _=>h r
theorem JAm(l:List Sch):JG (l.map UB)=l.map UB:=Yx _ JEa l
theorem JDM(l:List Epd):JG (l.map Jo)=l.map Jo:=Yx _ JDK l
theorem JAn(l:List Svc):JG (l.map Uy)=l.map Uy:=Yx _ JEb l
theorem JAo(l:List Rou):JG (l.map Ui)=l.map Ui:=Yx _ JEc l
theorem JHi(l:List Prb):JG (l.map JOC)=l.map JOC:=Yx _ JEd l
theorem JHj(l:List Wlk):JG (l.map JHh)=l.map JHh:=Yx _ JDL l
theorem JHk(p:Prg):(UD p).canon=UD p:=by simp only[UD,Dat.canon,JG,JAm,JDM,JAn,JAo]
attribute [go_sem] XB JDI Xp ZV JEZ Xq JDJ JEa JDK JEb JEc JEd JDL JAm JDM JAn JAo JHi JHj JHk
mutual
def szS:Ste→Nat
 |.mk _ _ _ _ _ _ _ _ _ _ b=>1+XQ b
def J6:List Ste→Nat
 |[]=>0
 |v::r=>szS v+J6 r
def szB:Brn→Nat
 |.mk _ s=>1+J6 s
def XQ:List Brn→Nat
 |[]=>0
 |v::r=>szB v+XQ r
end
theorem JEe(s:Ste):szS s=1+XQ s.branches:=by cases s;simp[szS,Ste.branches]
theorem JAp(b:Brn):szB b=1+J6 b.steps:=by cases b;simp[szB,Brn.steps]
theorem JEf:∀{l:List Ste} {s:Ste},s∈l→szS s≤J6 l
 |v::r,s,h=>by
  rcases VA.1 h with rfl|h
  ·simp only[J6];omega
  ·have:=JEf h;simp only[J6];omega
theorem JEg:∀{l:List Brn} {s:Brn},s∈l→szB s≤XQ l
 |v::r,s,h=>by
  rcases VA.1 h with rfl|h
  ·simp only[XQ];omega
  ·have:=JEg h;simp only[XQ];omega
end Av
namespace Go.Proofs
open Go Av
open Av.Y
def ir49:Ic:=q (.reg (oN 2 [.int .i64 0,.int .i64 0,.str [],.nil 6,.nil 5]<|N))<|q (R (om 3 0<|oo 4 (.bld [.int .i64 0,.int .i64 0,.str [],.nil 6,.nil 5] [(0,1,i 2),(2,1,t 3)])<|oS 5 2 4<|N) [0,3,4])<|.ret
theorem ok49:FT 49 5 ir49 [.cell 2 (some 5)]:=.o Tryz.func49
def ir16:Ic:=q (.reg (oN 2 [.int .i64 0,.int .i64 0,.str [],.nil 6,.nil 5]<|N))<|q (R (om 3 0<|cl 4 39 [t 3]<|oo 5 (.bls 6 [t 4])<|oo 6 (.bld [.int .i64 0,.int .i64 0,.str [],.nil 6,.nil 5] [(0,1,i 1),(3,1,t 5)])<|oS 5 2 6<|N) [0,3,4,5,6])<|.ret
theorem ok16:FT 16 7 ir16 [.cell 2 (some 5)]:=.o Tryz.func16
def ir39:Ic:=q (.reg (oN 2 y6<|N))<|q (R (om 3 0<|oo 4 (.bld y6 [(0,1,i 2),(1,1,t 3)])<|oS 6 2 4<|N) [0,3,4])<|.ret
theorem ok39:FT 39 5 ir39 [.cell 2 (some 6)]:=.o Tryz.func39
def ir48:Ic:=q (R (ox 4 1<|ox 5 2<|oN 6 [.int .i64 0,.int .i64 0,.str [],.nil 6,.nil 5]<|N) [1,2])<|q (R (om 7 0<|oL 8 5 4<|oL 9 5 5<|oo 10 (.bls 5 [t 8,t 9])<|oo 11 (.bld [.int .i64 0,.int .i64 0,.str [],.nil 6,.nil 5] [(0,1,t 7),(4,1,t 10)])<|oS 5 6 11<|N) [0,4,5,7,8,9,10,11])<|.ret
theorem ok48:FT 48 12 ir48 [.cell 6 (some 5)]:=.o Tryz.func48
def JRN:Ic:=q (R (ok 2 (.k (.str []))<|N) [2])<|q (q (R (om 3 0<|N) [0])<|D (.block 0<|q (R (ob 5 .seq (t 3) (.k (.str [108,105,110,101]))<|om 4 5<|N) [5])<|D (I 4 (q (R (ok 2 (.k (.str [98,111,100,121,46,113,116,121]))<|N) [3,4])<|.ret) (q (R (ob 7 .seq (t 3) (.k (.str [98,105,108,108]))<|om 6 7<|N) [3,4,7])<|D (I 6 (q (R (ok 2 (.k (.str [98,111,100,121,46,116,111,116,97,108]))<|N) [6])<|.ret) S) [6])) []) [])<|q (.reg (ok 2 (.k (.str [98,111,100,121,46,97,109,111,117,110,116]))<|N))<|.ret
theorem ok177:FT 177 8 JRN [.tmp 2]:=.o Tryz.func177
def JRO:Ic:=q (.reg (oN 2 [.nil 6]<|N))<|q (.reg (oN 3 [.nil 6]<|N))<|q (q (.reg (oz 4 0<|N))<|D (.block 0<|.loop (q (q (R (om 9 4<|oi 10 .add 9 1<|om 11 0<|oh 12 11<|ot 13 .lss 10 12<|N) [9,10,11,12])<|D (I 13 S (E 0)) [13])<|q (D (.block 1<|q (R (om 17 0<|om 18 4<|oa false 19 1 17 18<|ol 20 19<|oo 21 (.asr 9 (t 20))<|om 16 21<|oe 22 16 0<|oe 23 16 1<|om 5 22<|om 6 23<|N) [17,18,19,20,21,16,22,23,6])<|q (R (om 25 0<|om 26 4<|oi 27 .add 26 1<|oa false 28 1 25 27<|ol 29 28<|oo 30 (.asr 74 (t 29))<|om 24 30<|oe 31 24 0<|oe 32 24 1<|oN 7 [.int .i64 0,.int .i64 0,.str [],.nil 6,.nil 5]<|oS 5 7 31<|om 8 32<|N) [25,26,27,28,29,30,24,31,32,8])<|R (of 33 3 0<|ol 34 33<|om 35 5<|oL 36 5 7<|oo 37 (.bld [.str [],.int .i64 0,.int .i64 0,.str [],.nil 6,.nil 5] [(0,1,t 35),(1,5,t 36)])<|oo 38 (.bls 6 [t 37])<|oo 39 (.app 6 (t 34) (t 38))<|of 40 3 0<|os 40 39<|N) [5,7,33,34,35,36,37,38,39,40]) [])<|R (om 14 4<|oi 15 .add 14 2<|om 4 15<|N) [14,15])) [0,4,13,5,6,7,8])<|q (R (oL 41 1 3<|oS 1 2 41<|N) [3,41])<|.ret
theorem JRP:FT 178 42 JRO [.cell 2 (some 1)]:=.o Tryz.func178
def JRQ:Ic:=q (R (ox 3 1<|oN 4 [.nil 6]<|N) [1])<|q (D (.regd [(1,12),(4,12),(8,12),(9,12)] (oo 5 (.ifc 9 (.k (.str [105,100])))<|cl 6 49 [.k (.str [98,111,100,121,46,105,100])]<|oo 7 (.ifc 74 (t 6))<|oo 8 (.ifc 9 (.k (.str [107,105,110,100])))<|cl 9 49 [.k (.str [98,111,100,121,46,107,105,110,100])]<|oo 10 (.ifc 74 (t 9))<|oo 11 (.ifc 9 (.k (.str [116,111,116,97,108])))<|om 12 0<|cl 13 177 [t 12]<|cl 14 49 [t 13]<|oo 15 (.ifc 74 (t 14))<|oo 16 (.ifc 9 (.k (.str [99,111,117,110,116])))<|oL 17 5 3<|oo 18 (.ifc 74 (t 17))<|oo 19 (.bls 1 [t 5,t 7,t 8,t 10,t 11,t 15,t 16,t 18])<|cl 20 178 [t 19]<|oS 1 4 20<|N)) [0,3,5,6,7,8,9,10,11,12,13,14,15,16,17,18,19,20])<|.ret
theorem ok179:FT 179 21 JRQ [.cell 4 (some 1)]:=.o Tryz.func179
def JRR:Ic:=q (R (ok 4 (.k (.nil 2))<|N) [4])<|q (.reg (ok 5 (.k (.nil 2))<|N))<|q (q (.reg (oz 6 0<|N))<|D (.block 0<|.loop (q (q (R (om 8 6<|om 9 1<|oh 10 9<|ot 11 .lss 8 10<|N) [8,9,10])<|D (I 11 S (E 0)) [11])<|q (D (.block 1<|q (R (om 14 0<|cl 15 16 [i 1]<|cl 16 179 [t 14,t 15]<|oN 7 [.nil 6]<|oS 1 7 16<|N) [14,15,16])<|q (q (R (om 17 1<|om 18 6<|oa false 19 1 17 18<|ol 20 19<|ob 21 .seq (t 20) (.k (.str [115,116,111,99,107]))<|N) [17,18,19,20])<|D (I 21 (R (oo 22 (.ifc 9 (.k (.str [105,100])))<|cl 23 49 [.k (.str [98,111,100,121,46,105,100])]<|oo 24 (.ifc 74 (t 23))<|oo 25 (.ifc 9 (.k (.str [107,105,110,100])))<|cl 26 49 [.k (.str [98,111,100,121,46,107,105,110,100])]<|oo 27 (.ifc 74 (t 26))<|oo 28 (.ifc 9 (.k (.str [115,107,117])))<|om 29 6<|oi 30 .rem 29 10<|cl 31 16 [t 30]<|oo 32 (.ifc 74 (t 31))<|oo 33 (.ifc 9 (.k (.str [113,116,121])))<|cl 34 16 [i 1]<|oo 35 (.ifc 74 (t 34))<|oo 36 (.bls 1 [t 22,t 24,t 25,t 27,t 28,t 32,t 33,t 35])<|cl 37 178 [t 36]<|oS 1 7 37<|N) [21,22,23,24,25,26,27,28,29,30,31,32,33,34,35,36,37]) S) [21])<|R (om 38 5<|om 39 1<|om 40 6<|oa false 41 1 39 40<|ol 42 41<|oL 43 1 7<|oo 44 (.bld [.str [],.nil 6] [(0,1,t 42),(1,1,t 43)])<|oo 45 (.bls 2 [t 44])<|oo 46 (.app 2 (t 38) (t 45))<|om 5 46<|N) [7,38,39,40,41,42,43,44,45,46]) [])<|R (om 12 6<|oi 13 .add 12 1<|om 6 13<|N) [12,13])) [0,1,6,11,7])<|q (R (om 47 5<|om 4 47<|N) [5,47])<|.ret
theorem JRS:FT 180 48 JRR [.tmp 4]:=.o Tryz.func180
def JRT:Ic:=q (R (ox 3 1<|oN 4 [.str [],.int .i64 0,.int .i64 0,.int .i64 0,.int .i64 0,.str [],.str [],.nil 5,.nil 6,.nil 2,.nil 2]<|N) [1])<|q (R (om 6 0<|ob 7 .cat (.k (.str [111,117,116,95])) (t 6)<|om 5 7<|N) [6,7])<|q (q (R (om 8 0<|ob 9 .seq (t 8) (.k (.str [111,114,100,101,114]))<|om 10 9<|.sc 10 true (of 11 3 1<|ol 12 11<|ob 13 .rem (t 12) (.k (.int .u8 3))<|ob 14 .eql (t 13) (.k (.int .u8 1))<|N) (t 14) 15 N) [0,3,8,9,10])<|D (I 15 (R (ok 5 (.k (.str [97,103,97,105,110]))<|N) [15]) S) [15])<|q (R (om 16 5<|oo 17 (.bld [.str [],.int .i64 0,.int .i64 0,.int .i64 0,.int .i64 0,.str [],.str [],.nil 5,.nil 6,.nil 2,.nil 2] [(1,1,i 13),(5,1,t 16)])<|oS 11 4 17<|N) [5,16,17])<|.ret
theorem ok105:FT 105 18 JRT [.cell 4 (some 11)]:=.o Tryz.func105
end Go.Proofs
namespace Go.Proofs
open Go Av
open Av.Y
def ir81:Ic:=q (R (ox 1 0<|oN 2 [.int .i64 0,.int .i64 0,.str [],.nil 6,.nil 5]<|N) [0])<|q (R (of 8 1 0<|ol 9 8<|of 10 1 1<|ol 11 10<|of 12 1 2<|ol 13 12<|oo 14 (.bld [.int .i64 0,.int .i64 0,.str [],.nil 6,.nil 5] [(0,1,t 9),(1,1,t 11),(2,1,t 13)])<|oN 3 [.int .i64 0,.int .i64 0,.str [],.nil 6,.nil 5]<|oS 5 3 14<|N) [8,9,10,11,12,13,14])<|q (q (R (of 15 1 3<|ol 16 15<|oh 17 16<|oz 18 0<|N) [15])<|D (.block 0<|.loop (q (.reg (ot 19 .lss 18 17<|N))<|q (D (I 19 S (E 0)) [19])<|q (D (.block 1<|q (R (oa true 20 6 16 18<|oL 21 6 20<|oN 5 y6<|oS 6 5 21<|N) [20,21])<|D (.regd [(1,3),(1,4)] (of 22 3 3<|ol 23 22<|oL 24 6 5<|cl 25 101 [t 24]<|oo 26 (.bls 6 [t 25])<|oo 27 (.app 6 (t 23) (t 26))<|of 28 3 3<|os 28 27<|N)) [5,22,23,24,25,26,27,28]) [])<|R (oi 29 .add 18 1<|om 18 29<|N) [29])) [16,17,18,19,5])<|q (q (R (of 30 1 4<|ol 31 30<|oh 32 31<|oz 33 0<|N) [1,30])<|D (.block 2<|.loop (q (.reg (ot 34 .lss 33 32<|N))<|q (D (I 34 S (E 2)) [34])<|q (D (.block 3<|q (R (oa true 35 5 31 33<|oL 36 5 35<|oN 7 [.int .i64 0,.int .i64 0,.str [],.nil 6,.nil 5]<|oS 5 7 36<|N) [35,36])<|D (.regd [(1,3),(1,4)] (of 37 3 4<|ol 38 37<|oL 39 5 7<|cl 40 81 [t 39]<|oo 41 (.bls 5 [t 40])<|oo 42 (.app 5 (t 38) (t 41))<|of 43 3 4<|os 43 42<|N)) [7,37,38,39,40,41,42,43]) [])<|R (oi 44 .add 33 1<|om 33 44<|N) [44])) [31,32,33,34,7])<|q (R (oL 45 5 3<|oS 5 2 45<|N) [3,45])<|.ret
theorem ok81:FT 81 46 ir81 [.cell 2 (some 5)]:=.o Tryz.func81
def ir82:Ic:=q (R (ox 1 0<|oN 2 [.nil 6]<|N) [0])<|q (R (of 6 1 0<|ol 7 6<|oh 8 7<|oo 9 (.mks 6 [.str [],.int .i64 0,.int .i64 0,.str [],.nil 6,.nil 5] (i 0) (t 8))<|om 3 9<|N) [6,7,8,9])<|q (q (R (of 10 1 0<|ol 11 10<|oh 12 11<|oz 13 0<|N) [1,10])<|D (.block 0<|.loop (q (.reg (ot 14 .lss 13 12<|N))<|q (D (I 14 S (E 0)) [14])<|q (D (.block 1<|q (R (oa true 15 6 11 13<|oL 16 6 15<|oN 5 [.str [],.int .i64 0,.int .i64 0,.str [],.nil 6,.nil 5]<|oS 6 5 16<|N) [15,16])<|D (.regd [(2,5)] (om 17 3<|of 18 5 0<|ol 19 18<|of 20 5 1<|oL 21 5 20<|cl 22 81 [t 21]<|oo 23 (.bld [.str [],.int .i64 0,.int .i64 0,.str [],.nil 6,.nil 5] [(0,1,t 19),(1,5,t 22)])<|oo 24 (.bls 6 [t 23])<|oo 25 (.app 6 (t 17) (t 24))<|om 3 25<|N)) [5,17,18,19,20,21,22,23,24,25]) [])<|R (oi 26 .add 13 1<|om 13 26<|N) [26])) [11,12,13,14,5])<|q (R (om 27 3<|oo 28 (.bld [.nil 6] [(0,1,t 27)])<|oS 1 2 28<|N) [3,27,28])<|.ret
theorem ok82:FT 82 29 ir82 [.cell 2 (some 1)]:=.o Tryz.func82
def JJz:Ic:=q (R (ok 4 (.k (.nil 5))<|N) [4])<|q (.reg (ok 5 (.k (.nil 5))<|N))<|q (q (R (om 8 0<|oh 9 8<|oz 10 0<|N) [0])<|D (.block 0<|.loop (q (.reg (ot 11 .lss 10 9<|N))<|q (D (I 11 S (E 0)) [11])<|q (D (.block 1<|q (R (oa true 12 5 8 10<|oL 13 5 12<|oN 7 [.int .i64 0,.int .i64 0,.str [],.nil 6,.nil 5]<|oS 5 7 13<|N) [12,13])<|R (om 14 5<|om 15 1<|oL 16 5 7<|.call (some 17) (.dyn (t 15)) [t 16] (oo 18 (.bls 5 [t 17])<|oo 19 (.app 5 (t 14) (t 18))<|om 5 19<|N)) [7,14,15,16,17,18,19]) [])<|R (oi 20 .add 10 1<|om 10 20<|N) [20])) [1,8,9,10,11,7])<|q (R (om 21 5<|om 4 21<|N) [5,21])<|.ret
theorem JHn:FT 106 22 JJz [.tmp 4]:=.o Tryz.func106
def JRU:Ic:=q (R (ok 4 (.k (.nil 2))<|N) [4])<|q (.reg (ok 5 (.k (.nil 2))<|N))<|q (q (R (om 8 0<|oh 9 8<|oz 10 0<|N) [0])<|D (.block 0<|.loop (q (.reg (ot 11 .lss 10 9<|N))<|q (D (I 11 S (E 0)) [11])<|q (D (.block 1<|q (R (oa true 12 2 8 10<|oL 13 2 12<|oN 7 [.str [],.nil 6]<|oS 2 7 13<|N) [12,13])<|R (om 14 5<|om 15 1<|oL 16 2 7<|.call (some 17) (.dyn (t 15)) [t 16] (oo 18 (.bls 2 [t 17])<|oo 19 (.app 2 (t 14) (t 18))<|om 5 19<|N)) [7,14,15,16,17,18,19]) [])<|R (oi 20 .add 10 1<|om 10 20<|N) [20])) [1,8,9,10,11,7])<|q (R (om 21 5<|om 4 21<|N) [5,21])<|.ret
theorem JRV:FT 107 22 JRU [.tmp 4]:=.o Tryz.func107
def JRW:Ic:=q (R (ox 1 0<|oN 2 [.str [],.nil 6]<|N) [0])<|q (R (of 3 1 1<|oL 4 1 3<|cl 5 82 [t 4]<|of 6 1 1<|oS 1 6 5<|N) [3,4,5,6])<|q (R (oL 7 2 1<|oS 2 2 7<|N) [1,7])<|.ret
theorem ok108:FT 108 8 JRW [.cell 2 (some 2)]:=.o Tryz.func108
def JJ0:Ic:=q (R (ok 4 (.k (.nil 2))<|N) [4])<|q (.reg (ok 5 (.k (.nil 2))<|N))<|q (q (R (om 8 0<|oh 9 8<|oz 10 0<|N) [0])<|D (.block 0<|.loop (q (.reg (ot 11 .lss 10 9<|N))<|q (D (I 11 S (E 0)) [11])<|q (D (.block 1<|q (R (oa true 12 2 8 10<|oL 13 2 12<|oN 7 [.nil 5,.nil 11]<|oS 2 7 13<|N) [12,13])<|R (om 14 5<|om 15 1<|oL 16 2 7<|.call (some 17) (.dyn (t 15)) [t 16] (oo 18 (.bls 2 [t 17])<|oo 19 (.app 2 (t 14) (t 18))<|om 5 19<|N)) [7,14,15,16,17,18,19]) [])<|R (oi 20 .add 10 1<|om 10 20<|N) [20])) [1,8,9,10,11,7])<|q (R (om 21 5<|om 4 21<|N) [5,21])<|.ret
theorem JHo:FT 109 22 JJ0 [.tmp 4]:=.o Tryz.func109
def JJ1:Ic:=q (R (ox 1 0<|oN 2 [.nil 5,.nil 11]<|N) [0])<|q (D (.regd [(2,4)] (of 3 1 0<|ol 4 3<|cl 5 106 [t 4,.k (.fn (.func 81) [] [])]<|of 6 1 1<|ol 7 6<|cl 8 56 [t 7,.k (.fn (.func 57) [] [])]<|oo 9 (.bld [.nil 5,.nil 11] [(0,1,t 5),(1,1,t 8)])<|oS 2 2 9<|N)) [1,3,4,5,6,7,8,9])<|.ret
theorem JOD:FT 110 10 JJ1 [.cell 2 (some 2)]:=.o Tryz.func110
def JP6:Ic:=q (R (ok 4 (.k (.nil 11))<|N) [4])<|q (.reg (ok 5 (.k (.nil 11))<|N))<|q (q (R (om 8 0<|oh 9 8<|oz 10 0<|N) [0])<|D (.block 0<|.loop (q (.reg (ot 11 .lss 10 9<|N))<|q (D (I 11 S (E 0)) [11])<|q (D (.block 1<|q (R (oa true 12 11 8 10<|oL 13 11 12<|oN 7 [.str [],.int .i64 0,.int .i64 0,.int .i64 0,.int .i64 0,.str [],.str [],.nil 5,.nil 6,.nil 2,.nil 2]<|oS 11 7 13<|N) [12,13])<|R (om 14 5<|om 15 1<|oL 16 11 7<|.call (some 17) (.dyn (t 15)) [t 16] (oo 18 (.bls 11 [t 17])<|oo 19 (.app 11 (t 14) (t 18))<|om 5 19<|N)) [7,14,15,16,17,18,19]) [])<|R (oi 20 .add 10 1<|om 10 20<|N) [20])) [1,8,9,10,11,7])<|q (R (om 21 5<|om 4 21<|N) [5,21])<|.ret
theorem JOE:FT 56 22 JP6 [.tmp 4]:=.o Tryz.func56
def JOF:Ic:=q (R (ox 1 0<|oN 2 [.str [],.int .i64 0,.int .i64 0,.int .i64 0,.int .i64 0,.str [],.str [],.nil 5,.nil 6,.nil 2,.nil 2]<|N) [0])<|q (R (of 3 1 7<|ol 4 3<|cl 5 106 [t 4,.k (.fn (.func 81) [] [])]<|of 6 1 7<|os 6 5<|N) [3,4,5,6])<|q (R (of 7 1 8<|oL 8 1 7<|cl 9 82 [t 8]<|of 10 1 8<|oS 1 10 9<|N) [7,8,9,10])<|q (R (of 11 1 9<|ol 12 11<|cl 13 107 [t 12,.k (.fn (.func 108) [] [])]<|of 14 1 9<|os 14 13<|N) [11,12,13,14])<|q (R (of 15 1 10<|ol 16 15<|cl 17 109 [t 16,.k (.fn (.func 110) [] [])]<|of 18 1 10<|os 18 17<|N) [15,16,17,18])<|q (R (oL 19 11 1<|oS 11 2 19<|N) [1,19])<|.ret
theorem JP7:FT 57 20 JOF [.cell 2 (some 11)]:=.o Tryz.func57
end Go.Proofs
namespace Go.Proofs
open Go Av
open Av.Y
def JRX:Ic:=q (R (oz 4 0<|N) [4])<|q (q (R (om 6 0<|oh 7 6<|oz 8 0<|N) [6])<|D (.block 0<|.loop (q (.reg (ot 9 .lss 8 7<|N))<|q (D (I 9 S (E 0)) [9])<|q (D (.block 1<|q (R (om 10 8<|om 5 10<|N) [10])<|q (R (om 11 1<|om 12 0<|om 13 5<|oa true 14 2 12 13<|oL 15 2 14<|.call (some 16) (.dyn (t 11)) [t 15] N) [11,12,13,14,15])<|D (I 16 (q (R (om 17 5<|om 4 17<|N) [0,1,7,8,5,16,17])<|.ret) S) [5,16]) [])<|R (oi 18 .add 8 1<|om 8 18<|N) [18])) [0,1,7,8,9,10,5,11])<|q (.reg (oz 4 (-1)<|N))<|.ret
theorem ok226:FT 226 19 JRX [.tmp 4]:=.o Tryz.func226
def JRY:Ic:=q (R (ow 4 false<|N) [4])<|q (R (om 5 0<|om 6 1<|cl 7 226 [t 5,t 6]<|oi 8 .geq 7 0<|om 4 8<|N) [0,1,5,6,7,8])<|.ret
theorem ok182:FT 182 9 JRY [.tmp 4]:=.o Tryz.func182
end Go.Proofs
namespace Av
open Go
variable [Glb][Rls]
abbrev JLW(g:Nat)(cs:List Dat):Dat:=.fn (.func g) [] [.ptr cs]
theorem ZE(cs:List Dat):Yf (cs.map .d)=some cs:=by
 induction cs with
 |nil=>rfl
 |cons x r ih=>simp only[Va,Yf,ih]
theorem JN.clo{P:Program}{f g:Nat}{ds cs:List Dat}{r:Dat}(h:J3 P f (ds++[JLW g cs]) (.d r))(hr:scalar r=true)(i:Nat):
  JN P f (ds.map .d++[.clo (.func g) [] [.ref i 0]]) [(i,some (.box (cs.map .d)))] (.d r) []:=by
 intro β A w H vs hT hc hvs;have hi:H i=some (.box (cs.map .d)):=hT _ (List.mem_singleton.2 rfl);have st:=Stp.XT hc hi (ZE cs);have hc0:Core β (fun k=>A k∨β i=some k) w (get []):=⟨(by intro i o hi;cases hi),(by intro i j o o' b hi;cases hi),(by intro i o b hi;cases hi),st.core.old,st.core.glob⟩;refine .inl ⟨h.1,(h.2 β (fun k=>A k∨β i=some k) w vs hc0 ⟨by have:=hvs.1;simp at this⊢;omega,?_⟩).mono ?_⟩
 ·intro k c v h1 h2;rw[Vo]at h1;cases e:(ds++[JLW g cs])[k]? with
  |none=>simp[e]at h1
  |some x=>
   simp only[e,Vj,Vd]at h1;subst h1;refine .d _ _ ?_;by_cases hk:k<ds.length
   ·rw[Vz hk]at e;have:=hvs.2 k (.d x) v (by rw[Vz (sX hk),Vo,e];rfl) h2;exact(st.vals _ _ this).Ja
   ·rw[Vy oM]at e;have hk0:k-ds.length=0:=by
     rcases Nat.eq_zero_or_pos (k-ds.length)with h|h
     ·exact h
     ·rw[List.getElem?_eq_none sO]at e;cases e
    rw[hk0]at e;cases e;have hlen:(ds.map Av.d).length=ds.length:=sP;have:=hvs.2 k (.clo (.func g) [] [.ref i 0]) v (by rw[Vy sO,hlen,hk0];rfl) h2;have h3:=st.vals _ _ this;cases h3 with
    |clo _ _ _ a1 a2 l1 l2 hf hvv=>
     refine .fn _ _ _ a1 a2 l1 (sX l2) (by intro j c v hj;cases hj) ?_;intro j c v hj hjv
     match j,hj with
     |0,hj=>
      cases hj;have hrf:=hvv 0 _ v rfl hjv;cases hrf with
      |ref _ _ _ _ _ hu g0 g1 g2=>
       have:=g2 cs sU;simpa using this
     |j+1,hj=>cases hj
 ·rintro e w' ⟨v,β1,A1,rfl,hsince,hc1,hv⟩;obtain⟨s1,s2,s3,s4,s5,sl,s6,s7,s8⟩:=hsince;dsimp only at s1 s2 s3 s4 s5 sl;have hsame:∀b,b<w.heap.size→w'.heap[b]? =w.heap[b]? :=fun b hb=>s5 b hb (by intro i o hi;cases hi)
  have hst:Stp β A w H β A w' H:=Stp.new hc s1 s2 s3 s4 hsame (fun _ h=>h) (fun _ h=>.inl h) (fun b hb=>by have:=hc.old b hb;omega);exact⟨v,rfl,β,A,hst,.d _ _ (hv.Ja.scalar hr)⟩
end Av
namespace Go.Proofs
open Go Av
def ixQ{α:Type}(q:α→Bool)(l:List α):Int:=match l.findIdx? q with
 |some k=>(k:Int)
 |none=> -1
theorem Zp{α:Type}{q:α→Bool}{l:List α}{k:Nat}(h:k<l.length)(hk:q l[k]=true)(hj:∀(j:Nat) (h1:j<l.length),j<k→q l[j]=false):ixQ q l=k:=by
 have:l.findIdx? q=some k:=by
  rw[List.findIdx?_eq_some_iff_getElem];exact⟨h,hk,fun j h2=>by rw[hj j oM h2];decide⟩
 simp only[ixQ,this]
theorem Zq{α:Type}{q:α→Bool}{l:List α}(hj:∀(j:Nat) (h1:j<l.length),q l[j]=false):ixQ q l= -1:=by
 have:l.findIdx? q=none:=by
  rw[List.findIdx?_eq_none_iff];intro x hx;obtain⟨j,h,rfl⟩:=List.getElem_of_mem hx;exact hj j h
 simp only[ixQ,this]
theorem JAB{α:Type}(q:α→Bool)(l:List α):decide (ixQ q l≥0)=l.any q:=by
 unfold ixQ;cases e:l.findIdx? q with
 |none=>
  rw[List.findIdx?_eq_none_iff]at e;have:l.any q=false:=by rw[List.any_eq_false];intro x hx;rw[e x hx];decide
  rw[this];rfl
 |some k=>
  obtain⟨h1,h2,_⟩:=List.findIdx?_eq_some_iff_getElem.1 e;have:l.any q=true:=List.any_eq_true.2 ⟨_,Vk h1,h2⟩;rw[this];simp
theorem ix300{g:Nat}{cs:List Dat}{q:Brn→Bool}(l:List Brn)(hq:∀x∈l,PT g (J1 x::cs) (.d (.bool (q x))))(hl:l.length≤68719476736):
  PT 226 [.list 2 (l.map J1),.fn (.func g) [] cs] (.d (.int .i64 (ixQ q l))):=by
 refine ok226.pc ?_;simp only[go_sem,JRX,Vc,simprocAttr];refine JK (fun n s=>∃k:Nat,k≤l.length∧n=l.length-k∧(∀(j:Nat) (h1:j<l.length),j<k→q l[j]=false)∧
  s=⟨[(0,.d (.list 2 (l.map J1))),(1,.d (.fn (.func g) [] cs)),(7,.d (.int .i64 l.length)),(8,.d (.int .i64 k))],[]⟩) ?_ ?_
 ·exact⟨_,_,Wk.refl _,0,Nat.zero_le _,rfl,sP,rfl⟩
 ·rintro n s ⟨k,hk,rfl,hinv,rfl⟩;by_cases hlt:k<l.length
  ·have hx:=JU J1 hlt;have hd:=dT hlt;have hc:=(hq l[k] (Vk _)).call trivial;simp only[Xy,Va]at hc hx;refine zz6 ?_;refine⟨oM,wn hc ?_⟩;refine zz ?_;apply ik<;>intro hf
   ·rw[Zp hlt hf hinv]
   ·refine⟨l.length-(k+1),_,oM,Wk.less ?_,k+1,oM,rfl,fun j h1 hj=>?_,rfl⟩
    ·exact zz7 trivial
    ·by_cases e:j=k
     ·subst e;exact hf
     ·exact hinv j h1 oM
  ·have hd:=dF hlt;refine zz5 ?_;rw[Zq (fun j h=>hinv j h oM)]
theorem JP8{g:Nat}{cs:List Dat}{q:Brn→Bool}(l:List Brn)(hq:∀x∈l,PT g (J1 x::cs) (.d (.bool (q x))))(hl:l.length≤68719476736):
  PT 182 [.list 2 (l.map J1),.fn (.func g) [] cs] (.d (.bool (l.any q))):=by
 refine ok182.pc ?_;have c:=(ix300 l hq hl).call trivial;rw[←JAB];simp only[go_sem,JRY,simprocAttr];refine wc c trivial
end Go.Proofs
namespace Av
open Go
variable [Glb][Rls]
theorem J3.JKU{P:Program}{f g:Nat}{d:Dat}{cs:List Dat}{r:Av}(h:J3 P f [d,JLW g cs] r)(hr:Ug r)(i:Nat):
  JN P f [.d d,.clo (.func g) [] [.ref i 0]] [(i,some (.box (cs.map .d)))] r [(i,.fbox cs)]:=by
 intro β A w H vs hT hc hvs;have hi:H i=some (.box (cs.map .d)):=hT _ (List.mem_singleton.2 rfl);have st:=Stp.XT hc hi (ZE cs);obtain⟨x1,x2,rfl⟩:∃x y,vs=#[x,y]:=by
  have h2:2=vs.size:=sX hvs.1;refine⟨vs[0],vs[1],?_⟩;apply Array.ext
  ·simp[←h2]
  ·intro i h1 h2;have:i=0∨i=1:=oM;rcases this with rfl|rfl<;>rfl
 have v1:=st.vals _ _ (hvs.2 0 _ x1 rfl rfl);have v2:=st.vals _ _ (hvs.2 1 _ x2 rfl rfl);have hv2:Rep (fun k=>A k∨β i=some k) w (JLW g cs) x2:=by
  cases v2 with
  |clo _ _ _ a1 a2 l1 l2 hf hvv=>
   refine .fn _ _ _ a1 a2 l1 (sX l2) (by intro j c v hj;cases hj) ?_;intro k c v hk hkv
   match k,hk with
   |0,hk=>
    cases hk;have hrf:=hvv 0 _ v rfl hkv;cases hrf with
    |ref _ _ _ _ _ hu g0 g1 g2=>
     have:=g2 cs sU;simpa using this
   |k+1,hk=>cases hk
 have:=h.call hr β _ w _ #[x1,x2] sP st.core ⟨rfl,fun k c u h1 h2=>by
  match k,h1,h2 with
  |0,h1,h2=>cases h1;cases h2;exact v1
  |1,h1,h2=>cases h1;cases h2;exact .d _ _ hv2
  |k+2,h1,h2=>cases h1⟩
 rcases this with⟨a1,a2⟩|⟨u,w',a1,β',A',a2,a3⟩
 ·refine .inl ⟨a1,a2.mono ?_⟩;rintro e w' ⟨u,rfl,β',A',b1,b2⟩;exact⟨u,rfl,β',A',st.trans b1,b2⟩
 ·exact .inr ⟨u,w',a1,β',A',st.trans a2,a3⟩
end Av
namespace Go.Proofs
open Go Av
mutual
def okV:Val→Prop
 |.mk _ _ _ _ l f=>l.length≤68719476736∧f.length≤68719476736∧JE8 l∧JE9 f
def JE8:List Val→Prop
 |[]=>True
 |v::r=>okV v∧JE8 r
def okF:Fld→Prop
 |.mk _ v=>okV v
def JE9:List Fld→Prop
 |[]=>True
 |v::r=>okF v∧JE9 r
end
theorem JP9(a:Val)(ha:a.list.length≤68719476736)(ha2:a.fields.length≤68719476736)(h1:∀x∈a.list,CT 101 [.d (J0 x)] [] (.d (J0 x)) [])(h2:∀x∈a.fields,CT 101 [.d (J0 x.value)] [] (.d (J0 x.value)) []):
  PT 101 [J0 a] (.d (J0 a)):=by
 refine JM8.pc ?_;rw[Ul];simp only[go_sem,JQ9,simprocAttr];refine JK (fun n s=>∃k:Nat,k≤a.list.length∧n=a.list.length-k∧
  s=⟨[(1,.ref 1 0),(2,.ref 2 0),(3,.ref 3 0),(12,.d (.list 6 (a.list.map J0))),(13,.d (.int .i64 a.list.length)),(14,.d (.int .i64 k))],
   [(1,.box [.d (.int .i64 a.kind),.d (.int .i64 a.int),.d (.int .i64 a.scale),.d (.str a.text),.d (.list 6 (a.list.map J0)),.d (.list 7 (a.fields.map Zm))]),
    (2,.box [.d (.int .i64 0),.d (.int .i64 0),.d (.int .i64 0),.d (.str []),.d (.nil 6),.d (.nil 7)]),
    (3,.box [.d (.int .i64 a.kind),.d (.int .i64 a.int),.d (.int .i64 a.scale),.d (.str a.text),.ms 23 k,.d (.nil 7)]),
    (23,.row k 6 ((a.list.take k).map J0))]⟩) ?_ ?_
 ·refine⟨_,_,Wk.JCZ 3 4 23 6 _ rfl rfl rfl dC,0,Nat.zero_le _,rfl,?_⟩;simp[put]
 ·rintro n s ⟨k,hk,rfl,rfl⟩;by_cases hlt:k<a.list.length
  ·have hx:=JET hlt;have hd:=dT hlt;refine JPu ?_;have hc:=h1 a.list[k] (Vk _);rw[Ul]at hc;refine⟨sO,JI rfl hc trivial ?_⟩;refine zz ?_;refine⟨sP,sO,rfl,a.list.length-(k+1),_,oM,Wk.less ?_,k+1,oM,rfl,rfl⟩;rw[List.take_succ_eq_append_getElem hlt,Vw];simp only[go_sem,JF k oM,Va,Vb,Ul a.list[k],Nat.reduceAdd,Nat.reduceEqDiff,Nat.reduceBEq,Nat.reduceLeDiff,reduceCtorEq,↓reduceIte]
  ·have hd:=dF hlt;obtain rfl:k=a.list.length:=oM;refine JEH ?_;refine JK (fun n s=>∃k:Nat,k≤a.fields.length∧n=a.fields.length-k∧
    s=⟨[(2,.ref 2 0),(3,.ref 3 0),(27,.d (.list 7 (a.fields.map Zm))),(28,.d (.int .i64 a.fields.length)),(29,.d (.int .i64 k))],
     [(2,.box [.d (.int .i64 0),.d (.int .i64 0),.d (.int .i64 0),.d (.str []),.d (.nil 6),.d (.nil 7)]),
      (3,.box [.d (.int .i64 a.kind),.d (.int .i64 a.int),.d (.int .i64 a.scale),.d (.str a.text),.ms 23 a.list.length,.ms 42 k]),
      (23,.row a.list.length 6 (a.list.map J0)),
      (42,.row k 7 ((a.fields.take k).map Zm))]⟩) ?_ ?_
   ·refine⟨_,_,(Wk.JCZ 3 5 42 7 _ rfl rfl rfl dC).trans (Wk.less ?_),0,Nat.zero_le _,rfl,rfl⟩;simp[put,go_sem]
   ·rintro n s ⟨k,hk,rfl,rfl⟩;by_cases hlt:k<a.fields.length
    ·have hx:=JM7 hlt;have hd:=dT hlt;have hc:=h2 a.fields[k] (Vk _);rw[Ul]at hc;refine JPu ?_;refine⟨sO,JI rfl hc trivial ?_⟩;refine zz ?_;refine⟨sP,sO,rfl,a.fields.length-(k+1),_,oM,Wk.less ?_,k+1,oM,rfl,rfl⟩;rw[List.take_succ_eq_append_getElem hlt,Vw];simp only[go_sem,JF k oM,Va,Vb,JDf a.fields[k],Nat.reduceAdd,Nat.reduceEqDiff,Nat.reduceBEq,Nat.reduceLeDiff,reduceCtorEq,↓reduceIte]
    ·have hd:=dF hlt;obtain rfl:k=a.fields.length:=oM;exact JEH trivial
mutual
theorem JDg:∀(a:Val),okV a→PT 101 [J0 a] (.d (J0 a))
 |.mk k i s t l f,ha=>by
  simp only[okV]at ha;obtain⟨a1,a2,a3,a4⟩:=ha;exact JP9 _ a1 a2 (fun x hx=>(JHp l a3 x hx).call trivial) (fun x hx=>(JHq f a4 x hx).call trivial)
theorem JHp:∀(l:List Val),JE8 l→∀x∈l,PT 101 [J0 x] (.d (J0 x))
 |[],_,x,h=>by cases h
 |v::r,ho,x,h=>by
  simp only[JE8]at ho;by_cases e:x=v
  ·rw[e];exact JDg v ho.1
  ·exact JHp r ho.2 x ((VA.1 h).resolve_left e)
theorem JHq:∀(l:List Fld),JE9 l→∀x∈l,PT 101 [J0 x.value] (.d (J0 x.value))
 |[],_,x,h=>by cases h
 |.mk n v::r,ho,x,h=>by
  simp only[JE9,okF]at ho;by_cases e:x=.mk n v
  ·rw[e];exact JDg v ho.1
  ·exact JHq r ho.2 x ((VA.1 h).resolve_left e)
end
end Go.Proofs
namespace Go.Proofs
open Go Av
variable {g:Nat}
theorem JOG{v:Val}(h:fits (J0 v)):v.text.length≤68719476736∧v.list.length≤68719476736∧v.fields.length≤68719476736:=by
 rw[Ul]at h;simp only[fits,Un,Vc,and_true]at h;exact⟨h.2.2.2.1,h.2.2.2.2.1.1,h.2.2.2.2.2.1⟩
mutual
theorem JEi:∀v:Val,fits (J0 v)→okV v
 |.mk k i s t l f,h=>by
  have h':l.length≤68719476736∧f.length≤68719476736:=(JOG h).2;rw[Ul]at h;simp only[fits,Un,and_true,Val.list,Val.fields]at h;simp only[okV];exact⟨h'.1,h'.2,JFi l fun x hx=>UG.1 h.2.2.2.2.1.2 _ (VC.2 ⟨x,hx,rfl⟩),JFj f fun x hx=>UG.1 h.2.2.2.2.2.2 _ (VC.2 ⟨x,hx,rfl⟩)⟩
theorem JFi:∀l:List Val,(∀x∈l,fits (J0 x))→JE8 l
 |[],_=>by simp[JE8]
 |v::r,h=>by
  simp only[JE8];exact⟨JEi v (h v (Vh)),JFi r fun x hx=>h x (Vn _ hx)⟩
theorem JFj:∀l:List Fld,(∀x∈l,fits (Zm x))→JE9 l
 |[],_=>by simp[JE9]
 |.mk n v::r,h=>by
  have h1:=h (.mk n v) (Vh);rw[JDf]at h1;have h2:fits (J0 v):=by
   rw[Ul];simp only[fits,Un,and_true,Fld.value]at h1⊢;exact h1.2
  simp only[JE9];exact⟨JEi v h2,JFj r fun x hx=>h x (Vn _ hx)⟩
end
theorem q70(a:Val):PT 101 [J0 a] (.d (J0 a)):=J3.Jk JM8.has fun h=>JDg a (JEi a (h _ (Vh)))
theorem JQA{e:Exp}(h:fits (Jf e)):e.text.length≤68719476736∧e.value.length≤68719476736∧e.args.length≤68719476736∧∀x∈e.args,fits (Jf x):=by
 rw[Jz]at h;simp only[fits,Un,Vc,and_true]at h;obtain⟨_,_,h1,⟨h2,h3⟩,h4,h5⟩:=h;exact⟨h1,h2,h4,fun x hx=>UG.1 h5 _ (VC.2 ⟨x,hx,rfl⟩)⟩
theorem JOH{xs:List Exp}{k:Nat}(h:k<xs.length):nth (xs.map Jf) k=.agg [.int .i64 xs[k].op,.int .i64 xs[k].int,.str xs[k].text,.list 6 (xs[k].value.map J0),.list 5 (xs[k].args.map Jf)]:=by
 rw[JU Jf h,Jz]
theorem JSZ(a:Exp)(ha:a.value.length≤68719476736)(ha2:a.args.length≤68719476736)(h1:∀x∈a.value,CT 101 [.d (J0 x)] [] (.d (J0 x)) [])(h2:∀x∈a.args,CT 81 [.d (Jf x)] [] (.d (Jf x)) []):
  PT 81 [Jf a] (.d (Jf a)):=by
 refine ok81.pc ?_;rw[Jz];simp only[go_sem,ir81,simprocAttr];refine JK (fun n s=>∃k:Nat,k≤a.value.length∧n=a.value.length-k∧
  s=⟨[(1,.ref 1 0),(2,.ref 2 0),(3,.ref 3 0),(16,.d (.list 6 (a.value.map J0))),(17,.d (.int .i64 a.value.length)),(18,.d (.int .i64 k))],
   [(1,.box [.d (.int .i64 a.op),.d (.int .i64 a.int),.d (.str a.text),.d (.list 6 (a.value.map J0)),.d (.list 5 (a.args.map Jf))]),
    (2,.box [.d (.int .i64 0),.d (.int .i64 0),.d (.str []),.d (.nil 6),.d (.nil 5)]),
    (3,.box [.d (.int .i64 a.op),.d (.int .i64 a.int),.d (.str a.text),.ms 27 k,.d (.nil 5)]),
    (27,.row k 6 ((a.value.take k).map J0))]⟩) ?_ ?_
 ·refine⟨_,_,Wk.JCZ 3 3 27 6 _ rfl rfl rfl dC,0,Nat.zero_le _,rfl,?_⟩;simp[put]
 ·rintro n s ⟨k,hk,rfl,rfl⟩;by_cases hlt:k<a.value.length
  ·have hx:=JET hlt;have hd:=dT hlt;refine JPu ?_;have hc:=h1 a.value[k] (Vk _);rw[Ul]at hc;refine⟨sO,JI rfl hc trivial ?_⟩;refine zz ?_;refine⟨sP,sO,rfl,a.value.length-(k+1),_,oM,Wk.less ?_,k+1,oM,rfl,rfl⟩;rw[List.take_succ_eq_append_getElem hlt,Vw];simp only[go_sem,JF k oM,Va,Vb,Ul a.value[k],Nat.reduceAdd,Nat.reduceEqDiff,Nat.reduceBEq,Nat.reduceLeDiff,reduceCtorEq,↓reduceIte]
  ·have hd:=dF hlt;obtain rfl:k=a.value.length:=oM;refine JEH ?_;refine JK (fun n s=>∃k:Nat,k≤a.args.length∧n=a.args.length-k∧
    s=⟨[(2,.ref 2 0),(3,.ref 3 0),(31,.d (.list 5 (a.args.map Jf))),(32,.d (.int .i64 a.args.length)),(33,.d (.int .i64 k))],
     [(2,.box [.d (.int .i64 0),.d (.int .i64 0),.d (.str []),.d (.nil 6),.d (.nil 5)]),
      (3,.box [.d (.int .i64 a.op),.d (.int .i64 a.int),.d (.str a.text),.ms 27 a.value.length,.ms 42 k]),
      (27,.row a.value.length 6 (a.value.map J0)),
      (42,.row k 5 ((a.args.take k).map Jf))]⟩) ?_ ?_
   ·refine⟨_,_,(Wk.JCZ 3 4 42 5 _ rfl rfl rfl dC).trans (Wk.less ?_),0,Nat.zero_le _,rfl,rfl⟩;simp[put,go_sem]
   ·rintro n s ⟨k,hk,rfl,rfl⟩;by_cases hlt:k<a.args.length
    ·have hx:=JOH hlt;have hd:=dT hlt;have hc:=h2 a.args[k] (Vk _);rw[Jz]at hc;refine JPu ?_;refine⟨sO,JI rfl hc trivial ?_⟩;refine zz ?_;refine⟨sP,sO,rfl,a.args.length-(k+1),_,oM,Wk.less ?_,k+1,oM,rfl,rfl⟩;rw[List.take_succ_eq_append_getElem hlt,Vw];simp only[go_sem,JF k oM,Va,Vb,Jz a.args[k],Nat.reduceAdd,Nat.reduceEqDiff,Nat.reduceBEq,Nat.reduceLeDiff,reduceCtorEq,↓reduceIte]
    ·have hd:=dF hlt;obtain rfl:k=a.args.length:=oM;exact JEH trivial
mutual
theorem p81:∀(a:Exp),PT 81 [Jf a] (.d (Jf a))
 |.mk o i t v r=>J3.Jk ok81.has fun hf=>by
  obtain⟨_,f2,f3,_⟩:=JQA (hf _ (List.mem_singleton.2 rfl));exact JSZ _ f2 f3 (fun x _=>(q70 x).call trivial) (fun x hx=>(p81s r x hx).call trivial)
theorem p81s:∀(l:List Exp),∀x∈l,PT 81 [Jf x] (.d (Jf x))
 |[],x,h=>by cases h
 |v::r,x,h=>by
  by_cases e:x=v
  ·rw[e];exact p81 v
  ·exact p81s r x ((VA.1 h).resolve_left e)
end
def JD(m:List Rule):Dat:=.agg [.list 6 (m.map UT)]
theorem p82(m:List Rule):PT 82 [JD m] (.d (JD m)):=by
 refine J3.Jk ok82.has fun hfit=>?_
 have hml:m.length≤68719476736:=by have:=hfit _ (Vh);simp only[JD,fits,Un,Vc]at this;exact this.1.1
 refine ok82.pc ?_;simp only[go_sem,ir82,JD,Vc,simprocAttr];refine⟨oM,JK (fun n s=>∃k:Nat,k≤m.length∧n=m.length-k∧
  s=⟨[(2,.ref 2 0),(3,.ms 9 k),(11,.d (.list 6 (m.map UT))),(12,.d (.int .i64 m.length)),(13,.d (.int .i64 k))],
   [(2,.box [.d (.nil 6)]),(9,.row k 6 ((m.take k).map UT))]⟩) ?_ ?_⟩
 ·refine⟨_,_,Wk.less ?_,0,Nat.zero_le _,rfl,rfl⟩;simp[go_sem]
 ·rintro n s ⟨k,hk,rfl,rfl⟩;by_cases hlt:k<m.length
  ·have hx:=JU UT hlt;have hd:=dT hlt;have hc:=(p81 m[k].expr).call trivial;rw[Jz]at hc;simp only[UT]at hx;refine zz6 ?_;refine⟨oM,JI rfl hc trivial ?_⟩;refine zz ?_;refine⟨sP,sO,rfl,m.length-(k+1),_,oM,Wk.less ?_,k+1,oM,rfl,rfl⟩;rw[List.take_succ_eq_append_getElem hlt,Vw];simp only[go_sem,JF k oM,Va,Vb,UT,simprocAttr]
  ·have hd:=dF hlt;obtain rfl:k=m.length:=oM;exact zz14 trivial
theorem JDh(l:List Exp)(hg:∀x∈l,PT g [Jf x] (.d (Jf x))):PT 106 [.list 5 (l.map Jf),.fn (.func g) [] []] (.d (.list 5 (l.map Jf))):=by
 refine J3.Jk JHn.has fun hfit=>?_
 have hl:l.length≤68719476736:=by have:=(hfit _ (Vh)).1;simpa using this
 refine JHn.pc ?_;simp only[go_sem,JJz,Vc,simprocAttr];refine JK (fun n s=>∃k:Nat,k≤l.length∧n=l.length-k∧
  s=⟨[(1,.d (.fn (.func g) [] [])),(5,.ms 19 k),(8,.d (.list 5 (l.map Jf))),(9,.d (.int .i64 l.length)),(10,.d (.int .i64 k))],[(19,.row k 5 ((l.take k).map Jf))]⟩) ?_ ?_
 ·refine⟨_,_,(Wk.JGu 5 19 5 rfl rfl dC).trans (Wk.less ?_),0,Nat.zero_le _,rfl,rfl⟩;simp[put,go_sem]
 ·rintro n s ⟨k,hk,rfl,rfl⟩;by_cases hlt:k<l.length
  ·have hx:=JU Jf hlt;have hd:=dT hlt;have hc:=(hg l[k] (Vk _)).call trivial;simp only[Jz,Va,Vb]at hc hx;refine zz6 ?_;refine⟨oM,wn hc ?_⟩;refine zz ?_;refine⟨sP,sO,l.length-(k+1),_,oM,Wk.less ?_,k+1,oM,rfl,rfl⟩;rw[List.take_succ_eq_append_getElem hlt,Vw];simp only[go_sem,JF k oM,Va,Vb,Jz,simprocAttr]
  ·have hd:=dF hlt;obtain rfl:k=l.length:=oM;exact JEH trivial
theorem JGQ(l:List Kal)(hg:∀x∈l,PT g [Je x] (.d (Je x))):PT 107 [.list 2 (l.map Je),.fn (.func g) [] []] (.d (.list 2 (l.map Je))):=by
 refine J3.Jk JRV.has fun hfit=>?_
 have hl:l.length≤68719476736:=by have:=(hfit _ (Vh)).1;simpa using this
 refine JRV.pc ?_;simp only[go_sem,JRU,Vc,simprocAttr];refine JK (fun n s=>∃k:Nat,k≤l.length∧n=l.length-k∧
  s=⟨[(1,.d (.fn (.func g) [] [])),(5,.ms 19 k),(8,.d (.list 2 (l.map Je))),(9,.d (.int .i64 l.length)),(10,.d (.int .i64 k))],[(19,.row k 2 ((l.take k).map Je))]⟩) ?_ ?_
 ·refine⟨_,_,(Wk.JGu 5 19 2 rfl rfl dC).trans (Wk.less ?_),0,Nat.zero_le _,rfl,rfl⟩;simp[put,go_sem]
 ·rintro n s ⟨k,hk,rfl,rfl⟩;by_cases hlt:k<l.length
  ·have hx:=JU Je hlt;have hd:=dT hlt;have hc:=(hg l[k] (Vk _)).call trivial;simp only[Je,Va,Vb]at hc hx;refine zz6 ?_;refine⟨oM,wn hc ?_⟩;refine zz ?_;refine⟨sP,sO,l.length-(k+1),_,oM,Wk.less ?_,k+1,oM,rfl,rfl⟩;rw[List.take_succ_eq_append_getElem hlt,Vw];simp only[go_sem,JF k oM,Va,Vb,Je,simprocAttr]
  ·have hd:=dF hlt;obtain rfl:k=l.length:=oM;exact JEH trivial
theorem JJ2(l:List Brn)(hg:∀x∈l,PT g [J1 x] (.d (J1 x))):PT 109 [.list 2 (l.map J1),.fn (.func g) [] []] (.d (.list 2 (l.map J1))):=by
 refine J3.Jk JHo.has fun hfit=>?_
 have hl:l.length≤68719476736:=by have:=(hfit _ (Vh)).1;simpa using this
 refine JHo.pc ?_;simp only[go_sem,JJ0,Vc,simprocAttr];refine JK (fun n s=>∃k:Nat,k≤l.length∧n=l.length-k∧
  s=⟨[(1,.d (.fn (.func g) [] [])),(5,.ms 19 k),(8,.d (.list 2 (l.map J1))),(9,.d (.int .i64 l.length)),(10,.d (.int .i64 k))],[(19,.row k 2 ((l.take k).map J1))]⟩) ?_ ?_
 ·refine⟨_,_,(Wk.JGu 5 19 2 rfl rfl dC).trans (Wk.less ?_),0,Nat.zero_le _,rfl,rfl⟩;simp[put,go_sem]
 ·rintro n s ⟨k,hk,rfl,rfl⟩;by_cases hlt:k<l.length
  ·have hx:=JU J1 hlt;have hd:=dT hlt;have hc:=(hg l[k] (Vk _)).call trivial;simp only[Xy,Va,Vb]at hc hx;refine zz6 ?_;refine⟨oM,wn hc ?_⟩;refine zz ?_;refine⟨sP,sO,l.length-(k+1),_,oM,Wk.less ?_,k+1,oM,rfl,rfl⟩;rw[List.take_succ_eq_append_getElem hlt,Vw];simp only[go_sem,JF k oM,Va,Vb,Xy,simprocAttr]
  ·have hd:=dF hlt;obtain rfl:k=l.length:=oM;exact JEH trivial
theorem JSa(l:List Ste)(hg:∀x∈l,PT g [JH x] (.d (JH x))):PT 56 [.list 11 (l.map JH),.fn (.func g) [] []] (.d (.list 11 (l.map JH))):=by
 refine J3.Jk JOE.has fun hfit=>?_
 have hl:l.length≤68719476736:=by have:=(hfit _ (Vh)).1;simpa using this
 refine JOE.pc ?_;simp only[go_sem,JP6,Vc,simprocAttr];refine JK (fun n s=>∃k:Nat,k≤l.length∧n=l.length-k∧
  s=⟨[(1,.d (.fn (.func g) [] [])),(5,.ms 19 k),(8,.d (.list 11 (l.map JH))),(9,.d (.int .i64 l.length)),(10,.d (.int .i64 k))],[(19,.row k 11 ((l.take k).map JH))]⟩) ?_ ?_
 ·refine⟨_,_,(Wk.JGu 5 19 11 rfl rfl dC).trans (Wk.less ?_),0,Nat.zero_le _,rfl,rfl⟩;simp[put,go_sem]
 ·rintro n s ⟨k,hk,rfl,rfl⟩;by_cases hlt:k<l.length
  ·have hx:=JU JH hlt;have hd:=dT hlt;have hc:=(hg l[k] (Vk _)).call trivial;simp only[JV,Va,Vb]at hc hx;refine zz6 ?_;refine⟨oM,wn hc ?_⟩;refine zz ?_;refine⟨sP,sO,l.length-(k+1),_,oM,Wk.less ?_,k+1,oM,rfl,rfl⟩;rw[List.take_succ_eq_append_getElem hlt,Vw];simp only[go_sem,JF k oM,Va,Vb,JV,simprocAttr]
  ·have hd:=dF hlt;obtain rfl:k=l.length:=oM;exact JEH trivial
theorem JSb(c:Kal):PT 108 [Je c] (.d (Je c)):=by
 refine ok108.pc ?_;have hc:=(p82 c.rules).call trivial;simp only[JD,Va,Vb]at hc;simp only[go_sem,JRW,Je,simprocAttr];refine wc hc trivial
theorem JQB(b:Brn)(h:∀x∈b.steps,PT 57 [JH x] (.d (JH x))):PT 110 [J1 b] (.d (J1 b)):=by
 refine JOD.pc ?_;have h1:=(JDh b.cond fun x _=>p81 x).call trivial;have h2:=(JSa b.steps h).call trivial;rw[Xy];simp only[go_sem,JJ1,simprocAttr];refine JI rfl h1 trivial ?_;refine zz ?_;refine JI rfl h2 trivial ?_;refine zz ?_;rfl
theorem JSc(s:Ste)(h:∀b∈s.branches,PT 110 [J1 b] (.d (J1 b))):PT 57 [JH s] (.d (JH s)):=by
 refine JP7.pc ?_;have h1:=(JDh s.exprs fun x _=>p81 x).call trivial;have h2:=(p82 s.rules).call trivial;have h3:=(JGQ s.calls fun x _=>JSb x).call trivial;have h4:=(JJ2 s.branches h).call trivial;simp only[JD,Va,Vb]at h2;rw[JV];simp only[go_sem,JOF,simprocAttr];refine wc h1 ?_;refine wc h2 ?_;refine wc h3 ?_;refine wc h4 trivial
mutual
theorem p57:∀(s:Ste),PT 57 [JH s] (.d (JH s))
 |.mk n k u t l x c e r a b=>JSc _ (JOI b)
theorem p57s:∀(l:List Ste),∀x∈l,PT 57 [JH x] (.d (JH x))
 |[],x,h=>by cases h
 |v::r,x,h=>by
  by_cases e:x=v
  ·rw[e];exact p57 v
  ·exact p57s r x ((VA.1 h).resolve_left e)
theorem p110:∀(b:Brn),PT 110 [J1 b] (.d (J1 b))
 |.mk w s=>JQB _ (p57s s)
theorem JOI:∀(l:List Brn),∀x∈l,PT 110 [J1 x] (.d (J1 x))
 |[],x,h=>by cases h
 |v::r,x,h=>by
  by_cases e:x=v
  ·rw[e];exact p110 v
  ·exact JOI r x ((VA.1 h).resolve_left e)
end
end Go.Proofs
namespace Go.Proofs
open Go Av
def JP(s:Str):Exp:=.mk 2 0 s [] []
def Jq(n:Int):Exp:=.mk 1 0 [] [.mk 2 n 0 [] [] []] []
def UU(op:Int)(a b:Exp):Exp:=.mk op 0 [] [] [a,b]
theorem JW(o i:Int)(t:Str)(v:List Val)(a:List Exp):Jf (.mk o i t v a)=.agg [.int .i64 o,.int .i64 i,.str t,.list 6 (v.map J0),.list 5 (a.map Jf)]:=by
 rw[Jz];rfl
theorem JX(k i s:Int)(t:Str)(l:List Val)(f:List Fld):J0 (.mk k i s t l f)=.agg [.int .i64 k,.int .i64 i,.int .i64 s,.str t,.list 6 (l.map J0),.list 7 (f.map Zm)]:=by
 rw[Ul];rfl
theorem Jc(s:Str):PT 49 [.str s] (.d (Jf (JP s))):=by
 refine ok49.pc ?_;simp only[go_sem,ir49,JP,JW,Vb,Vv,Vc,simprocAttr]
theorem JSd(n:Int):PT 39 [.int .i64 n] (.d (J0 (.mk 2 n 0 [] [] []))):=by
 refine ok39.pc ?_;simp only[go_sem,ir39,JX,Vb,Vv,Vc,simprocAttr]
theorem UE(n:Int):PT 16 [.int .i64 n] (.d (Jf (Jq n))):=by
 refine ok16.pc ?_;have hc:=(JSd n).call trivial;simp only[JX,Vb]at hc;simp only[go_sem,ir16,Jq,JW,JX,Va,Vb,Vv,Vc,simprocAttr];refine wn hc ?_;simp only[go_sem,Vv,Vc,simprocAttr];simp
theorem Uz(op:Int)(a b:Exp):PT 48 [.int .i64 op,Jf a,Jf b] (.d (Jf (UU op a b))):=by
 refine ok48.pc ?_;simp only[go_sem,ir48,UU,JW,Jz a,Jz b,Va,Vb,Vv,Vc,simprocAttr];simp
def msr(now:Str):Str:=if now==[108,105,110,101]then[98,111,100,121,46,113,116,121]else if now==[98,105,108,108]then[98,111,100,121,46,116,111,116,97,108]else[98,111,100,121,46,97,109,111,117,110,116]
theorem Ut(s:Str):PT 177 [.str s] (.d (.str (msr s))):=by
 refine ok177.pc ?_;unfold msr;cases h1:s==[108,105,110,101]<;>cases h2:s==[98,105,108,108]<;>
  simp only[go_sem,JRN,h1,h2,Nat.reduceAdd,Nat.reduceEqDiff,Nat.reduceBEq,Nat.reduceLeDiff,reduceCtorEq,↓reduceIte,Vu]
def prs(l:List Rule):List Dat:=l.flatMap fun r=>[.iface 9 (.str r.target),.iface 74 (Jf r.expr)]
theorem JCI:∀l:List Rule,(prs l).length=2*l.length
 |[]=>rfl
 |x::r=>by
  have:=JCI r;simp only[prs,List.flatMap_cons,Vg,Vf,Vm]at this⊢;omega
theorem JJ3:∀(l:List Rule) (k:Nat) (h:k<l.length),nth (prs l) (2*k)=.iface 9 (.str l[k].target)∧nth (prs l) (2*k+1)=.iface 74 (Jf l[k].expr)
 |x::r,0,_=>⟨rfl,rfl⟩
 |x::r,k+1,h=>by
  have:=JJ3 r k (sX h);simpa only[nth,prs,List.flatMap_cons,List.getElem_cons_succ,Nat.mul_add,Nat.mul_one,List.cons_append,List.nil_append,List.getD_cons_succ]using this
theorem JSe(k d:Nat)(h:k+d<9223372036854775807):IntKind.i64.wrap ((k:Int)+(d:Int))=((k+d:Nat):Int):=by
 rw[wrap64 oM oM];omega
theorem JA8(l:List Rule):PT 178 [.list 1 (prs l)] (.d (JD l)):=by
 refine J3.Jk JRP.has fun hfit=>?_
 have hl:2*l.length≤68719476736:=by have:=(hfit _ (Vh)).1;rw[JCI]at this;omega
 clear hfit;refine JRP.pc ?_;simp only[go_sem,JRO,JD,JCI,Vv,Vc,Nat.reduceAdd,Nat.reduceEqDiff,Nat.reduceBEq,Nat.reduceLeDiff,reduceCtorEq,↓reduceIte];refine JK (fun n s=>∃k:Nat,k≤l.length∧n=l.length-k∧
  s=⟨[(0,.d (.list 1 (prs l))),(2,.ref 2 0),(3,.ref 3 0),(4,.d (.int .i64 (2*k:Nat)))],[(2,.box [.d (.nil 6)]),(3,.box [.ms 39 k]),(39,.row k 6 ((l.take k).map UT))]⟩) ?_ ?_
 ·refine⟨_,_,(Wk.JCZ 3 0 39 6 _ rfl rfl rfl dC),0,Nat.zero_le _,rfl,?_⟩;simp[put]
 ·rintro n s ⟨k,hk,rfl,rfl⟩;have e1:IntKind.i64.wrap (((2*k:Nat):Int)+1)=((2*k+1:Nat):Int):=JF _ oM;have e2:IntKind.i64.wrap (((2*k:Nat):Int)+2)=((2*(k+1):Nat):Int):=JSe _ 2 oM;by_cases hlt:k<l.length
  ·obtain⟨h1,h2⟩:=JJ3 l k hlt;have hd:decide (((2*k+1:Nat):Int)<((2*l.length:Nat):Int))=true:=by simp only[decide_eq_true_eq];omega
   rw[Jz]at h2;simp only[go_sem,e1,e2,h1,h2,hd,JCI,Vv,Vv,Vc,Nat.reduceAdd,Nat.reduceEqDiff,Nat.reduceBEq,Nat.reduceLeDiff,reduceCtorEq,↓reduceIte];refine⟨oM,dC,oM,dC,sP,sO,l.length-(k+1),_,oM,Wk.less ?_,k+1,oM,rfl,rfl⟩;rw[List.take_succ_eq_append_getElem hlt,Vw];simp only[go_sem,Va,Vb,UT,Vv,Vc,Nat.reduceAdd,Nat.reduceEqDiff,Nat.reduceBEq,Nat.reduceLeDiff,reduceCtorEq,↓reduceIte]
  ·have hd:decide (((2*k+1:Nat):Int)<((2*l.length:Nat):Int))=false:=by simp only[decide_eq_false_iff_not];omega
   obtain rfl:k=l.length:=oM;simp only[go_sem,e1,hd,JCI,List.take_length,Vv,Vc,Nat.reduceAdd,Nat.reduceEqDiff,Nat.reduceBEq,Nat.reduceLeDiff,reduceCtorEq,↓reduceIte]
abbrev sId:Str:=[105,100]
abbrev JCJ:Str:=[107,105,110,100]
abbrev JBF:Str:=[98,111,100,121,46,105,100]
abbrev Uo:Str:=[98,111,100,121,46,107,105,110,100]
def bil(now:Str)(c:Exp):List Rule:=[⟨sId,JP JBF⟩,⟨JCJ,JP Uo⟩,⟨[116,111,116,97,108],JP (msr now)⟩,⟨[99,111,117,110,116],c⟩]
theorem ZW(now:Str)(c:Exp):PT 179 [.str now,Jf c] (.d (JD (bil now c))):=by
 refine ok179.pc ?_;have c1:=(Jc JBF).call trivial;have c2:=(Jc Uo).call trivial;have c3:=(Ut now).call trivial;have c4:=(Jc (msr now)).call trivial;have c5:=(JA8 (bil now c)).call trivial;simp only[prs,bil,List.flatMap_cons,List.flatMap_nil,List.cons_append,List.nil_append,List.append_nil,JD,Va,Vb]at c1 c2 c3 c4 c5;rw[Jz c]at c5⊢;simp only[go_sem,JRQ,bil,JD,Vv,Vc,simprocAttr];refine JI rfl c1 trivial ?_;simp only[go_sem,Vv,Vc,simprocAttr];refine JI rfl c2 trivial ?_;simp only[go_sem,Vv,Vc,simprocAttr];refine JI rfl c3 trivial ?_;simp only[go_sem,Vv,Vc,simprocAttr];refine JI rfl c4 trivial ?_;simp only[go_sem,Vv,Vc,simprocAttr];refine⟨sP,?_⟩;refine JI rfl c5 trivial ?_;simp only[go_sem,Vv,Vc,simprocAttr];rfl
def stk(i:Nat):List Rule:=[⟨sId,JP JBF⟩,⟨JCJ,JP Uo⟩,⟨[115,107,117],Jq ((i:Int).tmod 10)⟩,⟨[113,116,121],Jq 1⟩]
def JQC(now:Str)(i:Nat)(s:Str):Kal:=⟨s,if s==[115,116,111,99,107]then stk i else bil now (Jq 1)⟩
def JAq(now:Str):Nat→List Str→List Kal
 |_,[]=>[]
 |i,s::r=>JQC now i s::JAq now (i+1) r
theorem JCK(now:Str):∀(l:List Str) (i:Nat),(JAq now i l).length=l.length
 |[],_=>rfl
 |x::r,i=>by simp[JAq,JCK now r]
theorem JHr(now:Str):∀(l m:List Str) (i:Nat),JAq now i (l++m)=JAq now i l++JAq now (i+l.length) m
 |[],m,i=>by simp[JAq]
 |x::r,m,i=>by simp only[List.cons_append,JAq,JHr now r m (i+1),Vf];congr 3;omega
theorem JFk(now:Str)(l:List Str)(k:Nat)(h:k<l.length):JAq now 0 (l.take (k+1))=JAq now 0 (l.take k)++[JQC now k l[k]]:=by
 rw[List.take_succ_eq_append_getElem h,JHr];simp only[JAq,List.length_take,Nat.zero_add];congr 3;omega
theorem JCL(now:Str)(l:List Str):PT 180 [.str now,.list 1 (l.map .str)] (.d (.list 2 ((JAq now 0 l).map Je))):=by
 refine J3.Jk JRS.has fun hfit=>?_
 have hl:l.length≤68719476736:=by have:=(hfit (.list 1 (l.map .str)) sP).1;simpa using this
 clear hfit;refine JRS.pc ?_;simp only[go_sem,JRR,Vc,Vv,Vc,Nat.reduceAdd,Nat.reduceEqDiff,Nat.reduceBEq,Nat.reduceLeDiff,reduceCtorEq,↓reduceIte];refine JK (fun n s=>∃k:Nat,k≤l.length∧n=l.length-k∧
  s=⟨[(0,.d (.str now)),(1,.d (.list 1 (l.map .str))),(5,.ms 46 k),(6,.d (.int .i64 k))],[(46,.row k 2 ((JAq now 0 (l.take k)).map Je))]⟩) ?_ ?_
 ·refine⟨_,_,(Wk.JGu 5 46 2 rfl rfl dC).trans (Wk.less ?_),0,Nat.zero_le _,rfl,rfl⟩;simp[put,go_sem,JAq]
 ·rintro n s ⟨k,hk,rfl,rfl⟩;by_cases hlt:k<l.length
  ·have hd:=dT hlt;have hx:nth (l.map .str) k=.str l[k]:=JU _ hlt;have c0:=(UE 1).call trivial;have c1:=(ZW now (Jq 1)).call trivial;have c2:=(Jc JBF).call trivial;have c3:=(Jc Uo).call trivial;have c4:=(UE ((k:Int).tmod 10)).call trivial;have c5:=(JA8 (stk k)).call trivial;have hle:(JAq now 0 (l.take k)).length≤68719476735:=by rw[JCK,List.length_take];omega
   simp only[prs,stk,List.flatMap_cons,List.flatMap_nil,List.cons_append,List.nil_append,List.append_nil,JD,Va,Vb]at c0 c1 c2 c3 c4 c5;simp only[go_sem,hx,hd,Vv,Vc,Vv,Vc,Nat.reduceAdd,Nat.reduceEqDiff,Nat.reduceBEq,Nat.reduceLeDiff,reduceCtorEq,↓reduceIte];refine wn c0 ?_;simp only[go_sem,Vv,Vc,Nat.reduceAdd,Nat.reduceEqDiff,Nat.reduceBEq,Nat.reduceLeDiff,reduceCtorEq,↓reduceIte];refine wn c1 ?_;simp only[go_sem,hx,Vv,Vc,Vv,Vc,Nat.reduceAdd,Nat.reduceEqDiff,Nat.reduceBEq,Nat.reduceLeDiff,reduceCtorEq,↓reduceIte];refine⟨oM,dC,?_⟩;cases hs:l[k]==[115,116,111,99,107]
   ·simp only[go_sem,hx,hs,Vv,Vc,Nat.reduceAdd,Nat.reduceEqDiff,Nat.reduceBEq,Nat.reduceLeDiff,reduceCtorEq,↓reduceIte];refine⟨oM,dC,sP,hle,l.length-(k+1),_,oM,Wk.less ?_,k+1,oM,rfl,rfl⟩;rw[JFk now l k hlt,Vw];simp only[go_sem,JF k oM,Va,Vb,Je,JQC,hs,Vu,Vv,Vc,Nat.reduceAdd,Nat.reduceEqDiff,Nat.reduceBEq,Nat.reduceLeDiff,reduceCtorEq,↓reduceIte]
   ·simp only[go_sem,hx,hs,Vv,Vc,Nat.reduceAdd,Nat.reduceEqDiff,Nat.reduceBEq,Nat.reduceLeDiff,reduceCtorEq,↓reduceIte];refine wn c2 ?_;simp only[go_sem,Vv,Vc,Nat.reduceAdd,Nat.reduceEqDiff,Nat.reduceBEq,Nat.reduceLeDiff,reduceCtorEq,↓reduceIte];refine wn c3 ?_;simp only[go_sem,Vv,Vc,Nat.reduceAdd,Nat.reduceEqDiff,Nat.reduceBEq,Nat.reduceLeDiff,reduceCtorEq,↓reduceIte];refine⟨dC,?_⟩;refine wn c4 ?_;simp only[go_sem,Vv,Vc,Nat.reduceAdd,Nat.reduceEqDiff,Nat.reduceBEq,Nat.reduceLeDiff,reduceCtorEq,↓reduceIte];refine wn c0 ?_;simp only[go_sem,Vv,Vc,Nat.reduceAdd,Nat.reduceEqDiff,Nat.reduceBEq,Nat.reduceLeDiff,reduceCtorEq,↓reduceIte];refine⟨sP,?_⟩;refine wn c5 ?_;refine JPv ?_;refine⟨oM,dC,sP,hle,l.length-(k+1),_,oM,Wk.less ?_,k+1,oM,rfl,rfl⟩;rw[JFk now l k hlt,Vw];simp only[go_sem,JF k oM,Va,Vb,Je,JQC,hs,stk,Vv,Vc,Nat.reduceAdd,Nat.reduceEqDiff,Nat.reduceBEq,Nat.reduceLeDiff,reduceCtorEq,↓reduceIte]
  ·have hd:=dF hlt;obtain rfl:k=l.length:=oM;simp only[go_sem,hd,List.take_length,Vv,Vc,Nat.reduceAdd,Nat.reduceEqDiff,Nat.reduceBEq,Nat.reduceLeDiff,reduceCtorEq,↓reduceIte]
def toS(now:Str)(a:Int):Ste:=.mk [] 13 0 0 0 (if now==[111,114,100,101,114]&&a.tmod 3==1 then[97,103,97,105,110]else[111,117,116,95]++now) [] [] [] [] []
def UI(k a b:Int):Dat:=.agg [.int .u8 k,.int .u8 a,.int .u8 b]
theorem JGR(now:Str)(k a b:Int)(hn:now.length≤1000):PT 105 [.str now,UI k a b] (.d (JH (toS now a))):=by
 refine ok105.pc ?_;rw[JV];simp only[go_sem,JRT,UI,toS,Ste.name,Ste.kind,Ste.number,Ste.time,Ste.limit,Ste.text,Ste.schema,Ste.exprs,Ste.rules,Ste.calls,Ste.branches,Vb,Vv,Vc,Nat.reduceAdd,Nat.reduceEqDiff,Nat.reduceBEq,Nat.reduceLeDiff,reduceCtorEq,↓reduceIte];refine⟨oM,Xc (a.tmod 3==1) (fun _=>?_) ?_⟩
 ·simp only[go_sem,Vv,Vc,Nat.reduceAdd,Nat.reduceEqDiff,Nat.reduceBEq,Nat.reduceLeDiff,reduceCtorEq,↓reduceIte];intro h;cases h
 ·cases h1:now==[111,114,100,101,114]<;>cases h2:a.tmod 3==1<;>
   simp only[go_sem,h1,h2,Bool.and_true,Bool.and_false,Vt,Bool.false_and,Vu,Vv,Vc,Nat.reduceAdd,Nat.reduceEqDiff,Nat.reduceBEq,Nat.reduceLeDiff,reduceCtorEq,↓reduceIte]
end Go.Proofs
namespace Go.Proofs
open Go Av
@[instance_reducible] def JEj:Rls:={rl:=fun n=>n==5}
attribute [local instance 2000] JEj
theorem JL(n:Nat): @Rls.rl JEj n=(n==5):=rfl
theorem JM(n:Nat): @Rls.tr JEj n=false:=rfl
theorem JB(sz n:Nat): @Y0 JEj sz n=(sz==5&&n==1):=by unfold Y0;rw[JL];show((sz==5&&n==1)||(false&&_))=_;rw[Bool.false_and,Bool.or_false]
abbrev JFA:Exp:=JP Uo
def Jg(now:Str)(a:Int):Exp:=UU 8 (JP (msr now)) (Jq (a.tmod 110))
abbrev ZF:Str:=[111,114,100,101,114]
abbrev JDN:Str:=[98,105,108,108]
abbrev JRZ:Str:=[108,105,110,101]
abbrev JBg:Str:=[99,111,117,110,116]
def JCM(now:Str)(a:Int):Ste:=.mk [] 1 0 0 0 [108,97,114,103,101] [] [Jg now a] [] [] []
def JOJ(b:Int):Ste:=.mk [] 2 0 0 0 [] ZF [] [⟨sId,JP JBF⟩,⟨[97,109,111,117,110,116],UU 12 (JP [98,111,100,121,46,97,109,111,117,110,116]) (Jq (b.tmod 4))⟩,⟨JCJ,JFA⟩,⟨[105,116,101,109,115],JP [98,111,100,121,46,105,116,101,109,115]⟩] [] []
def JOK(now:Str)(b:Int):Ste:=.mk [] 2 0 0 0 [] JDN [] (bil now (Jq (b.tmod 200))) [] []
def JSf:Ste:=.mk [] 3 0 0 0 [98,111,100,121,46,105,116,101,109,115] JRZ [] [⟨sId,JP JBF⟩,⟨JCJ,JFA⟩,⟨[115,107,117],JP [105,116,101,109,46,115,107,117]⟩,⟨[113,116,121],JP [105,116,101,109,46,113,116,121]⟩] [] []
def JOL(now:Str)(a b:Int):Ste:=.mk [] 4 ((a.tdiv 2).tmod 4) (a.tmod 3*50) (1+b.tmod 4) [] JDN (if a.tmod 2==0 then[JFA,UU 11 (JP JBg) (Jq (1+b.tmod 4))]else[JFA])
 [⟨sId,UU 23 (JP [105,116,101,109,115,91,48,93,46,105,100]) (Jq 0)⟩,⟨JCJ,JP [107,101,121]⟩,⟨[116,111,116,97,108],.mk 26 0 ([105,116,101,109,115,91,42,93,46]++(msr now).drop 5) [] []⟩,⟨JBg,JP JBg⟩] [] []
def JSg(a b:Int):Ste:=.mk [] 5 0 (a.tmod 3*50) (1+b.tmod 4) [] [] [JFA,JP JBF] [] [] []
def JSh(b:Int):Ste:=.mk [] 6 (1+b.tmod 4) 0 0 [] [] [JP JBF] [] [] []
def JSi(a b:Int):Ste:=.mk [] 7 (1+a.tmod 3) 100 (1+b.tmod 4) [] [] [] [] [] []
def JSj(a b:Int):Ste:=.mk [] 8 0 (1+a.tmod 80) (1+b.tmod 4) [] [] [] [] [] []
def JSk(now:Str)(a b:Int):Ste:=.mk [] 9 0 (a.tmod 3*60) (1+b.tmod 4) [] JDN [] (bil now (JP [114,101,112,108,121,46,99,111,100,101])) (JAq now 0 [[112,97,121]]) []
def sgL(a:Int):List Str:=if a.tmod 4==0 then[[112,97,121]]else if a.tmod 4==1 then[[112,97,121],[115,116,111,99,107]]else if a.tmod 4==2 then[[115,116,111,99,107],[109,97,105,108]]else[[115,116,111,99,107],[112,97,121],[109,97,105,108]]
def JGS(now:Str)(a b:Int):Ste:=.mk [] 10 0 (b.tmod 3*60) (1+b.tmod 4) [] JDN [] (bil now (Jq (sgL a).length)) (JAq now 0 (sgL a)) []
def UP(br:Ste)(k a b:Int)(now:Str):Ste×Str:=
 if k.tmod 13=0 then(JCM now a,now)
 else if k.tmod 13=1∨k.tmod 13=12 then(if now==ZF&&a.tmod 2==0 then(JOJ b,now)else(JOK now b,JDN))
 else if k.tmod 13=2 then(if now==ZF then(JSf,JRZ)else(br,now))
 else if k.tmod 13=3 then(JOL now a b,JDN)
 else if k.tmod 13=4 then(JSg a b,now)
 else if k.tmod 13=5 then(JSh b,now)
 else if k.tmod 13=6 then(JSi a b,now)
 else if k.tmod 13=7 then(JSj a b,now)
 else if k.tmod 13=8 then(JSk now a b,JDN)
 else if k.tmod 13=9 then(JGS now a b,JDN)
 else(br,now)
def BrOk(deep:Bool)(br:Ste)(k a b:Int)(now:Str):Prop:=match deep with
 |true=>PT 181 [UI k a b,.str now,Jf (Jg now a)] (.d (JH br))
 |false=>br=JCM now a
def JDS(t:Int):Prop:=∀(br:Ste) (k a b:Int) (now:Str) (deep:Bool),0≤a→a≤255→0≤b→b≤255→k.tmod 13=t→BrOk deep br k a b now→
 PT 103 [UI k a b,.str now,.bool deep] (.tup [.d (JH (UP br k a b now).1),.d (.str (UP br k a b now).2)])
theorem JQD(s:Str):5≤(msr s).length∧(msr s).length≤11:=by
 unfold msr;split
 ·decide
 ·split<;>decide
theorem UN(a n:Int)(h0:0≤a)(hn:0<n∧n≤256):0≤a.tmod n∧a.tmod n≤255∧a.tmod n<n:=by
 rw[Int.tmod_eq_emod_of_nonneg h0];have:=Int.emod_nonneg a (show n≠0 by omega);have:=Int.emod_lt_of_pos a hn.1;omega
theorem JIx(a n:Int)(h0:0≤a)(h1:a≤255)(hn:0<n):0≤a.tdiv n∧a.tdiv n≤255:=by
 rw[Int.tdiv_eq_ediv_of_nonneg h0];have:=Int.ediv_nonneg h0 (show 0≤n by omega);have:=Int.ediv_le_self n h0;omega
theorem JEk{P:Program}{f:Cee}{args args':List Av}{T:List (Nat×Option Av.Obj)}{v:Av}{ups:List (Nat×Av.Obj)}(h:JN P f args' T v ups)(e:args.map Av.canon=args'):JN P f args T v ups:=JN.canon (e▸h)
theorem J7{n:Int}(h0: -100000≤n)(h1:n≤100000):IntKind.i64.wrap n=n:=wrap64 oM oM
theorem JA(n:Str)(k u t l:Int)(x c:Str)(e:List Exp)(r:List Rule)(a:List Kal)(b:List Brn):JH (.mk n k u t l x c e r a b)=.agg [.str n,.int .i64 k,.int .i64 u,.int .i64 t,.int .i64 l,.str x,.str c,.list 5 (e.map Jf),.list 6 (r.map UT),.list 2 (a.map Je),.list 2 (b.map J1)]:=by
 rw[JV];rfl
end Go.Proofs
namespace Go.Proofs
open Go Av
attribute [local instance 2000] JEj
theorem JSl:JDS 0:=by
 intro br k a b now deep h0 h1 h2 h3 hk hbr;refine Ye.pc ?_;have c0:=(Jc Uo).call trivial;have c1:=(Ut now).call trivial;have c2:=(Jc (msr now)).call trivial;have c3:=(UE (a.tmod 110)).call trivial;have c4:=(Uz 8 (JP (msr now)) (Jq (a.tmod 110))).call trivial;have wa:IntKind.i64.wrap a=a:=J7 oM oM;have wb:IntKind.i64.wrap b=b:=J7 oM oM;obtain⟨b4,b4',b4''⟩:=UN b 4 h2 oM;have w4:IntKind.i64.wrap (1+b.tmod 4)=1+b.tmod 4:=J7 oM oM;simp only[Va,Vb]at c0 c1 c2 c3 c4;simp only[JD,JP,Jq,UU,JW,JX,Jg,prs,List.flatMap_cons,List.flatMap_nil,List.cons_append,List.nil_append,List.append_nil,Va,Vb]at c0 c1 c2 c3 c4;unfold UP;rw[hk];simp only[go_sem,YR,UI,JA,Va,Vb,JD,wa,wb,hk,w4,JL,JM,JB,Int.reduceBEq,Vu,Vt,Bool.false_and,Bool.and_true,Bool.and_false,JD,JP,Jq,UU,JW,JX,Jg,prs,List.flatMap_cons,List.flatMap_nil,List.cons_append,List.nil_append,List.append_nil,Va,Vb,JCM,JA,Vv,Vc,Nat.reduceAdd,Nat.reduceEqDiff,Nat.reduceBEq,Nat.reduceLeDiff,reduceCtorEq,↓reduceIte];refine wn c0 ?_;simp only[go_sem,JA,Va,Vb,JD,wa,wb,hk,w4,JL,JM,JB,Int.reduceBEq,Vu,Vt,Bool.false_and,Bool.and_true,Bool.and_false,Vv,Vc,Nat.reduceAdd,Nat.reduceEqDiff,Nat.reduceBEq,Nat.reduceLeDiff,reduceCtorEq,↓reduceIte];refine wn c0 ?_;simp only[go_sem,JA,Va,Vb,JD,wa,wb,hk,w4,JL,JM,JB,Int.reduceBEq,Vu,Vt,Bool.false_and,Bool.and_true,Bool.and_false,Vv,Vc,Nat.reduceAdd,Nat.reduceEqDiff,Nat.reduceBEq,Nat.reduceLeDiff,reduceCtorEq,↓reduceIte];refine⟨sP,?_⟩;refine wn c1 ?_;simp only[go_sem,JA,Va,Vb,JD,wa,wb,hk,w4,JL,JM,JB,Int.reduceBEq,Vu,Vt,Bool.false_and,Bool.and_true,Bool.and_false,Vv,Vc,Nat.reduceAdd,Nat.reduceEqDiff,Nat.reduceBEq,Nat.reduceLeDiff,reduceCtorEq,↓reduceIte];refine wn c2 ?_;simp only[go_sem,JA,Va,Vb,JD,wa,wb,hk,w4,JL,JM,JB,Int.reduceBEq,Vu,Vt,Bool.false_and,Bool.and_true,Bool.and_false,Vv,Vc,Nat.reduceAdd,Nat.reduceEqDiff,Nat.reduceBEq,Nat.reduceLeDiff,reduceCtorEq,↓reduceIte];refine⟨dC,?_⟩;refine wn c3 ?_;simp only[go_sem,JA,Va,Vb,JD,wa,wb,hk,w4,JL,JM,JB,Int.reduceBEq,Vu,Vt,Bool.false_and,Bool.and_true,Bool.and_false,Vv,Vc,Nat.reduceAdd,Nat.reduceEqDiff,Nat.reduceBEq,Nat.reduceLeDiff,reduceCtorEq,↓reduceIte];refine wn c4 ?_;simp only[go_sem,JA,Va,Vb,JD,wa,wb,hk,w4,JL,JM,JB,Int.reduceBEq,Vu,Vt,Bool.false_and,Bool.and_true,Bool.and_false,Int.reduceEq,or_true,or_false,true_or,false_or,not_false_eq_true,not_true_eq_false,ne_eq,true_and,JCM,JA,Va,Vb,Vv,Vc,Nat.reduceAdd,Nat.reduceEqDiff,Nat.reduceBEq,Nat.reduceLeDiff,reduceCtorEq,↓reduceIte];simp
theorem JSm:JDS 1:=by
 intro br k a b now deep h0 h1 h2 h3 hk hbr;refine Ye.pc ?_;have c0:=(Jc Uo).call trivial;have c1:=(Ut now).call trivial;have c2:=(Jc (msr now)).call trivial;have c3:=(UE (a.tmod 110)).call trivial;have c4:=(Uz 8 (JP (msr now)) (Jq (a.tmod 110))).call trivial;have wa:IntKind.i64.wrap a=a:=J7 oM oM;have wb:IntKind.i64.wrap b=b:=J7 oM oM;obtain⟨b4,b4',b4''⟩:=UN b 4 h2 oM;have w4:IntKind.i64.wrap (1+b.tmod 4)=1+b.tmod 4:=J7 oM oM;simp only[Va,Vb]at c0 c1 c2 c3 c4;have c5:=(Jc JBF).call trivial;have c6:=(Jc [98,111,100,121,46,97,109,111,117,110,116]).call trivial;have c7:=(UE (b.tmod 4)).call trivial;have c8:=(Uz 12 (JP [98,111,100,121,46,97,109,111,117,110,116]) (Jq (b.tmod 4))).call trivial;have c9:=(Jc [98,111,100,121,46,105,116,101,109,115]).call trivial;have cq10:=(UE (b.tmod 200)).call trivial;have cq11:=(ZW now (Jq (b.tmod 200))).call trivial;have cq12:=(JA8 [⟨sId,JP JBF⟩,⟨[97,109,111,117,110,116],UU 12 (JP [98,111,100,121,46,97,109,111,117,110,116]) (Jq (b.tmod 4))⟩,⟨JCJ,JFA⟩,⟨[105,116,101,109,115],JP [98,111,100,121,46,105,116,101,109,115]⟩]).call trivial;simp only[JD,JP,Jq,UU,JW,JX,Jg,prs,List.flatMap_cons,List.flatMap_nil,List.cons_append,List.nil_append,List.append_nil,Va,Vb]at c0 c1 c2 c3 c4 c5 c6 c7 c8 c9 cq10 cq11 cq12;unfold UP;rw[hk];simp only[go_sem,YR,UI,JA,Va,Vb,JD,wa,wb,hk,w4,JL,JM,JB,Int.reduceBEq,Vu,Vt,Bool.false_and,Bool.and_true,Bool.and_false,JD,JP,Jq,UU,JW,JX,Jg,prs,List.flatMap_cons,List.flatMap_nil,List.cons_append,List.nil_append,List.append_nil,Va,Vb,JOJ,JOK,JA,Vv,Vc,Nat.reduceAdd,Nat.reduceEqDiff,Nat.reduceBEq,Nat.reduceLeDiff,reduceCtorEq,↓reduceIte];refine wn c0 ?_;simp only[go_sem,JA,Va,Vb,JD,wa,wb,hk,w4,JL,JM,JB,Int.reduceBEq,Vu,Vt,Bool.false_and,Bool.and_true,Bool.and_false,Vv,Vc,Nat.reduceAdd,Nat.reduceEqDiff,Nat.reduceBEq,Nat.reduceLeDiff,reduceCtorEq,↓reduceIte];refine wn c0 ?_;simp only[go_sem,JA,Va,Vb,JD,wa,wb,hk,w4,JL,JM,JB,Int.reduceBEq,Vu,Vt,Bool.false_and,Bool.and_true,Bool.and_false,Vv,Vc,Nat.reduceAdd,Nat.reduceEqDiff,Nat.reduceBEq,Nat.reduceLeDiff,reduceCtorEq,↓reduceIte];refine⟨sP,?_⟩;refine wn c1 ?_;simp only[go_sem,JA,Va,Vb,JD,wa,wb,hk,w4,JL,JM,JB,Int.reduceBEq,Vu,Vt,Bool.false_and,Bool.and_true,Bool.and_false,Vv,Vc,Nat.reduceAdd,Nat.reduceEqDiff,Nat.reduceBEq,Nat.reduceLeDiff,reduceCtorEq,↓reduceIte];refine wn c2 ?_;simp only[go_sem,JA,Va,Vb,JD,wa,wb,hk,w4,JL,JM,JB,Int.reduceBEq,Vu,Vt,Bool.false_and,Bool.and_true,Bool.and_false,Vv,Vc,Nat.reduceAdd,Nat.reduceEqDiff,Nat.reduceBEq,Nat.reduceLeDiff,reduceCtorEq,↓reduceIte];refine⟨dC,?_⟩;refine wn c3 ?_;simp only[go_sem,JA,Va,Vb,JD,wa,wb,hk,w4,JL,JM,JB,Int.reduceBEq,Vu,Vt,Bool.false_and,Bool.and_true,Bool.and_false,Vv,Vc,Nat.reduceAdd,Nat.reduceEqDiff,Nat.reduceBEq,Nat.reduceLeDiff,reduceCtorEq,↓reduceIte];refine wn c4 ?_;simp only[go_sem,JA,Va,Vb,JD,wa,wb,hk,w4,JL,JM,JB,Int.reduceBEq,Vu,Vt,Bool.false_and,Bool.and_true,Bool.and_false,Int.reduceEq,or_true,or_false,true_or,false_or,not_false_eq_true,not_true_eq_false,ne_eq,true_and,JOJ,JOK,JA,Va,Vb,Vv,Vc,Nat.reduceAdd,Nat.reduceEqDiff,Nat.reduceBEq,Nat.reduceLeDiff,reduceCtorEq,↓reduceIte];refine sq (a.tmod 2==0) ?_ ?_
 ·simp only[go_sem,Vv,Vc,Nat.reduceAdd,Nat.reduceEqDiff,Nat.reduceBEq,Nat.reduceLeDiff,reduceCtorEq,↓reduceIte];intro h;cases h
 ·cases h4:(now==ZF&&a.tmod 2==0)
  ·simp only[go_sem,h4,JA,Va,Vb,JD,wa,wb,hk,w4,JL,JM,JB,Int.reduceBEq,Vu,Vt,Bool.false_and,Bool.and_true,Bool.and_false,Vv,Vc,Nat.reduceAdd,Nat.reduceEqDiff,Nat.reduceBEq,Nat.reduceLeDiff,reduceCtorEq,↓reduceIte];refine⟨dC,?_⟩;refine wn cq10 ?_;simp only[go_sem,JA,Va,Vb,JD,wa,wb,hk,w4,JL,JM,JB,Int.reduceBEq,Vu,Vt,Bool.false_and,Bool.and_true,Bool.and_false,Vv,Vc,Nat.reduceAdd,Nat.reduceEqDiff,Nat.reduceBEq,Nat.reduceLeDiff,reduceCtorEq,↓reduceIte];refine wn cq11 ?_;simp only[go_sem,JA,Va,Vb,JD,wa,wb,hk,w4,JL,JM,JB,Int.reduceBEq,Vu,Vt,Bool.false_and,Bool.and_true,Bool.and_false,Vv,Vc,Nat.reduceAdd,Nat.reduceEqDiff,Nat.reduceBEq,Nat.reduceLeDiff,reduceCtorEq,↓reduceIte]
  ·simp only[go_sem,h4,JA,Va,Vb,JD,wa,wb,hk,w4,JL,JM,JB,Int.reduceBEq,Vu,Vt,Bool.false_and,Bool.and_true,Bool.and_false,Vv,Vc,Nat.reduceAdd,Nat.reduceEqDiff,Nat.reduceBEq,Nat.reduceLeDiff,reduceCtorEq,↓reduceIte];refine JI rfl c5 trivial ?_;simp only[go_sem,JA,Va,Vb,JD,wa,wb,hk,w4,JL,JM,JB,Int.reduceBEq,Vu,Vt,Bool.false_and,Bool.and_true,Bool.and_false,Vv,Vc,Nat.reduceAdd,Nat.reduceEqDiff,Nat.reduceBEq,Nat.reduceLeDiff,reduceCtorEq,↓reduceIte];refine JI rfl c6 trivial ?_;simp only[go_sem,JA,Va,Vb,JD,wa,wb,hk,w4,JL,JM,JB,Int.reduceBEq,Vu,Vt,Bool.false_and,Bool.and_true,Bool.and_false,Vv,Vc,Nat.reduceAdd,Nat.reduceEqDiff,Nat.reduceBEq,Nat.reduceLeDiff,reduceCtorEq,↓reduceIte];refine⟨dC,?_⟩;refine JI rfl c7 trivial ?_;simp only[go_sem,JA,Va,Vb,JD,wa,wb,hk,w4,JL,JM,JB,Int.reduceBEq,Vu,Vt,Bool.false_and,Bool.and_true,Bool.and_false,Vv,Vc,Nat.reduceAdd,Nat.reduceEqDiff,Nat.reduceBEq,Nat.reduceLeDiff,reduceCtorEq,↓reduceIte];refine JI rfl c8 trivial ?_;simp only[go_sem,JA,Va,Vb,JD,wa,wb,hk,w4,JL,JM,JB,Int.reduceBEq,Vu,Vt,Bool.false_and,Bool.and_true,Bool.and_false,Vv,Vc,Nat.reduceAdd,Nat.reduceEqDiff,Nat.reduceBEq,Nat.reduceLeDiff,reduceCtorEq,↓reduceIte];refine JI rfl c9 trivial ?_;simp only[go_sem,JA,Va,Vb,JD,wa,wb,hk,w4,JL,JM,JB,Int.reduceBEq,Vu,Vt,Bool.false_and,Bool.and_true,Bool.and_false,Vv,Vc,Nat.reduceAdd,Nat.reduceEqDiff,Nat.reduceBEq,Nat.reduceLeDiff,reduceCtorEq,↓reduceIte];refine⟨sP,?_⟩;refine JI rfl cq12 trivial ?_;simp only[go_sem,JA,Va,Vb,JD,wa,wb,hk,w4,JL,JM,JB,Int.reduceBEq,Vu,Vt,Bool.false_and,Bool.and_true,Bool.and_false,Vv,Vc,Nat.reduceAdd,Nat.reduceEqDiff,Nat.reduceBEq,Nat.reduceLeDiff,reduceCtorEq,↓reduceIte];rfl
end Go.Proofs
namespace Go.Proofs
open Go Av
attribute [local instance 2000] JEj
theorem JSn:JDS 2:=by
 intro br k a b now deep h0 h1 h2 h3 hk hbr;refine Ye.pc ?_;have c0:=(Jc Uo).call trivial;have c1:=(Ut now).call trivial;have c2:=(Jc (msr now)).call trivial;have c3:=(UE (a.tmod 110)).call trivial;have c4:=(Uz 8 (JP (msr now)) (Jq (a.tmod 110))).call trivial;have wa:IntKind.i64.wrap a=a:=J7 oM oM;have wb:IntKind.i64.wrap b=b:=J7 oM oM;obtain⟨b4,b4',b4''⟩:=UN b 4 h2 oM;have w4:IntKind.i64.wrap (1+b.tmod 4)=1+b.tmod 4:=J7 oM oM;simp only[Va,Vb]at c0 c1 c2 c3 c4;have c5:=(Jc JBF).call trivial;have c6:=(Jc [105,116,101,109,46,115,107,117]).call trivial;have c7:=(Jc [105,116,101,109,46,113,116,121]).call trivial;have cq12:=(JA8 [⟨sId,JP JBF⟩,⟨JCJ,JFA⟩,⟨[115,107,117],JP [105,116,101,109,46,115,107,117]⟩,⟨[113,116,121],JP [105,116,101,109,46,113,116,121]⟩]).call trivial;simp only[JD,JP,Jq,UU,JW,JX,Jg,prs,List.flatMap_cons,List.flatMap_nil,List.cons_append,List.nil_append,List.append_nil,Va,Vb]at c0 c1 c2 c3 c4 c5 c6 c7 cq12;unfold UP;rw[hk];simp only[go_sem,YR,UI,JA,Va,Vb,JD,wa,wb,hk,w4,JL,JM,JB,Int.reduceBEq,Vu,Vt,Bool.false_and,Bool.and_true,Bool.and_false,JD,JP,Jq,UU,JW,JX,Jg,prs,List.flatMap_cons,List.flatMap_nil,List.cons_append,List.nil_append,List.append_nil,Va,Vb,JSf,JA,Vv,Vc,Nat.reduceAdd,Nat.reduceEqDiff,Nat.reduceBEq,Nat.reduceLeDiff,reduceCtorEq,↓reduceIte];refine wn c0 ?_;simp only[go_sem,JA,Va,Vb,JD,wa,wb,hk,w4,JL,JM,JB,Int.reduceBEq,Vu,Vt,Bool.false_and,Bool.and_true,Bool.and_false,Vv,Vc,Nat.reduceAdd,Nat.reduceEqDiff,Nat.reduceBEq,Nat.reduceLeDiff,reduceCtorEq,↓reduceIte];refine wn c0 ?_;simp only[go_sem,JA,Va,Vb,JD,wa,wb,hk,w4,JL,JM,JB,Int.reduceBEq,Vu,Vt,Bool.false_and,Bool.and_true,Bool.and_false,Vv,Vc,Nat.reduceAdd,Nat.reduceEqDiff,Nat.reduceBEq,Nat.reduceLeDiff,reduceCtorEq,↓reduceIte];refine⟨sP,?_⟩;refine wn c1 ?_;simp only[go_sem,JA,Va,Vb,JD,wa,wb,hk,w4,JL,JM,JB,Int.reduceBEq,Vu,Vt,Bool.false_and,Bool.and_true,Bool.and_false,Vv,Vc,Nat.reduceAdd,Nat.reduceEqDiff,Nat.reduceBEq,Nat.reduceLeDiff,reduceCtorEq,↓reduceIte];refine wn c2 ?_;simp only[go_sem,JA,Va,Vb,JD,wa,wb,hk,w4,JL,JM,JB,Int.reduceBEq,Vu,Vt,Bool.false_and,Bool.and_true,Bool.and_false,Vv,Vc,Nat.reduceAdd,Nat.reduceEqDiff,Nat.reduceBEq,Nat.reduceLeDiff,reduceCtorEq,↓reduceIte];refine⟨dC,?_⟩;refine wn c3 ?_;simp only[go_sem,JA,Va,Vb,JD,wa,wb,hk,w4,JL,JM,JB,Int.reduceBEq,Vu,Vt,Bool.false_and,Bool.and_true,Bool.and_false,Vv,Vc,Nat.reduceAdd,Nat.reduceEqDiff,Nat.reduceBEq,Nat.reduceLeDiff,reduceCtorEq,↓reduceIte];refine wn c4 ?_;simp only[go_sem,JA,Va,Vb,JD,wa,wb,hk,w4,JL,JM,JB,Int.reduceBEq,Vu,Vt,Bool.false_and,Bool.and_true,Bool.and_false,Int.reduceEq,or_true,or_false,true_or,false_or,not_false_eq_true,not_true_eq_false,ne_eq,true_and,JSf,JA,Va,Vb,Vv,Vc,Nat.reduceAdd,Nat.reduceEqDiff,Nat.reduceBEq,Nat.reduceLeDiff,reduceCtorEq,↓reduceIte];cases h4:now==ZF
 ·simp only[go_sem,h4,JA,Va,Vb,JD,wa,wb,hk,w4,JL,JM,JB,Int.reduceBEq,Vu,Vt,Bool.false_and,Bool.and_true,Bool.and_false,Vv,Vc,Nat.reduceAdd,Nat.reduceEqDiff,Nat.reduceBEq,Nat.reduceLeDiff,reduceCtorEq,↓reduceIte];cases deep
  ·have hbr:br=JCM now a:=hbr;subst hbr;simp only[go_sem,JA,Va,Vb,JD,wa,wb,hk,w4,JL,JM,JB,Int.reduceBEq,Vu,Vt,Bool.false_and,Bool.and_true,Bool.and_false,JCM,Jg,JD,JP,Jq,UU,JW,JX,Jg,prs,List.flatMap_cons,List.flatMap_nil,List.cons_append,List.nil_append,List.append_nil,Va,Vb,Vv,Vc,Nat.reduceAdd,Nat.reduceEqDiff,Nat.reduceBEq,Nat.reduceLeDiff,reduceCtorEq,↓reduceIte];simp
  ·have hb:=J3.call (show PT 181 [UI k a b,.str now,Jf (Jg now a)] (.d (JH br))from hbr) trivial;simp only[UI,JD,JP,Jq,UU,JW,JX,Jg,prs,List.flatMap_cons,List.flatMap_nil,List.cons_append,List.nil_append,List.append_nil,Va,Vb,JV br]at hb;rw[JV br];simp only[go_sem,JA,Va,Vb,JD,wa,wb,hk,w4,JL,JM,JB,Int.reduceBEq,Vu,Vt,Bool.false_and,Bool.and_true,Bool.and_false,Vv,Vc,Nat.reduceAdd,Nat.reduceEqDiff,Nat.reduceBEq,Nat.reduceLeDiff,reduceCtorEq,↓reduceIte];refine wn hb ?_;simp only[go_sem,JA,Va,Vb,JD,wa,wb,hk,w4,JL,JM,JB,Int.reduceBEq,Vu,Vt,Bool.false_and,Bool.and_true,Bool.and_false,Vv,Vc,Nat.reduceAdd,Nat.reduceEqDiff,Nat.reduceBEq,Nat.reduceLeDiff,reduceCtorEq,↓reduceIte]
 ·simp only[go_sem,h4,JA,Va,Vb,JD,wa,wb,hk,w4,JL,JM,JB,Int.reduceBEq,Vu,Vt,Bool.false_and,Bool.and_true,Bool.and_false,Vv,Vc,Nat.reduceAdd,Nat.reduceEqDiff,Nat.reduceBEq,Nat.reduceLeDiff,reduceCtorEq,↓reduceIte];refine JI rfl c5 trivial ?_;simp only[go_sem,JA,Va,Vb,JD,wa,wb,hk,w4,JL,JM,JB,Int.reduceBEq,Vu,Vt,Bool.false_and,Bool.and_true,Bool.and_false,Vv,Vc,Nat.reduceAdd,Nat.reduceEqDiff,Nat.reduceBEq,Nat.reduceLeDiff,reduceCtorEq,↓reduceIte];refine JI rfl c6 trivial ?_;simp only[go_sem,JA,Va,Vb,JD,wa,wb,hk,w4,JL,JM,JB,Int.reduceBEq,Vu,Vt,Bool.false_and,Bool.and_true,Bool.and_false,Vv,Vc,Nat.reduceAdd,Nat.reduceEqDiff,Nat.reduceBEq,Nat.reduceLeDiff,reduceCtorEq,↓reduceIte];refine JI rfl c7 trivial ?_;simp only[go_sem,JA,Va,Vb,JD,wa,wb,hk,w4,JL,JM,JB,Int.reduceBEq,Vu,Vt,Bool.false_and,Bool.and_true,Bool.and_false,Vv,Vc,Nat.reduceAdd,Nat.reduceEqDiff,Nat.reduceBEq,Nat.reduceLeDiff,reduceCtorEq,↓reduceIte];refine⟨sP,?_⟩;refine JI rfl cq12 trivial ?_;simp only[go_sem,JA,Va,Vb,JD,wa,wb,hk,w4,JL,JM,JB,Int.reduceBEq,Vu,Vt,Bool.false_and,Bool.and_true,Bool.and_false,Vv,Vc,Nat.reduceAdd,Nat.reduceEqDiff,Nat.reduceBEq,Nat.reduceLeDiff,reduceCtorEq,↓reduceIte];rfl
end Go.Proofs
namespace Go.Proofs
open Go Av
attribute [local instance 2000] JEj
theorem JSo:JDS 4:=by
 intro br k a b now deep h0 h1 h2 h3 hk hbr;refine Ye.pc ?_;have c0:=(Jc Uo).call trivial;have c1:=(Ut now).call trivial;have c2:=(Jc (msr now)).call trivial;have c3:=(UE (a.tmod 110)).call trivial;have c4:=(Uz 8 (JP (msr now)) (Jq (a.tmod 110))).call trivial;have wa:IntKind.i64.wrap a=a:=J7 oM oM;have wb:IntKind.i64.wrap b=b:=J7 oM oM;obtain⟨b4,b4',b4''⟩:=UN b 4 h2 oM;have w4:IntKind.i64.wrap (1+b.tmod 4)=1+b.tmod 4:=J7 oM oM;simp only[Va,Vb]at c0 c1 c2 c3 c4;have c5:=(Jc JBF).call trivial;obtain⟨m1,m2,m3⟩:=UN a 3 h0 oM;have w5:IntKind.i64.wrap (a.tmod 3*50)=a.tmod 3*50:=J7 oM oM;simp only[JD,JP,Jq,UU,JW,JX,Jg,prs,List.flatMap_cons,List.flatMap_nil,List.cons_append,List.nil_append,List.append_nil,Va,Vb]at c0 c1 c2 c3 c4 c5;unfold UP;rw[hk];simp only[go_sem,YR,UI,JA,Va,Vb,JD,wa,wb,hk,w4,JL,JM,JB,Int.reduceBEq,Vu,Vt,Bool.false_and,Bool.and_true,Bool.and_false,JD,JP,Jq,UU,JW,JX,Jg,prs,List.flatMap_cons,List.flatMap_nil,List.cons_append,List.nil_append,List.append_nil,Va,Vb,JSg,JA,Vv,Vc,Nat.reduceAdd,Nat.reduceEqDiff,Nat.reduceBEq,Nat.reduceLeDiff,reduceCtorEq,↓reduceIte];refine wn c0 ?_;simp only[go_sem,JA,Va,Vb,JD,wa,wb,hk,w4,JL,JM,JB,Int.reduceBEq,Vu,Vt,Bool.false_and,Bool.and_true,Bool.and_false,Vv,Vc,Nat.reduceAdd,Nat.reduceEqDiff,Nat.reduceBEq,Nat.reduceLeDiff,reduceCtorEq,↓reduceIte];refine wn c0 ?_;simp only[go_sem,JA,Va,Vb,JD,wa,wb,hk,w4,JL,JM,JB,Int.reduceBEq,Vu,Vt,Bool.false_and,Bool.and_true,Bool.and_false,Vv,Vc,Nat.reduceAdd,Nat.reduceEqDiff,Nat.reduceBEq,Nat.reduceLeDiff,reduceCtorEq,↓reduceIte];refine⟨sP,?_⟩;refine wn c1 ?_;simp only[go_sem,JA,Va,Vb,JD,wa,wb,hk,w4,JL,JM,JB,Int.reduceBEq,Vu,Vt,Bool.false_and,Bool.and_true,Bool.and_false,Vv,Vc,Nat.reduceAdd,Nat.reduceEqDiff,Nat.reduceBEq,Nat.reduceLeDiff,reduceCtorEq,↓reduceIte];refine wn c2 ?_;simp only[go_sem,JA,Va,Vb,JD,wa,wb,hk,w4,JL,JM,JB,Int.reduceBEq,Vu,Vt,Bool.false_and,Bool.and_true,Bool.and_false,Vv,Vc,Nat.reduceAdd,Nat.reduceEqDiff,Nat.reduceBEq,Nat.reduceLeDiff,reduceCtorEq,↓reduceIte];refine⟨dC,?_⟩;refine wn c3 ?_;simp only[go_sem,JA,Va,Vb,JD,wa,wb,hk,w4,JL,JM,JB,Int.reduceBEq,Vu,Vt,Bool.false_and,Bool.and_true,Bool.and_false,Vv,Vc,Nat.reduceAdd,Nat.reduceEqDiff,Nat.reduceBEq,Nat.reduceLeDiff,reduceCtorEq,↓reduceIte];refine wn c4 ?_;simp only[go_sem,JA,Va,Vb,JD,wa,wb,hk,w4,JL,JM,JB,Int.reduceBEq,Vu,Vt,Bool.false_and,Bool.and_true,Bool.and_false,Int.reduceEq,or_true,or_false,true_or,false_or,not_false_eq_true,not_true_eq_false,ne_eq,true_and,JSg,JA,Va,Vb,Vv,Vc,Nat.reduceAdd,Nat.reduceEqDiff,Nat.reduceBEq,Nat.reduceLeDiff,reduceCtorEq,↓reduceIte];refine JI rfl c5 trivial ?_;simp only[go_sem,JA,Va,Vb,JD,wa,wb,hk,w4,JL,JM,JB,Int.reduceBEq,Vu,Vt,Bool.false_and,Bool.and_true,Bool.and_false,Vv,Vc,Nat.reduceAdd,Nat.reduceEqDiff,Nat.reduceBEq,Nat.reduceLeDiff,reduceCtorEq,↓reduceIte];refine⟨sP,dC,?_⟩;rw[w5];exact⟨rfl,rfl⟩
theorem JSp:JDS 5:=by
 intro br k a b now deep h0 h1 h2 h3 hk hbr;refine Ye.pc ?_;have c0:=(Jc Uo).call trivial;have c1:=(Ut now).call trivial;have c2:=(Jc (msr now)).call trivial;have c3:=(UE (a.tmod 110)).call trivial;have c4:=(Uz 8 (JP (msr now)) (Jq (a.tmod 110))).call trivial;have wa:IntKind.i64.wrap a=a:=J7 oM oM;have wb:IntKind.i64.wrap b=b:=J7 oM oM;obtain⟨b4,b4',b4''⟩:=UN b 4 h2 oM;have w4:IntKind.i64.wrap (1+b.tmod 4)=1+b.tmod 4:=J7 oM oM;simp only[Va,Vb]at c0 c1 c2 c3 c4;have c5:=(Jc JBF).call trivial;simp only[JD,JP,Jq,UU,JW,JX,Jg,prs,List.flatMap_cons,List.flatMap_nil,List.cons_append,List.nil_append,List.append_nil,Va,Vb]at c0 c1 c2 c3 c4 c5;unfold UP;rw[hk];simp only[go_sem,YR,UI,JA,Va,Vb,JD,wa,wb,hk,w4,JL,JM,JB,Int.reduceBEq,Vu,Vt,Bool.false_and,Bool.and_true,Bool.and_false,JD,JP,Jq,UU,JW,JX,Jg,prs,List.flatMap_cons,List.flatMap_nil,List.cons_append,List.nil_append,List.append_nil,Va,Vb,JSh,JA,Vv,Vc,Nat.reduceAdd,Nat.reduceEqDiff,Nat.reduceBEq,Nat.reduceLeDiff,reduceCtorEq,↓reduceIte];refine wn c0 ?_;simp only[go_sem,JA,Va,Vb,JD,wa,wb,hk,w4,JL,JM,JB,Int.reduceBEq,Vu,Vt,Bool.false_and,Bool.and_true,Bool.and_false,Vv,Vc,Nat.reduceAdd,Nat.reduceEqDiff,Nat.reduceBEq,Nat.reduceLeDiff,reduceCtorEq,↓reduceIte];refine wn c0 ?_;simp only[go_sem,JA,Va,Vb,JD,wa,wb,hk,w4,JL,JM,JB,Int.reduceBEq,Vu,Vt,Bool.false_and,Bool.and_true,Bool.and_false,Vv,Vc,Nat.reduceAdd,Nat.reduceEqDiff,Nat.reduceBEq,Nat.reduceLeDiff,reduceCtorEq,↓reduceIte];refine⟨sP,?_⟩;refine wn c1 ?_;simp only[go_sem,JA,Va,Vb,JD,wa,wb,hk,w4,JL,JM,JB,Int.reduceBEq,Vu,Vt,Bool.false_and,Bool.and_true,Bool.and_false,Vv,Vc,Nat.reduceAdd,Nat.reduceEqDiff,Nat.reduceBEq,Nat.reduceLeDiff,reduceCtorEq,↓reduceIte];refine wn c2 ?_;simp only[go_sem,JA,Va,Vb,JD,wa,wb,hk,w4,JL,JM,JB,Int.reduceBEq,Vu,Vt,Bool.false_and,Bool.and_true,Bool.and_false,Vv,Vc,Nat.reduceAdd,Nat.reduceEqDiff,Nat.reduceBEq,Nat.reduceLeDiff,reduceCtorEq,↓reduceIte];refine⟨dC,?_⟩;refine wn c3 ?_;simp only[go_sem,JA,Va,Vb,JD,wa,wb,hk,w4,JL,JM,JB,Int.reduceBEq,Vu,Vt,Bool.false_and,Bool.and_true,Bool.and_false,Vv,Vc,Nat.reduceAdd,Nat.reduceEqDiff,Nat.reduceBEq,Nat.reduceLeDiff,reduceCtorEq,↓reduceIte];refine wn c4 ?_;simp only[go_sem,JA,Va,Vb,JD,wa,wb,hk,w4,JL,JM,JB,Int.reduceBEq,Vu,Vt,Bool.false_and,Bool.and_true,Bool.and_false,Int.reduceEq,or_true,or_false,true_or,false_or,not_false_eq_true,not_true_eq_false,ne_eq,true_and,JSh,JA,Va,Vb,Vv,Vc,Nat.reduceAdd,Nat.reduceEqDiff,Nat.reduceBEq,Nat.reduceLeDiff,reduceCtorEq,↓reduceIte];refine wn c5 ?_;simp only[go_sem,JA,Va,Vb,JD,wa,wb,hk,w4,JL,JM,JB,Int.reduceBEq,Vu,Vt,Bool.false_and,Bool.and_true,Bool.and_false,Vv,Vc,Nat.reduceAdd,Nat.reduceEqDiff,Nat.reduceBEq,Nat.reduceLeDiff,reduceCtorEq,↓reduceIte];refine⟨sP,?_⟩;rfl
theorem JSq:JDS 6:=by
 intro br k a b now deep h0 h1 h2 h3 hk hbr;refine Ye.pc ?_;have c0:=(Jc Uo).call trivial;have c1:=(Ut now).call trivial;have c2:=(Jc (msr now)).call trivial;have c3:=(UE (a.tmod 110)).call trivial;have c4:=(Uz 8 (JP (msr now)) (Jq (a.tmod 110))).call trivial;have wa:IntKind.i64.wrap a=a:=J7 oM oM;have wb:IntKind.i64.wrap b=b:=J7 oM oM;obtain⟨b4,b4',b4''⟩:=UN b 4 h2 oM;have w4:IntKind.i64.wrap (1+b.tmod 4)=1+b.tmod 4:=J7 oM oM;simp only[Va,Vb]at c0 c1 c2 c3 c4;obtain⟨m1,m2,m3⟩:=UN a 3 h0 oM;have w5:IntKind.i64.wrap (1+a.tmod 3)=1+a.tmod 3:=J7 oM oM;simp only[JD,JP,Jq,UU,JW,JX,Jg,prs,List.flatMap_cons,List.flatMap_nil,List.cons_append,List.nil_append,List.append_nil,Va,Vb]at c0 c1 c2 c3 c4;unfold UP;rw[hk];simp only[go_sem,YR,UI,JA,Va,Vb,JD,wa,wb,hk,w4,JL,JM,JB,Int.reduceBEq,Vu,Vt,Bool.false_and,Bool.and_true,Bool.and_false,JD,JP,Jq,UU,JW,JX,Jg,prs,List.flatMap_cons,List.flatMap_nil,List.cons_append,List.nil_append,List.append_nil,Va,Vb,JSi,JA,Vv,Vc,Nat.reduceAdd,Nat.reduceEqDiff,Nat.reduceBEq,Nat.reduceLeDiff,reduceCtorEq,↓reduceIte];refine wn c0 ?_;simp only[go_sem,JA,Va,Vb,JD,wa,wb,hk,w4,JL,JM,JB,Int.reduceBEq,Vu,Vt,Bool.false_and,Bool.and_true,Bool.and_false,Vv,Vc,Nat.reduceAdd,Nat.reduceEqDiff,Nat.reduceBEq,Nat.reduceLeDiff,reduceCtorEq,↓reduceIte];refine wn c0 ?_;simp only[go_sem,JA,Va,Vb,JD,wa,wb,hk,w4,JL,JM,JB,Int.reduceBEq,Vu,Vt,Bool.false_and,Bool.and_true,Bool.and_false,Vv,Vc,Nat.reduceAdd,Nat.reduceEqDiff,Nat.reduceBEq,Nat.reduceLeDiff,reduceCtorEq,↓reduceIte];refine⟨sP,?_⟩;refine wn c1 ?_;simp only[go_sem,JA,Va,Vb,JD,wa,wb,hk,w4,JL,JM,JB,Int.reduceBEq,Vu,Vt,Bool.false_and,Bool.and_true,Bool.and_false,Vv,Vc,Nat.reduceAdd,Nat.reduceEqDiff,Nat.reduceBEq,Nat.reduceLeDiff,reduceCtorEq,↓reduceIte];refine wn c2 ?_;simp only[go_sem,JA,Va,Vb,JD,wa,wb,hk,w4,JL,JM,JB,Int.reduceBEq,Vu,Vt,Bool.false_and,Bool.and_true,Bool.and_false,Vv,Vc,Nat.reduceAdd,Nat.reduceEqDiff,Nat.reduceBEq,Nat.reduceLeDiff,reduceCtorEq,↓reduceIte];refine⟨dC,?_⟩;refine wn c3 ?_;simp only[go_sem,JA,Va,Vb,JD,wa,wb,hk,w4,JL,JM,JB,Int.reduceBEq,Vu,Vt,Bool.false_and,Bool.and_true,Bool.and_false,Vv,Vc,Nat.reduceAdd,Nat.reduceEqDiff,Nat.reduceBEq,Nat.reduceLeDiff,reduceCtorEq,↓reduceIte];refine wn c4 ?_;simp only[go_sem,JA,Va,Vb,JD,wa,wb,hk,w4,JL,JM,JB,Int.reduceBEq,Vu,Vt,Bool.false_and,Bool.and_true,Bool.and_false,Int.reduceEq,or_true,or_false,true_or,false_or,not_false_eq_true,not_true_eq_false,ne_eq,true_and,JSi,JA,Va,Vb,Vv,Vc,Nat.reduceAdd,Nat.reduceEqDiff,Nat.reduceBEq,Nat.reduceLeDiff,reduceCtorEq,↓reduceIte];rw[w5]
theorem JSr:JDS 7:=by
 intro br k a b now deep h0 h1 h2 h3 hk hbr;refine Ye.pc ?_;have c0:=(Jc Uo).call trivial;have c1:=(Ut now).call trivial;have c2:=(Jc (msr now)).call trivial;have c3:=(UE (a.tmod 110)).call trivial;have c4:=(Uz 8 (JP (msr now)) (Jq (a.tmod 110))).call trivial;have wa:IntKind.i64.wrap a=a:=J7 oM oM;have wb:IntKind.i64.wrap b=b:=J7 oM oM;obtain⟨b4,b4',b4''⟩:=UN b 4 h2 oM;have w4:IntKind.i64.wrap (1+b.tmod 4)=1+b.tmod 4:=J7 oM oM;simp only[Va,Vb]at c0 c1 c2 c3 c4;obtain⟨m1,m2,m3⟩:=UN a 80 h0 oM;have w5:IntKind.i64.wrap (1+a.tmod 80)=1+a.tmod 80:=J7 oM oM;simp only[JD,JP,Jq,UU,JW,JX,Jg,prs,List.flatMap_cons,List.flatMap_nil,List.cons_append,List.nil_append,List.append_nil,Va,Vb]at c0 c1 c2 c3 c4;unfold UP;rw[hk];simp only[go_sem,YR,UI,JA,Va,Vb,JD,wa,wb,hk,w4,JL,JM,JB,Int.reduceBEq,Vu,Vt,Bool.false_and,Bool.and_true,Bool.and_false,JD,JP,Jq,UU,JW,JX,Jg,prs,List.flatMap_cons,List.flatMap_nil,List.cons_append,List.nil_append,List.append_nil,Va,Vb,JSj,JA,Vv,Vc,Nat.reduceAdd,Nat.reduceEqDiff,Nat.reduceBEq,Nat.reduceLeDiff,reduceCtorEq,↓reduceIte];refine wn c0 ?_;simp only[go_sem,JA,Va,Vb,JD,wa,wb,hk,w4,JL,JM,JB,Int.reduceBEq,Vu,Vt,Bool.false_and,Bool.and_true,Bool.and_false,Vv,Vc,Nat.reduceAdd,Nat.reduceEqDiff,Nat.reduceBEq,Nat.reduceLeDiff,reduceCtorEq,↓reduceIte];refine wn c0 ?_;simp only[go_sem,JA,Va,Vb,JD,wa,wb,hk,w4,JL,JM,JB,Int.reduceBEq,Vu,Vt,Bool.false_and,Bool.and_true,Bool.and_false,Vv,Vc,Nat.reduceAdd,Nat.reduceEqDiff,Nat.reduceBEq,Nat.reduceLeDiff,reduceCtorEq,↓reduceIte];refine⟨sP,?_⟩;refine wn c1 ?_;simp only[go_sem,JA,Va,Vb,JD,wa,wb,hk,w4,JL,JM,JB,Int.reduceBEq,Vu,Vt,Bool.false_and,Bool.and_true,Bool.and_false,Vv,Vc,Nat.reduceAdd,Nat.reduceEqDiff,Nat.reduceBEq,Nat.reduceLeDiff,reduceCtorEq,↓reduceIte];refine wn c2 ?_;simp only[go_sem,JA,Va,Vb,JD,wa,wb,hk,w4,JL,JM,JB,Int.reduceBEq,Vu,Vt,Bool.false_and,Bool.and_true,Bool.and_false,Vv,Vc,Nat.reduceAdd,Nat.reduceEqDiff,Nat.reduceBEq,Nat.reduceLeDiff,reduceCtorEq,↓reduceIte];refine⟨dC,?_⟩;refine wn c3 ?_;simp only[go_sem,JA,Va,Vb,JD,wa,wb,hk,w4,JL,JM,JB,Int.reduceBEq,Vu,Vt,Bool.false_and,Bool.and_true,Bool.and_false,Vv,Vc,Nat.reduceAdd,Nat.reduceEqDiff,Nat.reduceBEq,Nat.reduceLeDiff,reduceCtorEq,↓reduceIte];refine wn c4 ?_;simp only[go_sem,JA,Va,Vb,JD,wa,wb,hk,w4,JL,JM,JB,Int.reduceBEq,Vu,Vt,Bool.false_and,Bool.and_true,Bool.and_false,Int.reduceEq,or_true,or_false,true_or,false_or,not_false_eq_true,not_true_eq_false,ne_eq,true_and,JSj,JA,Va,Vb,Vv,Vc,Nat.reduceAdd,Nat.reduceEqDiff,Nat.reduceBEq,Nat.reduceLeDiff,reduceCtorEq,↓reduceIte];rw[w5]
end Go.Proofs
namespace Go.Proofs
open Go Av
attribute [local instance 2000] JEj
theorem JSs:JDS 8:=by
 intro br k a b now deep h0 h1 h2 h3 hk hbr;refine Ye.pc ?_;have c0:=(Jc Uo).call trivial;have c1:=(Ut now).call trivial;have c2:=(Jc (msr now)).call trivial;have c3:=(UE (a.tmod 110)).call trivial;have c4:=(Uz 8 (JP (msr now)) (Jq (a.tmod 110))).call trivial;have wa:IntKind.i64.wrap a=a:=J7 oM oM;have wb:IntKind.i64.wrap b=b:=J7 oM oM;obtain⟨b4,b4',b4''⟩:=UN b 4 h2 oM;have w4:IntKind.i64.wrap (1+b.tmod 4)=1+b.tmod 4:=J7 oM oM;simp only[Va,Vb]at c0 c1 c2 c3 c4;obtain⟨m1,m2,m3⟩:=UN a 3 h0 oM;have w5:IntKind.i64.wrap (a.tmod 3*60)=a.tmod 3*60:=J7 oM oM;have c5:=(JCL now [[112,97,121]]).call trivial;have c6:=(Jc [114,101,112,108,121,46,99,111,100,101]).call trivial;have c7:=(ZW now (JP [114,101,112,108,121,46,99,111,100,101])).call trivial;simp only[JD,JP,Jq,UU,JW,JX,Jg,prs,List.flatMap_cons,List.flatMap_nil,List.cons_append,List.nil_append,List.append_nil,Va,Vb]at c0 c1 c2 c3 c4 c5 c6 c7;unfold UP;rw[hk];simp only[go_sem,YR,UI,JA,Va,Vb,JD,wa,wb,hk,w4,JL,JM,JB,Int.reduceBEq,Vu,Vt,Bool.false_and,Bool.and_true,Bool.and_false,JD,JP,Jq,UU,JW,JX,Jg,prs,List.flatMap_cons,List.flatMap_nil,List.cons_append,List.nil_append,List.append_nil,Va,Vb,JSk,JA,Vv,Vc,Nat.reduceAdd,Nat.reduceEqDiff,Nat.reduceBEq,Nat.reduceLeDiff,reduceCtorEq,↓reduceIte];refine wn c0 ?_;simp only[go_sem,JA,Va,Vb,JD,wa,wb,hk,w4,JL,JM,JB,Int.reduceBEq,Vu,Vt,Bool.false_and,Bool.and_true,Bool.and_false,Vv,Vc,Nat.reduceAdd,Nat.reduceEqDiff,Nat.reduceBEq,Nat.reduceLeDiff,reduceCtorEq,↓reduceIte];refine wn c0 ?_;simp only[go_sem,JA,Va,Vb,JD,wa,wb,hk,w4,JL,JM,JB,Int.reduceBEq,Vu,Vt,Bool.false_and,Bool.and_true,Bool.and_false,Vv,Vc,Nat.reduceAdd,Nat.reduceEqDiff,Nat.reduceBEq,Nat.reduceLeDiff,reduceCtorEq,↓reduceIte];refine⟨sP,?_⟩;refine wn c1 ?_;simp only[go_sem,JA,Va,Vb,JD,wa,wb,hk,w4,JL,JM,JB,Int.reduceBEq,Vu,Vt,Bool.false_and,Bool.and_true,Bool.and_false,Vv,Vc,Nat.reduceAdd,Nat.reduceEqDiff,Nat.reduceBEq,Nat.reduceLeDiff,reduceCtorEq,↓reduceIte];refine wn c2 ?_;simp only[go_sem,JA,Va,Vb,JD,wa,wb,hk,w4,JL,JM,JB,Int.reduceBEq,Vu,Vt,Bool.false_and,Bool.and_true,Bool.and_false,Vv,Vc,Nat.reduceAdd,Nat.reduceEqDiff,Nat.reduceBEq,Nat.reduceLeDiff,reduceCtorEq,↓reduceIte];refine⟨dC,?_⟩;refine wn c3 ?_;simp only[go_sem,JA,Va,Vb,JD,wa,wb,hk,w4,JL,JM,JB,Int.reduceBEq,Vu,Vt,Bool.false_and,Bool.and_true,Bool.and_false,Vv,Vc,Nat.reduceAdd,Nat.reduceEqDiff,Nat.reduceBEq,Nat.reduceLeDiff,reduceCtorEq,↓reduceIte];refine wn c4 ?_;simp only[go_sem,JA,Va,Vb,JD,wa,wb,hk,w4,JL,JM,JB,Int.reduceBEq,Vu,Vt,Bool.false_and,Bool.and_true,Bool.and_false,Int.reduceEq,or_true,or_false,true_or,false_or,not_false_eq_true,not_true_eq_false,ne_eq,true_and,JSk,JA,Va,Vb,Vv,Vc,Nat.reduceAdd,Nat.reduceEqDiff,Nat.reduceBEq,Nat.reduceLeDiff,reduceCtorEq,↓reduceIte];refine⟨sP,?_⟩;refine wn c5 ?_;simp only[go_sem,JA,Va,Vb,JD,wa,wb,hk,w4,JL,JM,JB,Int.reduceBEq,Vu,Vt,Bool.false_and,Bool.and_true,Bool.and_false,Vv,Vc,Nat.reduceAdd,Nat.reduceEqDiff,Nat.reduceBEq,Nat.reduceLeDiff,reduceCtorEq,↓reduceIte];refine⟨dC,?_⟩;refine wn c6 ?_;simp only[go_sem,JA,Va,Vb,JD,wa,wb,hk,w4,JL,JM,JB,Int.reduceBEq,Vu,Vt,Bool.false_and,Bool.and_true,Bool.and_false,Vv,Vc,Nat.reduceAdd,Nat.reduceEqDiff,Nat.reduceBEq,Nat.reduceLeDiff,reduceCtorEq,↓reduceIte];refine wn c7 ?_;simp only[go_sem,JA,Va,Vb,JD,wa,wb,hk,w4,JL,JM,JB,Int.reduceBEq,Vu,Vt,Bool.false_and,Bool.and_true,Bool.and_false,Vv,Vc,Nat.reduceAdd,Nat.reduceEqDiff,Nat.reduceBEq,Nat.reduceLeDiff,reduceCtorEq,↓reduceIte];rw[w5]
theorem JQE:JDS 10:=by
 intro br k a b now deep h0 h1 h2 h3 hk hbr;refine Ye.pc ?_;have c0:=(Jc Uo).call trivial;have c1:=(Ut now).call trivial;have c2:=(Jc (msr now)).call trivial;have c3:=(UE (a.tmod 110)).call trivial;have c4:=(Uz 8 (JP (msr now)) (Jq (a.tmod 110))).call trivial;have wa:IntKind.i64.wrap a=a:=J7 oM oM;have wb:IntKind.i64.wrap b=b:=J7 oM oM;obtain⟨b4,b4',b4''⟩:=UN b 4 h2 oM;have w4:IntKind.i64.wrap (1+b.tmod 4)=1+b.tmod 4:=J7 oM oM;simp only[Va,Vb]at c0 c1 c2 c3 c4;simp only[JD,JP,Jq,UU,JW,JX,Jg,prs,List.flatMap_cons,List.flatMap_nil,List.cons_append,List.nil_append,List.append_nil,Va,Vb]at c0 c1 c2 c3 c4;unfold UP;rw[hk];simp only[go_sem,YR,UI,JA,Va,Vb,JD,wa,wb,hk,w4,JL,JM,JB,Int.reduceBEq,Vu,Vt,Bool.false_and,Bool.and_true,Bool.and_false,JD,JP,Jq,UU,JW,JX,Jg,prs,List.flatMap_cons,List.flatMap_nil,List.cons_append,List.nil_append,List.append_nil,Va,Vb,JA,Vv,Vc,Nat.reduceAdd,Nat.reduceEqDiff,Nat.reduceBEq,Nat.reduceLeDiff,reduceCtorEq,↓reduceIte];refine wn c0 ?_;simp only[go_sem,JA,Va,Vb,JD,wa,wb,hk,w4,JL,JM,JB,Int.reduceBEq,Vu,Vt,Bool.false_and,Bool.and_true,Bool.and_false,Vv,Vc,Nat.reduceAdd,Nat.reduceEqDiff,Nat.reduceBEq,Nat.reduceLeDiff,reduceCtorEq,↓reduceIte];refine wn c0 ?_;simp only[go_sem,JA,Va,Vb,JD,wa,wb,hk,w4,JL,JM,JB,Int.reduceBEq,Vu,Vt,Bool.false_and,Bool.and_true,Bool.and_false,Vv,Vc,Nat.reduceAdd,Nat.reduceEqDiff,Nat.reduceBEq,Nat.reduceLeDiff,reduceCtorEq,↓reduceIte];refine⟨sP,?_⟩;refine wn c1 ?_;simp only[go_sem,JA,Va,Vb,JD,wa,wb,hk,w4,JL,JM,JB,Int.reduceBEq,Vu,Vt,Bool.false_and,Bool.and_true,Bool.and_false,Vv,Vc,Nat.reduceAdd,Nat.reduceEqDiff,Nat.reduceBEq,Nat.reduceLeDiff,reduceCtorEq,↓reduceIte];refine wn c2 ?_;simp only[go_sem,JA,Va,Vb,JD,wa,wb,hk,w4,JL,JM,JB,Int.reduceBEq,Vu,Vt,Bool.false_and,Bool.and_true,Bool.and_false,Vv,Vc,Nat.reduceAdd,Nat.reduceEqDiff,Nat.reduceBEq,Nat.reduceLeDiff,reduceCtorEq,↓reduceIte];refine⟨dC,?_⟩;refine wn c3 ?_;simp only[go_sem,JA,Va,Vb,JD,wa,wb,hk,w4,JL,JM,JB,Int.reduceBEq,Vu,Vt,Bool.false_and,Bool.and_true,Bool.and_false,Vv,Vc,Nat.reduceAdd,Nat.reduceEqDiff,Nat.reduceBEq,Nat.reduceLeDiff,reduceCtorEq,↓reduceIte];refine wn c4 ?_;simp only[go_sem,JA,Va,Vb,JD,wa,wb,hk,w4,JL,JM,JB,Int.reduceBEq,Vu,Vt,Bool.false_and,Bool.and_true,Bool.and_false,Int.reduceEq,or_true,or_false,true_or,false_or,not_false_eq_true,not_true_eq_false,ne_eq,true_and,JA,Va,Vb,Vv,Vc,Nat.reduceAdd,Nat.reduceEqDiff,Nat.reduceBEq,Nat.reduceLeDiff,reduceCtorEq,↓reduceIte];cases deep
 ·have hbr:br=JCM now a:=hbr;subst hbr;simp only[go_sem,JA,Va,Vb,JD,wa,wb,hk,w4,JL,JM,JB,Int.reduceBEq,Vu,Vt,Bool.false_and,Bool.and_true,Bool.and_false,JCM,Jg,JD,JP,Jq,UU,JW,JX,Jg,prs,List.flatMap_cons,List.flatMap_nil,List.cons_append,List.nil_append,List.append_nil,Va,Vb,Vv,Vc,Nat.reduceAdd,Nat.reduceEqDiff,Nat.reduceBEq,Nat.reduceLeDiff,reduceCtorEq,↓reduceIte];simp
 ·have hb:=J3.call (show PT 181 [UI k a b,.str now,Jf (Jg now a)] (.d (JH br))from hbr) trivial;simp only[UI,JD,JP,Jq,UU,JW,JX,Jg,prs,List.flatMap_cons,List.flatMap_nil,List.cons_append,List.nil_append,List.append_nil,Va,Vb,JV br]at hb;rw[JV br];simp only[go_sem,JA,Va,Vb,JD,wa,wb,hk,w4,JL,JM,JB,Int.reduceBEq,Vu,Vt,Bool.false_and,Bool.and_true,Bool.and_false,Vv,Vc,Nat.reduceAdd,Nat.reduceEqDiff,Nat.reduceBEq,Nat.reduceLeDiff,reduceCtorEq,↓reduceIte];refine wn hb ?_;simp only[go_sem,JA,Va,Vb,JD,wa,wb,hk,w4,JL,JM,JB,Int.reduceBEq,Vu,Vt,Bool.false_and,Bool.and_true,Bool.and_false,Vv,Vc,Nat.reduceAdd,Nat.reduceEqDiff,Nat.reduceBEq,Nat.reduceLeDiff,reduceCtorEq,↓reduceIte]
end Go.Proofs
namespace Go.Proofs
open Go Av
attribute [local instance 2000] JEj
theorem JSt:JDS 3:=by
 intro br k a b now deep h0 h1 h2 h3 hk hbr;refine Ye.pc ?_;have c0:=(Jc Uo).call trivial;have c1:=(Ut now).call trivial;have c2:=(Jc (msr now)).call trivial;have c3:=(UE (a.tmod 110)).call trivial;have c4:=(Uz 8 (JP (msr now)) (Jq (a.tmod 110))).call trivial;have wa:IntKind.i64.wrap a=a:=J7 oM oM;have wb:IntKind.i64.wrap b=b:=J7 oM oM;obtain⟨b4,b4',b4''⟩:=UN b 4 h2 oM;have w4:IntKind.i64.wrap (1+b.tmod 4)=1+b.tmod 4:=J7 oM oM;simp only[Va,Vb]at c0 c1 c2 c3 c4;have c5:=(Jc JBg).call trivial;have c6:=(Jc [105,116,101,109,115,91,48,93,46,105,100]).call trivial;have c7:=(UE 0).call trivial;have c8:=(Uz 23 (JP [105,116,101,109,115,91,48,93,46,105,100]) (Jq 0)).call trivial;have c9:=(Jc [107,101,121]).call trivial;have cq10:=(UE (1+b.tmod 4)).call trivial;have cq11:=(Uz 11 (JP JBg) (Jq (1+b.tmod 4))).call trivial;have cq12:=(JA8 [⟨sId,UU 23 (JP [105,116,101,109,115,91,48,93,46,105,100]) (Jq 0)⟩,⟨JCJ,JP [107,101,121]⟩,⟨[116,111,116,97,108],.mk 26 0 ([105,116,101,109,115,91,42,93,46]++(msr now).drop 5) [] []⟩,⟨JBg,JP JBg⟩]).call trivial;obtain⟨ml,ml2⟩:=JQD now;obtain⟨m1,m2,m3⟩:=UN a 3 h0 oM;have w5:IntKind.i64.wrap (a.tmod 3*50)=a.tmod 3*50:=J7 oM oM;obtain⟨q1,q2⟩:=JIx a 2 h0 h1 oM;have w6:IntKind.i64.wrap (a.tdiv 2)=a.tdiv 2:=J7 oM oM;have hdr:List.take (((msr now).length:Int)-5).toNat (List.drop (Int.toNat 5) (msr now))=(msr now).drop 5:=by
  rw[show Int.toNat 5=5 from rfl];exact List.take_of_length_le sO
 simp only[JD,JP,Jq,UU,JW,JX,Jg,prs,List.flatMap_cons,List.flatMap_nil,List.cons_append,List.nil_append,List.append_nil,Va,Vb]at c0 c1 c2 c3 c4 c5 c6 c7 c8 c9 cq10 cq11 cq12;unfold UP;rw[hk];simp only[go_sem,YR,UI,JA,Va,Vb,JD,wa,wb,hk,w4,JL,JM,JB,Int.reduceBEq,Vu,Vt,Bool.false_and,Bool.and_true,Bool.and_false,JD,JP,Jq,UU,JW,JX,Jg,prs,List.flatMap_cons,List.flatMap_nil,List.cons_append,List.nil_append,List.append_nil,Va,Vb,JOL,JA,Vv,Vc,Nat.reduceAdd,Nat.reduceEqDiff,Nat.reduceBEq,Nat.reduceLeDiff,reduceCtorEq,↓reduceIte];refine wn c0 ?_;simp only[go_sem,JA,Va,Vb,JD,wa,wb,hk,w4,JL,JM,JB,Int.reduceBEq,Vu,Vt,Bool.false_and,Bool.and_true,Bool.and_false,Vv,Vc,Nat.reduceAdd,Nat.reduceEqDiff,Nat.reduceBEq,Nat.reduceLeDiff,reduceCtorEq,↓reduceIte];refine wn c0 ?_;simp only[go_sem,JA,Va,Vb,JD,wa,wb,hk,w4,JL,JM,JB,Int.reduceBEq,Vu,Vt,Bool.false_and,Bool.and_true,Bool.and_false,Vv,Vc,Nat.reduceAdd,Nat.reduceEqDiff,Nat.reduceBEq,Nat.reduceLeDiff,reduceCtorEq,↓reduceIte];refine⟨sP,?_⟩;refine wn c1 ?_;simp only[go_sem,JA,Va,Vb,JD,wa,wb,hk,w4,JL,JM,JB,Int.reduceBEq,Vu,Vt,Bool.false_and,Bool.and_true,Bool.and_false,Vv,Vc,Nat.reduceAdd,Nat.reduceEqDiff,Nat.reduceBEq,Nat.reduceLeDiff,reduceCtorEq,↓reduceIte];refine wn c2 ?_;simp only[go_sem,JA,Va,Vb,JD,wa,wb,hk,w4,JL,JM,JB,Int.reduceBEq,Vu,Vt,Bool.false_and,Bool.and_true,Bool.and_false,Vv,Vc,Nat.reduceAdd,Nat.reduceEqDiff,Nat.reduceBEq,Nat.reduceLeDiff,reduceCtorEq,↓reduceIte];refine⟨dC,?_⟩;refine wn c3 ?_;simp only[go_sem,JA,Va,Vb,JD,wa,wb,hk,w4,JL,JM,JB,Int.reduceBEq,Vu,Vt,Bool.false_and,Bool.and_true,Bool.and_false,Vv,Vc,Nat.reduceAdd,Nat.reduceEqDiff,Nat.reduceBEq,Nat.reduceLeDiff,reduceCtorEq,↓reduceIte];refine wn c4 ?_;simp only[go_sem,JA,Va,Vb,JD,wa,wb,hk,w4,JL,JM,JB,Int.reduceBEq,Vu,Vt,Bool.false_and,Bool.and_true,Bool.and_false,Int.reduceEq,or_true,or_false,true_or,false_or,not_false_eq_true,not_true_eq_false,ne_eq,true_and,JOL,JA,Va,Vb,Vv,Vc,Nat.reduceAdd,Nat.reduceEqDiff,Nat.reduceBEq,Nat.reduceLeDiff,reduceCtorEq,↓reduceIte];cases h4:a.tmod 2==0
 ·simp only[go_sem,h4,JA,Va,Vb,JD,wa,wb,hk,w4,JL,JM,JB,Int.reduceBEq,Vu,Vt,Bool.false_and,Bool.and_true,Bool.and_false,Vv,Vc,Nat.reduceAdd,Nat.reduceEqDiff,Nat.reduceBEq,Nat.reduceLeDiff,reduceCtorEq,↓reduceIte];refine wn c1 ?_;simp only[go_sem,JA,Va,Vb,JD,wa,wb,hk,w4,JL,JM,JB,Int.reduceBEq,Vu,Vt,Bool.false_and,Bool.and_true,Bool.and_false,Vv,Vc,Nat.reduceAdd,Nat.reduceEqDiff,Nat.reduceBEq,Nat.reduceLeDiff,reduceCtorEq,↓reduceIte];refine⟨⟨oM,oM,oM⟩,by rw[hdr];simp;omega,?_⟩;rw[hdr];refine wn c6 ?_;simp only[go_sem,JA,Va,Vb,JD,wa,wb,hk,w4,JL,JM,JB,Int.reduceBEq,Vu,Vt,Bool.false_and,Bool.and_true,Bool.and_false,List.cons_append,List.nil_append,Vv,Vc,Nat.reduceAdd,Nat.reduceEqDiff,Nat.reduceBEq,Nat.reduceLeDiff,reduceCtorEq,↓reduceIte];refine wn c7 ?_;simp only[go_sem,JA,Va,Vb,JD,wa,wb,hk,w4,JL,JM,JB,Int.reduceBEq,Vu,Vt,Bool.false_and,Bool.and_true,Bool.and_false,Vv,Vc,Nat.reduceAdd,Nat.reduceEqDiff,Nat.reduceBEq,Nat.reduceLeDiff,reduceCtorEq,↓reduceIte];refine wn c8 ?_;simp only[go_sem,JA,Va,Vb,JD,wa,wb,hk,w4,JL,JM,JB,Int.reduceBEq,Vu,Vt,Bool.false_and,Bool.and_true,Bool.and_false,Vv,Vc,Nat.reduceAdd,Nat.reduceEqDiff,Nat.reduceBEq,Nat.reduceLeDiff,reduceCtorEq,↓reduceIte];refine⟨dC,dC,dC,?_⟩;rw[w5,w6];refine JI rfl c9 trivial ?_;simp only[go_sem,JA,Va,Vb,JD,wa,wb,hk,w4,JL,JM,JB,Int.reduceBEq,Vu,Vt,Bool.false_and,Bool.and_true,Bool.and_false,Vv,Vc,Nat.reduceAdd,Nat.reduceEqDiff,Nat.reduceBEq,Nat.reduceLeDiff,reduceCtorEq,↓reduceIte];refine JI rfl c5 trivial ?_;simp only[go_sem,JA,Va,Vb,JD,wa,wb,hk,w4,JL,JM,JB,Int.reduceBEq,Vu,Vt,Bool.false_and,Bool.and_true,Bool.and_false,Vv,Vc,Nat.reduceAdd,Nat.reduceEqDiff,Nat.reduceBEq,Nat.reduceLeDiff,reduceCtorEq,↓reduceIte];refine⟨sP,?_⟩;refine JI rfl (JEk cq12 (by simp only[Va,Vb,Av.canon,Dat.canon,JG])) trivial ?_;simp only[go_sem,JA,Va,Vb,JD,wa,wb,hk,w4,JL,JM,JB,Int.reduceBEq,Vu,Vt,Bool.false_and,Bool.and_true,Bool.and_false,Vv,Vc,Nat.reduceAdd,Nat.reduceEqDiff,Nat.reduceBEq,Nat.reduceLeDiff,reduceCtorEq,↓reduceIte];exact⟨rfl,rfl⟩
 ·simp only[go_sem,h4,JA,Va,Vb,JD,wa,wb,hk,w4,JL,JM,JB,Int.reduceBEq,Vu,Vt,Bool.false_and,Bool.and_true,Bool.and_false,Vv,Vc,Nat.reduceAdd,Nat.reduceEqDiff,Nat.reduceBEq,Nat.reduceLeDiff,reduceCtorEq,↓reduceIte];refine wn c5 ?_;simp only[go_sem,JA,Va,Vb,JD,wa,wb,hk,w4,JL,JM,JB,Int.reduceBEq,Vu,Vt,Bool.false_and,Bool.and_true,Bool.and_false,Vv,Vc,Nat.reduceAdd,Nat.reduceEqDiff,Nat.reduceBEq,Nat.reduceLeDiff,reduceCtorEq,↓reduceIte];refine⟨dC,?_⟩;refine wn cq10 ?_;simp only[go_sem,JA,Va,Vb,JD,wa,wb,hk,w4,JL,JM,JB,Int.reduceBEq,Vu,Vt,Bool.false_and,Bool.and_true,Bool.and_false,Vv,Vc,Nat.reduceAdd,Nat.reduceEqDiff,Nat.reduceBEq,Nat.reduceLeDiff,reduceCtorEq,↓reduceIte];refine wn cq11 ?_;simp only[go_sem,JA,Va,Vb,JD,wa,wb,hk,w4,JL,JM,JB,Int.reduceBEq,Vu,Vt,Bool.false_and,Bool.and_true,Bool.and_false,Vv,Vc,Nat.reduceAdd,Nat.reduceEqDiff,Nat.reduceBEq,Nat.reduceLeDiff,reduceCtorEq,↓reduceIte];refine⟨sP,?_⟩;refine wn c1 ?_;simp only[go_sem,JA,Va,Vb,JD,wa,wb,hk,w4,JL,JM,JB,Int.reduceBEq,Vu,Vt,Bool.false_and,Bool.and_true,Bool.and_false,Vv,Vc,Nat.reduceAdd,Nat.reduceEqDiff,Nat.reduceBEq,Nat.reduceLeDiff,reduceCtorEq,↓reduceIte];refine⟨⟨oM,oM,oM⟩,by rw[hdr];simp;omega,?_⟩;rw[hdr];refine wn c6 ?_;simp only[go_sem,JA,Va,Vb,JD,wa,wb,hk,w4,JL,JM,JB,Int.reduceBEq,Vu,Vt,Bool.false_and,Bool.and_true,Bool.and_false,List.cons_append,List.nil_append,Vv,Vc,Nat.reduceAdd,Nat.reduceEqDiff,Nat.reduceBEq,Nat.reduceLeDiff,reduceCtorEq,↓reduceIte];refine wn c7 ?_;simp only[go_sem,JA,Va,Vb,JD,wa,wb,hk,w4,JL,JM,JB,Int.reduceBEq,Vu,Vt,Bool.false_and,Bool.and_true,Bool.and_false,Vv,Vc,Nat.reduceAdd,Nat.reduceEqDiff,Nat.reduceBEq,Nat.reduceLeDiff,reduceCtorEq,↓reduceIte];refine wn c8 ?_;simp only[go_sem,JA,Va,Vb,JD,wa,wb,hk,w4,JL,JM,JB,Int.reduceBEq,Vu,Vt,Bool.false_and,Bool.and_true,Bool.and_false,Vv,Vc,Nat.reduceAdd,Nat.reduceEqDiff,Nat.reduceBEq,Nat.reduceLeDiff,reduceCtorEq,↓reduceIte];refine⟨dC,dC,dC,?_⟩;rw[w5,w6];refine JI rfl c9 trivial ?_;simp only[go_sem,JA,Va,Vb,JD,wa,wb,hk,w4,JL,JM,JB,Int.reduceBEq,Vu,Vt,Bool.false_and,Bool.and_true,Bool.and_false,Vv,Vc,Nat.reduceAdd,Nat.reduceEqDiff,Nat.reduceBEq,Nat.reduceLeDiff,reduceCtorEq,↓reduceIte];refine JI rfl c5 trivial ?_;simp only[go_sem,JA,Va,Vb,JD,wa,wb,hk,w4,JL,JM,JB,Int.reduceBEq,Vu,Vt,Bool.false_and,Bool.and_true,Bool.and_false,Vv,Vc,Nat.reduceAdd,Nat.reduceEqDiff,Nat.reduceBEq,Nat.reduceLeDiff,reduceCtorEq,↓reduceIte];refine⟨sP,?_⟩;refine JI rfl (JEk cq12 (by simp only[Va,Vb,Av.canon,Dat.canon,JG])) trivial ?_;simp only[go_sem,JA,Va,Vb,JD,wa,wb,hk,w4,JL,JM,JB,Int.reduceBEq,Vu,Vt,Bool.false_and,Bool.and_true,Bool.and_false,Vv,Vc,Nat.reduceAdd,Nat.reduceEqDiff,Nat.reduceBEq,Nat.reduceLeDiff,reduceCtorEq,↓reduceIte];exact⟨rfl,rfl⟩
end Go.Proofs
namespace Go.Proofs
open Go Av
attribute [local instance 2000] JEj
theorem JOM(br:Ste)(k a b:Int)(now:Str)(deep:Bool)(h0:0≤a)(h1:a≤255)(h2:0≤b)(h3:b≤255)(e:a.tmod 4=0)(hk:k.tmod 13=9):
  PT 103 [UI k a b,.str now,.bool deep] (.tup [.d (JH (UP br k a b now).1),.d (.str (UP br k a b now).2)]):=by
 refine Ye.pc ?_;have c0:=(Jc Uo).call trivial;have c1:=(Ut now).call trivial;have c2:=(Jc (msr now)).call trivial;have c3:=(UE (a.tmod 110)).call trivial;have c4:=(Uz 8 (JP (msr now)) (Jq (a.tmod 110))).call trivial;have wa:IntKind.i64.wrap a=a:=J7 oM oM;have wb:IntKind.i64.wrap b=b:=J7 oM oM;obtain⟨b4,b4',b4''⟩:=UN b 4 h2 oM;have w4:IntKind.i64.wrap (1+b.tmod 4)=1+b.tmod 4:=J7 oM oM;simp only[Va,Vb]at c0 c1 c2 c3 c4;obtain⟨m1,m2,m3⟩:=UN b 3 h2 oM;have w5:IntKind.i64.wrap (b.tmod 3*60)=b.tmod 3*60:=J7 oM oM;have c5:=(JCL now [[112,97,121]]).call trivial;have c6:=(UE ((1:Nat):Int)).call trivial;have c7:=(ZW now (Jq ((1:Nat):Int))).call trivial;simp only[JD,JP,Jq,UU,JW,JX,Jg,prs,List.flatMap_cons,List.flatMap_nil,List.cons_append,List.nil_append,List.append_nil,Va,Vb]at c0 c1 c2 c3 c4 c5 c6 c7;unfold UP;rw[hk];simp only[go_sem,YR,UI,JA,Va,Vb,JD,wa,wb,hk,w4,JL,JM,JB,Int.reduceBEq,Vu,Vt,Bool.false_and,Bool.and_true,Bool.and_false,JD,JP,Jq,UU,JW,JX,Jg,prs,List.flatMap_cons,List.flatMap_nil,List.cons_append,List.nil_append,List.append_nil,Va,Vb,JGS,sgL,e,JA,Vv,Vc,Nat.reduceAdd,Nat.reduceEqDiff,Nat.reduceBEq,Nat.reduceLeDiff,reduceCtorEq,↓reduceIte];refine wn c0 ?_;simp only[go_sem,JA,Va,Vb,JD,wa,wb,hk,w4,JL,JM,JB,Int.reduceBEq,Vu,Vt,Bool.false_and,Bool.and_true,Bool.and_false,Vv,Vc,Nat.reduceAdd,Nat.reduceEqDiff,Nat.reduceBEq,Nat.reduceLeDiff,reduceCtorEq,↓reduceIte];refine wn c0 ?_;simp only[go_sem,JA,Va,Vb,JD,wa,wb,hk,w4,JL,JM,JB,Int.reduceBEq,Vu,Vt,Bool.false_and,Bool.and_true,Bool.and_false,Vv,Vc,Nat.reduceAdd,Nat.reduceEqDiff,Nat.reduceBEq,Nat.reduceLeDiff,reduceCtorEq,↓reduceIte];refine⟨sP,?_⟩;refine wn c1 ?_;simp only[go_sem,JA,Va,Vb,JD,wa,wb,hk,w4,JL,JM,JB,Int.reduceBEq,Vu,Vt,Bool.false_and,Bool.and_true,Bool.and_false,Vv,Vc,Nat.reduceAdd,Nat.reduceEqDiff,Nat.reduceBEq,Nat.reduceLeDiff,reduceCtorEq,↓reduceIte];refine wn c2 ?_;simp only[go_sem,JA,Va,Vb,JD,wa,wb,hk,w4,JL,JM,JB,Int.reduceBEq,Vu,Vt,Bool.false_and,Bool.and_true,Bool.and_false,Vv,Vc,Nat.reduceAdd,Nat.reduceEqDiff,Nat.reduceBEq,Nat.reduceLeDiff,reduceCtorEq,↓reduceIte];refine⟨dC,?_⟩;refine wn c3 ?_;simp only[go_sem,JA,Va,Vb,JD,wa,wb,hk,w4,JL,JM,JB,Int.reduceBEq,Vu,Vt,Bool.false_and,Bool.and_true,Bool.and_false,Vv,Vc,Nat.reduceAdd,Nat.reduceEqDiff,Nat.reduceBEq,Nat.reduceLeDiff,reduceCtorEq,↓reduceIte];refine wn c4 ?_;simp only[go_sem,JA,Va,Vb,JD,wa,wb,hk,w4,JL,JM,JB,Int.reduceBEq,Vu,Vt,Bool.false_and,Bool.and_true,Bool.and_false,Int.reduceEq,or_true,or_false,true_or,false_or,not_false_eq_true,not_true_eq_false,ne_eq,true_and,JGS,sgL,e,JA,Va,Vb,Vv,Vc,Nat.reduceAdd,Nat.reduceEqDiff,Nat.reduceBEq,Nat.reduceLeDiff,reduceCtorEq,↓reduceIte];refine⟨sP,sP,sP,sP,sP,dC,dC,?_⟩;have hnn:nth [.list 1 [.str [112,97,121]],.list 1 [.str [112,97,121],.str [115,116,111,99,107]],.list 1 [.str [115,116,111,99,107],.str [109,97,105,108]],.list 1 [.str [115,116,111,99,107],.str [112,97,121],.str [109,97,105,108]]] (Int.toNat 0)=.list 1 [.str [112,97,121]]:=rfl;rw[hnn];simp only[go_sem,JA,Va,Vb,JD,wa,wb,hk,w4,JL,JM,JB,Int.reduceBEq,Vu,Vt,Bool.false_and,Bool.and_true,Bool.and_false,Vv,Vc,Nat.reduceAdd,Nat.reduceEqDiff,Nat.reduceBEq,Nat.reduceLeDiff,reduceCtorEq,↓reduceIte];refine wn c5 ?_;simp only[go_sem,JA,Va,Vb,JD,wa,wb,hk,w4,JL,JM,JB,Int.reduceBEq,Vu,Vt,Bool.false_and,Bool.and_true,Bool.and_false,Vv,Vc,Nat.reduceAdd,Nat.reduceEqDiff,Nat.reduceBEq,Nat.reduceLeDiff,reduceCtorEq,↓reduceIte];refine⟨dC,?_⟩;rw[w5];refine wn c6 ?_;simp only[go_sem,JA,Va,Vb,JD,wa,wb,hk,w4,JL,JM,JB,Int.reduceBEq,Vu,Vt,Bool.false_and,Bool.and_true,Bool.and_false,Vv,Vc,Nat.reduceAdd,Nat.reduceEqDiff,Nat.reduceBEq,Nat.reduceLeDiff,reduceCtorEq,↓reduceIte];refine wn c7 ?_;simp only[go_sem,JA,Va,Vb,JD,wa,wb,hk,w4,JL,JM,JB,Int.reduceBEq,Vu,Vt,Bool.false_and,Bool.and_true,Bool.and_false,Vv,Vc,Nat.reduceAdd,Nat.reduceEqDiff,Nat.reduceBEq,Nat.reduceLeDiff,reduceCtorEq,↓reduceIte]
theorem JON(br:Ste)(k a b:Int)(now:Str)(deep:Bool)(h0:0≤a)(h1:a≤255)(h2:0≤b)(h3:b≤255)(e:a.tmod 4=1)(hk:k.tmod 13=9):
  PT 103 [UI k a b,.str now,.bool deep] (.tup [.d (JH (UP br k a b now).1),.d (.str (UP br k a b now).2)]):=by
 refine Ye.pc ?_;have c0:=(Jc Uo).call trivial;have c1:=(Ut now).call trivial;have c2:=(Jc (msr now)).call trivial;have c3:=(UE (a.tmod 110)).call trivial;have c4:=(Uz 8 (JP (msr now)) (Jq (a.tmod 110))).call trivial;have wa:IntKind.i64.wrap a=a:=J7 oM oM;have wb:IntKind.i64.wrap b=b:=J7 oM oM;obtain⟨b4,b4',b4''⟩:=UN b 4 h2 oM;have w4:IntKind.i64.wrap (1+b.tmod 4)=1+b.tmod 4:=J7 oM oM;simp only[Va,Vb]at c0 c1 c2 c3 c4;obtain⟨m1,m2,m3⟩:=UN b 3 h2 oM;have w5:IntKind.i64.wrap (b.tmod 3*60)=b.tmod 3*60:=J7 oM oM;have c5:=(JCL now [[112,97,121],[115,116,111,99,107]]).call trivial;have c6:=(UE ((2:Nat):Int)).call trivial;have c7:=(ZW now (Jq ((2:Nat):Int))).call trivial;simp only[JD,JP,Jq,UU,JW,JX,Jg,prs,List.flatMap_cons,List.flatMap_nil,List.cons_append,List.nil_append,List.append_nil,Va,Vb]at c0 c1 c2 c3 c4 c5 c6 c7;unfold UP;rw[hk];simp only[go_sem,YR,UI,JA,Va,Vb,JD,wa,wb,hk,w4,JL,JM,JB,Int.reduceBEq,Vu,Vt,Bool.false_and,Bool.and_true,Bool.and_false,JD,JP,Jq,UU,JW,JX,Jg,prs,List.flatMap_cons,List.flatMap_nil,List.cons_append,List.nil_append,List.append_nil,Va,Vb,JGS,sgL,e,JA,Vv,Vc,Nat.reduceAdd,Nat.reduceEqDiff,Nat.reduceBEq,Nat.reduceLeDiff,reduceCtorEq,↓reduceIte];refine wn c0 ?_;simp only[go_sem,JA,Va,Vb,JD,wa,wb,hk,w4,JL,JM,JB,Int.reduceBEq,Vu,Vt,Bool.false_and,Bool.and_true,Bool.and_false,Vv,Vc,Nat.reduceAdd,Nat.reduceEqDiff,Nat.reduceBEq,Nat.reduceLeDiff,reduceCtorEq,↓reduceIte];refine wn c0 ?_;simp only[go_sem,JA,Va,Vb,JD,wa,wb,hk,w4,JL,JM,JB,Int.reduceBEq,Vu,Vt,Bool.false_and,Bool.and_true,Bool.and_false,Vv,Vc,Nat.reduceAdd,Nat.reduceEqDiff,Nat.reduceBEq,Nat.reduceLeDiff,reduceCtorEq,↓reduceIte];refine⟨sP,?_⟩;refine wn c1 ?_;simp only[go_sem,JA,Va,Vb,JD,wa,wb,hk,w4,JL,JM,JB,Int.reduceBEq,Vu,Vt,Bool.false_and,Bool.and_true,Bool.and_false,Vv,Vc,Nat.reduceAdd,Nat.reduceEqDiff,Nat.reduceBEq,Nat.reduceLeDiff,reduceCtorEq,↓reduceIte];refine wn c2 ?_;simp only[go_sem,JA,Va,Vb,JD,wa,wb,hk,w4,JL,JM,JB,Int.reduceBEq,Vu,Vt,Bool.false_and,Bool.and_true,Bool.and_false,Vv,Vc,Nat.reduceAdd,Nat.reduceEqDiff,Nat.reduceBEq,Nat.reduceLeDiff,reduceCtorEq,↓reduceIte];refine⟨dC,?_⟩;refine wn c3 ?_;simp only[go_sem,JA,Va,Vb,JD,wa,wb,hk,w4,JL,JM,JB,Int.reduceBEq,Vu,Vt,Bool.false_and,Bool.and_true,Bool.and_false,Vv,Vc,Nat.reduceAdd,Nat.reduceEqDiff,Nat.reduceBEq,Nat.reduceLeDiff,reduceCtorEq,↓reduceIte];refine wn c4 ?_;simp only[go_sem,JA,Va,Vb,JD,wa,wb,hk,w4,JL,JM,JB,Int.reduceBEq,Vu,Vt,Bool.false_and,Bool.and_true,Bool.and_false,Int.reduceEq,or_true,or_false,true_or,false_or,not_false_eq_true,not_true_eq_false,ne_eq,true_and,JGS,sgL,e,JA,Va,Vb,Vv,Vc,Nat.reduceAdd,Nat.reduceEqDiff,Nat.reduceBEq,Nat.reduceLeDiff,reduceCtorEq,↓reduceIte];refine⟨sP,sP,sP,sP,sP,dC,dC,?_⟩;have hnn:nth [.list 1 [.str [112,97,121]],.list 1 [.str [112,97,121],.str [115,116,111,99,107]],.list 1 [.str [115,116,111,99,107],.str [109,97,105,108]],.list 1 [.str [115,116,111,99,107],.str [112,97,121],.str [109,97,105,108]]] (Int.toNat 1)=.list 1 [.str [112,97,121],.str [115,116,111,99,107]]:=rfl;rw[hnn];simp only[go_sem,JA,Va,Vb,JD,wa,wb,hk,w4,JL,JM,JB,Int.reduceBEq,Vu,Vt,Bool.false_and,Bool.and_true,Bool.and_false,Vv,Vc,Nat.reduceAdd,Nat.reduceEqDiff,Nat.reduceBEq,Nat.reduceLeDiff,reduceCtorEq,↓reduceIte];refine wn c5 ?_;simp only[go_sem,JA,Va,Vb,JD,wa,wb,hk,w4,JL,JM,JB,Int.reduceBEq,Vu,Vt,Bool.false_and,Bool.and_true,Bool.and_false,Vv,Vc,Nat.reduceAdd,Nat.reduceEqDiff,Nat.reduceBEq,Nat.reduceLeDiff,reduceCtorEq,↓reduceIte];refine⟨dC,?_⟩;rw[w5];refine wn c6 ?_;simp only[go_sem,JA,Va,Vb,JD,wa,wb,hk,w4,JL,JM,JB,Int.reduceBEq,Vu,Vt,Bool.false_and,Bool.and_true,Bool.and_false,Vv,Vc,Nat.reduceAdd,Nat.reduceEqDiff,Nat.reduceBEq,Nat.reduceLeDiff,reduceCtorEq,↓reduceIte];refine wn c7 ?_;simp only[go_sem,JA,Va,Vb,JD,wa,wb,hk,w4,JL,JM,JB,Int.reduceBEq,Vu,Vt,Bool.false_and,Bool.and_true,Bool.and_false,Vv,Vc,Nat.reduceAdd,Nat.reduceEqDiff,Nat.reduceBEq,Nat.reduceLeDiff,reduceCtorEq,↓reduceIte]
theorem JOO(br:Ste)(k a b:Int)(now:Str)(deep:Bool)(h0:0≤a)(h1:a≤255)(h2:0≤b)(h3:b≤255)(e:a.tmod 4=2)(hk:k.tmod 13=9):
  PT 103 [UI k a b,.str now,.bool deep] (.tup [.d (JH (UP br k a b now).1),.d (.str (UP br k a b now).2)]):=by
 refine Ye.pc ?_;have c0:=(Jc Uo).call trivial;have c1:=(Ut now).call trivial;have c2:=(Jc (msr now)).call trivial;have c3:=(UE (a.tmod 110)).call trivial;have c4:=(Uz 8 (JP (msr now)) (Jq (a.tmod 110))).call trivial;have wa:IntKind.i64.wrap a=a:=J7 oM oM;have wb:IntKind.i64.wrap b=b:=J7 oM oM;obtain⟨b4,b4',b4''⟩:=UN b 4 h2 oM;have w4:IntKind.i64.wrap (1+b.tmod 4)=1+b.tmod 4:=J7 oM oM;simp only[Va,Vb]at c0 c1 c2 c3 c4;obtain⟨m1,m2,m3⟩:=UN b 3 h2 oM;have w5:IntKind.i64.wrap (b.tmod 3*60)=b.tmod 3*60:=J7 oM oM;have c5:=(JCL now [[115,116,111,99,107],[109,97,105,108]]).call trivial;have c6:=(UE ((2:Nat):Int)).call trivial;have c7:=(ZW now (Jq ((2:Nat):Int))).call trivial;simp only[JD,JP,Jq,UU,JW,JX,Jg,prs,List.flatMap_cons,List.flatMap_nil,List.cons_append,List.nil_append,List.append_nil,Va,Vb]at c0 c1 c2 c3 c4 c5 c6 c7;unfold UP;rw[hk];simp only[go_sem,YR,UI,JA,Va,Vb,JD,wa,wb,hk,w4,JL,JM,JB,Int.reduceBEq,Vu,Vt,Bool.false_and,Bool.and_true,Bool.and_false,JD,JP,Jq,UU,JW,JX,Jg,prs,List.flatMap_cons,List.flatMap_nil,List.cons_append,List.nil_append,List.append_nil,Va,Vb,JGS,sgL,e,JA,Vv,Vc,Nat.reduceAdd,Nat.reduceEqDiff,Nat.reduceBEq,Nat.reduceLeDiff,reduceCtorEq,↓reduceIte];refine wn c0 ?_;simp only[go_sem,JA,Va,Vb,JD,wa,wb,hk,w4,JL,JM,JB,Int.reduceBEq,Vu,Vt,Bool.false_and,Bool.and_true,Bool.and_false,Vv,Vc,Nat.reduceAdd,Nat.reduceEqDiff,Nat.reduceBEq,Nat.reduceLeDiff,reduceCtorEq,↓reduceIte];refine wn c0 ?_;simp only[go_sem,JA,Va,Vb,JD,wa,wb,hk,w4,JL,JM,JB,Int.reduceBEq,Vu,Vt,Bool.false_and,Bool.and_true,Bool.and_false,Vv,Vc,Nat.reduceAdd,Nat.reduceEqDiff,Nat.reduceBEq,Nat.reduceLeDiff,reduceCtorEq,↓reduceIte];refine⟨sP,?_⟩;refine wn c1 ?_;simp only[go_sem,JA,Va,Vb,JD,wa,wb,hk,w4,JL,JM,JB,Int.reduceBEq,Vu,Vt,Bool.false_and,Bool.and_true,Bool.and_false,Vv,Vc,Nat.reduceAdd,Nat.reduceEqDiff,Nat.reduceBEq,Nat.reduceLeDiff,reduceCtorEq,↓reduceIte];refine wn c2 ?_;simp only[go_sem,JA,Va,Vb,JD,wa,wb,hk,w4,JL,JM,JB,Int.reduceBEq,Vu,Vt,Bool.false_and,Bool.and_true,Bool.and_false,Vv,Vc,Nat.reduceAdd,Nat.reduceEqDiff,Nat.reduceBEq,Nat.reduceLeDiff,reduceCtorEq,↓reduceIte];refine⟨dC,?_⟩;refine wn c3 ?_;simp only[go_sem,JA,Va,Vb,JD,wa,wb,hk,w4,JL,JM,JB,Int.reduceBEq,Vu,Vt,Bool.false_and,Bool.and_true,Bool.and_false,Vv,Vc,Nat.reduceAdd,Nat.reduceEqDiff,Nat.reduceBEq,Nat.reduceLeDiff,reduceCtorEq,↓reduceIte];refine wn c4 ?_;simp only[go_sem,JA,Va,Vb,JD,wa,wb,hk,w4,JL,JM,JB,Int.reduceBEq,Vu,Vt,Bool.false_and,Bool.and_true,Bool.and_false,Int.reduceEq,or_true,or_false,true_or,false_or,not_false_eq_true,not_true_eq_false,ne_eq,true_and,JGS,sgL,e,JA,Va,Vb,Vv,Vc,Nat.reduceAdd,Nat.reduceEqDiff,Nat.reduceBEq,Nat.reduceLeDiff,reduceCtorEq,↓reduceIte];refine⟨sP,sP,sP,sP,sP,dC,dC,?_⟩;have hnn:nth [.list 1 [.str [112,97,121]],.list 1 [.str [112,97,121],.str [115,116,111,99,107]],.list 1 [.str [115,116,111,99,107],.str [109,97,105,108]],.list 1 [.str [115,116,111,99,107],.str [112,97,121],.str [109,97,105,108]]] (Int.toNat 2)=.list 1 [.str [115,116,111,99,107],.str [109,97,105,108]]:=rfl;rw[hnn];simp only[go_sem,JA,Va,Vb,JD,wa,wb,hk,w4,JL,JM,JB,Int.reduceBEq,Vu,Vt,Bool.false_and,Bool.and_true,Bool.and_false,Vv,Vc,Nat.reduceAdd,Nat.reduceEqDiff,Nat.reduceBEq,Nat.reduceLeDiff,reduceCtorEq,↓reduceIte];refine wn c5 ?_;simp only[go_sem,JA,Va,Vb,JD,wa,wb,hk,w4,JL,JM,JB,Int.reduceBEq,Vu,Vt,Bool.false_and,Bool.and_true,Bool.and_false,Vv,Vc,Nat.reduceAdd,Nat.reduceEqDiff,Nat.reduceBEq,Nat.reduceLeDiff,reduceCtorEq,↓reduceIte];refine⟨dC,?_⟩;rw[w5];refine wn c6 ?_;simp only[go_sem,JA,Va,Vb,JD,wa,wb,hk,w4,JL,JM,JB,Int.reduceBEq,Vu,Vt,Bool.false_and,Bool.and_true,Bool.and_false,Vv,Vc,Nat.reduceAdd,Nat.reduceEqDiff,Nat.reduceBEq,Nat.reduceLeDiff,reduceCtorEq,↓reduceIte];refine wn c7 ?_;simp only[go_sem,JA,Va,Vb,JD,wa,wb,hk,w4,JL,JM,JB,Int.reduceBEq,Vu,Vt,Bool.false_and,Bool.and_true,Bool.and_false,Vv,Vc,Nat.reduceAdd,Nat.reduceEqDiff,Nat.reduceBEq,Nat.reduceLeDiff,reduceCtorEq,↓reduceIte]
theorem JOP(br:Ste)(k a b:Int)(now:Str)(deep:Bool)(h0:0≤a)(h1:a≤255)(h2:0≤b)(h3:b≤255)(e:a.tmod 4=3)(hk:k.tmod 13=9):
  PT 103 [UI k a b,.str now,.bool deep] (.tup [.d (JH (UP br k a b now).1),.d (.str (UP br k a b now).2)]):=by
 refine Ye.pc ?_;have c0:=(Jc Uo).call trivial;have c1:=(Ut now).call trivial;have c2:=(Jc (msr now)).call trivial;have c3:=(UE (a.tmod 110)).call trivial;have c4:=(Uz 8 (JP (msr now)) (Jq (a.tmod 110))).call trivial;have wa:IntKind.i64.wrap a=a:=J7 oM oM;have wb:IntKind.i64.wrap b=b:=J7 oM oM;obtain⟨b4,b4',b4''⟩:=UN b 4 h2 oM;have w4:IntKind.i64.wrap (1+b.tmod 4)=1+b.tmod 4:=J7 oM oM;simp only[Va,Vb]at c0 c1 c2 c3 c4;obtain⟨m1,m2,m3⟩:=UN b 3 h2 oM;have w5:IntKind.i64.wrap (b.tmod 3*60)=b.tmod 3*60:=J7 oM oM;have c5:=(JCL now [[115,116,111,99,107],[112,97,121],[109,97,105,108]]).call trivial;have c6:=(UE ((3:Nat):Int)).call trivial;have c7:=(ZW now (Jq ((3:Nat):Int))).call trivial;simp only[JD,JP,Jq,UU,JW,JX,Jg,prs,List.flatMap_cons,List.flatMap_nil,List.cons_append,List.nil_append,List.append_nil,Va,Vb]at c0 c1 c2 c3 c4 c5 c6 c7;unfold UP;rw[hk];simp only[go_sem,YR,UI,JA,Va,Vb,JD,wa,wb,hk,w4,JL,JM,JB,Int.reduceBEq,Vu,Vt,Bool.false_and,Bool.and_true,Bool.and_false,JD,JP,Jq,UU,JW,JX,Jg,prs,List.flatMap_cons,List.flatMap_nil,List.cons_append,List.nil_append,List.append_nil,Va,Vb,JGS,sgL,e,JA,Vv,Vc,Nat.reduceAdd,Nat.reduceEqDiff,Nat.reduceBEq,Nat.reduceLeDiff,reduceCtorEq,↓reduceIte];refine wn c0 ?_;simp only[go_sem,JA,Va,Vb,JD,wa,wb,hk,w4,JL,JM,JB,Int.reduceBEq,Vu,Vt,Bool.false_and,Bool.and_true,Bool.and_false,Vv,Vc,Nat.reduceAdd,Nat.reduceEqDiff,Nat.reduceBEq,Nat.reduceLeDiff,reduceCtorEq,↓reduceIte];refine wn c0 ?_;simp only[go_sem,JA,Va,Vb,JD,wa,wb,hk,w4,JL,JM,JB,Int.reduceBEq,Vu,Vt,Bool.false_and,Bool.and_true,Bool.and_false,Vv,Vc,Nat.reduceAdd,Nat.reduceEqDiff,Nat.reduceBEq,Nat.reduceLeDiff,reduceCtorEq,↓reduceIte];refine⟨sP,?_⟩;refine wn c1 ?_;simp only[go_sem,JA,Va,Vb,JD,wa,wb,hk,w4,JL,JM,JB,Int.reduceBEq,Vu,Vt,Bool.false_and,Bool.and_true,Bool.and_false,Vv,Vc,Nat.reduceAdd,Nat.reduceEqDiff,Nat.reduceBEq,Nat.reduceLeDiff,reduceCtorEq,↓reduceIte];refine wn c2 ?_;simp only[go_sem,JA,Va,Vb,JD,wa,wb,hk,w4,JL,JM,JB,Int.reduceBEq,Vu,Vt,Bool.false_and,Bool.and_true,Bool.and_false,Vv,Vc,Nat.reduceAdd,Nat.reduceEqDiff,Nat.reduceBEq,Nat.reduceLeDiff,reduceCtorEq,↓reduceIte];refine⟨dC,?_⟩;refine wn c3 ?_;simp only[go_sem,JA,Va,Vb,JD,wa,wb,hk,w4,JL,JM,JB,Int.reduceBEq,Vu,Vt,Bool.false_and,Bool.and_true,Bool.and_false,Vv,Vc,Nat.reduceAdd,Nat.reduceEqDiff,Nat.reduceBEq,Nat.reduceLeDiff,reduceCtorEq,↓reduceIte];refine wn c4 ?_;simp only[go_sem,JA,Va,Vb,JD,wa,wb,hk,w4,JL,JM,JB,Int.reduceBEq,Vu,Vt,Bool.false_and,Bool.and_true,Bool.and_false,Int.reduceEq,or_true,or_false,true_or,false_or,not_false_eq_true,not_true_eq_false,ne_eq,true_and,JGS,sgL,e,JA,Va,Vb,Vv,Vc,Nat.reduceAdd,Nat.reduceEqDiff,Nat.reduceBEq,Nat.reduceLeDiff,reduceCtorEq,↓reduceIte];refine⟨sP,sP,sP,sP,sP,dC,dC,?_⟩;have hnn:nth [.list 1 [.str [112,97,121]],.list 1 [.str [112,97,121],.str [115,116,111,99,107]],.list 1 [.str [115,116,111,99,107],.str [109,97,105,108]],.list 1 [.str [115,116,111,99,107],.str [112,97,121],.str [109,97,105,108]]] (Int.toNat 3)=.list 1 [.str [115,116,111,99,107],.str [112,97,121],.str [109,97,105,108]]:=rfl;rw[hnn];simp only[go_sem,JA,Va,Vb,JD,wa,wb,hk,w4,JL,JM,JB,Int.reduceBEq,Vu,Vt,Bool.false_and,Bool.and_true,Bool.and_false,Vv,Vc,Nat.reduceAdd,Nat.reduceEqDiff,Nat.reduceBEq,Nat.reduceLeDiff,reduceCtorEq,↓reduceIte];refine wn c5 ?_;simp only[go_sem,JA,Va,Vb,JD,wa,wb,hk,w4,JL,JM,JB,Int.reduceBEq,Vu,Vt,Bool.false_and,Bool.and_true,Bool.and_false,Vv,Vc,Nat.reduceAdd,Nat.reduceEqDiff,Nat.reduceBEq,Nat.reduceLeDiff,reduceCtorEq,↓reduceIte];refine⟨dC,?_⟩;rw[w5];refine wn c6 ?_;simp only[go_sem,JA,Va,Vb,JD,wa,wb,hk,w4,JL,JM,JB,Int.reduceBEq,Vu,Vt,Bool.false_and,Bool.and_true,Bool.and_false,Vv,Vc,Nat.reduceAdd,Nat.reduceEqDiff,Nat.reduceBEq,Nat.reduceLeDiff,reduceCtorEq,↓reduceIte];refine wn c7 ?_;simp only[go_sem,JA,Va,Vb,JD,wa,wb,hk,w4,JL,JM,JB,Int.reduceBEq,Vu,Vt,Bool.false_and,Bool.and_true,Bool.and_false,Vv,Vc,Nat.reduceAdd,Nat.reduceEqDiff,Nat.reduceBEq,Nat.reduceLeDiff,reduceCtorEq,↓reduceIte]
end Go.Proofs
namespace Go.Proofs
open Go Av
attribute [local instance 2000] JEj
theorem JQF:JDS 12:=by
 intro br k a b now deep h0 h1 h2 h3 hk hbr;refine Ye.pc ?_;have c0:=(Jc Uo).call trivial;have c1:=(Ut now).call trivial;have c2:=(Jc (msr now)).call trivial;have c3:=(UE (a.tmod 110)).call trivial;have c4:=(Uz 8 (JP (msr now)) (Jq (a.tmod 110))).call trivial;have wa:IntKind.i64.wrap a=a:=J7 oM oM;have wb:IntKind.i64.wrap b=b:=J7 oM oM;obtain⟨b4,b4',b4''⟩:=UN b 4 h2 oM;have w4:IntKind.i64.wrap (1+b.tmod 4)=1+b.tmod 4:=J7 oM oM;simp only[Va,Vb]at c0 c1 c2 c3 c4;have c5:=(Jc JBF).call trivial;have c6:=(Jc [98,111,100,121,46,97,109,111,117,110,116]).call trivial;have c7:=(UE (b.tmod 4)).call trivial;have c8:=(Uz 12 (JP [98,111,100,121,46,97,109,111,117,110,116]) (Jq (b.tmod 4))).call trivial;have c9:=(Jc [98,111,100,121,46,105,116,101,109,115]).call trivial;have cq10:=(UE (b.tmod 200)).call trivial;have cq11:=(ZW now (Jq (b.tmod 200))).call trivial;have cq12:=(JA8 [⟨sId,JP JBF⟩,⟨[97,109,111,117,110,116],UU 12 (JP [98,111,100,121,46,97,109,111,117,110,116]) (Jq (b.tmod 4))⟩,⟨JCJ,JFA⟩,⟨[105,116,101,109,115],JP [98,111,100,121,46,105,116,101,109,115]⟩]).call trivial;simp only[JD,JP,Jq,UU,JW,JX,Jg,prs,List.flatMap_cons,List.flatMap_nil,List.cons_append,List.nil_append,List.append_nil,Va,Vb]at c0 c1 c2 c3 c4 c5 c6 c7 c8 c9 cq10 cq11 cq12;unfold UP;rw[hk];simp only[go_sem,YR,UI,JA,Va,Vb,JD,wa,wb,hk,w4,JL,JM,JB,Int.reduceBEq,Vu,Vt,Bool.false_and,Bool.and_true,Bool.and_false,JD,JP,Jq,UU,JW,JX,Jg,prs,List.flatMap_cons,List.flatMap_nil,List.cons_append,List.nil_append,List.append_nil,Va,Vb,JOJ,JOK,JA,Vv,Vc,Nat.reduceAdd,Nat.reduceEqDiff,Nat.reduceBEq,Nat.reduceLeDiff,reduceCtorEq,↓reduceIte];refine wn c0 ?_;simp only[go_sem,JA,Va,Vb,JD,wa,wb,hk,w4,JL,JM,JB,Int.reduceBEq,Vu,Vt,Bool.false_and,Bool.and_true,Bool.and_false,Vv,Vc,Nat.reduceAdd,Nat.reduceEqDiff,Nat.reduceBEq,Nat.reduceLeDiff,reduceCtorEq,↓reduceIte];refine wn c0 ?_;simp only[go_sem,JA,Va,Vb,JD,wa,wb,hk,w4,JL,JM,JB,Int.reduceBEq,Vu,Vt,Bool.false_and,Bool.and_true,Bool.and_false,Vv,Vc,Nat.reduceAdd,Nat.reduceEqDiff,Nat.reduceBEq,Nat.reduceLeDiff,reduceCtorEq,↓reduceIte];refine⟨sP,?_⟩;refine wn c1 ?_;simp only[go_sem,JA,Va,Vb,JD,wa,wb,hk,w4,JL,JM,JB,Int.reduceBEq,Vu,Vt,Bool.false_and,Bool.and_true,Bool.and_false,Vv,Vc,Nat.reduceAdd,Nat.reduceEqDiff,Nat.reduceBEq,Nat.reduceLeDiff,reduceCtorEq,↓reduceIte];refine wn c2 ?_;simp only[go_sem,JA,Va,Vb,JD,wa,wb,hk,w4,JL,JM,JB,Int.reduceBEq,Vu,Vt,Bool.false_and,Bool.and_true,Bool.and_false,Vv,Vc,Nat.reduceAdd,Nat.reduceEqDiff,Nat.reduceBEq,Nat.reduceLeDiff,reduceCtorEq,↓reduceIte];refine⟨dC,?_⟩;refine wn c3 ?_;simp only[go_sem,JA,Va,Vb,JD,wa,wb,hk,w4,JL,JM,JB,Int.reduceBEq,Vu,Vt,Bool.false_and,Bool.and_true,Bool.and_false,Vv,Vc,Nat.reduceAdd,Nat.reduceEqDiff,Nat.reduceBEq,Nat.reduceLeDiff,reduceCtorEq,↓reduceIte];refine wn c4 ?_;simp only[go_sem,JA,Va,Vb,JD,wa,wb,hk,w4,JL,JM,JB,Int.reduceBEq,Vu,Vt,Bool.false_and,Bool.and_true,Bool.and_false,Int.reduceEq,or_true,or_false,true_or,false_or,not_false_eq_true,not_true_eq_false,ne_eq,true_and,JOJ,JOK,JA,Va,Vb,Vv,Vc,Nat.reduceAdd,Nat.reduceEqDiff,Nat.reduceBEq,Nat.reduceLeDiff,reduceCtorEq,↓reduceIte];refine sq (a.tmod 2==0) ?_ ?_
 ·simp only[go_sem,Vv,Vc,Nat.reduceAdd,Nat.reduceEqDiff,Nat.reduceBEq,Nat.reduceLeDiff,reduceCtorEq,↓reduceIte];intro h;cases h
 ·cases h4:(now==ZF&&a.tmod 2==0)
  ·simp only[go_sem,h4,JA,Va,Vb,JD,wa,wb,hk,w4,JL,JM,JB,Int.reduceBEq,Vu,Vt,Bool.false_and,Bool.and_true,Bool.and_false,Vv,Vc,Nat.reduceAdd,Nat.reduceEqDiff,Nat.reduceBEq,Nat.reduceLeDiff,reduceCtorEq,↓reduceIte];refine⟨dC,?_⟩;refine wn cq10 ?_;simp only[go_sem,JA,Va,Vb,JD,wa,wb,hk,w4,JL,JM,JB,Int.reduceBEq,Vu,Vt,Bool.false_and,Bool.and_true,Bool.and_false,Vv,Vc,Nat.reduceAdd,Nat.reduceEqDiff,Nat.reduceBEq,Nat.reduceLeDiff,reduceCtorEq,↓reduceIte];refine wn cq11 ?_;simp only[go_sem,JA,Va,Vb,JD,wa,wb,hk,w4,JL,JM,JB,Int.reduceBEq,Vu,Vt,Bool.false_and,Bool.and_true,Bool.and_false,Vv,Vc,Nat.reduceAdd,Nat.reduceEqDiff,Nat.reduceBEq,Nat.reduceLeDiff,reduceCtorEq,↓reduceIte]
  ·simp only[go_sem,h4,JA,Va,Vb,JD,wa,wb,hk,w4,JL,JM,JB,Int.reduceBEq,Vu,Vt,Bool.false_and,Bool.and_true,Bool.and_false,Vv,Vc,Nat.reduceAdd,Nat.reduceEqDiff,Nat.reduceBEq,Nat.reduceLeDiff,reduceCtorEq,↓reduceIte];refine JI rfl c5 trivial ?_;simp only[go_sem,JA,Va,Vb,JD,wa,wb,hk,w4,JL,JM,JB,Int.reduceBEq,Vu,Vt,Bool.false_and,Bool.and_true,Bool.and_false,Vv,Vc,Nat.reduceAdd,Nat.reduceEqDiff,Nat.reduceBEq,Nat.reduceLeDiff,reduceCtorEq,↓reduceIte];refine JI rfl c6 trivial ?_;simp only[go_sem,JA,Va,Vb,JD,wa,wb,hk,w4,JL,JM,JB,Int.reduceBEq,Vu,Vt,Bool.false_and,Bool.and_true,Bool.and_false,Vv,Vc,Nat.reduceAdd,Nat.reduceEqDiff,Nat.reduceBEq,Nat.reduceLeDiff,reduceCtorEq,↓reduceIte];refine⟨dC,?_⟩;refine JI rfl c7 trivial ?_;simp only[go_sem,JA,Va,Vb,JD,wa,wb,hk,w4,JL,JM,JB,Int.reduceBEq,Vu,Vt,Bool.false_and,Bool.and_true,Bool.and_false,Vv,Vc,Nat.reduceAdd,Nat.reduceEqDiff,Nat.reduceBEq,Nat.reduceLeDiff,reduceCtorEq,↓reduceIte];refine JI rfl c8 trivial ?_;simp only[go_sem,JA,Va,Vb,JD,wa,wb,hk,w4,JL,JM,JB,Int.reduceBEq,Vu,Vt,Bool.false_and,Bool.and_true,Bool.and_false,Vv,Vc,Nat.reduceAdd,Nat.reduceEqDiff,Nat.reduceBEq,Nat.reduceLeDiff,reduceCtorEq,↓reduceIte];refine JI rfl c9 trivial ?_;simp only[go_sem,JA,Va,Vb,JD,wa,wb,hk,w4,JL,JM,JB,Int.reduceBEq,Vu,Vt,Bool.false_and,Bool.and_true,Bool.and_false,Vv,Vc,Nat.reduceAdd,Nat.reduceEqDiff,Nat.reduceBEq,Nat.reduceLeDiff,reduceCtorEq,↓reduceIte];refine⟨sP,?_⟩;refine JI rfl cq12 trivial ?_;simp only[go_sem,JA,Va,Vb,JD,wa,wb,hk,w4,JL,JM,JB,Int.reduceBEq,Vu,Vt,Bool.false_and,Bool.and_true,Bool.and_false,Vv,Vc,Nat.reduceAdd,Nat.reduceEqDiff,Nat.reduceBEq,Nat.reduceLeDiff,reduceCtorEq,↓reduceIte];rfl
theorem JQG:JDS 11:=by
 intro br k a b now deep h0 h1 h2 h3 hk hbr;refine Ye.pc ?_;have c0:=(Jc Uo).call trivial;have c1:=(Ut now).call trivial;have c2:=(Jc (msr now)).call trivial;have c3:=(UE (a.tmod 110)).call trivial;have c4:=(Uz 8 (JP (msr now)) (Jq (a.tmod 110))).call trivial;have wa:IntKind.i64.wrap a=a:=J7 oM oM;have wb:IntKind.i64.wrap b=b:=J7 oM oM;obtain⟨b4,b4',b4''⟩:=UN b 4 h2 oM;have w4:IntKind.i64.wrap (1+b.tmod 4)=1+b.tmod 4:=J7 oM oM;simp only[Va,Vb]at c0 c1 c2 c3 c4;simp only[JD,JP,Jq,UU,JW,JX,Jg,prs,List.flatMap_cons,List.flatMap_nil,List.cons_append,List.nil_append,List.append_nil,Va,Vb]at c0 c1 c2 c3 c4;unfold UP;rw[hk];simp only[go_sem,YR,UI,JA,Va,Vb,JD,wa,wb,hk,w4,JL,JM,JB,Int.reduceBEq,Vu,Vt,Bool.false_and,Bool.and_true,Bool.and_false,JD,JP,Jq,UU,JW,JX,Jg,prs,List.flatMap_cons,List.flatMap_nil,List.cons_append,List.nil_append,List.append_nil,Va,Vb,JA,Vv,Vc,Nat.reduceAdd,Nat.reduceEqDiff,Nat.reduceBEq,Nat.reduceLeDiff,reduceCtorEq,↓reduceIte];refine wn c0 ?_;simp only[go_sem,JA,Va,Vb,JD,wa,wb,hk,w4,JL,JM,JB,Int.reduceBEq,Vu,Vt,Bool.false_and,Bool.and_true,Bool.and_false,Vv,Vc,Nat.reduceAdd,Nat.reduceEqDiff,Nat.reduceBEq,Nat.reduceLeDiff,reduceCtorEq,↓reduceIte];refine wn c0 ?_;simp only[go_sem,JA,Va,Vb,JD,wa,wb,hk,w4,JL,JM,JB,Int.reduceBEq,Vu,Vt,Bool.false_and,Bool.and_true,Bool.and_false,Vv,Vc,Nat.reduceAdd,Nat.reduceEqDiff,Nat.reduceBEq,Nat.reduceLeDiff,reduceCtorEq,↓reduceIte];refine⟨sP,?_⟩;refine wn c1 ?_;simp only[go_sem,JA,Va,Vb,JD,wa,wb,hk,w4,JL,JM,JB,Int.reduceBEq,Vu,Vt,Bool.false_and,Bool.and_true,Bool.and_false,Vv,Vc,Nat.reduceAdd,Nat.reduceEqDiff,Nat.reduceBEq,Nat.reduceLeDiff,reduceCtorEq,↓reduceIte];refine wn c2 ?_;simp only[go_sem,JA,Va,Vb,JD,wa,wb,hk,w4,JL,JM,JB,Int.reduceBEq,Vu,Vt,Bool.false_and,Bool.and_true,Bool.and_false,Vv,Vc,Nat.reduceAdd,Nat.reduceEqDiff,Nat.reduceBEq,Nat.reduceLeDiff,reduceCtorEq,↓reduceIte];refine⟨dC,?_⟩;refine wn c3 ?_;simp only[go_sem,JA,Va,Vb,JD,wa,wb,hk,w4,JL,JM,JB,Int.reduceBEq,Vu,Vt,Bool.false_and,Bool.and_true,Bool.and_false,Vv,Vc,Nat.reduceAdd,Nat.reduceEqDiff,Nat.reduceBEq,Nat.reduceLeDiff,reduceCtorEq,↓reduceIte];refine wn c4 ?_;simp only[go_sem,JA,Va,Vb,JD,wa,wb,hk,w4,JL,JM,JB,Int.reduceBEq,Vu,Vt,Bool.false_and,Bool.and_true,Bool.and_false,Int.reduceEq,or_true,or_false,true_or,false_or,not_false_eq_true,not_true_eq_false,ne_eq,true_and,JA,Va,Vb,Vv,Vc,Nat.reduceAdd,Nat.reduceEqDiff,Nat.reduceBEq,Nat.reduceLeDiff,reduceCtorEq,↓reduceIte];cases deep
 ·have hbr:br=JCM now a:=hbr;subst hbr;simp only[go_sem,JA,Va,Vb,JD,wa,wb,hk,w4,JL,JM,JB,Int.reduceBEq,Vu,Vt,Bool.false_and,Bool.and_true,Bool.and_false,JCM,Jg,JD,JP,Jq,UU,JW,JX,Jg,prs,List.flatMap_cons,List.flatMap_nil,List.cons_append,List.nil_append,List.append_nil,Va,Vb,Vv,Vc,Nat.reduceAdd,Nat.reduceEqDiff,Nat.reduceBEq,Nat.reduceLeDiff,reduceCtorEq,↓reduceIte];simp
 ·have hb:=J3.call (show PT 181 [UI k a b,.str now,Jf (Jg now a)] (.d (JH br))from hbr) trivial;simp only[UI,JD,JP,Jq,UU,JW,JX,Jg,prs,List.flatMap_cons,List.flatMap_nil,List.cons_append,List.nil_append,List.append_nil,Va,Vb,JV br]at hb;rw[JV br];simp only[go_sem,JA,Va,Vb,JD,wa,wb,hk,w4,JL,JM,JB,Int.reduceBEq,Vu,Vt,Bool.false_and,Bool.and_true,Bool.and_false,Vv,Vc,Nat.reduceAdd,Nat.reduceEqDiff,Nat.reduceBEq,Nat.reduceLeDiff,reduceCtorEq,↓reduceIte];refine wn hb ?_;simp only[go_sem,JA,Va,Vb,JD,wa,wb,hk,w4,JL,JM,JB,Int.reduceBEq,Vu,Vt,Bool.false_and,Bool.and_true,Bool.and_false,Vv,Vc,Nat.reduceAdd,Nat.reduceEqDiff,Nat.reduceBEq,Nat.reduceLeDiff,reduceCtorEq,↓reduceIte]
end Go.Proofs
namespace Go.Proofs
open Go Av
theorem JSu(k:Int)(h:0≤k):k.tmod 13=0∨k.tmod 13=1∨k.tmod 13=2∨k.tmod 13=3∨k.tmod 13=4∨k.tmod 13=5∨k.tmod 13=6∨k.tmod 13=7∨k.tmod 13=8∨k.tmod 13=9∨k.tmod 13=10∨k.tmod 13=11∨k.tmod 13=12:=by
 rw[Int.tmod_eq_emod_of_nonneg h];omega
theorem JJ4(br:Ste)(k a b:Int)(now:Str)(deep:Bool)(hk:0≤k)(h0:0≤a)(h1:a≤255)(h2:0≤b)(h3:b≤255)(hbr:BrOk deep br k a b now):
  PT 103 [UI k a b,.str now,.bool deep] (.tup [.d (JH (UP br k a b now).1),.d (.str (UP br k a b now).2)]):=by
 rcases JSu k hk with e|e|e|e|e|e|e|e|e|e|e|e|e
 ·exact JSl br k a b now deep h0 h1 h2 h3 e hbr
 ·exact JSm br k a b now deep h0 h1 h2 h3 e hbr
 ·exact JSn br k a b now deep h0 h1 h2 h3 e hbr
 ·exact JSt br k a b now deep h0 h1 h2 h3 e hbr
 ·exact JSo br k a b now deep h0 h1 h2 h3 e hbr
 ·exact JSp br k a b now deep h0 h1 h2 h3 e hbr
 ·exact JSq br k a b now deep h0 h1 h2 h3 e hbr
 ·exact JSr br k a b now deep h0 h1 h2 h3 e hbr
 ·exact JSs br k a b now deep h0 h1 h2 h3 e hbr
 ·have:a.tmod 4=0∨a.tmod 4=1∨a.tmod 4=2∨a.tmod 4=3:=by rw[Int.tmod_eq_emod_of_nonneg h0];omega
  rcases this with e2|e2|e2|e2
  ·exact JOM br k a b now deep h0 h1 h2 h3 e2 e
  ·exact JON br k a b now deep h0 h1 h2 h3 e2 e
  ·exact JOO br k a b now deep h0 h1 h2 h3 e2 e
  ·exact JOP br k a b now deep h0 h1 h2 h3 e2 e
 ·exact JQE br k a b now deep h0 h1 h2 h3 e hbr
 ·exact JQG br k a b now deep h0 h1 h2 h3 e hbr
 ·exact JQF br k a b now deep h0 h1 h2 h3 e hbr
end Go.Proofs
namespace Go.Proofs
open Go Av
open Av.Y
end Go.Proofs
namespace Go.Proofs
open Go Av
theorem JHs{G:Nat→Option Av.Obj}:∀cs:List Dat,JS G (cs.map .d)
 |[]=>trivial
 |_::r=>⟨trivial,JHs r⟩
theorem JIy(ρ:Nat→Nat):∀cs:List Dat,UQ ρ (cs.map .d)=cs.map .d
 |[]=>rfl
 |_::r=>by simp only[Va,UQ,Av.ren,JIy ρ r]
theorem JAC(i:Nat)(cs:List Dat):closed (get [(i,.box (cs.map .d))]):=by
 refine Jy ?_;simp only[Jd,J5,JHs,and_true]
theorem Con.ro{P:Program}{f:Nat}{ds cs:List Dat}{r:Dat}(h:Con P f (.ref 1000 0::ds.map .d) [(1000,.box (cs.map .d))] (.d r) [])(i:Nat):
  JN P f (.ref i 0::ds.map .d) [(i,some (.box (cs.map .d)))] (.d r) []:=by
 have h1:∀j,(get [(1000,Obj.box (cs.map .d))] j).isSome=true→j=1000:=by
  intro j hj;simp only[Av.get]at hj;split at hj
  ·rename_i e;exact e.symm
  ·cases hj
 have:=h.call (fun _=>i) (fun j hj=>by rw[h1 j hj];decide) (fun a b ha hb _=>by rw[h1 a ha,h1 b hb]) ?_ (JAC _ _) [] sP (JAC _ _) trivial
 ·have e:(ds.map Av.d).map (Av.ren fun _=>i)=ds.map Av.d:=by
   rw[List.map_map];exact List.map_congr_left fun x _=>by simp[Av.ren]
  simpa[Av.ren,Obj.ren,JIy,e]using this
 ·intro c hc;rcases VA.1 hc with rfl|hc
  ·rfl
  ·obtain⟨x,_,rfl⟩:=VC.1 hc;trivial
structure Part where
 kind:Int
 index:Int
 name:Str
def JSv(p:Part):Dat:=.agg [.int .i64 p.kind,.int .i64 p.index,.str p.name]
end Go.Proofs
namespace Go.Proofs
open Go.Shelf
def Tryz.JGv:Go.Shelf.Ren:=⟨fun|171=>184|243=>227|246=>258|283=>299|284=>300|285=>301|286=>302|129=>337|317=>336|318=>338|319=>339|320=>340|337=>386|338=>387|n=>n,fun|3=>3|9=>9|2=>2|4=>4|171=>371|0=>0|53=>372|37=>292|5=>5|173=>375|212=>409|51=>410|20=>20|213=>411|46=>344|232=>475|233=>476|n=>n,fun|17=>2|18=>6|19=>7|n=>n⟩
theorem Tryz.JPO:Go.Proofs.LaysM.n171 Tryz.prog Tryz.JGv:={
 mixed:=kR
 f129:=Tryz.func337.trans (congrArg some kR)
 f171:=Tryz.func184.trans (congrArg some kR)
 f243:=Tryz.func227.trans (congrArg some kR)
 f246:=Tryz.func258.trans (congrArg some kR)
 f283:=Tryz.func299.trans (congrArg some kR)
 f284:=Tryz.func300.trans (congrArg some kR)
 f285:=Tryz.func301.trans (congrArg some kR)
 f286:=Tryz.func302.trans (congrArg some kR)
 f317:=Tryz.func336.trans (congrArg some kR)
 f318:=Tryz.func338.trans (congrArg some kR)
 f319:=Tryz.func339.trans (congrArg some kR)
 f320:=Tryz.func340.trans (congrArg some kR)
 f337:=Tryz.func386.trans (congrArg some kR)
 f338:=Tryz.func387.trans (congrArg some kR)
 t0:=Tryz.underlying0
 a0:=Tryz.isAgg0
 z0:=Tryz.sizeOf0
 v0:=Tryz.zeroValue0
 t2:=Tryz.underlying2
 a2:=Tryz.isAgg2
 z2:=Tryz.sizeOf2
 v2:=Tryz.zeroValue2
 t3:=Tryz.underlying3
 a3:=Tryz.isAgg3
 z3:=Tryz.sizeOf3
 v3:=Tryz.zeroValue3
 t4:=Tryz.underlying4
 a4:=Tryz.isAgg4
 z4:=Tryz.sizeOf4
 v4:=Tryz.zeroValue4
 t5:=Tryz.underlying5
 a5:=Tryz.isAgg5
 z5:=Tryz.sizeOf5
 v5:=Tryz.zeroValue5
 t9:=Tryz.underlying9
 a9:=Tryz.isAgg9
 z9:=Tryz.sizeOf9
 v9:=Tryz.zeroValue9
 t20:=Tryz.underlying20
 a20:=Tryz.isAgg20
 z20:=Tryz.sizeOf20
 v20:=Tryz.zeroValue20
 t37:=Tryz.underlying292
 a37:=Tryz.isAgg292
 z37:=Tryz.sizeOf292
 v37:=Tryz.zeroValue292
 t46:=Tryz.underlying344
 a46:=Tryz.isAgg344
 z46:=Tryz.sizeOf344
 v46:=Tryz.zeroValue344
 t51:=Tryz.underlying410
 a51:=Tryz.isAgg410
 z51:=Tryz.sizeOf410
 v51:=Tryz.zeroValue410
 t53:=Tryz.underlying372
 a53:=Tryz.isAgg372
 z53:=Tryz.sizeOf372
 v53:=Tryz.zeroValue372
 t171:=Tryz.underlying371
 a171:=Tryz.isAgg371
 z171:=Tryz.sizeOf371
 v171:=Tryz.zeroValue371
 t173:=Tryz.underlying375
 a173:=Tryz.isAgg375
 z173:=Tryz.sizeOf375
 v173:=Tryz.zeroValue375
 t212:=Tryz.underlying409
 a212:=Tryz.isAgg409
 z212:=Tryz.sizeOf409
 v212:=Tryz.zeroValue409
 t213:=Tryz.underlying411
 a213:=Tryz.isAgg411
 z213:=Tryz.sizeOf411
 t232:=Tryz.underlying475
 a232:=Tryz.isAgg475
 z232:=Tryz.sizeOf475
 v232:=Tryz.zeroValue475
 t233:=Tryz.underlying476
 a233:=Tryz.isAgg476
 z233:=Tryz.sizeOf476
 v233:=Tryz.zeroValue476
 g17:=kR
 g18:=kR
 g19:=kR
 i0:=kR
 i2:=kR
 i3:=kR
 i4:=kR
 i5:=kR
 i9:=kR
 i20:=kR
 i37:=kR
 i46:=kR
 i51:=kR
 i53:=kR
 i171:=kR
 i173:=kR
 i212:=kR
 i232:=kR
 i233:=kR
 m17:=kR
 m18:=kR
 m19:=by kernel_rfl}
end Go.Proofs
namespace Go.Proofs
open Go Av Go.RowKit
theorem hasT{f:Nat}{fn:Func}(h:Tryz.prog.funcs[f]? =some fn)(h1:fn.body.isSome=true)(h2:(fn.name== "runtime.NumGoroutine")=false):Has Tryz.prog f:=⟨fn,h,h1,h2⟩
theorem JQH{vs:Array Value}(h:1=vs.size):∃x,vs=#[x]:=by
 refine⟨vs[0],?_⟩;apply Array.ext
 ·simp[←h]
 ·intro i h1 h2;have:i=0:=oM;subst this;rfl
theorem tabI{A:Nat→Prop}{w:World}(hg:∀g cs,Yy g=some cs→JBk A w g cs):Lib.TabIs Tryz.prog w "internal/strconv.uint64pow10" .u64 Lib.pow10Tab:=by
 obtain⟨h0,C,T,fr,h1,h2,h3,h4⟩:=hg 2 JGK rfl;have hn:Tryz.prog.globalNamed "internal/strconv.uint64pow10" =some 2:=kR;unfold Lib.TabIs World.var?;rw[hn];simp only[Option.bind_some,h1,Vd];have hlen:JGK.length=20:=by simp[JGK]
 apply Array.ext
 ·rw[←h2,hlen];simp[Lib.pow10Tab]
 ·intro i hi hi';have hi20:i<20:=by rw[←h2,hlen]at hi;exact hi
  have e1:JGK[i]? =some (.int .u64 ((10^i:Nat):Int)):=by simp[JGK,hi20]
  have:=h4 i _ C[i] e1 sP;generalize C[i]=v at this;cases this;simp[Lib.pow10Tab]
theorem call184(n:Int)(h0: -9223372036854775808≤n)(h1:n≤9223372036854775807):CT 184 [.d (.int .i64 n)] [] (.d (.str (Lib.itoa n))) []:=by
 refine JN.JLj (ds:=[.int .i64 n]) (hasT Tryz.func184 kR kR) ?_;intro A w vs hg hl hv;obtain⟨x,rfl⟩:=JQH hl;have hx:=hv 0 _ x rfl rfl;cases hx with
 |int=>
  refine(Any.strconv_Itoa Tryz.JPO n h0 h1 w (tabI hg)).mono ?_;rintro e w' ⟨rfl,k,os,rfl⟩;refine⟨_,rfl,?_,fun β H=>.d _ _ (.str _ ?_)⟩
  ·refine⟨rfl,rfl,rfl,by simp[Sort.grow],fun i hi=>?_⟩;show((w.drewN k).heap++os)[i]? =_;rw[Array.getElem?_append_left (by show i<w.heap.size;omega)];rfl
  ·have:=Lib.itoa_length_le n h0 h1;omega
end Go.Proofs
namespace Go.Proofs
open Go Av
open Av.Y
end Go.Proofs
namespace Go.Proofs
open Go Av Go.RowKit
end Go.Proofs
namespace Go.Proofs
open Go Av
open Av.Y
end Go.Proofs
namespace Go.Proofs
open Go Av
open Av.Y
end Go.Proofs
namespace Go.Proofs
open Go Av
end Go.Proofs
namespace Go.Proofs
open Go Av
open Av.Y
end Go.Proofs
namespace Go.Proofs
open Go Av
end Go.Proofs
namespace Go.Proofs
open Go Av
open Av.Y
end Go.Proofs
namespace Go.Proofs
open Go Av
theorem Con.rl{P:Program}{f:Nat}{ds cs:List Dat}{r:Dat}(h:Con P f (ds.map .d++[.ref 1000 0]) [(1000,.box (cs.map .d))] (.d r) [])(i:Nat):
  JN P f (ds.map .d++[.ref i 0]) [(i,some (.box (cs.map .d)))] (.d r) []:=by
 have h1:∀j,(get [(1000,Obj.box (cs.map .d))] j).isSome=true→j=1000:=by
  intro j hj;simp only[Av.get]at hj;split at hj
  ·rename_i e;exact e.symm
  ·cases hj
 have:=h.call (fun _=>i) (fun j hj=>by rw[h1 j hj];decide) (fun a b ha hb _=>by rw[h1 a ha,h1 b hb]) ?_ (JAC _ _) [] sP (JAC _ _) trivial
 ·have e:(ds.map Av.d).map (Av.ren fun _=>i)=ds.map Av.d:=by
   rw[List.map_map];exact List.map_congr_left fun x _=>by simp[Av.ren]
  simpa[Av.ren,Obj.ren,JIy,e]using this
 ·intro c hc;rcases List.mem_append.1 hc with hc|hc
  ·obtain⟨x,_,rfl⟩:=VC.1 hc;trivial
  ·rw[List.mem_singleton.1 hc];rfl
theorem JGT(l:List Part):JG (l.map JSv)=l.map JSv:=by
 rw[Jw,List.map_map];exact List.map_congr_left fun p _=>by simp[JSv,Dat.canon,JG]
attribute [go_sem] JGT
end Go.Proofs
namespace Go.Proofs
open Go Av
open Av.Y
end Go.Proofs
namespace Go.Proofs
open Go Av
mutual
def szV:Val→Nat
 |.mk _ _ _ _ l f=>1+JQI l+JQJ f
def JQI:List Val→Nat
 |[]=>0
 |v::r=>szV v+JQI r
def JQJ:List Fld→Nat
 |[]=>0
 |.mk _ v::r=>szV v+JQJ r
end
theorem JSw(v:Val):szV v=1+JQI v.list+JQJ v.fields:=by cases v;rfl
end Go.Proofs
namespace Go.Proofs
open Go Av
open Av.Y
def JRa:Ic:=q (.reg (oN 2 y6<|N))<|q (R (om 3 0<|oo 4 (.bld y6 [(0,1,i 4),(3,1,t 3)])<|oS 6 2 4<|N) [0,3,4])<|.ret
theorem ok225:FT 225 5 JRa [.cell 2 (some 6)]:=.o Tryz.func225
end Go.Proofs
namespace Go.Proofs
open Go Av
theorem JQK{v:Val}(h:fits (J0 v)):v.text.length≤68719476736∧v.list.length≤68719476736∧v.fields.length≤68719476736:=by
 rw[Ul]at h;simp only[fits,Un,Vc,and_true]at h;exact⟨h.2.2.2.1,h.2.2.2.2.1.1,h.2.2.2.2.2.1⟩
theorem JQL(s:Str):PT 225 [.str s] (.d (J0 (.mk 4 0 0 s [] []))):=by
 refine ok225.pc ?_;simp only[go_sem,JRa,simprocAttr];rfl
def JSx:Ste:=.mk [] 14 0 0 0 [110,111] [] [] [] [] []
def JIz:Exp:=.mk 1 0 [] [.mk 4 0 0 [98] [] []] []
def eqB:Exp:=UU 6 JFA JIz
def pick(inn t:Ste)(j:Int):List Ste:=if j=0 then[inn]else if j=1 then[inn,t]else if j=2 then[JSx]else[]
def whn(c:Bool)(a b:Int)(small:Exp)(i:Nat):List Exp:=if c&&(decide ((i:Int)≤a.tmod 2)||b.tmod 5==0)then(if 0<i then[eqB]else[small])else[]
def brn(c:Bool)(a b:Int)(small:Exp)(inn t:Ste)(i:Nat):Brn:=.mk (whn c a b small i) (pick inn t ((b+i).tmod 4))
def JQM:Dat:=.agg [.str [],.int .i64 14,.int .i64 0,.int .i64 0,.int .i64 0,.str [110,111],.str [],.nil 5,.nil 6,.nil 2,.nil 2]
theorem JI0:JQM.canon=JH JSx:=rfl
def L4(inn t:Dat):List Dat:=[.list 11 [inn],.list 11 [inn,t],.list 11 [JQM],.nil 11]
theorem JOQ(inn t:Dat):(L4 inn t).length=4:=rfl
def JGU(w:List Exp)(l:Dat):Dat:=.agg [if w.isEmpty then .nil 5 else .list 5 (w.map Jf),l]
theorem JOR(inn t:Ste)(j:Nat)(h:j<4):(nth (L4 (JH inn) (JH t)) j).canon=.list 11 ((pick inn t j).map JH):=by
 match j,h with
 |0,_=>simp[nth,L4,pick,Dat.canon,JG,ZV]
 |1,_=>simp[nth,L4,pick,Dat.canon,JG,ZV]
 |2,_=>simp[nth,L4,pick,Dat.canon,JG,JI0]
 |3,_=>simp[nth,L4,pick,Dat.canon,JG]
theorem JI1(w:List Exp)(inn t:Ste)(j:Nat)(h:j<4):(JGU w (nth (L4 (JH inn) (JH t)) j)).canon=J1 (.mk w (pick inn t j)):=by
 rw[Xy];cases w<;>simp only[JGU,List.isEmpty_nil,List.isEmpty_cons,if_true,if_false,Vu,Dat.canon,JG,UH,JOR inn t j h,Brn.cond,Brn.steps,Vb]
def JQN(k a b:Int)(now:Str):Ste:=(UP (JCM now (a.tdiv 2)) (4+b.tmod 4) (a.tdiv 2) (b.tdiv 3) now).1
def idx(b:Int)(i:Nat):Nat:=((b+i).tmod 4).toNat
def JI2(c:Bool)(a b:Int)(small:Exp)(inn t:Ste)(i:Nat):Dat:=JGU (whn c a b small i) (nth (L4 (JH inn) (JH t)) (idx b i))
theorem JI3(b:Int)(i:Nat)(h:0≤b):idx b i<4∧((idx b i:Nat):Int)=(b+i).tmod 4:=by
 unfold idx;rw[Int.tmod_eq_emod_of_nonneg oM];omega
theorem JI4(c:Bool)(a b:Int)(small:Exp)(inn t:Ste)(i:Nat)(h:0≤b):(JI2 c a b small inn t i).canon=J1 (brn c a b small inn t i):=by
 obtain⟨h1,h2⟩:=JI3 b i h;unfold JI2 brn;rw[JI1 _ _ _ _ h1,←h2]
theorem JDO(c:Bool)(a b:Int)(small:Exp)(inn t:Ste)(n:Nat)(h:0≤b):JG ((List.range n).map (JI2 c a b small inn t))=((List.range n).map (brn c a b small inn t)).map J1:=by
 rw[Jw,List.map_map,List.map_map];exact List.map_congr_left fun i _=>JI4 c a b small inn t i h
theorem JHt(inn t:Dat)(j:Nat)(h:j<4):(nth (L4 inn t) j).cells=[nth (L4 inn t) j]∧(Av.d (nth (L4 inn t) j)).cells=some [.d (nth (L4 inn t) j)]:=by
 match j,h with
 |0,_=>exact⟨rfl,rfl⟩
 |1,_=>exact⟨rfl,rfl⟩
 |2,_=>exact⟨rfl,rfl⟩
 |3,_=>exact⟨rfl,rfl⟩
def bBr(k a b:Int)(now:Str):List Brn:=(List.range (2+(a.tmod 2).toNat)).map (brn (!(k.tmod 13==11)) a b (Jg now a) (JQN k a b now) (toS now a))
def brS(k a b:Int)(now:Str):Ste:=.mk [] (if k.tmod 13==11 then 12 else 11) 0 0 0 [] [] [] [] [] (bBr k a b now)
theorem w8{n:Int}(h0:0≤n)(h1:n≤255):IntKind.u8.wrap n=n:=by
 simp only[IntKind.wrap,IntKind.signed,IntKind.bits];simp;omega
theorem JQO(k a b:Int)(now:Str)(hk:0≤k)(h0:0≤a)(h1:a≤255)(h2:0≤b)(h3:b≤255)(hn:now.length≤1000):
    J3 Tryz.prog 181 [UI k a b,.str now,Jf (Jg now a)] (.d (JH (brS k a b now))):=by
  refine ok181.pcon (Nat.le_of_ble_eq_true rfl) trivial ?_
  obtain⟨p1,p2,p3⟩:=UN b 4 h2 (by omega)
  obtain⟨q1,q2⟩:=JIx a 2 h0 h1 (by omega)
  obtain⟨r1,r2⟩:=JIx b 3 h2 h3 (by omega)
  obtain⟨a1,a2,a3⟩:=UN a 2 h0 (by omega)
  have e1:IntKind.u8.wrap (4+b.tmod 4)=4+b.tmod 4:=w8 (by omega) (by omega)
  have e2:IntKind.u8.wrap (a.tdiv 2)=a.tdiv 2:=w8 (by omega) (by omega)
  have e3:IntKind.u8.wrap (b.tdiv 3)=b.tdiv 3:=w8 (by omega) (by omega)
  have e4:IntKind.i64.wrap a=a:=J7 (by omega) (by omega)
  have e5:IntKind.i64.wrap b=b:=J7 (by omega) (by omega)
  have c0:=(JJ4 (JCM now (a.tdiv 2)) (4+b.tmod 4) (a.tdiv 2) (b.tdiv 3) now false (by omega) q1 q2 r1 r2 rfl).call (by simp[Ug])
  have c1:=(JGR now k a b hn).call trivial
  have c2:=(Jc Uo).call trivial
  have c3:=(JQL [98]).call trivial
  have c4:=(Uz 6 JFA JIz).call trivial
  unfold brS bBr JQN
  generalize hm:UP (JCM now (a.tdiv 2)) (4+b.tmod 4) (a.tdiv 2) (b.tdiv 3) now=M at*
  obtain⟨inn,nx⟩:=M
  generalize hT:toS now a=T at*
  generalize hS:Jg now a=S at*
  rw[JA]
  simp only[UI,Va,Vb]at c0 c1
  simp only[JIz,UU,JP,JW,JX,Va,Vb]at c2 c3 c4
  rw[JV inn]at c0
  rw[JV T]at c1
  simp only[go_sem,JQ6,UI,Jz S,Vv,Vc,Nat.reduceAdd,Nat.reduceEqDiff,Nat.reduceBEq,Nat.reduceLeDiff,reduceCtorEq,↓reduceIte]
  cases hc:k.tmod 13==11
  · simp only[go_sem,hc,e1,e2,e3,Vu,Vv,Vc,Nat.reduceAdd,Nat.reduceEqDiff,Nat.reduceBEq,Nat.reduceLeDiff,reduceCtorEq,↓reduceIte]
    refine⟨by decide,by decide,by decide,by decide,?_⟩
    refine JT rfl c0 trivial ?_
    simp only[go_sem,Vv,Vc,Nat.reduceAdd,Nat.reduceEqDiff,Nat.reduceBEq,Nat.reduceLeDiff,reduceCtorEq,↓reduceIte]
    refine⟨by simp,?_⟩
    refine JI rfl c1 trivial ?_
    simp only[go_sem,Vv,Vc,Nat.reduceAdd,Nat.reduceEqDiff,Nat.reduceBEq,Nat.reduceLeDiff,reduceCtorEq,↓reduceIte]
    refine⟨by simp,by simp,by simp,rfl,?_⟩
    rw[←JV inn,←JV T]
    refine JK (fun n s=>∃i:Nat,i≤2+(a.tmod 2).toNat∧n=2+(a.tmod 2).toNat-i∧
      s=⟨[(3,.ref 3 0),(5,.ref 5 0),(6,.ref 6 0),(7,.ref 7 0),(10,.d (.list 1 (L4 (JH inn) (JH T)))),(11,.d (.int .i64 i))],
        [(3,.box [.d (.int .u8 k),.d (.int .u8 a),.d (.int .u8 b)]),(5,.box [.d (.int .i64 S.op),.d (.int .i64 S.int),.d (.str S.text),.d (.list 6 (S.value.map J0)),.d (.list 5 (S.args.map Jf))]),
         (6,.box [.d (.str []),.d (.int .i64 0),.d (.int .i64 0),.d (.int .i64 0),.d (.int .i64 0),.d (.str []),.d (.str []),.d (.nil 5),.d (.nil 6),.d (.nil 2),.d (.nil 2)]),
         (7,.box [.d (.str []),.d (.int .i64 11),.d (.int .i64 0),.d (.int .i64 0),.d (.int .i64 0),.d (.str []),.d (.str []),.d (.nil 5),.d (.nil 6),.d (.nil 2),.ms 97 i]),
         (97,.row i 2 ((List.range i).map (JI2 true a b S inn T)))]⟩) ?_ ?_
    · refine⟨_,_,(Wk.JCZ 7 10 97 2 _ rfl rfl rfl (by decide)).trans (Wk.less ?_),0,Nat.zero_le _,rfl,rfl⟩
      simp[put,go_sem,L4,JQM]
      trace_state
    · rintro n s ⟨i,hi,rfl,rfl⟩
      have hin:(a.tmod 2).toNat≤1:=by omega
      obtain⟨x1,x2⟩:=JI3 b i h2
      have f1:IntKind.i64.wrap (1+a.tmod 2)=1+a.tmod 2:=J7 (by omega) (by omega)
      have f2:IntKind.i64.wrap (b+(i:Int))=b+i:=J7 (by omega) (by omega)
      by_cases hlt:i<2+(a.tmod 2).toNat
      · have hd:decide ((i:Int)≤1+a.tmod 2)=true:=by simp;omega
        obtain⟨hc1,hc2⟩:=JHt (JH inn) (JH T) _ x1
        have hraw:JI2 true a b S inn T i=JGU (whn true a b S i) (nth (L4 (JH inn) (JH T)) (idx b i)):=rfl
        obtain⟨D,hD⟩:∃D,nth (L4 (JH inn) (JH T)) (idx b i)=D:=⟨_,rfl⟩
        rw[hD]at hc1 hc2 hraw
        simp only[Dat.cells]at hc1
        simp only[Av.cells]at hc2
        simp only[go_sem,hd,e4,e5,f1,f2,←x2,JOQ,hD,hc1,hc2,Vv,Vc,Nat.reduceAdd,Nat.reduceEqDiff,Nat.reduceBEq,Nat.reduceLeDiff,reduceCtorEq,↓reduceIte]
        refine⟨by decide,by decide,by omega,by decide,?_⟩
        refine⟨by decide,Xc (b.tmod 5==0) (fun _=>?_) ?_⟩
        · simp only[go_sem,Vv,Vc,Nat.reduceAdd,Nat.reduceEqDiff,Nat.reduceBEq,Nat.reduceLeDiff,reduceCtorEq,↓reduceIte]
          intro h;cases h
        · cases hw:(decide ((i:Int)≤a.tmod 2)||b.tmod 5==0)
          · simp only[go_sem,hw,Vu,Vv,Vc,Nat.reduceAdd,Nat.reduceEqDiff,Nat.reduceBEq,Nat.reduceLeDiff,reduceCtorEq,↓reduceIte]
            refine⟨by simp,by simp;omega,2+(a.tmod 2).toNat-(i+1),_,by omega,Wk.less ?_,i+1,by omega,rfl,rfl⟩
            rw[List.range_succ,Vw]
            simp only[go_sem,JF i (by omega),Va,Vb,hraw,JGU,whn,hw,eqB,UU,JIz,JP,JW,JX,Jz S,List.isEmpty_nil,List.isEmpty_cons,Vt,Bool.false_and,Vu,List.length_range,Vv,Vc,Nat.reduceAdd,Nat.reduceEqDiff,Nat.reduceBEq,Nat.reduceLeDiff,reduceCtorEq,↓reduceIte]
          · simp only[go_sem,hw,Jz S,Vv,Vc,Nat.reduceAdd,Nat.reduceEqDiff,Nat.reduceBEq,Nat.reduceLeDiff,reduceCtorEq,↓reduceIte]
            cases hz:decide ((i:Int)>0)
            · have hz':(0<i)=False:=by simp at hz;simp;omega
              simp only[go_sem,hz,Jz S,Vu,Vv,Vc,Nat.reduceAdd,Nat.reduceEqDiff,Nat.reduceBEq,Nat.reduceLeDiff,reduceCtorEq,↓reduceIte]
              refine⟨by simp,by simp,by simp;omega,2+(a.tmod 2).toNat-(i+1),_,by omega,Wk.less ?_,i+1,by omega,rfl,rfl⟩
              rw[List.range_succ,Vw]
              simp only[go_sem,JF i (by omega),Va,Vb,hraw,JGU,whn,hw,hz',eqB,UU,JIz,JP,JW,JX,Jz S,List.isEmpty_nil,List.isEmpty_cons,Vt,Bool.false_and,Vu,List.length_range,Vv,Vc,Nat.reduceAdd,Nat.reduceEqDiff,Nat.reduceBEq,Nat.reduceLeDiff,reduceCtorEq,↓reduceIte]
            · have hz':(0<i)=True:=by simp at hz;simp;omega
              simp only[go_sem,hz,Jz S,Vv,Vc,Nat.reduceAdd,Nat.reduceEqDiff,Nat.reduceBEq,Nat.reduceLeDiff,reduceCtorEq,↓reduceIte]
              refine⟨by simp,?_⟩
              refine JT rfl c2 trivial ?_
              simp only[go_sem,Vv,Vc,Nat.reduceAdd,Nat.reduceEqDiff,Nat.reduceBEq,Nat.reduceLeDiff,reduceCtorEq,↓reduceIte]
              refine JT rfl c3 trivial ?_
              simp only[go_sem,Vv,Vc,Nat.reduceAdd,Nat.reduceEqDiff,Nat.reduceBEq,Nat.reduceLeDiff,reduceCtorEq,↓reduceIte]
              refine⟨by simp,?_⟩
              refine JT rfl (JEk c4 (by simp only[Va,Vb,Av.canon,Dat.canon,JG])) trivial ?_
              simp only[go_sem,Vv,Vc,Nat.reduceAdd,Nat.reduceEqDiff,Nat.reduceBEq,Nat.reduceLeDiff,reduceCtorEq,↓reduceIte]
              refine⟨by simp,by simp,by simp;omega,2+(a.tmod 2).toNat-(i+1),_,by omega,Wk.less ?_,i+1,by omega,rfl,rfl⟩
              rw[List.range_succ,Vw]
              simp only[go_sem,JF i (by omega),Va,Vb,hraw,JGU,whn,hw,hz',eqB,UU,JIz,JP,JW,JX,Jz S,List.isEmpty_nil,List.isEmpty_cons,Vt,Bool.false_and,Vu,List.length_range,Vv,Vc,Nat.reduceAdd,Nat.reduceEqDiff,Nat.reduceBEq,Nat.reduceLeDiff,reduceCtorEq,↓reduceIte]
      · have hd:decide ((i:Int)≤1+a.tmod 2)=false:=by simp;omega
        obtain rfl:i=2+(a.tmod 2).toNat:=by omega
        simp only[go_sem,hd,e4,e5,f1,f2,Vv,Vc,Nat.reduceAdd,Nat.reduceEqDiff,Nat.reduceBEq,Nat.reduceLeDiff,reduceCtorEq,↓reduceIte]
        refine⟨by decide,?_⟩
        rw[JDO _ _ _ _ _ _ _ h2]
        rfl
  · simp only[go_sem,hc,e1,e2,e3,Vv,Vc,Nat.reduceAdd,Nat.reduceEqDiff,Nat.reduceBEq,Nat.reduceLeDiff,reduceCtorEq,↓reduceIte]
    refine⟨by decide,by decide,by decide,by decide,?_⟩
    refine JT rfl c0 trivial ?_
    simp only[go_sem,Vv,Vc,Nat.reduceAdd,Nat.reduceEqDiff,Nat.reduceBEq,Nat.reduceLeDiff,reduceCtorEq,↓reduceIte]
    refine⟨by simp,?_⟩
    refine JI rfl c1 trivial ?_
    simp only[go_sem,Vv,Vc,Nat.reduceAdd,Nat.reduceEqDiff,Nat.reduceBEq,Nat.reduceLeDiff,reduceCtorEq,↓reduceIte]
    refine⟨by simp,by simp,by simp,rfl,?_⟩
    rw[←JV inn,←JV T]
    refine JK (fun n s=>∃i:Nat,i≤2+(a.tmod 2).toNat∧n=2+(a.tmod 2).toNat-i∧
      s=⟨[(3,.ref 3 0),(5,.ref 5 0),(6,.ref 6 0),(7,.ref 7 0),(10,.d (.list 1 (L4 (JH inn) (JH T)))),(11,.d (.int .i64 i))],
        [(3,.box [.d (.int .u8 k),.d (.int .u8 a),.d (.int .u8 b)]),(5,.box [.d (.int .i64 S.op),.d (.int .i64 S.int),.d (.str S.text),.d (.list 6 (S.value.map J0)),.d (.list 5 (S.args.map Jf))]),
         (6,.box [.d (.str []),.d (.int .i64 0),.d (.int .i64 0),.d (.int .i64 0),.d (.int .i64 0),.d (.str []),.d (.str []),.d (.nil 5),.d (.nil 6),.d (.nil 2),.d (.nil 2)]),
         (7,.box [.d (.str []),.d (.int .i64 12),.d (.int .i64 0),.d (.int .i64 0),.d (.int .i64 0),.d (.str []),.d (.str []),.d (.nil 5),.d (.nil 6),.d (.nil 2),.ms 97 i]),
         (97,.row i 2 ((List.range i).map (JI2 false a b S inn T)))]⟩) ?_ ?_
    · refine⟨_,_,(Wk.JCZ 7 10 97 2 _ rfl rfl rfl (by decide)).trans (Wk.less ?_),0,Nat.zero_le _,rfl,rfl⟩
      simp[put,go_sem,L4,JQM]
      trace_state
    · rintro n s ⟨i,hi,rfl,rfl⟩
      have hin:(a.tmod 2).toNat≤1:=by omega
      obtain⟨x1,x2⟩:=JI3 b i h2
      have f1:IntKind.i64.wrap (1+a.tmod 2)=1+a.tmod 2:=J7 (by omega) (by omega)
      have f2:IntKind.i64.wrap (b+(i:Int))=b+i:=J7 (by omega) (by omega)
      by_cases hlt:i<2+(a.tmod 2).toNat
      · have hd:decide ((i:Int)≤1+a.tmod 2)=true:=by simp;omega
        obtain⟨hc1,hc2⟩:=JHt (JH inn) (JH T) _ x1
        have hraw:JI2 false a b S inn T i=JGU (whn false a b S i) (nth (L4 (JH inn) (JH T)) (idx b i)):=rfl
        obtain⟨D,hD⟩:∃D,nth (L4 (JH inn) (JH T)) (idx b i)=D:=⟨_,rfl⟩
        rw[hD]at hc1 hc2 hraw
        simp only[Dat.cells]at hc1
        simp only[Av.cells]at hc2
        simp only[go_sem,hd,e4,e5,f1,f2,←x2,JOQ,hD,hc1,hc2,Vv,Vc,Nat.reduceAdd,Nat.reduceEqDiff,Nat.reduceBEq,Nat.reduceLeDiff,reduceCtorEq,↓reduceIte]
        refine⟨by decide,by decide,by omega,by decide,?_⟩
        simp only[go_sem,Int.reduceBEq,Vu,Vv,Vc,Nat.reduceAdd,Nat.reduceEqDiff,Nat.reduceBEq,Nat.reduceLeDiff,reduceCtorEq,↓reduceIte]
        refine⟨by simp,by simp;omega,2+(a.tmod 2).toNat-(i+1),_,by omega,Wk.less ?_,i+1,by omega,rfl,rfl⟩
        rw[List.range_succ,Vw]
        simp only[go_sem,JF i (by omega),Va,Vb,hraw,JGU,whn,eqB,UU,JIz,JP,JW,JX,Jz S,List.isEmpty_nil,List.isEmpty_cons,Vt,Bool.false_and,Vu,List.length_range,Vv,Vc,Nat.reduceAdd,Nat.reduceEqDiff,Nat.reduceBEq,Nat.reduceLeDiff,reduceCtorEq,↓reduceIte]
      · have hd:decide ((i:Int)≤1+a.tmod 2)=false:=by simp;omega
        obtain rfl:i=2+(a.tmod 2).toNat:=by omega
        simp only[go_sem,hd,e4,e5,f1,f2,Vv,Vc,Nat.reduceAdd,Nat.reduceEqDiff,Nat.reduceBEq,Nat.reduceLeDiff,reduceCtorEq,↓reduceIte]
        refine⟨by decide,?_⟩
        rw[JDO _ _ _ _ _ _ _ h2]
        rfl
end Go.Proofs
namespace Go.Proofs
open Go Av
open Av.Y
def JRb:Ic:=q (R (ox 1 0<|ow 2 false<|N) [0,2])<|q (q (R (of 3 1 1<|ol 4 3<|N) [3])<|D (.block 0<|q (q (R (oi 6 .eql 4 13<|om 5 6<|N) [6])<|I 5 S (R (oi 7 .eql 4 14<|om 5 7<|N) [7]))<|D (I 5 (q (R (ow 2 true<|N) [1,4,5])<|.ret) (q (q (R (oi 9 .eql 4 11<|om 8 9<|N) [5,9])<|D (I 8 S (R (oi 10 .eql 4 12<|om 8 10<|N) [4,10])) [4])<|D (I 8 (q (R (of 11 1 10<|ol 12 11<|oh 13 12<|oi 14 .gtr 13 0<|om 15 14<|.sc 15 true (of 16 1 10<|ol 17 16<|cl 18 182 [t 17,.k (.fn (.func 183) [] [])]<|og 19 18<|N) (t 19) 20 (om 2 20<|N)) [1,8,11,12,13,14,15,20])<|.ret) S) [1,8])) []) [7,10,11])<|q (.reg (ow 2 false<|N))<|.ret
theorem JRc:FT 104 21 JRb [.tmp 2]:=.o Tryz.func104
def JRd:Ic:=q (R (ox 1 0<|ow 2 false<|N) [0,2])<|q (R (of 3 1 1<|ol 4 3<|cl 5 68 [t 4]<|og 6 5<|om 2 6<|N) [1,3,4,5,6])<|.ret
theorem ok183:FT 183 7 JRd [.tmp 2]:=.o Tryz.func183
def ir68:Ic:=q (R (ow 2 false<|N) [2])<|q (R (om 3 0<|oh 4 3<|oi 5 .gtr 4 0<|om 6 5<|.sc 6 true (om 7 0<|om 8 0<|oh 9 8<|oi 10 .sub 9 1<|oa true 11 11 7 10<|oL 12 11 11<|cl 13 104 [t 12]<|N) (t 13) 14 (om 2 14<|N)) [0,3,4,5,6,14])<|.ret
theorem ok68:FT 68 15 ir68 [.tmp 2]:=.o Tryz.func68
def ir60:Ic:=q (R (ok 2 (.k (.str []))<|N) [2])<|q (.reg (ok 3 (.k (.str []))<|N))<|q (q (R (om 6 0<|oh 7 6<|oz 8 0<|N) [0])<|D (.block 0<|.loop (q (.reg (ot 9 .lss 8 7<|N))<|q (D (I 9 S (E 0)) [9])<|q (D (.block 1<|q (R (oa false 10 1 6 8<|ol 11 10<|om 5 11<|N) [10,11])<|q (R (om 12 5<|om 13 3<|ot 14 .sne 12 13<|N) [12,13])<|D (I 14 (q (R (om 15 5<|om 2 15<|N) [3,6,7,8,5,14,15])<|.ret) S) [5,14]) [])<|R (oi 16 .add 8 1<|om 8 16<|N) [16])) [6,7,8,9,10,11,5])<|q (R (om 17 3<|om 2 17<|N) [3,17])<|.ret
theorem ok60:FT 60 18 ir60 [.tmp 2]:=.o Tryz.func60
def ir61:Ic:=q (R (ok 4 (.k (.str []))<|N) [4])<|q (R (om 5 0<|oo 6 (.bls 1 [t 5])<|om 7 1<|oo 8 (.app 1 (t 6) (t 7))<|cl 9 112 [t 8,.k (.str [95])]<|ob 10 .cat (.k (.str [115])) (t 9)<|om 4 10<|N) [0,1,5,6,7,8,9,10])<|.ret
theorem ok61:FT 61 11 ir61 [.tmp 4]:=.o Tryz.func61
def JRe:Ic:=q (R (ok 4 (.k (.str []))<|N) [4])<|q (.reg (ok 5 (.k (.nil 1))<|N))<|q (q (R (om 8 0<|oh 9 8<|oz 10 0<|N) [0])<|D (.block 0<|.loop (q (.reg (ot 11 .lss 10 9<|N))<|q (D (I 11 S (E 0)) [11])<|q (D (.block 1<|q (R (oa false 12 1 8 10<|ol 13 12<|om 7 13<|N) [12,13])<|R (om 14 5<|om 15 7<|cl 16 184 [t 15]<|oo 17 (.bls 1 [t 16])<|oo 18 (.app 1 (t 14) (t 17))<|om 5 18<|N) [7,14,15,16,17,18]) [])<|R (oi 19 .add 10 1<|om 10 19<|N) [19])) [8,9,10,11,7])<|q (R (om 20 5<|om 21 1<|cl 22 185 [t 20,t 21]<|om 4 22<|N) [1,5,20,21,22])<|.ret
theorem JRf:FT 112 23 JRe [.tmp 4]:=.o Tryz.func112
end Go.Proofs
namespace Go.Proofs
open Go Av
mutual
def JAr:Ste→Bool
 |.mk _ k _ _ _ _ _ _ _ _ b=>(k==13||k==14)||((k==11||k==12)&&(decide (0<b.length)&&JFl b))
def JFl:List Brn→Bool
 |[]=>true
 |b::r=>JDT b&&JFl r
def JDT:Brn→Bool
 |.mk _ s=>Uk s
def Uk:List Ste→Bool
 |[]=>false
 |[x]=>JAr x
 |_::y::r=>Uk (y::r)
end
theorem JOS(s:Ste):JAr s=((s.kind==13||s.kind==14)||((s.kind==11||s.kind==12)&&(decide (0<s.branches.length)&&JFl s.branches))):=by cases s;simp only[JAr,Ste.kind,Ste.branches];try rfl
theorem JQP(b:Brn):JDT b=Uk b.steps:=by cases b;simp only[JDT,Brn.steps]
theorem JHu:∀l:List Brn,JFl l= !(l.any fun b=> !JDT b)
 |[]=>rfl
 |b::r=>by simp only[JFl,List.any_cons,JHu r];cases JDT b<;>simp
theorem JEl:∀(l:List Ste) (h:0<l.length),Uk l=JAr (l[l.length-1]'oM)
 |[x],_=>by simp[Uk]
 |_::y::r,_=>by
  rw[Uk,JEl (y::r) sP];simp
theorem JOT(l:List Ste)(h:∀x∈l,PT 104 [JH x] (.d (.bool (JAr x)))):PT 68 [.list 11 (l.map JH)] (.d (.bool (Uk l))):=by
 refine J3.Jk ok68.has fun hfit=>?_
 have hl:l.length≤68719476736:=by have:=(hfit _ (Vh)).1;simpa using this
 refine ok68.pc ?_;simp only[go_sem,ir68,Vc,simprocAttr];refine Xc (Uk l) (fun hp=>?_) ?_
 ·have hpos:0<l.length:=by have:=of_decide_eq_true hp;omega
  have hlt:l.length-1<l.length:=oM;have hx:=Zo hlt;have hc:=(h l[l.length-1] (Vk _)).call trivial;have hw:IntKind.i64.wrap ((l.length:Int)-1)=((l.length-1:Nat):Int):=by rw[wrap64 oM oM];omega
  rw[←JEl l hpos]at hc;rw[JV]at hc;simp only[go_sem,hw,hx,Vv,Vc,simprocAttr];refine⟨oM,wn hc ?_⟩;exact zz trivial
 ·have e:(decide ((l.length:Int)>0)&&Uk l)=Uk l:=by
   cases l with
   |nil=>simp[Uk]
   |cons x r=>simp<;>omega
  simp only[go_sem,e,simprocAttr]
theorem JQQ(b:Brn)(h:PT 68 [.list 11 (b.steps.map JH)] (.d (.bool (Uk b.steps)))):PT 183 [J1 b] (.d (.bool (!JDT b))):=by
 refine ok183.pc ?_;have hc:=h.call trivial;rw[Xy,JQP];simp only[go_sem,JRd,simprocAttr];refine wc hc trivial
theorem JQR(s:Ste)(h:∀b∈s.branches,PT 183 [J1 b] (.d (.bool (!JDT b)))):PT 104 [JH s] (.d (.bool (JAr s))):=by
 refine J3.Jk JRc.has fun hfit=>?_
 have hl:s.branches.length≤68719476736:=by
  have:=hfit _ (Vh);rw[JV]at this;simp only[fits,Un,Vc]at this;omega
 refine JRc.pc ?_;have hc:=(JP8 (cs:=[]) s.branches h hl).call trivial;have e:=JHu s.branches;generalize hE:JAr s=E;rw[JOS]at hE;rw[JV];simp only[go_sem,JRb,Vc,simprocAttr];generalize(s.kind==13)=k13 at*;generalize(s.kind==14)=k14 at*;generalize(s.kind==11)=k11 at*;generalize(s.kind==12)=k12 at*;have fin:∀(b:Bool),(b=true→JFl s.branches=true∧0<s.branches.length)→True:=fun _ _=>trivial
 have rest:k13=false→k14=false→(k11||k12)=true→(decide ((s.branches.length:Int)>0)&& !(s.branches.any fun b=> !JDT b))=E:=by
  intro a b c;rw[←hE,a,b,←e];simp only[Bool.or_self,Bool.false_or,c,Vt];congr 1;exact decide_eq_decide.2 oM
 cases k13 with
 |true=>simp at hE;subst hE;simp only[go_sem,simprocAttr]
 |false=>
  cases k14 with
  |true=>simp at hE;subst hE;simp only[go_sem,simprocAttr]
  |false=>
   cases k11 with
   |true=>
    have rest:=rest rfl rfl rfl;refine zz ?_;refine sq (!(s.branches.any fun b=> !JDT b)) ?_ ?_
    ·refine zz ?_;refine wc hc trivial
    ·simp only[go_sem,rest,simprocAttr]
   |false=>
    cases k12 with
    |true=>
     have rest:=rest rfl rfl rfl;refine zz ?_;refine sq (!(s.branches.any fun b=> !JDT b)) ?_ ?_
     ·refine zz ?_;refine wc hc trivial
     ·simp only[go_sem,rest,simprocAttr]
    |false=>simp at hE;subst hE;simp only[go_sem,simprocAttr]
mutual
theorem JSy:∀(s:Ste),PT 104 [JH s] (.d (.bool (JAr s)))
 |.mk n k u t l x c e r a b=>JQR _ (JRh b)
theorem JRg:∀(l:List Ste),∀x∈l,PT 104 [JH x] (.d (.bool (JAr x)))
 |[],x,h=>by cases h
 |v::r,x,h=>by
  by_cases e:x=v
  ·rw[e];exact JSy v
  ·exact JRg r x ((VA.1 h).resolve_left e)
theorem p183:∀(b:Brn),PT 183 [J1 b] (.d (.bool (!JDT b)))
 |.mk w s=>JQQ _ (JOT s (JRg s))
theorem JRh:∀(l:List Brn),∀x∈l,PT 183 [J1 x] (.d (.bool (!JDT x)))
 |[],x,h=>by cases h
 |v::r,x,h=>by
  by_cases e:x=v
  ·rw[e];exact p183 v
  ·exact JRh r x ((VA.1 h).resolve_left e)
end
theorem p68(l:List Ste):PT 68 [.list 11 (l.map JH)] (.d (.bool (Uk l))):=JOT l fun x _=>JSy x
mutual
def JSz:Ste→Int→Int
 |.mk _ _ _ _ _ _ _ _ _ _ b,n=>JLX b n
def ZG:List Ste→Int→Int
 |[],n=>n
 |x::y,n=>ZG y (JSz x n)
def cnB:Brn→Int→Int
 |.mk _ l,n=>IntKind.i64.wrap (n+ZG l l.length)
def JLX:List Brn→Int→Int
 |[],n=>n
 |x::y,n=>JLX y (cnB x n)
end
theorem JS0(x:Ste)(n:Int):JSz x n=JLX x.branches n:=by cases x;simp only[JSz,Ste.branches]
theorem JS1(x:Brn)(n:Int):cnB x n=IntKind.i64.wrap (n+ZG x.steps x.steps.length):=by cases x;simp only[cnB,Brn.steps]
def JLY(l:List Ste):Prop:=PT 102 [.list 11 (l.map JH)] (.d (.int .i64 (ZG l l.length)))
theorem JJ5(l:List Ste)(h:∀x∈l,∀b∈x.branches,JLY b.steps):JLY l:=by
 refine J3.Jk JQ8.has fun hfit=>?_
 have hl:l.length≤68719476736:=by have:=(hfit (.list 11 (l.map JH)) sP).1;simpa using this
 have hfs:∀x∈l,x.branches.length≤68719476736:=by
  intro x hxm;have:=UG.1 (hfit (.list 11 (l.map JH)) sP).2 _ (VC.2 ⟨x,hxm,rfl⟩);rw[JV]at this;simp only[fits,Un,Vc]at this;omega
 clear hfit;refine JQ8.pc ?_;generalize hR:ZG l l.length=R;simp only[go_sem,JQ7,Vv,Vc,Nat.reduceAdd,Nat.reduceEqDiff,Nat.reduceBEq,Nat.reduceLeDiff,reduceCtorEq,↓reduceIte];refine JK (fun n s=>∃(k:Nat) (z:Int) (y:Int),k≤l.length∧n=l.length-k∧ZG (l.drop k) z=R∧
  s=⟨[(0,.d (.list 11 (l.map JH))),(3,.d (.int .i64 z)),(4,.d (.int .i64 k))],[]⟩) ?_ ?_
 ·refine⟨_,_,Wk.less ?_,0,l.length,0,Nat.zero_le _,rfl,by simpa using hR,rfl⟩;simp[go_sem]
 ·rintro n s ⟨k,z,y,hk,rfl,hinv,rfl⟩;by_cases hlt:k<l.length
  ·have hd:=dT hlt;have hn:=Zo hlt;have hbr:=hfs _ (Vk hlt);have hV:=h _ (Vk hlt);rw[Vq hlt,ZG,JS0]at hinv;generalize l[k]=x at*;simp only[go_sem,hd,Vv,Vc,Nat.reduceAdd,Nat.reduceEqDiff,Nat.reduceBEq,Nat.reduceLeDiff,reduceCtorEq,↓reduceIte];refine JK (fun n s=>∃(j:Nat) (q:Int),j≤x.branches.length∧n=x.branches.length-j∧ZG (l.drop (k+1)) (JLX (x.branches.drop j) q)=R∧
    s=⟨[(0,.d (.list 11 (l.map JH))),(3,.d (.int .i64 q)),(4,.d (.int .i64 k)),(5,.d (.int .i64 j))],[]⟩) ?_ ?_
   ·refine⟨_,_,Wk.less ?_,0,z,Nat.zero_le _,rfl,by simpa using hinv,rfl⟩;simp[go_sem]
   ·rintro n s ⟨j,q,hj,rfl,hinv2,rfl⟩;by_cases hjl:j<x.branches.length
    ·have hdj:decide ((j:Int)<(x.branches.length:Int))=true:=sO;have hnb:=YV hjl;have hc:=(hV _ (Vk hjl)).call trivial;rw[Vq hjl,JLX,JS1]at hinv2;generalize x.branches[j]=b at*;simp only[Va,Vb]at hc;simp only[go_sem,hn,hnb,hdj,Vv,Vc,Nat.reduceAdd,Nat.reduceEqDiff,Nat.reduceBEq,Nat.reduceLeDiff,reduceCtorEq,↓reduceIte];refine⟨oM,dC,oM,dC,oM,dC,?_⟩;refine wn hc ?_;simp only[go_sem,Vv,Vc,Nat.reduceAdd,Nat.reduceEqDiff,Nat.reduceBEq,Nat.reduceLeDiff,reduceCtorEq,↓reduceIte];refine⟨x.branches.length-(j+1),_,oM,Wk.less ?_,j+1,_,oM,rfl,hinv2,rfl⟩;simp only[go_sem,JF j oM,Vv,Vc,Nat.reduceAdd,Nat.reduceEqDiff,Nat.reduceBEq,Nat.reduceLeDiff,reduceCtorEq,↓reduceIte]
    ·have hdj:decide ((j:Int)<(x.branches.length:Int))=false:=sO;obtain rfl:j=x.branches.length:=oM;rw[List.drop_length,JLX]at hinv2;simp only[go_sem,hn,hdj,Vv,Vc,Nat.reduceAdd,Nat.reduceEqDiff,Nat.reduceBEq,Nat.reduceLeDiff,reduceCtorEq,↓reduceIte];refine⟨oM,dC,l.length-(k+1),_,oM,Wk.less ?_,k+1,q,0,oM,rfl,hinv2,rfl⟩;simp only[go_sem,JF k oM,Vv,Vc,Nat.reduceAdd,Nat.reduceEqDiff,Nat.reduceBEq,Nat.reduceLeDiff,reduceCtorEq,↓reduceIte]
  ·have hd:=dF hlt;obtain rfl:k=l.length:=oM;rw[List.drop_length,ZG]at hinv;subst hinv;simp only[go_sem,hd,Vv,Vc,Nat.reduceAdd,Nat.reduceEqDiff,Nat.reduceBEq,Nat.reduceLeDiff,reduceCtorEq,↓reduceIte]
mutual
theorem JOU:∀(l:List Ste),∀x∈l,∀b∈x.branches,JLY b.steps
 |[],x,h,_,_=>by cases h
 |v::q,x,h,b,hb=>by
  by_cases e:x=v
  ·rw[e]at hb;exact v157S v b hb
  ·exact JOU q x ((VA.1 h).resolve_left e) b hb
theorem v157S:∀(x:Ste),∀b∈x.branches,JLY b.steps
 |.mk n k u t l x c e ru a bs=>JOV bs
theorem JOV:∀(l:List Brn),∀b∈l,JLY b.steps
 |[],b,h=>by cases h
 |v::q,b,h=>by
  by_cases e:b=v
  ·rw[e];exact v157B v
  ·exact JOV q b ((VA.1 h).resolve_left e)
theorem v157B:∀(b:Brn),JLY b.steps
 |.mk w s=>JJ5 s (JOU s)
end
theorem JQS(l:List Ste):PT 102 [.list 11 (l.map JH)] (.d (.int .i64 (ZG l l.length))):=JJ5 l (JOU l)
structure S3 where
 k:Int
 a:Int
 b:Int
def JAs(x:S3):Dat:=UI x.k x.a x.b
def JEm(x:S3):Prop:=0≤x.k∧x.k≤255∧0≤x.a∧x.a≤255∧0≤x.b∧x.b≤255
def mdS(x:S3)(now:Str):Ste×Str:=UP (brS x.k x.a x.b now) x.k x.a x.b now
theorem JLZ(br:Ste)(k a b:Int)(now:Str)(h:now.length≤1000):(UP br k a b now).2.length≤1000:=by
 unfold UP
 repeat' split
 all_goals first|exact h|exact(show 4≤1000 by decide)
theorem JOW(x:S3)(now:Str)(h:JEm x)(hn:now.length≤1000):PT 103 [JAs x,.str now,.bool true] (.tup [.d (JH (mdS x now).1),.d (.str (mdS x now).2)]):=
 JJ4 _ _ _ _ _ _ h.1 h.2.2.1 h.2.2.2.1 h.2.2.2.2.1 h.2.2.2.2.2 (JQO x.k x.a x.b now h.1 h.2.2.1 h.2.2.2.1 h.2.2.2.2.1 h.2.2.2.2.2 hn)
def rtR:List S3→Nat→List Ste→Str→S3→List Ste
 |[],_,out,now,last=>out++[toS now last.a]
 |x::r,i,out,now,last=>if(decide ((i:Int)<6)&&decide (ZG out out.length<16))then(if JAr (mdS x now).1 then out++[(mdS x now).1]else rtR r (i+1) (out++[(mdS x now).1]) (mdS x now).2 x)else out++[toS now last.a]
theorem JOX{xs:List S3}{k:Nat}(h:k<xs.length):nth (xs.map JAs) k=.agg [.int .u8 xs[k].k,.int .u8 xs[k].a,.int .u8 xs[k].b]:=JU JAs h
theorem JS2(l:List S3)(h:∀x∈l,JEm x):PT 54 [.list 3 (l.map JAs)] (.d (.list 11 ((rtR l 0 [] ZF ⟨0,0,0⟩).map JH))):=by
 refine J3.Jk ok54.has fun hfit=>?_
 have hl:l.length≤68719476736:=by have:=(hfit (.list 3 (l.map JAs)) sP).1;simpa using this
 clear hfit;refine ok54.pc ?_;generalize hR:rtR l 0 [] ZF ⟨0,0,0⟩=R;simp only[go_sem,ir54,Vv,Vc,simprocAttr];refine JK (fun n s=>∃(k:Nat) (out:List Ste) (now:Str) (z:S3),k≤l.length∧n=l.length-k∧rtR (l.drop k) k out now z=R∧out.length=k∧now.length≤1000∧k≤6∧
  s=⟨[(0,.d (.list 3 (l.map JAs))),(3,.ms 37 k),(4,.d (.str now)),(5,.ref 5 0),(6,.d (.int .i64 k))],[(5,.box [.d (.int .u8 z.k),.d (.int .u8 z.a),.d (.int .u8 z.b)]),(37,.row k 11 (out.map JH))]⟩) ?_ ?_
 ·refine⟨_,_,(Wk.JGu 3 37 11 rfl rfl dC).trans (Wk.less ?_),0,[],ZF,⟨0,0,0⟩,Nat.zero_le _,rfl,by simpa using hR,rfl,dC,oM,rfl⟩;simp[put,go_sem]
 ·rintro n s ⟨k,out,now,z,hk,rfl,hinv,ho,hnow,hk6,rfl⟩;by_cases hlt:k<l.length
  ·have hd:=dT hlt;have hn:=JOX hlt;have hok:=h _ (Vk hlt);rw[Vq hlt,rtR]at hinv;generalize hX:l[k]=x at*;have cM:=(JOW x now hok hnow).call (by simp[Ug]);have cE:=(JSy (mdS x now).1).call trivial;have cT:=(JGR now z.k z.a z.b hnow).call trivial;have hcl:JG (out.map JH++[JH (toS now z.a)])=out.map JH++[JH (toS now z.a)]:=by
    have:=Xq (out++[toS now z.a]);rwa[Vw]at this
   rw[JV (toS now z.a)]at hcl;have hcn:PT 102 ([Dat.list 11 (out.map JH)].map Dat.canon) (.d (.int .i64 (ZG out out.length))):=by
    simpa only[Va,Vb,Dat.canon,Xq]using JQS out
   have cB:CT 102 [.ms 37 k] [(37,some (.row k 11 (out.map JH)))] (.d (.int .i64 (ZG out out.length))) []:=
    hcn.borrow rfl (p:=k=k∧True) (u:=[(37,.frz k 11 (out.map JH))]) (fun H hH=>by simp only[Jl,XI,Uw,hH (37,_) (Vh),List.append_nil]) ⟨rfl,trivial⟩
   have hnx:=JLZ (brS x.k x.a x.b now) x.k x.a x.b now hnow;rw[show UP (brS x.k x.a x.b now) x.k x.a x.b now=mdS x now from rfl]at hnx;generalize hM:mdS x now=M at*;obtain⟨s,nx⟩:=M;simp only[JAs,UI,Va,Vb]at cM cE cT;rw[JV s]at cM cE;rw[JV (toS now z.a)]at cT;simp only[go_sem,hd,Vv,Vc,simprocAttr];refine sq (decide (ZG out out.length<16)) ?_ ?_
   ·simp only[go_sem,Vv,Vc,simprocAttr];refine wn cB ?_;simp only[go_sem,Vv,Vc,simprocAttr]
   ·cases hq:(decide ((k:Int)<6)&&decide (ZG out out.length<16))
    ·simp only[go_sem,hq,Vu,Vv,Vc,simprocAttr];refine wn cT ?_;simp only[go_sem,Vv,Vc,simprocAttr];refine⟨sP,oM,?_⟩;simp only[hq,Vu,if_false]at hinv;rw[hcl,←hinv,Vw,Va,Vb,←JV]
    ·simp only[go_sem,hq,hn,Vv,Vc,simprocAttr];refine⟨oM,?_⟩;refine wn cM ?_;simp only[go_sem,hn,Vv,Vc,simprocAttr];refine⟨sP,oM,oM,rfl,?_⟩;refine wn cE ?_;simp only[go_sem,Vv,Vc,simprocAttr];simp only[Vi,decide_eq_true_eq]at hq;simp only[hq.1,hq.2,if_true,decide_true,Bool.and_true]at hinv;cases he:JAr s
     ·simp only[go_sem,he,Vu,Vv,Vc,simprocAttr];simp only[he,Vu,if_false]at hinv;refine⟨l.length-(k+1),_,oM,Wk.less ?_,k+1,out++[s],nx,x,oM,rfl,hinv,by simp[ho],hnx,oM,rfl⟩;rw[Vw];simp only[go_sem,JF k oM,Va,Vb,JV s,Vv,Vc,simprocAttr]
     ·simp only[go_sem,he,Vv,Vc,simprocAttr];simp only[he,if_true]at hinv;have hcs:JG (out.map JH++[JH s])=out.map JH++[JH s]:=by
       have:=Xq (out++[s]);rwa[Vw]at this
      rw[←JV,hcs,←hinv,Vw,Va,Vb]
  ·have hd:=dF hlt;obtain rfl:k=l.length:=oM;have cT:=(JGR now z.k z.a z.b hnow).call trivial;rw[List.drop_length,rtR]at hinv;subst hinv;rw[Vw];simp only[UI,Va,Vb]at cT⊢;have hcl:JG (out.map JH++[JH (toS now z.a)])=out.map JH++[JH (toS now z.a)]:=by
    have:=Xq (out++[toS now z.a]);rwa[Vw]at this
   rw[JV (toS now z.a)]at cT hcl⊢;simp only[go_sem,hd,Vv,Vc,simprocAttr];refine wn cT ?_;simp only[go_sem,Vv,Vc,simprocAttr];exact⟨sP,oM,by rw[hcl]⟩
end Go.Proofs
namespace Av
open Go
variable [Glb]
variable {xs:List Dat}{k:Nat}{x:Dat}
def Pos:Dat→List (Nat×Nat)→Nat→Nat→Prop
 |.own _ xs,[],k,c=>∃cs,xs[k]? =some (.agg cs)∧c<cs.length
 |.own _ xs,(k',c')::p,k,c=>∃cs y,xs[k']? =some (.agg cs)∧cs[c']? =some y∧Pos y p k c
 |_,_,_,_=>False
theorem getD_some(h:xs[k]? =some x):xs.getD k .opq=x:=by simp[List.getD,h]
theorem YG{y:Dat}(h:xs[k]? =some x):(xs.set k y)[k]? =some y:=by
 have:=(VB.1 h).1;rw[List.getElem?_set_self this]
theorem Za(h:xs[k]? =some x):xs.set k x=xs:=by
 obtain⟨h1,rfl⟩:=VB.1 h;exact List.set_getElem_self h1
theorem JHv(sz:Nat)(xs:List Dat)(p:List (Nat×Nat))(k c:Nat)(y:Dat): .own sz (JCa (setAt (.own sz xs) p k c y))=setAt (.own sz xs) p k c y:=by
 cases p with
 |nil=>rfl
 |cons a p=>obtain⟨k',c'⟩:=a;rfl
theorem Xi:∀{p:List (Nat×Nat)} {x:Dat} {k c:Nat},Pos x p k c→∀(R:Dat) (q:List (Nat×Nat)),nodeAt (setAt x p k c R) (p++(k,c)::q)=nodeAt R q
 |[],.own sz xs,k,c,h,R,q=>by
  obtain⟨cs,h1,h2⟩:=h;simp only[List.nil_append,setAt,getD_some h1,U0,nodeAt,cellAt,YG h1,Option.bind_some,Dat.cells];rw[List.getElem?_set_self h2]
 |(k',c')::p,.own sz xs,k,c,h,R,q=>by
  obtain⟨cs,y,h1,h2,h3⟩:=h;have hc:=(VB.1 h2).1;simp only[List.cons_append,setAt,getD_some h1,U0,nodeAt,cellAt,YG h1,Option.bind_some,Dat.cells];rw[List.getElem?_set_self hc];simp only[getD_some h2];exact Xi h3 R q
theorem JCv:∀{p:List (Nat×Nat)} {x:Dat} {k c:Nat},Pos x p k c→∀(R:Dat) (q:List (Nat×Nat)) (j o:Nat) (y:Dat),setAt (setAt x p k c R) (p++(k,c)::q) j o y=setAt x p k c (setAt R q j o y)
 |[],.own sz xs,k,c,h,R,q,j,o,y=>by
  obtain⟨cs,h1,h2⟩:=h;simp only[List.nil_append,setAt,getD_some h1,U0,getD_some (YG h1),Dat.cells];rw[getD_some (YG (Vl h2)),List.set_set,List.set_set]
 |(k',c')::p,.own sz xs,k,c,h,R,q,j,o,y=>by
  obtain⟨cs,z,h1,h2,h3⟩:=h;simp only[List.cons_append,setAt,getD_some h1,U0,getD_some (YG h1),Dat.cells,getD_some h2];rw[getD_some (YG h2),List.set_set,List.set_set,JCv h3]
theorem JJ6:∀{p:List (Nat×Nat)} {x:Dat} {k c:Nat},Pos x p k c→∀(R:Dat) (q:List (Nat×Nat)) (j o:Nat),Pos R q j o→Pos (setAt x p k c R) (p++(k,c)::q) j o
 |[],.own sz xs,k,c,h,R,q,j,o,hq=>by
  obtain⟨cs,h1,h2⟩:=h;simp only[List.nil_append,setAt,getD_some h1,U0];exact⟨cs.set c R,R,YG h1,YG (Vl h2),hq⟩
 |(k',c')::p,.own sz xs,k,c,h,R,q,j,o,hq=>by
  obtain⟨cs,z,h1,h2,h3⟩:=h;simp only[List.cons_append,setAt,getD_some h1,U0,getD_some h2,Dat.cells];exact⟨cs.set c' (setAt z p k c R),_,YG h1,YG h2,JJ6 h3 R q j o hq⟩
theorem JEn:∀{p:List (Nat×Nat)} {x:Dat} {k c:Nat},Pos x p k c→∀{R:Dat},nodeAt x (p++[(k,c)])=some R→setAt x p k c R=x
 |[],.own sz xs,k,c,h,R,hR=>by
  obtain⟨cs,h1,h2⟩:=h;simp only[List.nil_append,nodeAt,cellAt,h1,Option.bind_some,Dat.cells,Vl h2]at hR;have e:cs[c]=R:=by
   generalize cs[c]=y at hR;cases y<;>simp[nodeAt]at hR<;>exact hR
  simp only[setAt,getD_some h1,U0];rw[←e,List.set_getElem_self,Za h1]
 |(k',c')::p,.own sz xs,k,c,h,R,hR=>by
  obtain⟨cs,z,h1,h2,h3⟩:=h;simp only[List.cons_append,nodeAt,cellAt,h1,Option.bind_some,Dat.cells,h2]at hR;simp only[setAt,getD_some h1,U0,Dat.cells,getD_some h2];rw[JEn h3 hR,Za h2,Za h1]
section
variable [Rls]
theorem Con.JPP{P:Program}{f:Nat}{ds:List Dat}{x a1 b1 s1:Nat}{X:List Dat}{v:Av}(h:Con P f (ds.map .d) [] v [(x,.tre a1 b1 s1 X)])
  (hv:inT (JC (get []) [(x,.tre a1 b1 s1 X)]) v)(i:Nat):JN P f (ds.map .d) [(i,none)] (v.ren fun _=>i) [(i,.tre a1 b1 s1 X)]:=by
 have hput:∀n,(JC (get []) [(x,Obj.tre a1 b1 s1 X)] n).isSome=true→n=x:=by
  intro n;simp only[JC,upd,get];by_cases h2:n=x
  ·subst h2;simp
  ·simp[h2]
 have:=Con.call h (fun _=>i) (by intro n h;cases h) (by
   intro m n hm hn e;rw[hput m hm,hput n hn]) (by intro c hc;obtain⟨d,_,rfl⟩:=VC.1 hc;trivial) (by intro n o h;cases h) [x] (by
   intro e he;simp only[VA,List.not_mem_nil,or_false]at he;subst he;exact .inr sP) (by
   intro n o hn;simp only[JC,upd,get]at hn;split at hn
   ·cases hn;trivial
   ·cases hn) hv
 have e0:(ds.map Av.d).map (Av.ren fun _=>i)=ds.map .d:=by simp[Av.ren]
 simp only[e0,Va,Vb,Obj.ren,List.nil_append]at this;exact this
theorem Con.JKV{P:Program}{f:Nat}{ds:List Dat}{y:Dat}(h:Con P f (ds.map .d) [] (.d y) []):JN P f (ds.map .d) [] (.d y) []:=by
 have:=Con.call h (fun i=>i) (by intro n h;cases h) (by intro m n hm;cases hm) (by intro c hc;obtain⟨d,_,rfl⟩:=VC.1 hc;trivial) (by intro n o h;cases h) [] (by intro e he;cases he) (by intro n o hn;cases hn) trivial;have e0:(ds.map Av.d).map (Av.ren fun i=>i)=ds.map .d:=by simp[Av.ren]
 simp only[e0,Vb,List.append_nil]at this;exact this
end
end Av
namespace Go.Proofs
open Go Av
open Av.Y
end Go.Proofs
namespace Go.Proofs
open Go Av
open Av.Y
end Go.Proofs
namespace Go.Proofs
open Go Av
open Av.Y
def JS3:Ic:=q (R (ok 2 (.k (.nil 1))<|N) [2])<|q (q (R (om 3 0<|oo 4 (.nilq false false (t 3))<|N) [3])<|D (I 4 (q (R (ok 2 (.k (.nil 1))<|N) [0,4])<|.ret) S) [4])<|q (R (oo 5 (.bls 1 [])<|om 6 0<|oo 7 (.app 1 (t 5) (t 6))<|om 2 7<|N) [0,5,6,7])<|.ret
theorem JS4:FT 28 8 JS3 [.tmp 2]:=.o Tryz.func28
def JS5:Ic:=q (R (ox 3 1<|N) [1])<|q (.reg (oN 4 [.nil 1]<|N))<|q (.reg (oN 5 [.nilFn]<|N))<|q (R (oo 6 (.fnv (.func 111) [] [t 4,t 3,t 5])<|os 5 6<|N) [3,4,6])<|R (ol 7 5<|om 8 0<|.call (some 9) (.dyn (t 7)) [t 8] N) [0,5,7,8,9]
theorem ok58:FT 58 10 JS5 []:=.o Tryz.func58
def JJ7:Ic:=q (R (om 7 0<|oh 8 7<|oz 9 0<|N) [7])<|D (.block 0<|.loop (q (.reg (ot 10 .lss 9 8<|N))<|q (D (I 10 S (E 0)) [10])<|q (D (.block 1<|q (R (om 11 9<|om 5 11<|N) [11])<|q (R (ol 12 1<|om 13 5<|oo 14 (.bls 1 [t 13])<|oo 15 (.app 1 (t 12) (t 14))<|os 1 15<|N) [12,13,14,15])<|q (R (ol 16 2<|ol 17 1<|om 18 0<|om 19 5<|oa true 20 11 18 19<|.call (some 21) (.dyn (t 16)) [t 17,t 20] N) [16,17,18,19,20,21])<|q (q (R (om 22 0<|om 23 5<|oa true 24 11 22 23<|of 25 24 10<|ol 26 25<|oh 27 26<|oz 28 0<|N) [22,23,24,25,26])<|D (.block 2<|.loop (q (.reg (ot 29 .lss 28 27<|N))<|q (D (I 29 S (E 2)) [29])<|q (D (.block 3<|q (R (om 30 28<|om 6 30<|N) [30])<|q (R (ol 31 1<|om 32 6<|oo 33 (.bls 1 [t 32])<|oo 34 (.app 1 (t 31) (t 33))<|os 1 34<|N) [31,32,33,34])<|q (R (ol 35 3<|om 36 0<|om 37 5<|oa true 38 11 36 37<|of 39 38 10<|ol 40 39<|om 41 6<|oa true 42 2 40 41<|of 43 42 1<|ol 44 43<|.call (some 45) (.dyn (t 35)) [t 44] N) [6,35,36,37,38,39,40,41,42,43,44,45])<|R (ol 46 1<|ol 47 1<|oh 48 47<|oi 49 .sub 48 1<|oo 50 (.slc 1 (t 46) none (some (t 49)) none)<|os 1 50<|N) [46,47,48,49,50]) [])<|R (oi 51 .add 28 1<|om 28 51<|N) [51])) [5,27,28,29,6])<|R (ol 52 1<|ol 53 1<|oh 54 53<|oi 55 .sub 54 1<|oo 56 (.slc 1 (t 52) none (some (t 55)) none)<|os 1 56<|N) [52,53,54,55,56]) [])<|R (oi 57 .add 9 1<|om 9 57<|N) [57])) [0,8,9,10,11,5,6]
theorem JHw:FT 111 58 JJ7 []:=.o Tryz.func111
def JRi:Ic:=D (.regd [(0,3),(1,3),(3,6),(0,7),(1,7),(0,9)] (ol 6 2<|ol 7 3<|om 8 0<|cl 9 28 [t 8]<|om 10 1<|oc 11 10<|oL 12 11 11<|cl 13 57 [t 12]<|oo 14 (.bld [.int .i64 0,.nil 1,.str [],.int .i64 0,.int .i64 0,.int .i64 0,.int .i64 0,.str [],.str [],.nil 5,.nil 6,.nil 2,.nil 2] [(0,1,t 7),(1,1,t 9),(2,11,t 13)])<|oo 15 (.bls 13 [t 14])<|oo 16 (.app 13 (t 6) (t 15))<|os 2 16<|N)) [0,1,6,7,8,9,10,11,12,13,14,15,16]
theorem ok114:FT 114 17 JRi []:=.o Tryz.func114
def ir66:Ic:=q (R (ox 2 0<|ox 3 1<|ok 4 (.k (.nil 13))<|N) [0,1,4])<|q (.reg (oN 5 [.nil 13]<|N))<|q (R (of 6 2 4<|ol 7 6<|ol 8 3<|oa true 9 3 7 8<|of 10 9 2<|ol 11 10<|oo 12 (.fnv (.func 114) [] [t 5,t 3])<|cl 13 58 [t 11,t 12]<|N) [2,3,6,7,8,9,10,11,12,13])<|q (R (ol 14 5<|om 4 14<|N) [5,14])<|.ret
theorem ok66:FT 66 15 ir66 [.tmp 4]:=.o Tryz.func66
def ir34:Ic:=q (R (ox 1 0<|ok 2 (.k (.nil 13))<|N) [0,2])<|q (.reg (ok 3 (.k (.nil 13))<|N))<|q (q (R (of 5 1 4<|ol 6 5<|oh 7 6<|oz 8 0<|N) [5,6])<|D (.block 0<|.loop (q (.reg (ot 9 .lss 8 7<|N))<|q (D (I 9 S (E 0)) [9])<|q (D (.block 1<|q (R (om 10 8<|om 4 10<|N) [10])<|R (om 11 3<|oL 12 5 1<|om 13 4<|cl 14 66 [t 12,t 13]<|oo 15 (.app 13 (t 11) (t 14))<|om 3 15<|N) [4,11,12,13,14,15]) [])<|R (oi 16 .add 8 1<|om 8 16<|N) [16])) [1,7,8,9,10,4,11])<|q (R (om 17 3<|om 2 17<|N) [3,17])<|.ret
theorem ok34:FT 34 18 ir34 [.tmp 2]:=.o Tryz.func34
end Go.Proofs
namespace Go.Proofs
open Go Av
def Yn(l:List Exp):Dat:=match l with|[]=>.nil 5|_=>.list 5 (l.map Jf)
theorem JOY{g:Nat}(l:List Exp)(hg:∀x∈l,J3 Tryz.prog g [Jf x] (.d (Jf x))):J3 Tryz.prog 106 [.list 5 (l.map Jf),.fn (.func g) [] []] (.d (Yn l)):=by
  refine J3.Jk JHn.has fun hfit=>?_
  have hl:l.length≤68719476736:=by have:=(hfit _ (Vh)).1;simpa using this
  clear hfit
  by_cases hne:l=[]
  · subst hne
    refine JHn.con (k:=none) (Nat.le_of_ble_eq_true rfl) (by intro i o h;cases h) trivial ?_
    simp only[go_sem,JJz,Vb,Vm,Vv,Vc,Nat.reduceAdd,Nat.reduceEqDiff,Nat.reduceBEq,Nat.reduceLeDiff,reduceCtorEq,↓reduceIte]
    refine JK (fun n s=>s=⟨[(1,.d (.fn (.func g) [] [])),(5,.d (.nil 5)),(8,.d (.list 5 [])),(9,.d (.int .i64 0)),(10,.d (.int .i64 0))],[]⟩) ?_ ?_
    · exact⟨0,_,Wk.refl _,rfl⟩
    · rintro n s rfl
      simp only[go_sem,Int.lt_irrefl,decide_false,Vu,Yn,Vv,Vc,Nat.reduceAdd,Nat.reduceEqDiff,Nat.reduceBEq,Nat.reduceLeDiff,reduceCtorEq,↓reduceIte]
  · refine JHn.con (k:=none) (Nat.le_of_ble_eq_true rfl) (by intro i o h;cases h) trivial ?_
    have hr:Yn l=.list 5 (l.map Jf):=by cases l with|nil=>exact absurd rfl hne|cons a b=>rfl
    rw[hr]
    simp only[go_sem,JJz,Vv,Vc,Nat.reduceAdd,Nat.reduceEqDiff,Nat.reduceBEq,Nat.reduceLeDiff,reduceCtorEq,↓reduceIte]
    refine JK (fun n s=>∃k:Nat,k≤l.length∧n=l.length-k∧
      s=⟨[(1,.d (.fn (.func g) [] [])),(5,.ms 19 k),(8,.d (.list 5 (l.map Jf))),(9,.d (.int .i64 l.length)),(10,.d (.int .i64 k))],[(19,.row k 5 ((l.take k).map Jf))]⟩) ?_ ?_
    · refine⟨_,_,(Wk.JGu 5 19 5 rfl rfl (by decide)).trans (Wk.less ?_),0,Nat.zero_le _,rfl,rfl⟩
      simp[put,go_sem]
    · rintro n s ⟨k,hk,rfl,rfl⟩
      by_cases hlt:k<l.length
      · have hx:=JU Jf hlt
        have hd:decide ((k:Int)<(l.length:Int))=true:=by simp;omega
        have hc:=(hg l[k] (Vk _)).call trivial
        simp only[Jz,Va,Vb]at hc hx
        simp only[go_sem,hx,hd,Vv,Vc,Nat.reduceAdd,Nat.reduceEqDiff,Nat.reduceBEq,Nat.reduceLeDiff,reduceCtorEq,↓reduceIte]
        refine⟨by omega,JT rfl hc trivial ?_⟩
        simp only[go_sem,Vv,Vc,Nat.reduceAdd,Nat.reduceEqDiff,Nat.reduceBEq,Nat.reduceLeDiff,reduceCtorEq,↓reduceIte]
        refine⟨by simp,by simp;omega,l.length-(k+1),_,by omega,Wk.less ?_,k+1,by omega,rfl,rfl⟩
        rw[List.take_succ_eq_append_getElem hlt,Vw]
        simp only[go_sem,JF k (by omega),Va,Vb,Jz,Vv,Vc,Nat.reduceAdd,Nat.reduceEqDiff,Nat.reduceBEq,Nat.reduceLeDiff,reduceCtorEq,↓reduceIte]
      · have hd:decide ((k:Int)<(l.length:Int))=false:=by simp;omega
        obtain rfl:k=l.length:=by omega
        simp only[go_sem,hd,List.take_length,Vv,Vc,Nat.reduceAdd,Nat.reduceEqDiff,Nat.reduceBEq,Nat.reduceLeDiff,reduceCtorEq,↓reduceIte]
def JEo(s:Ste):Dat:=.agg [.str s.name,.int .i64 s.kind,.int .i64 s.number,.int .i64 s.time,.int .i64 s.limit,.str s.text,.str s.schema,Yn s.exprs,.list 6 (s.rules.map UT),.list 2 (s.calls.map Je),.list 2 (s.branches.map J1)]
theorem q106(s:Ste):J3 Tryz.prog 57 [JH s] (.d (JEo s)):=by
  refine JP7.con (k:=none) (Nat.le_of_ble_eq_true rfl) (by intro i o h;cases h) trivial ?_
  have h1:=(JOY s.exprs fun x _=>p81 x).call trivial
  have h2:=(p82 s.rules).call trivial
  have h3:=(JGQ s.calls fun x _=>JSb x).call trivial
  have h4:=(JJ2 s.branches fun x hx=>JOI s.branches x hx).call trivial
  simp only[JD,Va,Vb]at h2
  have hcell:Dat.cells (Yn s.exprs)=[Yn s.exprs]∧Av.cells (.d (Yn s.exprs))=some [.d (Yn s.exprs)]:=by cases s.exprs<;>exact⟨rfl,rfl⟩
  obtain⟨g1,g2⟩:=hcell
  simp only[Dat.cells]at g1
  simp only[Av.cells]at g2
  unfold JEo
  generalize Yn s.exprs=E at*
  rw[JV]
  simp only[go_sem,JOF,Vv,Vc,Nat.reduceAdd,Nat.reduceEqDiff,Nat.reduceBEq,Nat.reduceLeDiff,reduceCtorEq,↓reduceIte]
  refine JT rfl h1 trivial ?_
  simp only[go_sem,g1,g2,Vv,Vc,Nat.reduceAdd,Nat.reduceEqDiff,Nat.reduceBEq,Nat.reduceLeDiff,reduceCtorEq,↓reduceIte]
  refine JT rfl h2 trivial ?_
  simp only[go_sem,Vv,Vc,Nat.reduceAdd,Nat.reduceEqDiff,Nat.reduceBEq,Nat.reduceLeDiff,reduceCtorEq,↓reduceIte]
  refine JT rfl h3 trivial ?_
  simp only[go_sem,Vv,Vc,Nat.reduceAdd,Nat.reduceEqDiff,Nat.reduceBEq,Nat.reduceLeDiff,reduceCtorEq,↓reduceIte]
  refine JT rfl h4 trivial ?_
  simp only[go_sem,Vv,Vc,Nat.reduceAdd,Nat.reduceEqDiff,Nat.reduceBEq,Nat.reduceLeDiff,reduceCtorEq,↓reduceIte]
def XZ(x:Wlk):Dat:=.agg [.int .i64 x.route,.list 1 (x.place.map (.int .i64)),.str x.step.name,.int .i64 x.step.kind,.int .i64 x.step.number,.int .i64 x.step.time,.int .i64 x.step.limit,.str x.step.text,.str x.step.schema,Yn x.step.exprs,.list 6 (x.step.rules.map UT),.list 2 (x.step.calls.map Je),.list 2 (x.step.branches.map J1)]
end Go.Proofs
namespace Av
open Go
variable [Glb][Rls]
section
variable {β:JO}{A:Nat→Prop}{w:World}{H:Heap}{D:Nat→Prop}
theorem Stp.boxSee(hc:Core β A w H){b:Nat}{cs cs':List Av}(hb:H b=some (.box cs))(hl:cs'.length=cs.length)
  (h:∀(i:Nat) c c' u,cs[i]? =some c→cs'[i]? =some c'→VRep β A w H c u→VRep β A w H c' u):Stp β A w H β A w (upd H b (some (.box cs'))):=by
 obtain⟨bb,C,T,e1,e2,e3,e4,e5⟩:=hc.objs b _ hb;have hset:w.setRow bb C=w:=Xn e2;have hst2:=Stp.JCx (cs':=cs') (C':=C) hc hb e1 e2 oM e4 (fun hall i c' v hc' hv'=>by
  have hlt:i<cs.length:=by have:=(VB.1 hc').1;omega
  exact hall _ _ (h i _ c' v (Vl hlt) hc' (e5 i _ v (Vl hlt) hv')))
 rw[hset]at hst2;exact hst2
end
theorem JQT{α:Type}{cs:List α}{j:Nat}{x y:α}(hj:cs[j]? =some x){i:Nat}{c c':α}(h1:cs[i]? =some c)(h2:(cs.set j y)[i]? =some c'):(i=j∧c=x∧c'=y)∨c'=c:=by
 rw[List.getElem?_set]at h2;split at h2
 ·rename_i e;subst e;split at h2
  ·cases h2;rw[hj]at h1;cases h1;exact .inl ⟨rfl,rfl,rfl⟩
  ·cases h2
 ·rw[h1]at h2;cases h2;exact .inr rfl
theorem Wk.JLm{D:Nat→Prop}{st:St}(b j i ver sz:Nat)(xs:List Dat)(cs:List Av)(hb:get st.hp b=some (.box cs))(hj:cs[j]? =some (.ms i ver))(hi:get st.hp i=some (.row ver sz xs)):
  Wk D st ⟨st.tm,put st.hp b (.box (cs.set j (.sub i ver 0 xs.length)))⟩:=by
 refine Wk.JBh fun β A w a hc htr=>?_
 have hst:=Stp.boxSee (cs':=cs.set j (.sub i ver 0 xs.length)) hc hb sP (fun n c c' u h1 h2 hv=>by
  rcases JQT hj h1 h2 with⟨_,rfl,rfl⟩|rfl
  ·exact hv.JFv hi
  ·exact hv)
 have e:get (put st.hp b (.box (cs.set j (.sub i ver 0 xs.length))))=upd (get st.hp) b (some (.box (cs.set j (.sub i ver 0 xs.length)))):=by
  funext m;rw[UC];unfold upd;split<;>rfl
 refine⟨β,A,?_,?_⟩
 ·rw[e];exact hst
 ·rw[e];intro t v hv;obtain⟨u,q1,q2⟩:=htr t v hv;exact⟨u,q1,hst.vals _ _ q2⟩
end Av
namespace Go.Proofs
open Go Av
variable {d:Nat}
theorem con28(v:Nat)(a:Dat)(r:List Dat)(ha:a.canon=a)(hr:JG r=r)(hl:r.length<68719476736)(h1:∀x∈a::r,x.cells.length=1):
  KT 28 [.ms 1000 v] [(1000,.row v 1 (a::r))] (.d (.list 1 (a::r))) []:=by
 refine JS4.con (k:=some false) (Nat.le_of_ble_eq_true rfl) (Jy (by simp[Jd,J5])) trivial ?_;simp only[go_sem,JS3,Nat.reduceAdd,Nat.reduceEqDiff,Nat.reduceBEq,Nat.reduceLeDiff,reduceCtorEq,↓reduceIte];exact⟨sP,⟨dC,oM,fun y hy=>h1 y hy⟩,by rw[ha,hr]⟩
theorem call28(i v:Nat)(a:Int)(p:List Int)(hl:p.length<68719476736):CT (.fn 28) [.ms i v] [(i,some (.row v 1 (.int .i64 a::p.map (.int .i64))))] (.d (.list 1 (.int .i64 a::p.map (.int .i64)))) []:=by
 have h:=con28 v (.int .i64 a) (p.map (.int .i64)) (by simp[Dat.canon]) (XB p) (sX hl) (fun x hx=>by
  rcases VA.1 hx with rfl|hx
  ·rfl
  ·obtain⟨n,_,rfl⟩:=VC.1 hx;rfl)
 have:=h.call (fun _=>i) (fun j hj=>by simp only[Av.get]at hj;split at hj;omega;cases hj) (fun a b ha hb _=>by
   simp only[JC,Av.get]at ha hb;split at ha
   ·split at hb
    ·omega
    ·cases hb
   ·cases ha) (by intro c hc;simp only[List.mem_singleton]at hc;subst hc;simp[JR,Av.get]) (Jy (by simp[Jd,J5])) [] sP (Jn (by simp[U3,put,Jd,J5])) trivial
 simp[Av.ren,Obj.ren]at this;exact this
theorem JS6(v w:Nat)(r a:Int)(p:List Int)(s:Ste)(outs:List Wlk)(hl:p.length<68719476736)(hw:outs.length<68719476736):
  KT 114 [.ms 1006 v,.d (.ptr (JH s).cells),.ref 1004 0,.ref 1005 0] [(1004,.box [.ms 1007 w]),(1005,.box [.d (.int .i64 r)]),(1006,.row v 1 (.int .i64 a::p.map (.int .i64))),(1007,.row w 13 (outs.map XZ))] (.tup [])
   [(1004,.box [.ms 1007 (w+1)]),(1007,.row (w+1) 13 ((outs++[Wlk.mk r (a::p) s]).map XZ))]:=by
 refine ok114.con (k:=some false) (Nat.le_of_ble_eq_true rfl) (Jn (by simp[U3,put,Jd,J5,JS,JR,Av.get])) trivial ?_;have h1:=call28 1006 v a p hl;have h2:=(q106 s).call trivial;rw[JV]at h2⊢;simp only[JEo]at h2;simp only[go_sem,JRi,simprocAttr];refine JI rfl h1 ⟨rfl,trivial⟩ ?_;refine zz ?_;refine JI rfl h2 trivial ?_;simp only[go_sem,Vw,XZ,simprocAttr];exact⟨sP,sO,rfl⟩
abbrev PO:=Nat×List Int×List Wlk
mutual
def JFB(r:Int):Ste→Int→Nat→PO→PO
 |.mk n k u t l x c e ru a b,i,d,s=>Xz r b 0 (d+1) (s.1+1,s.2.1.take d++[i],s.2.2++[Wlk.mk r (s.2.1.take d++[i]) (.mk n k u t l x c e ru a b)])
def Ua(r:Int):List Ste→Int→Nat→PO→PO
 |[],_,_,s=>s
 |x::y,i,d,s=>Ua r y (i+1) d (JFB r x i d s)
def JFC(r:Int):Brn→Int→Nat→PO→PO
 |.mk w l,b,d,s=>Ua r l 0 (d+1) (s.1+1,s.2.1.take d++[b],s.2.2)
def Xz(r:Int):List Brn→Int→Nat→PO→PO
 |[],_,_,s=>s
 |x::y,i,d,s=>Xz r y (i+1) d (JFC r x i d s)
end
theorem JJ8(r:Int)(x:Ste)(i:Int)(d:Nat)(s:PO):JFB r x i d s=Xz r x.branches 0 (d+1) (s.1+1,s.2.1.take d++[i],s.2.2++[Wlk.mk r (s.2.1.take d++[i]) x]):=by
 cases x;simp only[JFB,Ste.branches]
theorem JJ9(r:Int)(x:Brn)(i:Int)(d:Nat)(s:PO):JFC r x i d s=Ua r x.steps 0 (d+1) (s.1+1,s.2.1.take d++[i],s.2.2):=by
 cases x;simp only[JFC,Brn.steps]
def ZH(d:Nat)(s t:PO):Prop:=d≤t.2.1.length∧t.2.1.take d=s.2.1.take d
theorem ZH.refl{s:PO}(h:d≤s.2.1.length):ZH d s s:=⟨h,rfl⟩
theorem ZH.trans{s t u:PO}(h1:ZH d s t)(h2:ZH d t u):ZH d s u:=⟨h2.1,h2.2.trans h1.2⟩
theorem ZH.less{s t:PO}{i:Int}{v:Nat}{o:List Wlk}(hd:d≤s.2.1.length)(h:ZH (d+1) (v,s.2.1.take d++[i],o) t):ZH d s t:=by
 obtain⟨h1,h2⟩:=h;refine⟨oM,?_⟩;have h3:=congrArg (List.take d) h2;rw[List.take_take,List.take_take]at h3;have e:min d (d+1)=d:=oM;rw[e]at h3;simp only[]at h3;rw[h3,List.take_append_of_le_length sO,List.take_take,Nat.min_self]
mutual
theorem JFm(r:Int):∀(x:Ste) (i:Int) (d:Nat) (s:PO),d≤s.2.1.length→ZH d s (JFB r x i d s)
 |.mk n k u t l x c e ru a b,i,d,s,h=>by
  rw[JFB];exact ZH.less h (JEp r b 0 (d+1) _ sO)
theorem JAD(r:Int):∀(x:List Ste) (i:Int) (d:Nat) (s:PO),d≤s.2.1.length→ZH d s (Ua r x i d s)
 |[],_,_,s,h=>.refl h
 |x::y,i,d,s,h=>(JFm r x i d s h).trans (JAD r y (i+1) d _ (JFm r x i d s h).1)
theorem JFn(r:Int):∀(x:Brn) (i:Int) (d:Nat) (s:PO),d≤s.2.1.length→ZH d s (JFC r x i d s)
 |.mk w l,i,d,s,h=>by
  rw[JFC];exact ZH.less h (JAD r l 0 (d+1) _ sO)
theorem JEp(r:Int):∀(x:List Brn) (i:Int) (d:Nat) (s:PO),d≤s.2.1.length→ZH d s (Xz r x i d s)
 |[],_,_,s,h=>.refl h
 |x::y,i,d,s,h=>(JFn r x i d s h).trans (JEp r y (i+1) d _ (JFn r x i d s h).1)
end
mutual
theorem JOZ(r:Int):∀(x:Ste) (i:Int) (d:Nat) (s:PO),(JFB r x i d s).2.2.length≤s.2.2.length+szS x
 |.mk n k u t l x c e ru a b,i,d,s=>by
  rw[JFB,szS];have:=JFo r b 0 (d+1) (s.1+1,s.2.1.take d++[i],s.2.2++[Wlk.mk r (s.2.1.take d++[i]) (.mk n k u t l x c e ru a b)]);simp only[Vg,Vf,Vm]at this;omega
theorem JA9(r:Int):∀(x:List Ste) (i:Int) (d:Nat) (s:PO),(Ua r x i d s).2.2.length≤s.2.2.length+J6 x
 |[],_,_,s=>by simp[Ua]
 |x::y,i,d,s=>by
  rw[Ua,J6];have h1:=JOZ r x i d s;have h2:=JA9 r y (i+1) d (JFB r x i d s);omega
theorem JOa(r:Int):∀(x:Brn) (i:Int) (d:Nat) (s:PO),(JFC r x i d s).2.2.length≤s.2.2.length+szB x
 |.mk w l,i,d,s=>by
  rw[JFC,szB];have:=JA9 r l 0 (d+1) (s.1+1,s.2.1.take d++[i],s.2.2);simp only[]at this;omega
theorem JFo(r:Int):∀(x:List Brn) (i:Int) (d:Nat) (s:PO),(Xz r x i d s).2.2.length≤s.2.2.length+XQ x
 |[],_,_,s=>by simp[Xz]
 |x::y,i,d,s=>by
  rw[Xz,XQ];have h1:=JOa r x i d s;have h2:=JFo r y (i+1) d (JFC r x i d s);omega
end
abbrev TV8(r:Int)(c:Av)(v:Nat)(xs:List Int)(o:List Wlk):List (Nat×Av.Obj):=[(1001,.box [c]),(1002,.box [.clo (.func 114) [] [.ref 1004 0,.ref 1005 0]]),(1003,.box [.clo (.func 111) [] [.ref 1001 0,.ref 1002 0,.ref 1003 0]]),
 (1004,.box [.ms 1007 o.length]),(1005,.box [.d (.int .i64 r)]),(1006,.row v 1 (xs.map (.int .i64))),(1007,.row o.length 13 (o.map XZ))]
end Go.Proofs
namespace Go.Proofs
open Go Av
theorem YC(ds:List Dat):UQ (fun i=>i) (ds.map .d)=ds.map .d:=by
 induction ds with
 |nil=>rfl
 |cons x r ih=>simp[UQ,Av.ren,ih]
theorem JGV(r:Int)(v v':Nat)(xs xs':List Int)(o o':List Wlk)(c:Av)(n:Nat)(hc:c=.ms 1006 n∨∃k,c=.sub 1006 n 0 k):closed (JC (get (TV8 r (.ms 1006 v) v xs o)) (TV8 r c v' xs' o')):=by
 refine Jn ?_;rcases hc with rfl|⟨k,rfl⟩<;>simp[TV8,U3,put,Jd,J5,JS,JR,Ue,Av.get]
theorem JKA{r:Int}{c:Av}{v:Nat}{xs:List Int}{o:List Wlk}{i:Nat}(h:(get (TV8 r c v xs o) i).isSome=true):1000≤i:=by
 simp only[TV8,Av.get]at h
 repeat' split at h
 all_goals first|(cases h;done)|omega
theorem XR(n:Nat)(h:0<n)(h2:n<9000000000000000000):IntKind.i64.wrap ((n:Int)-1)=((n-1:Nat):Int):=by
 rw[wrap64 oM oM];omega
theorem call114(v:Nat)(r:Int)(xs:List Int)(hx:0<xs.length)(s:Ste)(o:List Wlk)(c:Av)(hl:xs.length<68719476736)(hw:o.length<68719476736):
  CT (.fn 114) [.ms 1006 v,.d (.ptr (JH s).cells),.ref 1004 0,.ref 1005 0] [(1004,some (.box [.ms 1007 o.length])),(1005,some (.box [.d (.int .i64 r)])),(1006,some (.row v 1 (xs.map (.int .i64)))),(1007,some (.row o.length 13 (o.map XZ)))] (.tup [])
   [(1004,.box [.ms 1007 (o.length+1)]),(1007,.row (o.length+1) 13 ((o++[Wlk.mk r xs s]).map XZ))]:=by
 match xs,hx with
 |a::p,_=>
  have:=(JS6 v o.length r a p s o (by simp at hl;omega) hw).call (fun i=>i) (fun i hi=>by
   simp only[Av.get]at hi
   repeat' split at hi
   all_goals first|(cases hi;done)|omega) (fun i j _ _ h=>h) (by simp[JR,Av.get]) (Jy (by simp[Jd,J5,JS,JR,Av.get])) [] (by simp[Av.get]) (Jn (by simp[U3,put,Jd,J5,JS,JR,Av.get])) trivial
  simp only[Va,Vb,Obj.ren,Av.ren,UQ,YC,List.append_nil]at this⊢;exact this
def JHx(r:Int)(l:List Ste):Prop:=∀(v:Nat) (xs:List Int) (o:List Wlk),xs.length+2*J6 l≤10000000000→o.length+J6 l≤10000000000→
 KT 111 [.d (.list 11 (l.map JH)),.ref 1001 0,.ref 1002 0,.ref 1003 0] (TV8 r (.ms 1006 v) v xs o) (.tup [])
  (TV8 r (.sub 1006 (Ua r l 0 xs.length (v,xs,o)).1 0 xs.length) (Ua r l 0 xs.length (v,xs,o)).1 (Ua r l 0 xs.length (v,xs,o)).2.1 (Ua r l 0 xs.length (v,xs,o)).2.2)
theorem call111{r:Int}{l:List Ste}(h:JHx r l)(v:Nat)(xs:List Int)(o:List Wlk)(h1:xs.length+2*J6 l≤10000000000)(h2:o.length+J6 l≤10000000000):
  CT (.fn 111) [.d (.list 11 (l.map JH)),.ref 1001 0,.ref 1002 0,.ref 1003 0] ((TV8 r (.ms 1006 v) v xs o).map fun x=>(x.1,some x.2)) (.tup [])
  (TV8 r (.sub 1006 (Ua r l 0 xs.length (v,xs,o)).1 0 xs.length) (Ua r l 0 xs.length (v,xs,o)).1 (Ua r l 0 xs.length (v,xs,o)).2.1 (Ua r l 0 xs.length (v,xs,o)).2.2):=by
 have:=(h v xs o h1 h2).call (fun i=>i) (fun i hi=>JKA hi) (fun i j _ _ h=>h) (by simp[JR,Av.get]) (Jy (by simp[Jd,J5,JS,JR,Ue,Av.get])) [] (by simp[Av.get]) (JGV r v _ xs _ o _ _ _ (.inr ⟨_,rfl⟩)) trivial;simp only[TV8,Va,Vb,Obj.ren,Av.ren,UQ,YC,List.append_nil]at this⊢;exact this
set_option maxHeartbeats 2000000 in
theorem JKB(r:Int)(l:List Ste)(h:∀x∈l,∀b∈x.branches,JHx r b.steps):JHx r l:=by
 intro v xs o hx ho;refine Con.Jk JHw.has fun hfit=>?_
 have hl:l.length≤68719476736:=by have:=(hfit (.list 11 (l.map JH)) sP).1;simpa using this
 have hfs:∀x∈l,x.branches.length≤68719476736:=by
  intro x hxm;have:=UG.1 (hfit (.list 11 (l.map JH)) sP).2 _ (VC.2 ⟨x,hxm,rfl⟩);rw[JV]at this;simp only[fits,Un,Vc]at this;omega
 clear hfit;generalize hR:Ua r l 0 xs.length (v,xs,o)=R;refine JHw.con (k:=some false) (Nat.le_of_ble_eq_true rfl) (JGV r v _ xs _ o _ _ _ (.inr ⟨_,rfl⟩)) trivial ?_;generalize hd:xs.length=d at*;simp only[TV8,go_sem,JJ7,Vc,Nat.reduceAdd,Nat.reduceEqDiff,Nat.reduceBEq,Nat.reduceLeDiff,reduceCtorEq,↓reduceIte];refine JK (fun n st=>∃(k:Nat) (S:PO),k≤l.length∧n=l.length-k∧Ua r (l.drop k) k d S=R∧d≤S.2.1.length∧S.2.2.length+J6 (l.drop k)≤10000000000∧
  st=⟨[(0,.d (.list 11 (l.map JH))),(1,.ref 1001 0),(2,.ref 1002 0),(3,.ref 1003 0),(8,.d (.int .i64 l.length)),(9,.d (.int .i64 k))],TV8 r (.sub 1006 S.1 0 d) S.1 S.2.1 S.2.2⟩) ?_ ?_
 ·refine⟨_,_,(Wk.JLm 1001 0 1006 v 1 (xs.map (.int .i64)) [.ms 1006 v] rfl rfl rfl).trans (Wk.less ?_),0,(v,xs,o),Nat.zero_le _,rfl,by simpa using hR,by simp[hd],by simpa using ho,rfl⟩;simp[go_sem,TV8,hd]
 ·rintro n st ⟨k,S,hk,rfl,hinv,hS,hb,rfl⟩;by_cases hlt:k<l.length
  ·have hn:=Zo hlt;have hdk:decide ((k:Int)<(l.length:Int))=true:=sO;have hbr:=hfs _ (Vk hlt);have hV:=h _ (Vk hlt);rw[Vq hlt,J6,JEe]at hb;rw[Vq hlt,Ua,JJ8]at hinv;have hszd:szS l[k]≤J6 l:=JEf (Vk hlt);rw[JEe]at hszd;have hdl:d+2*XQ l[k].branches+2≤10000000000:=oM;generalize hX:l[k]=x at*;have hc:=call114 (S.1+1) r (S.2.1.take d++[(k:Int)]) sP x S.2.2 (.any) sO oM;rw[JV]at hc;simp only[Vw,List.map_take,Va,Vb]at hc;simp only[TV8,go_sem,hn,hdk,Vv,Vc,Nat.reduceAdd,Nat.reduceEqDiff,Nat.reduceBEq,Nat.reduceLeDiff,reduceCtorEq,↓reduceIte];refine⟨sP,⟨oM,oM⟩,⟨oM,oM⟩,JT rfl hc ⟨rfl,rfl,rfl,rfl,trivial⟩ ?_⟩;simp only[go_sem,hn,Vv,Vc,Nat.reduceAdd,Nat.reduceEqDiff,Nat.reduceBEq,Nat.reduceLeDiff,reduceCtorEq,↓reduceIte];refine⟨oM,dC,?_⟩;clear hc;generalize hbs:x.branches=bs at*;generalize hRB:Xz r bs 0 (d+1) _=RB at hinv;refine JK (fun n st=>∃(b:Nat) (T:PO),b≤bs.length∧n=bs.length-b∧Xz r (bs.drop b) b (d+1) T=RB∧d+1≤T.2.1.length∧T.2.2.length+XQ (bs.drop b)+J6 (l.drop (k+1))≤10000000000∧
    st=⟨[(0,.d (.list 11 (l.map JH))),(1,.ref 1001 0),(2,.ref 1002 0),(3,.ref 1003 0),(8,.d (.int .i64 l.length)),(9,.d (.int .i64 k)),(5,.d (.int .i64 k)),(27,.d (.int .i64 bs.length)),(28,.d (.int .i64 b))],TV8 r (.sub 1006 T.1 0 (d+1)) T.1 T.2.1 T.2.2⟩) ?_ ?_
   ·refine⟨_,_,(Wk.JLm 1001 0 1006 (S.1+1) 1 _ [.ms 1006 (S.1+1)] rfl rfl rfl).trans (Wk.less ?_),0,(S.1+1,S.2.1.take d++[(k:Int)],S.2.2++[Wlk.mk r (S.2.1.take d++[(k:Int)]) x]),Nat.zero_le _,rfl,by simpa using hRB,sO,sO,rfl⟩;simp[go_sem,TV8];omega
   ·rintro n st ⟨b,T,hbk,rfl,hinv2,hT,hb2,rfl⟩;by_cases hbl:b<bs.length
    ·have hbn:=YV hbl;have hdb:decide ((b:Int)<(bs.length:Int))=true:=sO;have hVb:=hV _ (Vk hbl);have hszb:szB bs[b]≤XQ bs:=JEg (Vk hbl);rw[Vq hbl,XQ,JAp]at hb2;rw[Vq hbl,Xz,JJ9]at hinv2;rw[JAp]at hszb;generalize bs[b]=br at*;have hlen:(T.2.1.take (d+1)++[(b:Int)]).length=d+1+1:=sO;have hc2:=call111 hVb (T.1+1) (T.2.1.take (d+1)++[(b:Int)]) T.2.2 (by rw[hlen];omega) oM;rw[hlen]at hc2;have hU1:=JA9 r br.steps 0 (d+1+1) (T.1+1,T.2.1.take (d+1)++[(b:Int)],T.2.2);have hU2:=(JAD r br.steps 0 (d+1+1) (T.1+1,T.2.1.take (d+1)++[(b:Int)],T.2.2) (by show _≤List.length _;rw[hlen];omega)).1;generalize hU:Ua r br.steps 0 (d+1+1) (T.1+1,T.2.1.take (d+1)++[(b:Int)],T.2.2)=U at*;simp only[TV8,Vw,List.map_take,Va,Vb]at hc2;simp only[TV8,go_sem,hn,hbn,hdb,hbs,Vv,Vc,Nat.reduceAdd,Nat.reduceEqDiff,Nat.reduceBEq,Nat.reduceLeDiff,reduceCtorEq,↓reduceIte];refine⟨sP,⟨oM,oM⟩,⟨oM,oM⟩,dC,⟨oM,oM⟩,dC,JT rfl hc2 ⟨rfl,rfl,rfl,rfl,rfl,rfl,rfl,trivial⟩ ?_⟩;have e2:min (d+1+1) U.2.1.length=d+1+1:=oM;have e3:IntKind.i64.wrap (((d+1+1:Nat):Int)-1)=((d+1:Nat):Int):=XR (d+2) oM oM;simp only[go_sem,List.length_take,Vc,List.drop_zero,e2,e3,Nat.reduceAdd,Nat.reduceEqDiff,Nat.reduceBEq,Nat.reduceLeDiff,reduceCtorEq,↓reduceIte];have e4:(((d+1:Nat):Int)-0).toNat=d+1:=oM;have e5:Int.toNat 0=0:=rfl;refine⟨⟨oM,oM,oM⟩,bs.length-(b+1),_,oM,Wk.less ?_,b+1,U,oM,rfl,by simpa using hinv2,oM,by simp only at hU1;omega,rfl⟩;simp only[go_sem,e4,e5,JF b oM,Nat.reduceAdd,Nat.reduceEqDiff,Nat.reduceBEq,Nat.reduceLeDiff,reduceCtorEq,↓reduceIte]
    ·have hdb:decide ((b:Int)<(bs.length:Int))=false:=sO;obtain rfl:b=bs.length:=oM;rw[List.drop_length,Xz]at hinv2;subst hinv2;rw[List.drop_length,XQ]at hb2;have e2:min (d+1) T.2.1.length=d+1:=oM;have e3:IntKind.i64.wrap (((d+1:Nat):Int)-1)=((d:Nat):Int):=XR (d+1) oM oM;have e4:((d:Int)-0).toNat=d:=oM;have e5:Int.toNat 0=0:=rfl;simp only[TV8,go_sem,hdb,List.length_take,Vc,List.drop_zero,e2,e3,Nat.reduceAdd,Nat.reduceEqDiff,Nat.reduceBEq,Nat.reduceLeDiff,reduceCtorEq,↓reduceIte];refine⟨⟨oM,oM,oM⟩,l.length-(k+1),_,oM,Wk.less ?_,k+1,T,oM,rfl,by simpa using hinv,oM,oM,rfl⟩;simp only[go_sem,TV8,e4,e5,JF k oM,Nat.reduceAdd,Nat.reduceEqDiff,Nat.reduceBEq,Nat.reduceLeDiff,reduceCtorEq,↓reduceIte]
  ·have hdk:decide ((k:Int)<(l.length:Int))=false:=sO;obtain rfl:k=l.length:=oM;rw[List.drop_length,Ua]at hinv;subst hinv;simp only[TV8,go_sem,hdk,Nat.reduceAdd,Nat.reduceEqDiff,Nat.reduceBEq,Nat.reduceLeDiff,reduceCtorEq,↓reduceIte]
mutual
theorem JOb(r:Int):∀(l:List Ste),∀x∈l,∀b∈x.branches,JHx r b.steps
 |[],x,h,_,_=>by cases h
 |v::q,x,h,b,hb=>by
  by_cases e:x=v
  ·rw[e]at hb;exact v340S r v b hb
  ·exact JOb r q x ((VA.1 h).resolve_left e) b hb
theorem v340S(r:Int):∀(x:Ste),∀b∈x.branches,JHx r b.steps
 |.mk n k u t l x c e ru a bs=>JOc r bs
theorem JOc(r:Int):∀(l:List Brn),∀b∈l,JHx r b.steps
 |[],b,h=>by cases h
 |v::q,b,h=>by
  by_cases e:b=v
  ·rw[e];exact v340B r v
  ·exact JOc r q b ((VA.1 h).resolve_left e)
theorem v340B(r:Int):∀(b:Brn),JHx r b.steps
 |.mk w s=>JKB r s (JOb r s)
end
theorem w340(r:Int)(l:List Ste):JHx r l:=JKB r l (JOb r l)
theorem JN.JLk{P:Program}{f:Cee}{args:List Av}{T T':List (Nat×Option Av.Obj)}{v:Av}{ups:List (Nat×Av.Obj)}(h:JN P f args T v ups)(hs:∀e∈T,e∈T'):JN P f args T' v ups:=
 fun β A w H vs hT hc hv=>h β A w H vs (fun e he=>hT e (hs e he)) hc hv
def wk1(r:Int)(l:List Ste):List Wlk:=(Ua r l 0 0 (0,[],[])).2.2
abbrev JFD(i:Nat):Nat:=if i=1001 then 4 else if i=1002 then 3 else if i=1003 then 5 else if i=1006 then 6 else i
theorem JHy{r:Int}{c:Av}{v:Nat}{xs:List Int}{o:List Wlk}{c':Av}{v':Nat}{xs':List Int}{o':List Wlk}{i:Nat}(h:(JC (get (TV8 r c v xs o)) (TV8 r c' v' xs' o') i).isSome=true):i=1001∨i=1002∨i=1003∨i=1004∨i=1005∨i=1006∨i=1007:=by
 refine Decidable.byContradiction fun hn=>?_
 simp only[not_or]at hn;obtain⟨a1,a2,a3,a4,a5,a6,a7⟩:=hn;simp[TV8,JC,upd,Av.get,a1,a2,a3,a4,a5,a6,a7,Ne.symm a1,Ne.symm a2,Ne.symm a3,Ne.symm a4,Ne.symm a5,Ne.symm a6,Ne.symm a7]at h
theorem JOd{i j:Nat}(hi:i=1001∨i=1002∨i=1003∨i=1004∨i=1005∨i=1006∨i=1007)(hj:j=1001∨j=1002∨j=1003∨j=1004∨j=1005∨j=1006∨j=1007)(h:JFD i=JFD j):i=j:=by
 rcases hi with rfl|rfl|rfl|rfl|rfl|rfl|rfl<;>rcases hj with rfl|rfl|rfl|rfl|rfl|rfl|rfl<;>first|rfl|(revert h;decide)
theorem JOe(r:Int)(l:List Ste)(hl:J6 l≤1000000000):
  ∃(v:Nat) (xs:List Int),CT (.fn 111) [.d (.list 11 (l.map JH)),.ref 4 0,.ref 3 0,.ref 5 0]
   [(4,some (.box [.d (.nil 1)])),(6,none),(3,some (.box [.clo (.func 114) [] [.ref 1004 0,.ref 1005 0]])),(5,some (.box [.clo (.func 111) [] [.ref 4 0,.ref 3 0,.ref 5 0]])),(1004,some (.box [.ms 1007 0])),(1005,some (.box [.d (.int .i64 r)])),(1007,some (.row 0 13 []))] (.tup [])
   [(4,.box [.sub 6 v 0 0]),(3,.box [.clo (.func 114) [] [.ref 1004 0,.ref 1005 0]]),(5,.box [.clo (.func 111) [] [.ref 4 0,.ref 3 0,.ref 5 0]]),(1004,.box [.ms 1007 (wk1 r l).length]),(1005,.box [.d (.int .i64 r)]),(6,.row v 1 (xs.map (.int .i64))),(1007,.row (wk1 r l).length 13 ((wk1 r l).map XZ))]:=by
 have hw:=w340 r l 0 [] [] sO sO;simp only[Vm]at hw;unfold wk1;generalize Ua r l 0 0 (0,[],[])=R at hw⊢;refine⟨R.1,R.2.1,?_⟩;have h:=hw.call JFD (fun i hi=>JKA hi) (fun i j hi hj=>JOd (JHy hi) (JHy hj)) (by simp[JR,Av.get]) (Jy (by simp[Jd,J5,JS,JR,Ue,Av.get])) [] (by simp[Av.get]) (JGV r 0 _ [] _ [] _ _ _ (.inr ⟨_,rfl⟩)) trivial;simp only[TV8,Va,Vb,Vm,Obj.ren,Av.ren,UQ,JFD,YC,List.append_nil,Nat.reduceEqDiff,↓reduceIte]at h;refine JN.JLk (JN.JJQ (j:=0) (JN.JLk h ?_) ?_ dC rfl dC rfl rfl) (fun e he=>he)
 ·simp
 ·simp
abbrev TU(r:Int)(o:List Wlk):List (Nat×Av.Obj):=[(1004,.box [.ms 1007 o.length]),(1005,.box [.d (.int .i64 r)]),(1007,.row o.length 13 (o.map XZ))]
theorem con58(r:Int)(l:List Ste)(hl:J6 l≤1000000000):
  KT 58 [.d (.list 11 (l.map JH)),.clo (.func 114) [] [.ref 1004 0,.ref 1005 0]] (TU r []) (.tup []) (TU r (wk1 r l)):=by
 refine ok58.con (k:=some false) (Nat.le_of_ble_eq_true rfl) (Jn (by simp[TU,U3,put,Jd,J5,JS,JR,Av.get])) trivial ?_;obtain⟨v,xs,hc⟩:=JOe r l hl;simp only[TU,go_sem,JS5,simprocAttr];refine JT rfl hc ⟨rfl,rfl,rfl,rfl,rfl,rfl,rfl,trivial⟩ ?_;exact zz trivial
theorem call58(r:Int)(l:List Ste)(hl:J6 l≤1000000000):
  CT (.fn 58) [.d (.list 11 (l.map JH)),.clo (.func 114) [] [.ref 5 0,.ref 3 0]] [(5,some (.box [.d (.nil 13)])),(7,none),(3,some (.box [.d (.int .i64 r)]))] (.tup [])
   [(5,.box [.ms 7 (wk1 r l).length]),(3,.box [.d (.int .i64 r)]),(7,.row (wk1 r l).length 13 ((wk1 r l).map XZ))]:=by
 have hd:∀o i,(JC (get (TU r [])) (TU r o) i).isSome=true→i=1004∨i=1005∨i=1007:=by
  intro o i h;refine Decidable.byContradiction fun hn=>?_
  simp only[not_or]at hn;obtain⟨a1,a2,a3⟩:=hn;simp[TU,JC,upd,Av.get,a1,a2,a3,Ne.symm a1,Ne.symm a2,Ne.symm a3]at h
 have h:=(con58 r l hl).call (fun i=>if i=1004 then 5 else if i=1005 then 3 else if i=1007 then 7 else i) (fun i hi=>by
   simp only[TU,Av.get]at hi
   repeat' split at hi
   all_goals first|(cases hi;done)|omega) (fun i j hi hj h=>by
   rcases hd _ i hi with rfl|rfl|rfl<;>rcases hd _ j hj with rfl|rfl|rfl<;>first|rfl|(revert h;decide)) (by simp[JR,JS,Av.get]) (Jy (by simp[Jd,J5,JS,JR,Ue,Av.get])) [] (by simp[Av.get])
   (Jn (by simp[TU,U3,put,Jd,J5,JS,JR,Av.get])) trivial
 simp only[TU,Va,Vb,Vm,Obj.ren,Av.ren,UQ,YC,List.append_nil,Nat.reduceEqDiff,↓reduceIte]at h;refine JN.JJQ (j:=0) (JN.JLk h ?_) ?_ dC rfl dC rfl rfl
 ·simp
 ·simp
theorem JS7(p:Prg)(r:Nat)(hr:r<p.routes.length)(hl:J6 p.routes[r].steps≤1000000000):J3 Tryz.prog 66 [UD p,.int .i64 r] (.d (.list 13 ((wk1 r p.routes[r].steps).map XZ))):=by
  refine ok66.con (k:=none) (Nat.le_of_ble_eq_true rfl) (by intro i o h;cases h) trivial ?_
  have hc:=call58 r p.routes[r].steps hl
  have hx:=JU Ui hr
  simp only[Ui]at hx
  generalize wk1 (r:Int) p.routes[r].steps=o at*
  simp only[go_sem,ir66,UD,hx,Vv,Vc,Nat.reduceAdd,Nat.reduceEqDiff,Nat.reduceBEq,Nat.reduceLeDiff,reduceCtorEq,↓reduceIte]
  refine⟨⟨by omega,by omega⟩,by decide,JT rfl hc ⟨rfl,rfl,rfl,trivial⟩ ?_⟩
  simp only[go_sem,Nat.reduceAdd,Nat.reduceEqDiff,Nat.reduceBEq,Nat.reduceLeDiff,reduceCtorEq,↓reduceIte]
def wkN(l:List Rou)(k:Nat):List Wlk:=(List.range k).flatMap fun i=>match l[i]? with|some x=>wk1 i x.steps|none=>[]
theorem JEq{l:List Rou}{k:Nat}(h:k<l.length):wkN l (k+1)=wkN l k++wk1 k l[k].steps:=by
 unfold wkN;rw[List.range_succ,List.flatMap_append];simp[Vl h]
def XN:List Rou→Nat
 |[]=>0
 |x::r=>J6 x.steps+XN r
theorem JHz:∀{l:List Rou} {x:Rou},x∈l→J6 x.steps≤XN l
 |v::r,s,h=>by
  rcases VA.1 h with rfl|h
  ·simp only[XN];omega
  ·have:=JHz h;simp only[XN];omega
theorem JDi(l:List Rou):∀k:Nat,k≤l.length→(wkN l k).length≤XN (l.take k)
 |0,_=>by simp[wkN]
 |k+1,h=>by
  rw[JEq oM,Vg,List.take_succ_eq_append_getElem oM];have h1:=JDi l k oM;have h2:(wk1 k l[k].steps).length≤J6 l[k].steps:=by
   have:=JA9 k l[k].steps 0 0 (0,[],[]);simpa[wk1]using this
  have h3:∀(a b:List Rou),XN (a++b)=XN a+XN b:=by
   intro a b
   induction a with
   |nil=>simp[XN]
   |cons x r ih=>simp only[List.cons_append,XN,ih];omega
  rw[h3];simp only[XN];omega
theorem Zr:∀(l:List Rou) (k:Nat),XN (l.take k)≤XN l
 |[],k=>by simp
 |x::r,0=>by simp[XN]
 |x::r,k+1=>by
  have:=Zr r k;simp only[List.take_succ_cons,XN];omega
theorem JS8(p:Prg)(hl:XN p.routes≤1000000000):J3 Tryz.prog 34 [UD p] (.d (.list 13 ((wkN p.routes p.routes.length).map XZ))):=by
  refine J3.Jk ok34.has fun hfit=>?_
  have hn:p.routes.length≤68719476736:=by
    have:=hfit _ (Vh)
    simp only[UD,fits,Un,Vc]at this
    omega
  clear hfit
  refine ok34.con (k:=none) (Nat.le_of_ble_eq_true rfl) (by intro i o h;cases h) trivial ?_
  simp only[go_sem,ir34,UD,Vc,Nat.reduceAdd,Nat.reduceEqDiff,Nat.reduceBEq,Nat.reduceLeDiff,reduceCtorEq,↓reduceIte]
  refine JK (fun n st=>∃k:Nat,k≤p.routes.length∧n=p.routes.length-k∧
    st=⟨[(1,.ref 1 0),(3,.ms 15 k),(7,.d (.int .i64 p.routes.length)),(8,.d (.int .i64 k))],
      [(1,.box [.d (.int .i64 p.version),.d (.list 9 (p.schemas.map UB)),.d (.list 7 (p.endpoints.map Jo)),.d (.list 4 (p.services.map Uy)),.d (.list 3 (p.routes.map Ui))]),(15,.row k 13 ((wkN p.routes k).map XZ))]⟩) ?_ ?_
  · refine⟨_,_,(Wk.JGu 3 15 13 rfl rfl (by decide)).trans (Wk.less ?_),0,Nat.zero_le _,rfl,rfl⟩
    simp[put,go_sem,wkN]
  · rintro n st ⟨k,hk,rfl,rfl⟩
    by_cases hlt:k<p.routes.length
    · have hd:decide ((k:Int)<(p.routes.length:Int))=true:=by simp;omega
      have hsz:J6 p.routes[k].steps≤XN p.routes:=JHz (Vk hlt)
      have hc:=(JS7 p k hlt (by omega)).call trivial
      have hln:=JDi p.routes (k+1) (by omega)
      have htk:=Zr p.routes (k+1)
      rw[JEq hlt,Vg]at hln
      simp only[UD]at hc
      simp only[go_sem,hd,Nat.reduceAdd,Nat.reduceEqDiff,Nat.reduceBEq,Nat.reduceLeDiff,reduceCtorEq,↓reduceIte]
      refine JT rfl hc trivial ?_
      simp only[go_sem,Nat.reduceAdd,Nat.reduceEqDiff,Nat.reduceBEq,Nat.reduceLeDiff,reduceCtorEq,↓reduceIte]
      refine⟨by simp;omega,p.routes.length-(k+1),_,by omega,Wk.less ?_,k+1,by omega,rfl,rfl⟩
      rw[JEq hlt,Vw]
      simp only[go_sem,JF k (by omega),Nat.reduceAdd,Nat.reduceEqDiff,Nat.reduceBEq,Nat.reduceLeDiff,reduceCtorEq,↓reduceIte]
    · have hd:decide ((k:Int)<(p.routes.length:Int))=false:=by simp;omega
      obtain rfl:k=p.routes.length:=by omega
      simp only[go_sem,hd,Nat.reduceAdd,Nat.reduceEqDiff,Nat.reduceBEq,Nat.reduceLeDiff,reduceCtorEq,↓reduceIte]
end Go.Proofs
namespace Go.Proofs
open Go Av
open Av.Y
end Go.Proofs
namespace Go.Proofs
open Go Av
open Av.Y
end Go.Proofs
namespace Go.Proofs
open Go Av
end Go.Proofs
namespace Go.Proofs
open Go Av
open Av.Y
end Go.Proofs
namespace Go.Proofs
open Go Av
end Go.Proofs
namespace Go.Proofs
open Go Av Go.RowKit
end Go.Proofs
namespace Go.Proofs
open Go.Shelf
end Go.Proofs
namespace Go.Proofs
open Go Av
open Av.Y
end Go.Proofs
namespace Go.Proofs
open Go Av Go.RowKit
end Go.Proofs
namespace Go.Proofs
open Go Av
theorem JGW{o1 o2:Av.Obj}{i:Nat}(h:(get [(1000,o1),(1001,o2)] i).isSome=true):i=1000∨i=1001:=by
 simp only[Av.get]at h;split at h
 ·rename_i e;exact .inl e.symm
 ·split at h
  ·rename_i e;exact .inr e.symm
  ·cases h
theorem Con.two{P:Program}{f:Nat}{args:List Av}{o1 o2:Av.Obj}{r:Dat}(h:Con P f args [(1000,o1),(1001,o2)] (.d r) [])(i j:Nat)(hij:i≠j)
  (hargs:∀c∈args,inT (get [(1000,o1),(1001,o2)]) c)(hcl:closed (get [(1000,o1),(1001,o2)])):
  JN P f (args.map (Av.ren fun n=>if n=1000 then i else j)) [(i,some (o1.ren fun n=>if n=1000 then i else j)),(j,some (o2.ren fun n=>if n=1000 then i else j))] (.d r) []:=by
 have:=h.call (fun n=>if n=1000 then i else j) (fun k hk=>by rcases JGW hk with rfl|rfl<;>decide) (fun a b ha hb e=>?_) hargs hcl [] sP hcl trivial
 ·simpa[Av.ren]using this
 ·rcases JGW ha with rfl|rfl<;>rcases JGW hb with rfl|rfl
  ·rfl
  ·simp at e;exact absurd e hij
  ·simp at e;exact absurd e.symm hij
  ·rfl
end Go.Proofs
namespace Go.Proofs
open Go.Shelf
end Go.Proofs
namespace Go.Proofs
open Go Av
end Go.Proofs
namespace Go.Proofs
open Go Av Go.RowKit
end Go.Proofs
namespace Go.Proofs
open Go Av
end Go.Proofs
namespace Go.Proofs
open Go Av Go.RowKit Go.Shelf
end Go.Proofs
namespace Av
open Go
end Av
namespace Go.Proofs
open Go Av Go.RowKit Go.Shelf
theorem JH0{α:Type}{l:List α}{m j:Nat}{v:α}(h:(l.take m)[j]? =some v):l[j]? =some v:=by
 rw[List.getElem?_take]at h;split at h
 ·exact h
 ·cases h
end Go.Proofs
namespace Go.Proofs
open Go Av Go.RowKit Go.Shelf
variable {A:Nat→Prop}{w:World}{F:List Dat}{V:List Value}
def Pt(A:Nat→Prop)(w:World)(F:List Dat)(V:List Value):Prop:=F.length=V.length∧∀(j:Nat) c v,F[j]? =some c→V[j]? =some v→Rep A w c v∧v.oneCell'=true
theorem Pt.app{F':List Dat}{V':List Value}(h:Pt A w F V)(h':Pt A w F' V'):Pt A w (F++F') (V++V'):=by
 refine⟨by rw[Vg,Vg,h.1,h'.1],fun j c v hc hv=>?_⟩;by_cases hj:j<F.length
 ·rw[Vz hj]at hc;rw[Vz (by rw[←h.1];exact hj)]at hv;exact h.2 j c v hc hv
 ·rw[Vy oM]at hc;rw[Vy (by rw[←h.1];omega),←h.1]at hv;exact h'.2 _ c v hc hv
theorem Pt.take(h:Pt A w F V)(k:Nat):Pt A w (F.take k) (V.take k):=
 ⟨by simp[h.1],fun j c v hc hv=>h.2 j c v (JH0 hc) (JH0 hv)⟩
theorem Pt.drop(h:Pt A w F V)(k:Nat):Pt A w (F.drop k) (V.drop k):=
 ⟨by simp[h.1],fun j c v hc hv=>by
  rw[List.getElem?_drop]at hc hv;exact h.2 _ c v hc hv⟩
theorem Pt.one{R:List Value}(h:Pt A w F V)(j:Nat)(v:Value)(hj:j<F.length)(hv:((V++R).toArray)[j]? =some v):v.oneCell'=true:=by
 rw[List.getElem?_toArray,Vz (by rw[←h.1];exact hj)]at hv;exact(h.2 j _ v (Vl hj) hv).2
theorem Pt.rep{R:List Value}(h:Pt A w F V)(j:Nat)(c:Dat)(v:Value)(hc:F[j]? =some c)(hv:((V++R).toArray)[j]? =some v):Rep A w c v:=by
 have hj:j<F.length:=(VB.1 hc).1;rw[List.getElem?_toArray,Vz (by rw[←h.1];exact hj)]at hv;exact(h.2 j c v hc hv).1
end Go.Proofs
namespace Go.Proofs
open Go Av
open Av.Y
def ir52:Ic:=q (R (ox 1 0<|oN 2 yG<|N) [0])<|q (R (of 6 1 3<|oL 7 7 6<|cl 8 29 [t 7]<|of 9 1 3<|oS 7 9 8<|N) [6,7,8,9])<|q (R (of 10 1 10<|ol 11 10<|oh 12 11<|oo 13 (.mks 6 [.int .i64 0,.int .i64 0,.int .i64 0,.str [],.nil 6,.nil 7] (i 0) (t 12))<|om 3 13<|N) [10,11,12,13])<|q (q (R (of 14 1 10<|ol 15 14<|oh 16 15<|oz 17 0<|N) [14])<|D (.block 0<|.loop (q (.reg (ot 18 .lss 17 16<|N))<|q (D (I 18 S (E 0)) [18])<|q (D (.block 1<|q (R (oa true 19 6 15 17<|oL 20 6 19<|oN 5 y6<|oS 6 5 20<|N) [19,20])<|R (om 21 3<|oL 22 6 5<|cl 23 101 [t 22]<|oo 24 (.bls 6 [t 23])<|oo 25 (.app 6 (t 21) (t 24))<|om 3 25<|N) [5,21,22,23,24,25]) [])<|R (oi 26 .add 17 1<|om 17 26<|N) [26])) [15,16,17,18,5])<|q (R (om 27 3<|of 28 1 10<|os 28 27<|N) [3,27,28])<|q (R (oL 29 11 1<|oS 11 2 29<|N) [1,29])<|.ret
theorem ok52:FT 52 30 ir52 [.cell 2 (some 11)]:=.o Tryz.func52
def ir29:Ic:=q (R (ox 1 0<|oN 2 yT<|N) [0])<|q (R (of 9 1 5<|ol 10 9<|oh 11 10<|oo 12 (.mks 7 [.int .i64 0,.int .i64 0,.int .i64 0,.int .i64 0,.nil 1,.nil 7,.nil 11] (i 0) (t 11))<|om 3 12<|N) [9,10,11,12])<|q (q (R (of 13 1 5<|ol 14 13<|oh 15 14<|oz 16 0<|N) [13])<|D (.block 0<|.loop (q (.reg (ot 17 .lss 16 15<|N))<|q (D (I 17 S (E 0)) [17])<|q (D (.block 1<|q (R (oa true 18 7 14 16<|oL 19 7 18<|oN 5 yT<|oS 7 5 19<|N) [18,19])<|R (om 20 3<|oL 21 7 5<|cl 22 29 [t 21]<|oo 23 (.bls 7 [t 22])<|oo 24 (.app 7 (t 20) (t 23))<|om 3 24<|N) [5,20,21,22,23,24]) [])<|R (oi 25 .add 16 1<|om 16 25<|N) [25])) [14,15,16,17,5])<|q (R (of 26 1 6<|ol 27 26<|oh 28 27<|oo 29 (.mks 11 [.int .i64 0,.str [],.int .i64 0,.int .i64 0,.int .i64 0,.int .i64 0,.int .i64 0,.nil 1,.nil 7,.nil 11,.nil 6] (i 0) (t 28))<|om 6 29<|N) [26,27,28,29])<|q (q (R (of 30 1 6<|ol 31 30<|oh 32 31<|oz 33 0<|N) [30])<|D (.block 2<|.loop (q (.reg (ot 34 .lss 33 32<|N))<|q (D (I 34 S (E 2)) [34])<|q (D (.block 3<|q (R (oa true 35 11 31 33<|oL 36 11 35<|oN 8 yG<|oS 11 8 36<|N) [35,36])<|R (om 37 6<|oL 38 11 8<|cl 39 52 [t 38]<|oo 40 (.bls 11 [t 39])<|oo 41 (.app 11 (t 37) (t 40))<|om 6 41<|N) [8,37,38,39,40,41]) [])<|R (oi 42 .add 33 1<|om 33 42<|N) [42])) [31,32,33,34,8])<|q (R (of 43 1 4<|ol 44 43<|cl 45 53 [t 44]<|om 46 3<|om 47 6<|of 48 1 4<|os 48 45<|of 49 1 5<|os 49 46<|of 50 1 6<|os 50 47<|N) [3,6,43,44,45,46,47,48,49,50])<|q (R (oL 51 7 1<|oS 7 2 51<|N) [1,51])<|.ret
theorem ok29:FT 29 52 ir29 [.cell 2 (some 7)]:=.o Tryz.func29
end Go.Proofs
namespace Go.Proofs
open Go Av
mutual
theorem JEr:∀v:Val,fits (J0 v)→okV v
 |.mk k i s t l f,h=>by
  have h':l.length≤68719476736∧f.length≤68719476736:=(JQK h).2;rw[Ul]at h;simp only[fits,Un,and_true,Val.list,Val.fields]at h;simp only[okV];exact⟨h'.1,h'.2,JFp l fun x hx=>UG.1 h.2.2.2.2.1.2 _ (VC.2 ⟨x,hx,rfl⟩),JFq f fun x hx=>UG.1 h.2.2.2.2.2.2 _ (VC.2 ⟨x,hx,rfl⟩)⟩
theorem JFp:∀l:List Val,(∀x∈l,fits (J0 x))→JE8 l
 |[],_=>by simp[JE8]
 |v::r,h=>by
  simp only[JE8];exact⟨JEr v (h v (Vh)),JFp r fun x hx=>h x (Vn _ hx)⟩
theorem JFq:∀l:List Fld,(∀x∈l,fits (Zm x))→JE9 l
 |[],_=>by simp[JE9]
 |.mk n v::r,h=>by
  have h1:=h (.mk n v) (Vh);rw[JDf]at h1;have h2:fits (J0 v):=by
   rw[Ul];simp only[fits,Un,and_true,Fld.value]at h1⊢;exact h1.2
  simp only[JE9];exact⟨JEr v h2,JFq r fun x hx=>h x (Vn _ hx)⟩
end
theorem p101(a:Val):PT 101 [J0 a] (.d (J0 a)):=J3.Jk JM8.has fun h=>JDg a (JEr a (h _ (Vh)))
theorem JS9{t:Typ}(h:fits (UX t)):t.words.length≤68719476736∧t.elem.length≤68719476736∧t.fields.length≤68719476736:=by
 rw[Us]at h;simp only[fits,Un,Vc,and_true]at h;exact⟨h.2.2.2.2.1.1,h.2.2.2.2.2.1.1,h.2.2.2.2.2.2.1⟩
end Go.Proofs
namespace Go.Proofs
open Go.Shelf
def Tryz.JFG:Go.Shelf.Ren:=⟨fun|16=>53|n=>n,fun|24=>36|9=>9|4=>4|n=>n,fun|n=>n⟩
theorem Tryz.JC0:Go.Proofs.Lays2.n16 Tryz.prog Tryz.JFG:={
 mixed:=kR
 f16:=Tryz.func53.trans (congrArg some kR)
 t4:=Tryz.underlying4
 a4:=Tryz.isAgg4
 z4:=Tryz.sizeOf4
 v4:=Tryz.zeroValue4
 t9:=Tryz.underlying9
 a9:=Tryz.isAgg9
 z9:=Tryz.sizeOf9
 v9:=Tryz.zeroValue9
 t24:=Tryz.underlying36
 a24:=Tryz.isAgg36
 z24:=Tryz.sizeOf36
 v24:=Tryz.zeroValue36
 i9:=by kernel_rfl}
end Go.Proofs
namespace Go.Proofs
open Go Av Go.RowKit
theorem JOf(ss:List Str):CT 53 [.d (.list 1 (ss.map .str))] [] (.d (.list 1 (ss.map .str))) []:=by
 refine JN.JLl (ds:=[.list 1 (ss.map .str)]) ⟨_,Tryz.func53,kR,kR⟩ fun A w vs hl hv=>?_
 obtain⟨v,rfl⟩:=JHd (sX hl);have hr:=hv 0 _ v rfl rfl;have hf:=hr.fits;simp only[fits,Vc]at hf;have hfl:(flat (ss.map Dat.str))=ss.map .str:=Zk ss;have hs:∀s∈ss,s.length≤68719476736:=fun s h=>UG.1 hf.2 (.str s) (VC.2 ⟨s,h,rfl⟩)
 generalize hD:ss.map Dat.str=D at hr hfl;cases hr with
 |emp _ a cap=>
  obtain rfl:ss=[]:=List.map_eq_nil_iff.1 hD;cases a with
  |none=>exact(Any.slices_Clone_string_nil Tryz.JC0 0 cap w).mono fun e w' ⟨h1,h2⟩=>⟨_,h1,by rw[h2];exact Below.refl _ _,.emp 1 none 0⟩
  |some a=>
   refine(Any.slices_Clone_string_zero Tryz.JC0 a cap w).mono ?_;rintro e w' ⟨v',rfl,h,_,hb⟩;exact⟨_,rfl,hb,JHe (ss:=[]) rfl sP sP h⟩
 |list _ _ b o n cap vs hn hA hcap hc h1 hsz hh hvl hvv=>
  subst hD;have hlen:n=ss.length:=sX hn;have hcell:∀j (h:j<ss.length),vs[j]? =some (.string ⟨ss[j].toArray⟩):=by
   intro j h;rw[Zk]at hvl;have hj:j<vs.length:=by simp at hvl;omega
   have:=hvv j (.str ss[j]) vs[j] (by rw[Zk];simp[h]) (by simp[hj]);rw[Vl hj];generalize vs[j]=z at this;cases this;rfl
  refine(Any.slices_Clone_string Tryz.JC0 b o n cap (ss.map fun s=>⟨s.toArray⟩) w sO oM ?_).mono ?_
  ·intro j hj;have hj':j<ss.length:=sX hj;have:=hh j _ (hcell j hj');rw[this];simp[hj']
  ·rintro e w' ⟨v',rfl,h,_,hb⟩;rw[List.take_of_length_le sO,List.map_map]at h;exact⟨_,rfl,hb,JHe hlen hs hf.1 h⟩
end Go.Proofs
namespace Go.Proofs
open Go Av
theorem JTA(g:TFl)(h:PT 29 [UX g.type] (.d (UX g.type))):PT 52 [XY g] (.d (XY g)):=by
 refine J3.Jk ok52.has fun hfit=>?_
 have hdl:g.dflt.length≤68719476736:=by
  have:=hfit _ (Vh);rw[JCH]at this;simp only[fits,Un,Vc,and_true]at this;exact this.2.2.2.2.2.2.2.2.2.2.1
 refine ok52.pc ?_;have c:=h.call trivial;rw[Us]at c;rw[JCH];simp only[go_sem,ir52,simprocAttr];refine wc c ?_;refine⟨⟨Int.le_refl _,sP,sO⟩,?_⟩;refine JK (fun n s=>∃k:Nat,k≤g.dflt.length∧n=g.dflt.length-k∧
  s=⟨[(1,.ref 1 0),(2,.ref 2 0),(3,.ms 13 k),(15,.d (.list 6 (g.dflt.map J0))),(16,.d (.int .i64 g.dflt.length)),(17,.d (.int .i64 k))],
   [(1,.box [.d (.int .i64 g.number),.d (.str g.name),.d (.int .i64 g.need),.d (.int .i64 g.type.kind),.d (.int .i64 g.type.min),.d (.int .i64 g.type.max),.d (.int .i64 g.type.scale),.d (.list 1 (g.type.words.map .str)),.d (.list 7 (g.type.elem.map UX)),.d (.list 11 (g.type.fields.map XY)),.d (.list 6 (g.dflt.map J0))]),(2,.box [.d (.int .i64 0),.d (.str []),.d (.int .i64 0),.d (.int .i64 0),.d (.int .i64 0),.d (.int .i64 0),.d (.int .i64 0),.d (.nil 1),.d (.nil 7),.d (.nil 11),.d (.nil 6)]),(13,.row k 6 ((g.dflt.take k).map J0))]⟩) ?_ ?_
 ·exact⟨_,_,Wk.refl _,0,Nat.zero_le _,rfl,sP⟩
 ·rintro n s ⟨k,hk,rfl,rfl⟩;by_cases hlt:k<g.dflt.length
  ·have hx:=JET hlt;have hd:=dT hlt;have hc:=(p101 g.dflt[k]).call trivial;rw[Ul]at hc;refine zz6 ?_;refine⟨oM,wn hc ?_⟩;refine zz ?_;refine⟨sP,sO,?_⟩;refine⟨g.dflt.length-(k+1),_,oM,Wk.less ?_,k+1,oM,rfl,rfl⟩;rw[List.take_succ_eq_append_getElem hlt,Vw];simp only[go_sem,JF k oM,Va,Vb,Ul g.dflt[k],Nat.reduceAdd,Nat.reduceEqDiff,Nat.reduceBEq,Nat.reduceLeDiff,reduceCtorEq,↓reduceIte]
  ·have hd:=dF hlt;obtain rfl:k=g.dflt.length:=oM;exact JEH trivial
theorem JTB(t:Typ)(h1:∀x∈t.elem,PT 29 [UX x] (.d (UX x)))(h2:∀g∈t.fields,PT 52 [XY g] (.d (XY g))):PT 29 [UX t] (.d (UX t)):=by
 refine J3.Jk ok29.has fun hfit=>?_
 obtain⟨f1,f2,f3⟩:=JS9 (hfit _ (Vh));refine ok29.pc ?_;rw[Us];simp only[go_sem,ir29,Nat.reduceAdd,Nat.reduceEqDiff,Nat.reduceBEq,Nat.reduceLeDiff,reduceCtorEq,↓reduceIte];refine⟨⟨Int.le_refl _,sP,sO⟩,?_⟩;refine JK (fun n s=>∃k:Nat,k≤t.elem.length∧n=t.elem.length-k∧
  s=⟨[(1,.ref 1 0),(2,.ref 2 0),(3,.ms 12 k),(14,.d (.list 7 (t.elem.map UX))),(15,.d (.int .i64 t.elem.length)),(16,.d (.int .i64 k))],
   [(1,.box [.d (.int .i64 t.kind),.d (.int .i64 t.min),.d (.int .i64 t.max),.d (.int .i64 t.scale),.d (.list 1 (t.words.map .str)),.d (.list 7 (t.elem.map UX)),.d (.list 11 (t.fields.map XY))]),(2,.box [.d (.int .i64 0),.d (.int .i64 0),.d (.int .i64 0),.d (.int .i64 0),.d (.nil 1),.d (.nil 7),.d (.nil 11)]),(12,.row k 7 ((t.elem.take k).map UX))]⟩) ?_ ?_
 ·exact⟨_,_,Wk.refl _,0,Nat.zero_le _,rfl,sP⟩
 ·rintro n s ⟨k,hk,rfl,rfl⟩;by_cases hlt:k<t.elem.length
  ·have hx:=JOA hlt;have hd:=dT hlt;have hc:=(h1 t.elem[k] (Vk _)).call trivial;rw[Us]at hc;refine zz6 ?_;refine⟨oM,wn hc ?_⟩;refine zz ?_;refine⟨sP,sO,?_⟩;refine⟨t.elem.length-(k+1),_,oM,Wk.less ?_,k+1,oM,rfl,rfl⟩;rw[List.take_succ_eq_append_getElem hlt,Vw];simp only[go_sem,JF k oM,Va,Vb,Us t.elem[k],Nat.reduceAdd,Nat.reduceEqDiff,Nat.reduceBEq,Nat.reduceLeDiff,reduceCtorEq,↓reduceIte]
  ·have hd:=dF hlt;obtain rfl:k=t.elem.length:=oM;refine JEH ?_;refine⟨⟨Int.le_refl _,sP,sO⟩,?_⟩;refine JK (fun n s=>∃k:Nat,k≤t.fields.length∧n=t.fields.length-k∧
    s=⟨[(1,.ref 1 0),(2,.ref 2 0),(3,.ms 12 t.elem.length),(6,.ms 29 k),(31,.d (.list 11 (t.fields.map XY))),(32,.d (.int .i64 t.fields.length)),(33,.d (.int .i64 k))],
     [(1,.box [.d (.int .i64 t.kind),.d (.int .i64 t.min),.d (.int .i64 t.max),.d (.int .i64 t.scale),.d (.list 1 (t.words.map .str)),.d (.list 7 (t.elem.map UX)),.d (.list 11 (t.fields.map XY))]),(2,.box [.d (.int .i64 0),.d (.int .i64 0),.d (.int .i64 0),.d (.int .i64 0),.d (.nil 1),.d (.nil 7),.d (.nil 11)]),(12,.row t.elem.length 7 (t.elem.map UX)),(29,.row k 11 ((t.fields.take k).map XY))]⟩) ?_ ?_
   ·refine⟨_,_,Wk.less ?_,0,Nat.zero_le _,rfl,rfl⟩;simp[go_sem]
   ·rintro n s ⟨k,hk,rfl,rfl⟩;by_cases hlt:k<t.fields.length
    ·have hx:=JOB hlt;have hd:=dT hlt;have hc:=(h2 t.fields[k] (Vk _)).call trivial;rw[JCH]at hc;refine zz6 ?_;refine⟨oM,wn hc ?_⟩;refine zz ?_;refine⟨sP,sO,?_⟩;refine⟨t.fields.length-(k+1),_,oM,Wk.less ?_,k+1,oM,rfl,rfl⟩;rw[List.take_succ_eq_append_getElem hlt,Vw];simp only[go_sem,JF k oM,Va,Vb,JCH t.fields[k],Nat.reduceAdd,Nat.reduceEqDiff,Nat.reduceBEq,Nat.reduceLeDiff,reduceCtorEq,↓reduceIte]
    ·have hd:=dF hlt;obtain rfl:k=t.fields.length:=oM;refine JEH ?_;refine wc (JOf t.words) trivial
mutual
theorem p29:∀t:Typ,PT 29 [UX t] (.d (UX t))
 |.mk k a b s w e f=>JTB _ (p29s e) (p52s f)
theorem p29s:∀l:List Typ,∀x∈l,PT 29 [UX x] (.d (UX x))
 |[],x,h=>by cases h
 |t::r,x,h=>by
  have h0:=p29 t;have h1:=p29s r x;rcases VA.1 h with e|h
  ·rw[e];exact h0
  ·exact h1 h
theorem p52:∀g:TFl,PT 52 [XY g] (.d (XY g))
 |.mk n m d t v=>JTA _ (p29 t)
theorem p52s:∀l:List TFl,∀x∈l,PT 52 [XY x] (.d (XY x))
 |[],x,h=>by cases h
 |t::r,x,h=>by
  have h0:=p52 t;have h1:=p52s r x;rcases VA.1 h with e|h
  ·rw[e];exact h0
  ·exact h1 h
end
def JGy(a b:Int):Typ:=.mk 2 a b 0 [] [] []
def recG(k:Nat)(p:Str×Typ):TFl:=.mk ((k:Int)+1) p.1 1 p.2 []
def JRj:Nat→List (Str×Typ)→List TFl
 |_,[]=>[]
 |k,p::r=>recG k p::JRj (k+1) r
def recT(l:List (Str×Typ)):Typ:=.mk 9 0 0 0 [] [] (JRj 0 l)
@[instance_reducible] def rls0:Rls:={rl:=fun _=>false}
def sBody:Str:=[98,111,100,121]
def JTC:Str:=[114,101,112,108,121]
def JMa(b x:Typ):Typ:=recT [(sBody,b),(JTC,x)]
end Go.Proofs
namespace Go.Proofs
open Go Av
open Av.Y
end Go.Proofs
namespace Go.Proofs
open Go Av
structure Lim where
 name:Str
 low:Int
 high:Int
 bounds:Bool
 scale:Bool
 text:Bool
 list:Bool
 fields:Bool
theorem JN.datA{P:Program}[Glb]{f:Nat}{vs:List Av}{hp u:List (Nat×Av.Obj)}{ds:List Dat}{v:Av}{p:Prop}(hd:Jl (Av.get hp) vs=some (p,ds,u))(hp0:p)(h:JN P (.fn f) (ds.map .d) [] v []):
  JN P (.fn f) vs ((vs.flatMap JAO).map fun i=>(i,Av.get hp i)) v u:=by
 intro β A w H us hT hc hvs;have heq:Jl H vs=some (p,ds,u):=by
  rw[←hd];refine YL fun x hx=>?_
  exact hT (x,Av.get hp x) (VC.2 ⟨x,hx,rfl⟩)
 obtain⟨A1,s1,l1,r1,m1⟩:=XA hc heq hp0 (us:=us.toList) (sX hvs.1) (fun k c u h1 h2=>hvs.2 k c u h1 (sX h2));refine(h β A1 w (JC H u) us (by intro e he;cases he) s1.core ⟨by simpa using l1,fun k c u h1 h2=>?_⟩).mono ?_
 ·rw[Vo]at h1;cases e:ds[k]? with
  |none=>simp[e]at h1
  |some x=>
   simp only[e,Vj,Vd]at h1;subst h1;exact .d _ _ (r1 k x u e (sX h2))
 ·rintro v' w' ⟨β',A',q1,q2⟩;exact⟨β',A',s1.trans q1,q2⟩
@[instance_reducible] def rls7:Rls:={rl:=fun n=>n==1||n==7}
@[instance_reducible] def rls8:Rls:={rl:=fun n=>n==8}
def orS(a b:Str):Str:=if a==[]then b else a
theorem JTD(a b:Str):PT 60 [.list 1 [.str a,.str b]] (.d (.str (orS a b))):=by
 refine ok60.pc ?_;simp only[go_sem,ir60,Nat.reduceAdd,Nat.reduceEqDiff,Nat.reduceBEq,Nat.reduceLeDiff,reduceCtorEq,↓reduceIte];refine JK (fun r st=>∃k:Nat,k≤2∧r=2-k∧(0<k→a=[])∧(1<k→b=[])∧
  st=⟨[(3,.d (.str [])),(6,.d (.list 1 [.str a,.str b])),(7,.d (.int .i64 2)),(8,.d (.int .i64 k))],[]⟩) ?_ ?_
 ·refine⟨_,_,Wk.less ?_,0,oM,rfl,oM,oM,rfl⟩;simp[go_sem]
 ·rintro r st ⟨k,hk,rfl,h0,h1,rfl⟩;obtain rfl|rfl|rfl:k=0∨k=1∨k=2:=oM
  ·have e0:((0:Nat):Int)=0:=rfl;have e1:decide ((0:Int)<2)=true:=rfl;have e2:(0:Int).toNat=0:=rfl;have e3:nth [Dat.str a,Dat.str b] 0=.str a:=rfl;simp only[go_sem,e0,e1,e2,e3,Nat.reduceAdd,Nat.reduceEqDiff,Nat.reduceBEq,Nat.reduceLeDiff,reduceCtorEq,↓reduceIte];refine⟨dC,dC,fun h=>?_,fun h=>?_⟩
   ·have:(a==[])=false:=sX h;simp only[go_sem,orS,this,Nat.reduceAdd,Nat.reduceEqDiff,Nat.reduceBEq,Nat.reduceLeDiff,reduceCtorEq,↓reduceIte]
   ·have:a=[]:=sX h;refine⟨1,_,oM,Wk.less ?_,1,oM,rfl,fun _=>this,oM,rfl⟩;simp[go_sem];decide
  ·have e0:((1:Nat):Int)=1:=rfl;have e1:decide ((1:Int)<2)=true:=rfl;have e2:(1:Int).toNat=1:=rfl;have e3:nth [Dat.str a,Dat.str b] 1=.str b:=rfl;obtain rfl:=h0 oM;simp only[go_sem,e0,e1,e2,e3,Nat.reduceAdd,Nat.reduceEqDiff,Nat.reduceBEq,Nat.reduceLeDiff,reduceCtorEq,↓reduceIte];refine⟨dC,dC,fun h=>?_,fun h=>?_⟩
   ·simp[orS]
   ·have hb:b=[]:=sX h;refine⟨0,_,oM,Wk.less ?_,2,oM,rfl,fun _=>hb,rfl⟩;simp[go_sem];decide
  ·have e0:((2:Nat):Int)=2:=rfl;have e1:decide ((2:Int)<2)=false:=rfl;have e2:(2:Int).toNat=2:=rfl;obtain rfl:=h0 oM;obtain rfl:=h1 oM;simp only[go_sem,e0,e1,Nat.reduceAdd,Nat.reduceEqDiff,Nat.reduceBEq,Nat.reduceLeDiff,reduceCtorEq,↓reduceIte];simp[orS]
def CL(f:Nat)(caps:List Dat)(φ:List Dat→List Dat):Prop:=∀x0 x1 x2 x3 x4 x5 x6 x7 x8 x9 x10:Dat,
 KT f (.ref 1000 0::caps.map .d) [(1000,.box ([x0,x1,x2,x3,x4,x5,x6,x7,x8,x9,x10].map .d))] (.tup []) [(1000,.box ((φ [x0,x1,x2,x3,x4,x5,x6,x7,x8,x9,x10]).map .d))]
theorem CL.gen{f:Nat}{caps:List Dat}{φ:List Dat→List Dat}(h:CL f caps φ){xs:List Dat}(hx:xs.length=11):
  KT f (.ref 1000 0::caps.map .d) [(1000,.box (xs.map .d))] (.tup []) [(1000,.box ((φ xs).map .d))]:=by
 match xs,hx with
 |[x0,x1,x2,x3,x4,x5,x6,x7,x8,x9,x10],_=>exact h x0 x1 x2 x3 x4 x5 x6 x7 x8 x9 x10
end Go.Proofs
namespace Go.Proofs
open Go Av
open Av.Y
end Go.Proofs
namespace Go.Proofs
open Go Av
mutual
def szT:Typ→Nat
 |.mk _ _ _ _ _ e f=>1+szTs e+szGs f
def szTs:List Typ→Nat
 |[]=>0
 |v::r=>szT v+szTs r
def szGs:List TFl→Nat
 |[]=>0
 |.mk _ _ _ t _::r=>szT t+szGs r
end
end Go.Proofs
namespace Go.Proofs
open Go Av
open Av.Y
end Go.Proofs
namespace Go.Proofs
open Go Av
abbrev TF(b:Bool):List (Nat×Av.Obj):=[(1000,.box [.clo (.func 0) [] [.ref 1001 0],.d (.bool (!b))]),(1001,.box [.d (.bool b)])]
theorem JOg(b c:Bool):closed (JC (Av.get (TF b)) (TF c)):=by
 refine Jn ?_;simp[TF,U3,put,Jd,J5,JS,JR,Av.get]
theorem JOh(b:Bool):closed (Av.get (TF b)):=by
 refine Jy ?_;simp[TF,Jd,J5,JS,JR,Av.get]
theorem JI5{b:Bool}{i:Nat}(h:(Av.get (TF b) i).isSome=true):i=1000∨i=1001:=by
 simp only[TF,Av.get]at h
 repeat' split at h
 all_goals first|(cases h;done)|skip
 all_goals rename_i e
 all_goals first|omega|skip
theorem JTE(b c:Bool):U3 (TF b) (TF c)=TF c:=by simp[TF,U3,put]
theorem JQU(b c:Bool):JC (Av.get (TF b)) (TF c)=Av.get (TF c):=by rw[←U5,JTE]
abbrev FCon(f:Nat)(ds:List Dat)(b c:Bool):Prop:=KT f (.ref 1000 0::ds.map .d) (TF b) (.tup []) (TF c)
theorem FCon.at{f:Nat}{ds:List Dat}{b c:Bool}(h:FCon f ds b c)(i j:Nat)(hij:i≠j):
  CT f (.ref i 0::ds.map .d) [(i,some (.box [.clo (.func 0) [] [.ref j 0],.d (.bool (!b))])),(j,some (.box [.d (.bool b)]))] (.tup []) [(i,.box [.clo (.func 0) [] [.ref j 0],.d (.bool (!c))]),(j,.box [.d (.bool c)])]:=by
 have:=Con.call h (fun m=>if m=1000 then i else j) (fun m hm=>by rcases JI5 hm with rfl|rfl<;>omega)
  (fun a b' ha hb e=>by
   rw[JQU]at ha hb;rcases JI5 ha with rfl|rfl<;>rcases JI5 hb with rfl|rfl
   ·rfl
   ·simp at e;exact absurd e hij
   ·simp at e;exact absurd e.symm hij
   ·rfl)
  (by
   intro c hc;rcases VA.1 hc with rfl|hc
   ·simp[inT,TF,Av.get,JR]
   ·obtain⟨x,_,rfl⟩:=VC.1 hc;trivial) (JOh b) [] (by simp[TF,Av.get]) (JOg b c) trivial
 have e:(ds.map Av.d).map (Av.ren fun m=>if m=1000 then i else j)=ds.map Av.d:=by
  rw[List.map_map];exact List.map_congr_left fun x _=>by simp[Av.ren]
 simp only[TF,Va,Vb,Obj.ren,Av.ren,UQ,List.append_nil,e,simprocAttr]at this;exact this
def inB(t:Typ)(n:Int):Bool:= !(decide (n<t.min)||decide (n>t.max))
def JRk(w:Val):Prop:=w.list=[]∧w.fields=[]
mutual
def nmV:Val→Prop
 |.mk _ _ _ _ l f=>JTF l∧JTG f
def JTF:List Val→Prop
 |[]=>True
 |v::r=>nmV v∧JTF r
def JTG:List Fld→Prop
 |[]=>True
 |.mk n v::r=>n.length≤4096∧nmV v∧JTG r
end
theorem JTH(v:Val):nmV v↔JTF v.list∧JTG v.fields:=by cases v;rfl
theorem JQV{v:Val}(h1:v.list=[]∧v.fields=[]):nmV v:=by
 rw[JTH,h1.1,h1.2];exact⟨trivial,trivial⟩
theorem JQW{w:Val}(h:JRk w):szV w≤1000000:=by
 rw[JSw,h.1,h.2];simp[JQI,JQJ]
def JRl(B:Nat)(v:Val):Prop:=szV v≤1000000∧v.text.length≤B∧nmV v
theorem JRl.flat{B:Nat}{v:Val}(h:JRk v)(ht:v.text=[]):JRl B v:=⟨JQW h,by rw[ht];exact Nat.zero_le _,JQV h⟩
end Go.Proofs
namespace Go.Proofs
open Go Av
open Av.Y
end Go.Proofs
namespace Go.Proofs
open Go Av
end Go.Proofs
