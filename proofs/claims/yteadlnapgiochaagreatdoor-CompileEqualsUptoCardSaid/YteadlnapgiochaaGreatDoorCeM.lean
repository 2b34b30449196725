/- Part M of a proof. -/
import Derived.Test.YteadlnapgiochaaGreatDoorCeF
import Derived.Test.YteadlnapgiochaaGreatDoorCeC
import Derived.Test.YteadlnapgiochaaGreatDoorCeA
import Derived.Test.YteadlnapgiochaaGreatDoorCeL
import Derived.Test.YteadlnapgiochaaGreatDoorProg
import Derived.Shelf.SlGeneric
import Derived.Shelf.LaysM
import Derived.Shelf.Strconv.Itoa3
import Derived.Shelf.LaysC
import Derived.Shelf.Strconv.AtoiAll
import Derived.Ground.Names2Prog
import Derived.Ground.SlgnProg
import Derived.Lib.ItoaLen
import Derived.Shelf.Strings.BuilderK
import Derived.Shelf.Strings.BuilderRune
import Derived.Shelf.Strings.Repeat
import Derived.Shelf.Unicode.DecodeAny
import Derived.Shelf.Sort.Plain
import Derived.Shelf.Slices.In.SortNone
import Derived.Shelf.Slices.CompactS
import Derived.Lib.RuneLoops
import Derived.WalkKit
import Derived.Laws.CopyRow
import Derived.Shelf.Spec.SlicesInsertGrow
import Derived.Shelf.Slices.Clone
set_option linter.unusedVariables false
set_option linter.unusedSimpArgs false
set_option linter.unusedSectionVars false
set_option linter.constructorNameAsVariable false
set_option linter.unnecessarySimpa false
set_option maxRecDepth 100000
namespace Av
open Go
variable [Glb]
mutual
inductive Typ where
 |mk (kind min max scale:Int) (words:List Str) (elem:List Typ) (fields:List TFl)
inductive TFl where
 |mk (number:Int) (name:Str) (need:Int) (type:Typ) (dflt:List Val)
end
namespace Typ
def kind:Typ→Int|.mk k _ _ _ _ _ _=>k
def min:Typ→Int|.mk _ a _ _ _ _ _=>a
def max:Typ→Int|.mk _ _ b _ _ _ _=>b
def scale:Typ→Int|.mk _ _ _ s _ _ _=>s
def words:Typ→List Str|.mk _ _ _ _ w _ _=>w
def elem:Typ→List Typ|.mk _ _ _ _ _ e _=>e
def fields:Typ→List TFl|.mk _ _ _ _ _ _ f=>f
end Typ
namespace TFl
def number:TFl→Int|.mk n _ _ _ _=>n
def name:TFl→Str|.mk _ n _ _ _=>n
def need:TFl→Int|.mk _ _ n _ _=>n
def type:TFl→Typ|.mk _ _ _ t _=>t
def dflt:TFl→List Val|.mk _ _ _ _ d=>d
end TFl
mutual
def UW:Typ→Dat
 |.mk k a b s w e f=>.agg [.int .i64 k,.int .i64 a,.int .i64 b,.int .i64 s,.list 1 (w.map .str),.list 7 (JCQ e),.list 11 (JCR f)]
def JCQ:List Typ→List Dat
 |[]=>[]
 |v::r=>UW v::JCQ r
def Xy:TFl→Dat
 |.mk n m d t v=>.agg ([.int .i64 n,.str m,.int .i64 d]++((UW t).cells++[.list 6 (v.map Jm)]))
def JCR:List TFl→List Dat
 |[]=>[]
 |v::r=>Xy v::JCR r
end
theorem JDA:∀l:List Typ,JCQ l=l.map UW
 |[]=>by simp[JCQ]
 |v::r=>by simp[JCQ,JDA r]
theorem JDB:∀l:List TFl,JCR l=l.map Xy
 |[]=>by simp[JCR]
 |v::r=>by simp[JCR,JDB r]
theorem UA(t:Typ):UW t=.agg [.int .i64 t.kind,.int .i64 t.min,.int .i64 t.max,.int .i64 t.scale,.list 1 (t.words.map .str),.list 7 (t.elem.map UW),.list 11 (t.fields.map Xy)]:=by
 cases t;simp[UW,JDA,JDB,Typ.kind,Typ.min,Typ.max,Typ.scale,Typ.words,Typ.elem,Typ.fields]
theorem JBF(f:TFl):Xy f=.agg [.int .i64 f.number,.str f.name,.int .i64 f.need,.int .i64 f.type.kind,.int .i64 f.type.min,.int .i64 f.type.max,.int .i64 f.type.scale,
  .list 1 (f.type.words.map .str),.list 7 (f.type.elem.map UW),.list 11 (f.type.fields.map Xy),.list 6 (f.dflt.map Jm)]:=by
 cases f;simp[Xy,UA,TFl.number,TFl.name,TFl.need,TFl.type,TFl.dflt,Dat.cells]
theorem JH4{xs:List Typ}{k:Nat}(h:k<xs.length):nth (xs.map UW) k=.agg [.int .i64 xs[k].kind,.int .i64 xs[k].min,.int .i64 xs[k].max,.int .i64 xs[k].scale,.list 1 (xs[k].words.map .str),.list 7 (xs[k].elem.map UW),.list 11 (xs[k].fields.map Xy)]:=by
 rw[XL (sX h),List.getElem_map,UA]
theorem JH5{xs:List TFl}{k:Nat}(h:k<xs.length):nth (xs.map Xy) k=.agg [.int .i64 xs[k].number,.str xs[k].name,.int .i64 xs[k].need,.int .i64 xs[k].type.kind,.int .i64 xs[k].type.min,.int .i64 xs[k].type.max,.int .i64 xs[k].type.scale,
  .list 1 (xs[k].type.words.map .str),.list 7 (xs[k].type.elem.map UW),.list 11 (xs[k].type.fields.map Xy),.list 6 (xs[k].dflt.map Jm)]:=by
 rw[XL (sX h),List.getElem_map,JBF]
theorem YY(l:List Str):JI (l.map .str)=l.map .str:=by
 rw[J1,List.map_map];exact List.map_congr_left fun p _=>by simp[Dat.canon]
mutual
theorem JBn:∀t:Typ,(UW t).canon=UW t
 |.mk k a b s w e f=>by simp only[UW,Dat.canon,JI,YY,JAr e,JAs f]
theorem JAr:∀l:List Typ,JI (JCQ l)=JCQ l
 |[]=>by simp[JCQ,JI]
 |v::r=>by simp only[JCQ,JI,JBn v,JAr r]
theorem JEr:∀f:TFl,(Xy f).canon=Xy f
 |.mk n m d t v=>by
  have:=JBn t;cases t with
  |mk k a b s w e f=>
   simp only[UW,Dat.canon,JI,Dat.agg.injEq,List.cons.injEq,true_and,and_true,Dat.list.injEq]at this;simp only[Xy,UW,Dat.cells,List.cons_append,List.nil_append,Dat.canon,JI,ZZ,this]
theorem JAs:∀l:List TFl,JI (JCR l)=JCR l
 |[]=>by simp[JCR,JI]
 |v::r=>by simp only[JCR,JI,JEr v,JAs r]
end
theorem YZ(l:List Typ):JI (l.map UW)=l.map UW:=by rw[←JDA,JAr]
theorem Za(l:List TFl):JI (l.map Xy)=l.map Xy:=by rw[←JDB,JAs]
attribute [go_sem] YY JBn JEr YZ Za
end Av
namespace Av
open Go
variable [Glb]
variable {k:Nat}
structure Kal where
 service:Str
 rules:List Rule
def JV(c:Kal):Dat:=.agg [.str c.service,.list 6 (c.rules.map Jz)]
mutual
inductive Ste where
 |mk (name:Str) (kind number time limit:Int) (text schema:Str) (exprs:List Exp) (rules:List Rule) (calls:List Kal) (branches:List Brn)
inductive Brn where
 |mk (cond:List Exp) (steps:List Ste)
end
namespace Ste
def name:Ste→Str|.mk n _ _ _ _ _ _ _ _ _ _=>n
def kind:Ste→Int|.mk _ n _ _ _ _ _ _ _ _ _=>n
def number:Ste→Int|.mk _ _ n _ _ _ _ _ _ _ _=>n
def time:Ste→Int|.mk _ _ _ n _ _ _ _ _ _ _=>n
def limit:Ste→Int|.mk _ _ _ _ n _ _ _ _ _ _=>n
def text:Ste→Str|.mk _ _ _ _ _ n _ _ _ _ _=>n
def schema:Ste→Str|.mk _ _ _ _ _ _ n _ _ _ _=>n
def exprs:Ste→List Exp|.mk _ _ _ _ _ _ _ n _ _ _=>n
def rules:Ste→List Rule|.mk _ _ _ _ _ _ _ _ n _ _=>n
def calls:Ste→List Kal|.mk _ _ _ _ _ _ _ _ _ n _=>n
def branches:Ste→List Brn|.mk _ _ _ _ _ _ _ _ _ _ n=>n
end Ste
namespace Brn
def cond:Brn→List Exp|.mk w _=>w
def steps:Brn→List Ste|.mk _ s=>s
end Brn
mutual
def JJ:Ste→Dat
 |.mk n k u t l x c e r a b=>.agg [.str n,.int .i64 k,.int .i64 u,.int .i64 t,.int .i64 l,.str x,.str c,.list 5 (e.map JX),.list 6 (r.map Jz),.list 2 (a.map JV),.list 2 (Zs b)]
def YG:List Ste→List Dat
 |[]=>[]
 |v::r=>JJ v::YG r
def J5:Brn→Dat
 |.mk w s=>.agg [.list 5 (w.map JX),.list 11 (YG s)]
def Zs:List Brn→List Dat
 |[]=>[]
 |v::r=>J5 v::Zs r
end
theorem JAD:∀l:List Ste,YG l=l.map JJ
 |[]=>by simp[YG]
 |v::r=>by simp[YG,JAD r]
theorem JDC:∀l:List Brn,Zs l=l.map J5
 |[]=>by simp[Zs]
 |v::r=>by simp[Zs,JDC r]
theorem JW(s:Ste):JJ s=.agg [.str s.name,.int .i64 s.kind,.int .i64 s.number,.int .i64 s.time,.int .i64 s.limit,.str s.text,.str s.schema,.list 5 (s.exprs.map JX),.list 6 (s.rules.map Jz),.list 2 (s.calls.map JV),.list 2 (s.branches.map J5)]:=by
 cases s;simp[JJ,JDC,Ste.name,Ste.kind,Ste.number,Ste.time,Ste.limit,Ste.text,Ste.schema,Ste.exprs,Ste.rules,Ste.calls,Ste.branches]
theorem X6(b:Brn):J5 b=.agg [.list 5 (b.cond.map JX),.list 11 (b.steps.map JJ)]:=by
 cases b;simp[J5,JAD,Brn.cond,Brn.steps]
structure Sch where
 name:Str
 version:Int
 type:Typ
def UB(c:Sch):Dat:=.agg [.str c.name,.int .i64 c.version,.int .i64 c.type.kind,.int .i64 c.type.min,.int .i64 c.type.max,.int .i64 c.type.scale,.list 1 (c.type.words.map .str),.list 7 (c.type.elem.map UW),.list 11 (c.type.fields.map Xy)]
structure Epd where
 name:Str
 kind:Int
 schema:Str
 version:Int
 fkind:Int
 sep:Int
 widths:List Int
def Jp(x:Epd):Dat:=.agg [.str x.name,.int .i64 x.kind,.str x.schema,.int .i64 x.version,.int .i64 x.fkind,.int .i64 x.sep,.list 1 (x.widths.map (.int .i64))]
structure Svc where
 name:Str
 request:Str
 reply:Str
 undo:Bool
def UR(x:Svc):Dat:=.agg [.str x.name,.str x.request,.str x.reply,.bool x.undo]
structure Rou where
 name:Str
 src:Str
 steps:List Ste
def Un(x:Rou):Dat:=.agg [.str x.name,.str x.src,.list 11 (x.steps.map JJ)]
structure Prg where
 version:Int
 schemas:List Sch
 endpoints:List Epd
 services:List Svc
 routes:List Rou
def UH(p:Prg):Dat:=.agg [.int .i64 p.version,.list 9 (p.schemas.map UB),.list 7 (p.endpoints.map Jp),.list 4 (p.services.map UR),.list 3 (p.routes.map Un)]
structure Prb where
 code:Int
 route:Str
 place:List Int
 name:Str
def JOq(x:Prb):Dat:=.agg [.int .i64 x.code,.str x.route,.list 1 (x.place.map (.int .i64)),.str x.name]
structure Wlk where
 route:Int
 place:List Int
 step:Ste
def JH6(x:Wlk):Dat:=.agg [.int .i64 x.route,.list 1 (x.place.map (.int .i64)),.str x.step.name,.int .i64 x.step.kind,.int .i64 x.step.number,.int .i64 x.step.time,.int .i64 x.step.limit,.str x.step.text,.str x.step.schema,.list 5 (x.step.exprs.map JX),.list 6 (x.step.rules.map Jz),.list 2 (x.step.calls.map JV),.list 2 (x.step.branches.map J5)]
theorem Zt{xs:List Ste}(h:k<xs.length):nth (xs.map JJ) k=.agg [.str xs[k].name,.int .i64 xs[k].kind,.int .i64 xs[k].number,.int .i64 xs[k].time,.int .i64 xs[k].limit,.str xs[k].text,.str xs[k].schema,.list 5 (xs[k].exprs.map JX),.list 6 (xs[k].rules.map Jz),.list 2 (xs[k].calls.map JV),.list 2 (xs[k].branches.map J5)]:=by
 rw[XL (sX h),List.getElem_map,JW]
theorem Ya{xs:List Brn}(h:k<xs.length):nth (xs.map J5) k=.agg [.list 5 (xs[k].cond.map JX),.list 11 (xs[k].steps.map JJ)]:=by
 rw[XL (sX h),List.getElem_map,X6]
theorem JN{α:Type}(f:α→Dat){xs:List α}(h:k<xs.length):nth (xs.map f) k=f xs[k]:=by
 rw[XL (sX h),List.getElem_map]
theorem XU(l:List Int):JI (l.map (.int .i64))=l.map (.int .i64):=by
 rw[J1,List.map_map];exact List.map_congr_left fun p _=>by simp[Dat.canon]
theorem JDb(c:Kal):(JV c).canon=JV c:=by simp only[JV,Dat.canon,JI,Ul]
theorem Xt(l:List Kal):JI (l.map JV)=l.map JV:=by
 rw[J1,List.map_map];exact List.map_congr_left fun r _=>JDb r
mutual
theorem Zb:∀s:Ste,(JJ s).canon=JJ s
 |.mk n k u t l x c e r a b=>by simp only[JJ,Dat.canon,JI,UK,Ul,Xt,JAt b]
theorem JAE:∀l:List Ste,JI (YG l)=YG l
 |[]=>by simp[YG,JI]
 |v::r=>by simp only[YG,JI,Zb v,JAE r]
theorem JEs:∀b:Brn,(J5 b).canon=J5 b
 |.mk w s=>by simp only[J5,Dat.canon,JI,UK,JAE s]
theorem JAt:∀l:List Brn,JI (Zs l)=Zs l
 |[]=>by simp[Zs,JI]
 |v::r=>by simp only[Zs,JI,JEs v,JAt r]
end
theorem Xu(l:List Ste):JI (l.map JJ)=l.map JJ:=by rw[←JAD,JAE]
theorem JDc(l:List Brn):JI (l.map J5)=l.map J5:=by rw[←JDC,JAt]
theorem JEt(c:Sch):(UB c).canon=UB c:=by simp only[UB,Dat.canon,JI,YY,YZ,Za]
theorem JDd(c:Epd):(Jp c).canon=Jp c:=by simp only[Jp,Dat.canon,JI,XU]
theorem JEu(c:Svc):(UR c).canon=UR c:=by simp only[UR,Dat.canon,JI]
theorem JEv(c:Rou):(Un c).canon=Un c:=by simp only[Un,Dat.canon,JI,Xu]
theorem JEw(c:Prb):(JOq c).canon=JOq c:=by simp only[JOq,Dat.canon,JI,XU]
theorem JDe(c:Wlk):(JH6 c).canon=JH6 c:=by simp only[JH6,Dat.canon,JI,XU,UK,Ul,Xt,JDc]
theorem Y3{α:Type}(f:α→Dat)(h:∀a,(f a).canon=f a)(l:List α):JI (l.map f)=l.map f:=by
 rw[J1,List.map_map];exact List.map_congr_left fun r _=>h r
theorem JAu(l:List Sch):JI (l.map UB)=l.map UB:=Y3 _ JEt l
theorem JDf(l:List Epd):JI (l.map Jp)=l.map Jp:=Y3 _ JDd l
theorem JAv(l:List Svc):JI (l.map UR)=l.map UR:=Y3 _ JEu l
theorem JAw(l:List Rou):JI (l.map Un)=l.map Un:=Y3 _ JEv l
theorem JH7(l:List Prb):JI (l.map JOq)=l.map JOq:=Y3 _ JEw l
theorem JH8(l:List Wlk):JI (l.map JH6)=l.map JH6:=Y3 _ JDe l
theorem JH9(p:Prg):(UH p).canon=UH p:=by simp only[UH,Dat.canon,JI,JAu,JDf,JAv,JAw]
attribute [go_sem] XU JDb Xt Zb JEs Xu JDc JEt JDd JEu JEv JEw JDe JAu JDf JAv JAw JH7 JH8 JH9
mutual
def szS:Ste→Nat
 |.mk _ _ _ _ _ _ _ _ _ _ b=>1+XX b
def UC:List Ste→Nat
 |[]=>0
 |v::r=>szS v+UC r
def szB:Brn→Nat
 |.mk _ s=>1+UC s
def XX:List Brn→Nat
 |[]=>0
 |v::r=>szB v+XX r
end
theorem JEx(s:Ste):szS s=1+XX s.branches:=by cases s;simp[szS,Ste.branches]
theorem JAx(b:Brn):szB b=1+UC b.steps:=by cases b;simp[szB,Brn.steps]
theorem JEy:∀{l:List Ste} {s:Ste},s∈l→szS s≤UC l
 |v::r,s,h=>by
  rcases VA.1 h with rfl|h
  ·simp only[UC];omega
  ·have:=JEy h;simp only[UC];omega
theorem JEz:∀{l:List Brn} {s:Brn},s∈l→szB s≤XX l
 |v::r,s,h=>by
  rcases VA.1 h with rfl|h
  ·simp only[XX];omega
  ·have:=JEz h;simp only[XX];omega
end Av
namespace Go.Proofs
open Go Av
def JFQ:List Sch:=[⟨[111,114,100,101,114],1,.mk 9 0 0 0 [] [] [.mk 1 [105,100] 1 (.mk 2 0 999 0 [] [] []) [],.mk 2 [97,109,111,117,110,116] 1 (.mk 2 0 100 0 [] [] []) [],.mk 3 [107,105,110,100] 1 (.mk 4 0 0 0 [[97],[98],[99]] [] []) [],.mk 4 [105,116,101,109,115] 1 (.mk 8 0 4 0 [] [.mk 9 0 0 0 [] [] [.mk 1 [115,107,117] 1 (.mk 2 0 9 0 [] [] []) [],.mk 2 [113,116,121] 1 (.mk 2 0 9 0 [] [] []) []]] []) [],.mk 5 [110,111,116,101] 2 (.mk 4 0 20 0 [] [] []) [],.mk 6 [102,108,97,103] 3 (.mk 1 0 0 0 [] [] []) [.mk 1 0 0 [] [] []]]⟩,⟨[108,105,110,101],1,.mk 9 0 0 0 [] [] [.mk 1 [105,100] 1 (.mk 2 0 999 0 [] [] []) [],.mk 2 [107,105,110,100] 1 (.mk 4 0 0 0 [[97],[98],[99]] [] []) [],.mk 3 [115,107,117] 1 (.mk 2 0 9 0 [] [] []) [],.mk 4 [113,116,121] 1 (.mk 2 0 9 0 [] [] []) []]⟩,⟨[98,105,108,108],1,.mk 9 0 0 0 [] [] [.mk 1 [105,100] 1 (.mk 2 0 999 0 [] [] []) [],.mk 2 [107,105,110,100] 1 (.mk 4 0 0 0 [[97],[98],[99]] [] []) [],.mk 3 [116,111,116,97,108] 1 (.mk 2 0 100000 0 [] [] []) [],.mk 4 [99,111,117,110,116] 1 (.mk 2 0 256 0 [] [] []) []]⟩,⟨[97,110,115,119,101,114],1,.mk 9 0 0 0 [] [] [.mk 1 [111,107] 1 (.mk 1 0 0 0 [] [] []) [],.mk 2 [99,111,100,101] 1 (.mk 2 0 99 0 [] [] []) []]⟩]
def JCS:List Epd:=[⟨[105,110,95,97],1,[111,114,100,101,114],1,1,0,[]⟩,⟨[105,110,95,98],1,[111,114,100,101,114],1,4,0,[]⟩,⟨[97,103,97,105,110],3,[111,114,100,101,114],1,1,0,[]⟩,⟨[111,117,116,95,111,114,100,101,114],2,[111,114,100,101,114],1,4,0,[]⟩,⟨[111,117,116,95,108,105,110,101],2,[108,105,110,101],1,2,44,[]⟩,⟨[111,117,116,95,98,105,108,108],2,[98,105,108,108],1,1,0,[]⟩]
def JDk:List Svc:=[⟨[112,97,121],[98,105,108,108],[97,110,115,119,101,114],true⟩,⟨[115,116,111,99,107],[108,105,110,101],[97,110,115,119,101,114],true⟩,⟨[109,97,105,108],[98,105,108,108],[97,110,115,119,101,114],false⟩]
def JIA(x:Epd):Dat:=.agg [.str x.name,.int .i64 x.kind,.str x.schema,.int .i64 x.version,.int .i64 x.fkind,.int .i64 x.sep,.nil 1]
def JJY:Dat:=.agg [.int .i64 1,.list 9 (JFQ.map UB),.list 7 (JCS.map JIA),.list 4 (JDk.map UR),.nil 3]
def K84(f:Nat):Nat:=if f==41||f==88 then 2 else K27 f
theorem k84:JNs Tryz.prog JJX K84 41 [.int .i64 1] (.d JJY)=true:=kR
theorem walk41:PT 41 [.int .i64 1] (.d JJY):=(JGk (K:=K84) JFz k84).1
theorem k10:JNs Tryz.prog JJX K27 5 [] (.d (.bool true))=true:=kR
theorem walk5:PT 5 [] (.d (.bool true)):=(JGk (K:=K27) JFz k10).1
def JE0(r:List Rou):Prg:=⟨1,JFQ,JCS,JDk,r⟩
theorem JIB:(JCS.map JIA).map Dat.canon=JCS.map Jp:=rfl
end Go.Proofs
namespace Go.Proofs
open Go Av
open Av.Y
def ir43:Ic:=q (.reg (oN 2 [.int .i64 0,.int .i64 0,.str [],.nil 6,.nil 5]<|N))<|q (R (om 3 0<|oo 4 (.bld [.int .i64 0,.int .i64 0,.str [],.nil 6,.nil 5] [(0,1,i 2),(2,1,t 3)])<|oS 5 2 4<|N) [0,3,4])<|.ret
theorem ok43:FT 43 5 ir43 [.cell 2 (some 5)]:=.o Tryz.func43
def ir10:Ic:=q (.reg (oN 2 [.int .i64 0,.int .i64 0,.str [],.nil 6,.nil 5]<|N))<|q (R (om 3 0<|cl 4 34 [t 3]<|oo 5 (.bls 6 [t 4])<|oo 6 (.bld [.int .i64 0,.int .i64 0,.str [],.nil 6,.nil 5] [(0,1,i 1),(3,1,t 5)])<|oS 5 2 6<|N) [0,3,4,5,6])<|.ret
theorem ok10:FT 10 7 ir10 [.cell 2 (some 5)]:=.o Tryz.func10
def ir34:Ic:=q (.reg (oN 2 y6<|N))<|q (R (om 3 0<|oo 4 (.bld y6 [(0,1,i 2),(1,1,t 3)])<|oS 6 2 4<|N) [0,3,4])<|.ret
theorem ok34:FT 34 5 ir34 [.cell 2 (some 6)]:=.o Tryz.func34
def ir42:Ic:=q (R (ox 4 1<|ox 5 2<|oN 6 [.int .i64 0,.int .i64 0,.str [],.nil 6,.nil 5]<|N) [1,2])<|q (R (om 7 0<|oL 8 5 4<|oL 9 5 5<|oo 10 (.bls 5 [t 8,t 9])<|oo 11 (.bld [.int .i64 0,.int .i64 0,.str [],.nil 6,.nil 5] [(0,1,t 7),(4,1,t 10)])<|oS 5 6 11<|N) [0,4,5,7,8,9,10,11])<|.ret
theorem ok42:FT 42 12 ir42 [.cell 6 (some 5)]:=.o Tryz.func42
def JSW:Ic:=q (R (ok 2 (.k (.str []))<|N) [2])<|q (q (R (om 3 0<|N) [0])<|D (.block 0<|q (R (ob 5 .seq (t 3) (.k (.str [108,105,110,101]))<|om 4 5<|N) [5])<|D (I 4 (q (R (ok 2 (.k (.str [98,111,100,121,46,113,116,121]))<|N) [3,4])<|.ret) (q (R (ob 7 .seq (t 3) (.k (.str [98,105,108,108]))<|om 6 7<|N) [3,4,7])<|D (I 6 (q (R (ok 2 (.k (.str [98,111,100,121,46,116,111,116,97,108]))<|N) [6])<|.ret) S) [6])) []) [])<|q (.reg (ok 2 (.k (.str [98,111,100,121,46,97,109,111,117,110,116]))<|N))<|.ret
theorem ok191:FT 191 8 JSW [.tmp 2]:=.o Tryz.func191
def JSX:Ic:=q (.reg (oN 2 [.nil 6]<|N))<|q (.reg (oN 3 [.nil 6]<|N))<|q (q (.reg (oz 4 0<|N))<|D (.block 0<|.loop (q (q (R (om 9 4<|oi 10 .add 9 1<|om 11 0<|oh 12 11<|ot 13 .lss 10 12<|N) [9,10,11,12])<|D (I 13 S (E 0)) [13])<|q (D (.block 1<|q (R (om 17 0<|om 18 4<|oa false 19 1 17 18<|ol 20 19<|oo 21 (.asr 9 (t 20))<|om 16 21<|oe 22 16 0<|oe 23 16 1<|om 5 22<|om 6 23<|N) [17,18,19,20,21,16,22,23,6])<|q (R (om 25 0<|om 26 4<|oi 27 .add 26 1<|oa false 28 1 25 27<|ol 29 28<|oo 30 (.asr 61 (t 29))<|om 24 30<|oe 31 24 0<|oe 32 24 1<|oN 7 [.int .i64 0,.int .i64 0,.str [],.nil 6,.nil 5]<|oS 5 7 31<|om 8 32<|N) [25,26,27,28,29,30,24,31,32,8])<|R (of 33 3 0<|ol 34 33<|om 35 5<|oL 36 5 7<|oo 37 (.bld [.str [],.int .i64 0,.int .i64 0,.str [],.nil 6,.nil 5] [(0,1,t 35),(1,5,t 36)])<|oo 38 (.bls 6 [t 37])<|oo 39 (.app 6 (t 34) (t 38))<|of 40 3 0<|os 40 39<|N) [5,7,33,34,35,36,37,38,39,40]) [])<|R (om 14 4<|oi 15 .add 14 2<|om 4 15<|N) [14,15])) [0,4,13,5,6,7,8])<|q (R (oL 41 1 3<|oS 1 2 41<|N) [3,41])<|.ret
theorem JSY:FT 192 42 JSX [.cell 2 (some 1)]:=.o Tryz.func192
def JSZ:Ic:=q (R (ox 3 1<|oN 4 [.nil 6]<|N) [1])<|q (D (.regd [(1,12),(4,12),(8,12),(9,12)] (oo 5 (.ifc 9 (.k (.str [105,100])))<|cl 6 43 [.k (.str [98,111,100,121,46,105,100])]<|oo 7 (.ifc 61 (t 6))<|oo 8 (.ifc 9 (.k (.str [107,105,110,100])))<|cl 9 43 [.k (.str [98,111,100,121,46,107,105,110,100])]<|oo 10 (.ifc 61 (t 9))<|oo 11 (.ifc 9 (.k (.str [116,111,116,97,108])))<|om 12 0<|cl 13 191 [t 12]<|cl 14 43 [t 13]<|oo 15 (.ifc 61 (t 14))<|oo 16 (.ifc 9 (.k (.str [99,111,117,110,116])))<|oL 17 5 3<|oo 18 (.ifc 61 (t 17))<|oo 19 (.bls 1 [t 5,t 7,t 8,t 10,t 11,t 15,t 16,t 18])<|cl 20 192 [t 19]<|oS 1 4 20<|N)) [0,3,5,6,7,8,9,10,11,12,13,14,15,16,17,18,19,20])<|.ret
theorem ok193:FT 193 21 JSZ [.cell 4 (some 1)]:=.o Tryz.func193
def JSa:Ic:=q (R (ok 4 (.k (.nil 2))<|N) [4])<|q (.reg (ok 5 (.k (.nil 2))<|N))<|q (q (.reg (oz 6 0<|N))<|D (.block 0<|.loop (q (q (R (om 8 6<|om 9 1<|oh 10 9<|ot 11 .lss 8 10<|N) [8,9,10])<|D (I 11 S (E 0)) [11])<|q (D (.block 1<|q (R (om 14 0<|cl 15 10 [i 1]<|cl 16 193 [t 14,t 15]<|oN 7 [.nil 6]<|oS 1 7 16<|N) [14,15,16])<|q (q (R (om 17 1<|om 18 6<|oa false 19 1 17 18<|ol 20 19<|ob 21 .seq (t 20) (.k (.str [115,116,111,99,107]))<|N) [17,18,19,20])<|D (I 21 (R (oo 22 (.ifc 9 (.k (.str [105,100])))<|cl 23 43 [.k (.str [98,111,100,121,46,105,100])]<|oo 24 (.ifc 61 (t 23))<|oo 25 (.ifc 9 (.k (.str [107,105,110,100])))<|cl 26 43 [.k (.str [98,111,100,121,46,107,105,110,100])]<|oo 27 (.ifc 61 (t 26))<|oo 28 (.ifc 9 (.k (.str [115,107,117])))<|om 29 6<|oi 30 .rem 29 10<|cl 31 10 [t 30]<|oo 32 (.ifc 61 (t 31))<|oo 33 (.ifc 9 (.k (.str [113,116,121])))<|cl 34 10 [i 1]<|oo 35 (.ifc 61 (t 34))<|oo 36 (.bls 1 [t 22,t 24,t 25,t 27,t 28,t 32,t 33,t 35])<|cl 37 192 [t 36]<|oS 1 7 37<|N) [21,22,23,24,25,26,27,28,29,30,31,32,33,34,35,36,37]) S) [21])<|R (om 38 5<|om 39 1<|om 40 6<|oa false 41 1 39 40<|ol 42 41<|oL 43 1 7<|oo 44 (.bld [.str [],.nil 6] [(0,1,t 42),(1,1,t 43)])<|oo 45 (.bls 2 [t 44])<|oo 46 (.app 2 (t 38) (t 45))<|om 5 46<|N) [7,38,39,40,41,42,43,44,45,46]) [])<|R (om 12 6<|oi 13 .add 12 1<|om 6 13<|N) [12,13])) [0,1,6,11,7])<|q (R (om 47 5<|om 4 47<|N) [5,47])<|.ret
theorem JSb:FT 194 48 JSa [.tmp 4]:=.o Tryz.func194
def JSc:Ic:=q (R (ox 3 1<|oN 4 [.str [],.int .i64 0,.int .i64 0,.int .i64 0,.int .i64 0,.str [],.str [],.nil 5,.nil 6,.nil 2,.nil 2]<|N) [1])<|q (R (om 6 0<|ob 7 .cat (.k (.str [111,117,116,95])) (t 6)<|om 5 7<|N) [6,7])<|q (q (R (om 8 0<|ob 9 .seq (t 8) (.k (.str [111,114,100,101,114]))<|om 10 9<|.sc 10 true (of 11 3 1<|ol 12 11<|ob 13 .rem (t 12) (.k (.int .u8 3))<|ob 14 .eql (t 13) (.k (.int .u8 1))<|N) (t 14) 15 N) [0,3,8,9,10])<|D (I 15 (R (ok 5 (.k (.str [97,103,97,105,110]))<|N) [15]) S) [15])<|q (R (om 16 5<|oo 17 (.bld [.str [],.int .i64 0,.int .i64 0,.int .i64 0,.int .i64 0,.str [],.str [],.nil 5,.nil 6,.nil 2,.nil 2] [(1,1,i 13),(5,1,t 16)])<|oS 11 4 17<|N) [5,16,17])<|.ret
theorem ok114:FT 114 18 JSc [.cell 4 (some 11)]:=.o Tryz.func114
end Go.Proofs
namespace Go.Proofs
open Go Av
open Av.Y
def ir84:Ic:=q (R (ox 1 0<|oN 2 [.int .i64 0,.int .i64 0,.str [],.nil 6,.nil 5]<|N) [0])<|q (R (of 8 1 0<|ol 9 8<|of 10 1 1<|ol 11 10<|of 12 1 2<|ol 13 12<|oo 14 (.bld [.int .i64 0,.int .i64 0,.str [],.nil 6,.nil 5] [(0,1,t 9),(1,1,t 11),(2,1,t 13)])<|oN 3 [.int .i64 0,.int .i64 0,.str [],.nil 6,.nil 5]<|oS 5 3 14<|N) [8,9,10,11,12,13,14])<|q (q (R (of 15 1 3<|ol 16 15<|oh 17 16<|oz 18 0<|N) [15])<|D (.block 0<|.loop (q (.reg (ot 19 .lss 18 17<|N))<|q (D (I 19 S (E 0)) [19])<|q (D (.block 1<|q (R (oa true 20 6 16 18<|oL 21 6 20<|oN 5 y6<|oS 6 5 21<|N) [20,21])<|D (.regd [(1,3),(1,4)] (of 22 3 3<|ol 23 22<|oL 24 6 5<|cl 25 129 [t 24]<|oo 26 (.bls 6 [t 25])<|oo 27 (.app 6 (t 23) (t 26))<|of 28 3 3<|os 28 27<|N)) [5,22,23,24,25,26,27,28]) [])<|R (oi 29 .add 18 1<|om 18 29<|N) [29])) [16,17,18,19,5])<|q (q (R (of 30 1 4<|ol 31 30<|oh 32 31<|oz 33 0<|N) [1,30])<|D (.block 2<|.loop (q (.reg (ot 34 .lss 33 32<|N))<|q (D (I 34 S (E 2)) [34])<|q (D (.block 3<|q (R (oa true 35 5 31 33<|oL 36 5 35<|oN 7 [.int .i64 0,.int .i64 0,.str [],.nil 6,.nil 5]<|oS 5 7 36<|N) [35,36])<|D (.regd [(1,3),(1,4)] (of 37 3 4<|ol 38 37<|oL 39 5 7<|cl 40 84 [t 39]<|oo 41 (.bls 5 [t 40])<|oo 42 (.app 5 (t 38) (t 41))<|of 43 3 4<|os 43 42<|N)) [7,37,38,39,40,41,42,43]) [])<|R (oi 44 .add 33 1<|om 33 44<|N) [44])) [31,32,33,34,7])<|q (R (oL 45 5 3<|oS 5 2 45<|N) [3,45])<|.ret
theorem ok84:FT 84 46 ir84 [.cell 2 (some 5)]:=.o Tryz.func84
def ir85:Ic:=q (R (ox 1 0<|oN 2 [.nil 6]<|N) [0])<|q (R (of 6 1 0<|ol 7 6<|oh 8 7<|oo 9 (.mks 6 [.str [],.int .i64 0,.int .i64 0,.str [],.nil 6,.nil 5] (i 0) (t 8))<|om 3 9<|N) [6,7,8,9])<|q (q (R (of 10 1 0<|ol 11 10<|oh 12 11<|oz 13 0<|N) [1,10])<|D (.block 0<|.loop (q (.reg (ot 14 .lss 13 12<|N))<|q (D (I 14 S (E 0)) [14])<|q (D (.block 1<|q (R (oa true 15 6 11 13<|oL 16 6 15<|oN 5 [.str [],.int .i64 0,.int .i64 0,.str [],.nil 6,.nil 5]<|oS 6 5 16<|N) [15,16])<|D (.regd [(2,5)] (om 17 3<|of 18 5 0<|ol 19 18<|of 20 5 1<|oL 21 5 20<|cl 22 84 [t 21]<|oo 23 (.bld [.str [],.int .i64 0,.int .i64 0,.str [],.nil 6,.nil 5] [(0,1,t 19),(1,5,t 22)])<|oo 24 (.bls 6 [t 23])<|oo 25 (.app 6 (t 17) (t 24))<|om 3 25<|N)) [5,17,18,19,20,21,22,23,24,25]) [])<|R (oi 26 .add 13 1<|om 13 26<|N) [26])) [11,12,13,14,5])<|q (R (om 27 3<|oo 28 (.bld [.nil 6] [(0,1,t 27)])<|oS 1 2 28<|N) [3,27,28])<|.ret
theorem ok85:FT 85 29 ir85 [.cell 2 (some 1)]:=.o Tryz.func85
def JKe:Ic:=q (R (ok 4 (.k (.nil 5))<|N) [4])<|q (.reg (ok 5 (.k (.nil 5))<|N))<|q (q (R (om 8 0<|oh 9 8<|oz 10 0<|N) [0])<|D (.block 0<|.loop (q (.reg (ot 11 .lss 10 9<|N))<|q (D (I 11 S (E 0)) [11])<|q (D (.block 1<|q (R (oa true 12 5 8 10<|oL 13 5 12<|oN 7 [.int .i64 0,.int .i64 0,.str [],.nil 6,.nil 5]<|oS 5 7 13<|N) [12,13])<|R (om 14 5<|om 15 1<|oL 16 5 7<|.call (some 17) (.dyn (t 15)) [t 16] (oo 18 (.bls 5 [t 17])<|oo 19 (.app 5 (t 14) (t 18))<|om 5 19<|N)) [7,14,15,16,17,18,19]) [])<|R (oi 20 .add 10 1<|om 10 20<|N) [20])) [1,8,9,10,11,7])<|q (R (om 21 5<|om 4 21<|N) [5,21])<|.ret
theorem JIC:FT 115 22 JKe [.tmp 4]:=.o Tryz.func115
def JOr:Ic:=q (R (ok 4 (.k (.nil 2))<|N) [4])<|q (.reg (ok 5 (.k (.nil 2))<|N))<|q (q (R (om 8 0<|oh 9 8<|oz 10 0<|N) [0])<|D (.block 0<|.loop (q (.reg (ot 11 .lss 10 9<|N))<|q (D (I 11 S (E 0)) [11])<|q (D (.block 1<|q (R (oa true 12 2 8 10<|oL 13 2 12<|oN 7 [.str [],.nil 6]<|oS 2 7 13<|N) [12,13])<|R (om 14 5<|om 15 1<|oL 16 2 7<|.call (some 17) (.dyn (t 15)) [t 16] (oo 18 (.bls 2 [t 17])<|oo 19 (.app 2 (t 14) (t 18))<|om 5 19<|N)) [7,14,15,16,17,18,19]) [])<|R (oi 20 .add 10 1<|om 10 20<|N) [20])) [1,8,9,10,11,7])<|q (R (om 21 5<|om 4 21<|N) [5,21])<|.ret
theorem JSd:FT 116 22 JOr [.tmp 4]:=.o Tryz.func116
def JSe:Ic:=q (R (ox 1 0<|oN 2 [.str [],.nil 6]<|N) [0])<|q (R (of 3 1 1<|oL 4 1 3<|cl 5 85 [t 4]<|of 6 1 1<|oS 1 6 5<|N) [3,4,5,6])<|q (R (oL 7 2 1<|oS 2 2 7<|N) [1,7])<|.ret
theorem ok117:FT 117 8 JSe [.cell 2 (some 2)]:=.o Tryz.func117
def JKf:Ic:=q (R (ok 4 (.k (.nil 2))<|N) [4])<|q (.reg (ok 5 (.k (.nil 2))<|N))<|q (q (R (om 8 0<|oh 9 8<|oz 10 0<|N) [0])<|D (.block 0<|.loop (q (.reg (ot 11 .lss 10 9<|N))<|q (D (I 11 S (E 0)) [11])<|q (D (.block 1<|q (R (oa true 12 2 8 10<|oL 13 2 12<|oN 7 [.nil 5,.nil 11]<|oS 2 7 13<|N) [12,13])<|R (om 14 5<|om 15 1<|oL 16 2 7<|.call (some 17) (.dyn (t 15)) [t 16] (oo 18 (.bls 2 [t 17])<|oo 19 (.app 2 (t 14) (t 18))<|om 5 19<|N)) [7,14,15,16,17,18,19]) [])<|R (oi 20 .add 10 1<|om 10 20<|N) [20])) [1,8,9,10,11,7])<|q (R (om 21 5<|om 4 21<|N) [5,21])<|.ret
theorem JID:FT 118 22 JKf [.tmp 4]:=.o Tryz.func118
def JKg:Ic:=q (R (ox 1 0<|oN 2 [.nil 5,.nil 11]<|N) [0])<|q (D (.regd [(2,4)] (of 3 1 0<|ol 4 3<|cl 5 115 [t 4,.k (.fn (.func 84) [] [])]<|of 6 1 1<|ol 7 6<|cl 8 57 [t 7,.k (.fn (.func 58) [] [])]<|oo 9 (.bld [.nil 5,.nil 11] [(0,1,t 5),(1,1,t 8)])<|oS 2 2 9<|N)) [1,3,4,5,6,7,8,9])<|.ret
theorem JOs:FT 119 10 JKg [.cell 2 (some 2)]:=.o Tryz.func119
def JQt:Ic:=q (R (ok 4 (.k (.nil 11))<|N) [4])<|q (.reg (ok 5 (.k (.nil 11))<|N))<|q (q (R (om 8 0<|oh 9 8<|oz 10 0<|N) [0])<|D (.block 0<|.loop (q (.reg (ot 11 .lss 10 9<|N))<|q (D (I 11 S (E 0)) [11])<|q (D (.block 1<|q (R (oa true 12 11 8 10<|oL 13 11 12<|oN 7 [.str [],.int .i64 0,.int .i64 0,.int .i64 0,.int .i64 0,.str [],.str [],.nil 5,.nil 6,.nil 2,.nil 2]<|oS 11 7 13<|N) [12,13])<|R (om 14 5<|om 15 1<|oL 16 11 7<|.call (some 17) (.dyn (t 15)) [t 16] (oo 18 (.bls 11 [t 17])<|oo 19 (.app 11 (t 14) (t 18))<|om 5 19<|N)) [7,14,15,16,17,18,19]) [])<|R (oi 20 .add 10 1<|om 10 20<|N) [20])) [1,8,9,10,11,7])<|q (R (om 21 5<|om 4 21<|N) [5,21])<|.ret
theorem JOt:FT 57 22 JQt [.tmp 4]:=.o Tryz.func57
def JOu:Ic:=q (R (ox 1 0<|oN 2 [.str [],.int .i64 0,.int .i64 0,.int .i64 0,.int .i64 0,.str [],.str [],.nil 5,.nil 6,.nil 2,.nil 2]<|N) [0])<|q (R (of 3 1 7<|ol 4 3<|cl 5 115 [t 4,.k (.fn (.func 84) [] [])]<|of 6 1 7<|os 6 5<|N) [3,4,5,6])<|q (R (of 7 1 8<|oL 8 1 7<|cl 9 85 [t 8]<|of 10 1 8<|oS 1 10 9<|N) [7,8,9,10])<|q (R (of 11 1 9<|ol 12 11<|cl 13 116 [t 12,.k (.fn (.func 117) [] [])]<|of 14 1 9<|os 14 13<|N) [11,12,13,14])<|q (R (of 15 1 10<|ol 16 15<|cl 17 118 [t 16,.k (.fn (.func 119) [] [])]<|of 18 1 10<|os 18 17<|N) [15,16,17,18])<|q (R (oL 19 11 1<|oS 11 2 19<|N) [1,19])<|.ret
theorem JQu:FT 58 20 JOu [.cell 2 (some 11)]:=.o Tryz.func58
end Go.Proofs
namespace Go.Proofs
open Go Av
open Av.Y
def JSf:Ic:=q (R (oz 4 0<|N) [4])<|q (q (R (om 6 0<|oh 7 6<|oz 8 0<|N) [6])<|D (.block 0<|.loop (q (.reg (ot 9 .lss 8 7<|N))<|q (D (I 9 S (E 0)) [9])<|q (D (.block 1<|q (R (om 10 8<|om 5 10<|N) [10])<|q (R (om 11 1<|om 12 0<|om 13 5<|oa true 14 2 12 13<|oL 15 2 14<|.call (some 16) (.dyn (t 11)) [t 15] N) [11,12,13,14,15])<|D (I 16 (q (R (om 17 5<|om 4 17<|N) [0,1,7,8,5,16,17])<|.ret) S) [5,16]) [])<|R (oi 18 .add 8 1<|om 8 18<|N) [18])) [0,1,7,8,9,10,5,11])<|q (.reg (oz 4 (-1)<|N))<|.ret
theorem ok246:FT 246 19 JSf [.tmp 4]:=.o Tryz.func246
def JSg:Ic:=q (R (ow 4 false<|N) [4])<|q (R (om 5 0<|om 6 1<|cl 7 246 [t 5,t 6]<|oi 8 .geq 7 0<|om 4 8<|N) [0,1,5,6,7,8])<|.ret
theorem ok196:FT 196 9 JSg [.tmp 4]:=.o Tryz.func196
end Go.Proofs
namespace Av
open Go
variable [Glb][Rls]
abbrev JQv(g:Nat)(cs:List Dat):Dat:=.fn (.func g) [] [.ptr cs]
theorem JCT(cs:List Dat):Yk (cs.map .d)=some cs:=by
 induction cs with
 |nil=>rfl
 |cons x r ih=>simp only[Va,Yk,ih]
theorem JR.clo{P:Program}{f g:Nat}{ds cs:List Dat}{r:Dat}(h:J3 P f (ds++[JQv g cs]) (.d r))(hr:scalar r=true)(i:Nat):
  JR P f (ds.map .d++[.clo (.func g) [] [.ref i 0]]) [(i,some (.box (cs.map .d)))] (.d r) []:=by
 intro β A w H vs hT hc hvs;have hi:H i=some (.box (cs.map .d)):=hT _ (List.mem_singleton.2 rfl);have st:=Stp.Y4 hc hi (JCT cs);have hc0:Core β (fun k=>A k∨β i=some k) w (get []):=⟨(by intro i o hi;cases hi),(by intro i j o o' b hi;cases hi),(by intro i o b hi;cases hi),st.core.old,st.core.glob⟩;refine .inl ⟨h.1,(h.2 β (fun k=>A k∨β i=some k) w vs hc0 ⟨by have:=hvs.1;simp at this⊢;omega,?_⟩).mono ?_⟩
 ·intro k c v h1 h2;rw[Vo]at h1;cases e:(ds++[JQv g cs])[k]? with
  |none=>simp[e]at h1
  |some x=>
   simp only[e,Vj,Vd]at h1;subst h1;refine .d _ _ ?_;by_cases hk:k<ds.length
   ·rw[Vz hk]at e;have:=hvs.2 k (.d x) v (by rw[Vz (sX hk),Vo,e];rfl) h2;exact(st.vals _ _ this).Jd
   ·rw[Vy oM]at e;have hk0:k-ds.length=0:=by
     rcases Nat.eq_zero_or_pos (k-ds.length)with h|h
     ·exact h
     ·rw[List.getElem?_eq_none sO]at e;cases e
    rw[hk0]at e;cases e;have hlen:(ds.map Av.d).length=ds.length:=sP;have:=hvs.2 k (.clo (.func g) [] [.ref i 0]) v (by rw[Vy sO,hlen,hk0];rfl) h2;have h3:=st.vals _ _ this;cases h3 with
    |clo _ _ _ a1 a2 l1 l2 hf hvv=>
     refine .fn _ _ _ a1 a2 l1 (sX l2) (by intro j c v hj;cases hj) ?_;intro j c v hj hjv
     match j,hj with
     |0,hj=>
      cases hj;have hrf:=hvv 0 _ v rfl hjv;cases hrf with
      |ref _ _ _ _ _ hu g0 g1 g2=>
       have:=g2 cs sU;simpa using this
     |j+1,hj=>cases hj
 ·rintro e w' ⟨v,β1,A1,rfl,hsince,hc1,hv⟩;obtain⟨s1,s2,s3,s4,s5,sl,s6,s7,s8⟩:=hsince;dsimp only at s1 s2 s3 s4 s5 sl;have hsame:∀b,b<w.heap.size→w'.heap[b]? =w.heap[b]? :=fun b hb=>s5 b hb (by intro i o hi;cases hi)
  have hst:Stp β A w H β A w' H:=Stp.new hc s1 s2 s3 s4 hsame (fun _ h=>h) (fun _ h=>.inl h) (fun b hb=>by have:=hc.old b hb;omega);exact⟨v,rfl,β,A,hst,.d _ _ (hv.Jd.scalar hr)⟩
end Av
namespace Go.Proofs
open Go Av
def ixQ{α:Type}(q:α→Bool)(l:List α):Int:=match l.findIdx? q with
 |some k=>(k:Int)
 |none=> -1
theorem JCU{α:Type}{q:α→Bool}{l:List α}{k:Nat}(h:k<l.length)(hk:q l[k]=true)(hj:∀(j:Nat) (h1:j<l.length),j<k→q l[j]=false):ixQ q l=k:=by
 have:l.findIdx? q=some k:=by
  rw[List.findIdx?_eq_some_iff_getElem];exact⟨h,hk,fun j h2=>by rw[hj j oM h2];decide⟩
 simp only[ixQ,this]
theorem JCV{α:Type}{q:α→Bool}{l:List α}(hj:∀(j:Nat) (h1:j<l.length),q l[j]=false):ixQ q l= -1:=by
 have:l.findIdx? q=none:=by
  rw[List.findIdx?_eq_none_iff];intro x hx;obtain⟨j,h,rfl⟩:=List.getElem_of_mem hx;exact hj j h
 simp only[ixQ,this]
theorem JD0{α:Type}(q:α→Bool)(l:List α):decide (ixQ q l≥0)=l.any q:=by
 unfold ixQ;cases e:l.findIdx? q with
 |none=>
  rw[List.findIdx?_eq_none_iff]at e;have:l.any q=false:=by rw[List.any_eq_false];intro x hx;rw[e x hx];decide
  rw[this];rfl
 |some k=>
  obtain⟨h1,h2,_⟩:=List.findIdx?_eq_some_iff_getElem.1 e;have:l.any q=true:=List.any_eq_true.2 ⟨_,Vk h1,h2⟩;rw[this];simp
theorem ix300{g:Nat}{cs:List Dat}{q:Brn→Bool}(l:List Brn)(hq:∀x∈l,PT g (J5 x::cs) (.d (.bool (q x))))(hl:l.length≤68719476736):
  PT 246 [.list 2 (l.map J5),.fn (.func g) [] cs] (.d (.int .i64 (ixQ q l))):=by
 refine ok246.pc ?_;simp only[go_sem,JSf,Vc,simprocAttr];refine JH (fun n s=>∃k:Nat,k≤l.length∧n=l.length-k∧(∀(j:Nat) (h1:j<l.length),j<k→q l[j]=false)∧
  s=⟨[(0,.d (.list 2 (l.map J5))),(1,.d (.fn (.func g) [] cs)),(7,.d (.int .i64 l.length)),(8,.d (.int .i64 k))],[]⟩) ?_ ?_
 ·exact⟨_,_,Wk.refl _,0,Nat.zero_le _,rfl,sP,rfl⟩
 ·rintro n s ⟨k,hk,rfl,hinv,rfl⟩;by_cases hlt:k<l.length
  ·have hx:=JN J5 hlt;have hd:=dT hlt;have hc:=(hq l[k] (Vk _)).call trivial;simp only[X6,Va]at hc hx;refine zz6 ?_;refine⟨oM,wn hc ?_⟩;refine zz ?_;apply ik<;>intro hf
   ·rw[JCU hlt hf hinv]
   ·refine⟨l.length-(k+1),_,oM,Wk.less ?_,k+1,oM,rfl,fun j h1 hj=>?_,rfl⟩
    ·exact zz7 trivial
    ·by_cases e:j=k
     ·subst e;exact hf
     ·exact hinv j h1 oM
  ·have hd:=dF hlt;refine zz5 ?_;rw[JCV (fun j h=>hinv j h oM)]
theorem JQw{g:Nat}{cs:List Dat}{q:Brn→Bool}(l:List Brn)(hq:∀x∈l,PT g (J5 x::cs) (.d (.bool (q x))))(hl:l.length≤68719476736):
  PT 196 [.list 2 (l.map J5),.fn (.func g) [] cs] (.d (.bool (l.any q))):=by
 refine ok196.pc ?_;have c:=(ix300 l hq hl).call trivial;rw[←JD0];simp only[go_sem,JSg,simprocAttr];refine wc c trivial
end Go.Proofs
namespace Av
open Go
variable [Glb][Rls]
theorem J3.JLC{P:Program}{f g:Nat}{d:Dat}{cs:List Dat}{r:Av}(h:J3 P f [d,JQv g cs] r)(hr:XE r)(i:Nat):
  JR P f [.d d,.clo (.func g) [] [.ref i 0]] [(i,some (.box (cs.map .d)))] r [(i,.fbox cs)]:=by
 intro β A w H vs hT hc hvs;have hi:H i=some (.box (cs.map .d)):=hT _ (List.mem_singleton.2 rfl);have st:=Stp.Y4 hc hi (JCT cs);obtain⟨x1,x2,rfl⟩:∃x y,vs=#[x,y]:=by
  have h2:2=vs.size:=sX hvs.1;refine⟨vs[0],vs[1],?_⟩;apply Array.ext
  ·simp[←h2]
  ·intro i h1 h2;have:i=0∨i=1:=oM;rcases this with rfl|rfl<;>rfl
 have v1:=st.vals _ _ (hvs.2 0 _ x1 rfl rfl);have v2:=st.vals _ _ (hvs.2 1 _ x2 rfl rfl);have hv2:Rep (fun k=>A k∨β i=some k) w (JQv g cs) x2:=by
  cases v2 with
  |clo _ _ _ a1 a2 l1 l2 hf hvv=>
   refine .fn _ _ _ a1 a2 l1 (sX l2) (by intro j c v hj;cases hj) ?_;intro k c v hk hkv
   match k,hk with
   |0,hk=>
    cases hk;have hrf:=hvv 0 _ v rfl hkv;cases hrf with
    |ref _ _ _ _ _ hu g0 g1 g2=>
     have:=g2 cs sU;simpa using this
   |k+1,hk=>cases hk
 have:=h.call hr β _ w _ #[x1,x2] sP st.core ⟨rfl,fun k c u h1 h2=>by
  match k,h1,h2 with
  |0,h1,h2=>cases h1;cases h2;exact v1
  |1,h1,h2=>cases h1;cases h2;exact .d _ _ hv2
  |k+2,h1,h2=>cases h1⟩
 rcases this with⟨a1,a2⟩|⟨u,w',a1,β',A',a2,a3⟩
 ·refine .inl ⟨a1,a2.mono ?_⟩;rintro e w' ⟨u,rfl,β',A',b1,b2⟩;exact⟨u,rfl,β',A',st.trans b1,b2⟩
 ·exact .inr ⟨u,w',a1,β',A',st.trans a2,a3⟩
end Av
namespace Go.Proofs
open Go Av
theorem JKh(k:IntKind)(a:Int):PT 278 [.int k a] (.d (.bool false)):=by
 refine ok278.pc ?_;simp only[go_sem,JSG,simprocAttr];simp
theorem JQx(a b:Str):PT 279 [.str a,.str b] (.d (.int .i64 (JCO a b))):=by
 refine ok279.pc ?_;simp only[go_sem,JSF,simprocAttr];refine wc (JNo a b) trivial
theorem JKi(a b:Str):PT 241 [.str a,.str b] (.d (.int .i64 (JCO a b))):=by
 refine ok241.pc ?_;simp only[go_sem,JSA,simprocAttr];refine wc ((JQx a b).call trivial) trivial
def JDl(a b:Int):Int:=if a<b then-1 else if b<a then 1 else 0
theorem JGm(a b:Int):PT 240 [.int .i64 a,.int .i64 b] (.d (.int .i64 (JDl a b))):=by
 refine ok240.pc ?_;simp only[go_sem,JSB,simprocAttr];refine wc ((JKh .i64 a).call trivial) ?_;refine wc ((JKh .i64 b).call trivial) ?_;refine⟨fun h=>?_,fun h=>⟨fun h2=>?_,fun h2=>?_⟩⟩
 ·simp only[decide_eq_true_eq]at h;simp[JDl,h]
 ·simp only[decide_eq_true_eq,decide_eq_false_iff_not]at h h2;have:b<a:=h2;simp[JDl,h,this]
 ·simp only[decide_eq_false_iff_not]at h h2;have:¬b<a:=h2;simp[JDl,h,this]
def orI:List Int→Int
 |[]=>0
 |x::r=>if x=0 then orI r else x
theorem JE1:∀(xs:List Int) (k:Nat),(∀(j:Nat) (h:j<xs.length),j<k→xs[j]=0)→orI xs=orI (xs.drop k)
 |[],k,_=>by simp
 |x::r,0,_=>rfl
 |x::r,k+1,h=>by
  have h0:=h 0 sP oM;simp only[List.getElem_cons_zero]at h0;simp only[orI,h0,if_true,List.drop_succ_cons];exact JE1 r k fun j hj hk=>by have:=h (j+1) (sX hj) oM;simpa using this
theorem JKj(xs:List Int)(hl:xs.length≤68719476736):PT 239 [.list 1 (xs.map (.int .i64))] (.d (.int .i64 (orI xs))):=by
 refine ok239.pc ?_;simp only[go_sem,JSC,simprocAttr];refine JH (fun n s=>∃k:Nat,k≤xs.length∧n=xs.length-k∧(∀(j:Nat) (h:j<xs.length),j<k→xs[j]=0)∧
  s=⟨[(3,.d (.int .i64 0)),(6,.d (.list 1 (xs.map (.int .i64)))),(7,.d (.int .i64 xs.length)),(8,.d (.int .i64 k))],[]⟩) ?_ ?_
 ·refine⟨_,_,Wk.refl _,0,Nat.zero_le _,rfl,sP,?_⟩;simp
 ·rintro n s ⟨k,hk,rfl,hinv,rfl⟩;by_cases hlt:k<xs.length
  ·have hx:nth (xs.map (Dat.int .i64)) k=.int .i64 xs[k]:=by rw[XL (sX hlt)];simp
   have hd:=dT hlt;refine JJE ?_;refine⟨sO,sP,fun hne=>?_,fun heq=>?_⟩
   ·simp only[bne_iff_ne,ne_eq]at hne;rw[JE1 xs k hinv,Vq hlt];simp[orI,hne]
   ·simp only[bne_eq_false_iff_eq]at heq;refine zz7 ?_;refine⟨xs.length-(k+1),_,oM,Wk.less ?_,k+1,oM,rfl,?_,rfl⟩
    ·exact zz trivial
    ·intro j h1 hj;by_cases e:j=k
     ·subst e;exact heq
     ·exact hinv j h1 oM
  ·have hd:=dF hlt;refine zz5 ?_;have:orI xs=0:=by rw[JE1 xs k hinv,List.drop_eq_nil_of_le oM];rfl
   rw[this]
def cmpL{α:Type}(f:α→α→Int):List α→List α→Int
 |[],[]=>0
 |[],_::_=> -1
 |_::_,[]=>1
 |x::xs,y::ys=>if f x y=0 then cmpL f xs ys else f x y
theorem XY{α:Type}{f:α→α→Int}:∀(xs ys:List α) (k:Nat),k≤xs.length→k≤ys.length→(∀(j:Nat) (h1:j<xs.length) (h2:j<ys.length),j<k→f xs[j] ys[j]=0)→cmpL f xs ys=cmpL f (xs.drop k) (ys.drop k)
 |xs,ys,0,_,_,_=>by simp
 |x::xs,y::ys,k+1,h1,h2,h=>by
  have h0:=h 0 sP sP oM;simp only[List.getElem_cons_zero]at h0;simp only[cmpL,h0,if_true,List.drop_succ_cons];exact XY xs ys k (sX h1) (sX h2) fun j hj hj2 hk=>by have:=h (j+1) (sX hj) (sX hj2) oM;simpa using this
 |[],_,k+1,h1,_,_=>by simp at h1
 |_::_,[],k+1,_,h2,_=>by simp at h2
theorem JQy(xs ys:List Val)(f:Val→Val→Int)(g:Nat)(hl:xs.length≤68719476736)(_hly:ys.length≤68719476736)
  (h:∀x∈xs,∀y∈ys,CT g [.d (Jm x),.d (Jm y)] [] (.d (.int .i64 (f x y))) []):
  PT 242 [.list 6 (xs.map Jm),.list 6 (ys.map Jm),.fn (.func g) [] []] (.d (.int .i64 (cmpL f xs ys))):=by
 refine ok242.pc ?_;simp only[go_sem,JSD,simprocAttr];refine JH (fun n s=>∃k:Nat,k≤xs.length∧k≤ys.length∧n=xs.length-k∧(∀(j:Nat) (h1:j<xs.length) (h2:j<ys.length),j<k→f xs[j] ys[j]=0)∧
  s=⟨[(0,.d (.list 6 (xs.map Jm))),(1,.d (.list 6 (ys.map Jm))),(2,.d (.fn (.func g) [] [])),(11,.d (.list 6 (xs.map Jm))),(12,.d (.int .i64 xs.length)),(13,.d (.int .i64 k))],[]⟩) ?_ ?_
 ·refine⟨_,_,Wk.refl _,0,Nat.zero_le _,Nat.zero_le _,rfl,sP,?_⟩;simp
 ·rintro n s ⟨k,hk,hky,rfl,hinv,rfl⟩;by_cases hlt:k<xs.length
  ·have hx:=Zr hlt;have hd:=dT hlt;refine JJE ?_;refine⟨sO,fun hge=>?_,fun hge=>?_⟩
   ·simp only[Vc,decide_eq_true_eq]at hge;have hyk:k=ys.length:=oM;rw[XY xs ys k hk hky hinv,Vq hlt,List.drop_eq_nil_of_le (show ys.length≤k by omega)];simp[cmpL]
   ·simp only[Vc,decide_eq_false_iff_not]at hge;have hlty:k<ys.length:=oM;have hy:=Zr hlty;refine zz37 ?_;have hc:=h xs[k] (Vk _) ys[k] (Vk _);rw[J0,J0]at hc;refine⟨sO,wn hc ?_⟩;refine zz ?_;refine⟨fun hne=>?_,fun heq=>?_⟩
    ·simp only[bne_iff_ne,ne_eq]at hne;rw[XY xs ys k hk hky hinv,Vq hlt,Vq hlty];simp[cmpL,hne]
    ·simp only[bne_eq_false_iff_eq]at heq;refine zz7 ?_;refine⟨xs.length-(k+1),_,oM,Wk.less ?_,k+1,oM,oM,rfl,?_,rfl⟩
     ·exact zz trivial
     ·intro j h1 h2 hj;by_cases e:j=k
      ·subst e;exact heq
      ·exact hinv j h1 h2 oM
  ·have hd:=dF hlt;refine zz5 ?_;have e1:xs.drop k=[]:=List.drop_eq_nil_of_le oM;apply ik<;>intro hs
   ·simp only[Vc,decide_eq_true_eq]at hs;rw[XY xs ys k hk hky hinv,e1,Vq (show k<ys.length by omega)];rfl
   ·simp only[Vc,decide_eq_false_iff_not]at hs;rw[XY xs ys k hk hky hinv,e1,List.drop_eq_nil_of_le (show ys.length≤k by omega)];rfl
theorem JQz(xs ys:List Fld)(f:Fld→Fld→Int)(g:Nat)(hl:xs.length≤68719476736)(_hly:ys.length≤68719476736)
  (h:∀x∈xs,∀y∈ys,CT g [.d (XT x),.d (XT y)] [] (.d (.int .i64 (f x y))) []):
  PT 243 [.list 7 (xs.map XT),.list 7 (ys.map XT),.fn (.func g) [] []] (.d (.int .i64 (cmpL f xs ys))):=by
 refine ok243.pc ?_;simp only[go_sem,JSE,simprocAttr];refine JH (fun n s=>∃k:Nat,k≤xs.length∧k≤ys.length∧n=xs.length-k∧(∀(j:Nat) (h1:j<xs.length) (h2:j<ys.length),j<k→f xs[j] ys[j]=0)∧
  s=⟨[(0,.d (.list 7 (xs.map XT))),(1,.d (.list 7 (ys.map XT))),(2,.d (.fn (.func g) [] [])),(11,.d (.list 7 (xs.map XT))),(12,.d (.int .i64 xs.length)),(13,.d (.int .i64 k))],[]⟩) ?_ ?_
 ·refine⟨_,_,Wk.refl _,0,Nat.zero_le _,Nat.zero_le _,rfl,sP,?_⟩;simp
 ·rintro n s ⟨k,hk,hky,rfl,hinv,rfl⟩;by_cases hlt:k<xs.length
  ·have hx:=JEm hlt;have hd:=dT hlt;refine JJE ?_;refine⟨sO,fun hge=>?_,fun hge=>?_⟩
   ·simp only[Vc,decide_eq_true_eq]at hge;have hyk:k=ys.length:=oM;rw[XY xs ys k hk hky hinv,Vq hlt,List.drop_eq_nil_of_le (show ys.length≤k by omega)];simp[cmpL]
   ·simp only[Vc,decide_eq_false_iff_not]at hge;have hlty:k<ys.length:=oM;have hy:=JEm hlty;refine zz37 ?_;have hc:=h xs[k] (Vk _) ys[k] (Vk _);rw[ZY,ZY]at hc;refine⟨sO,wn hc ?_⟩;refine zz ?_;refine⟨fun hne=>?_,fun heq=>?_⟩
    ·simp only[bne_iff_ne,ne_eq]at hne;rw[XY xs ys k hk hky hinv,Vq hlt,Vq hlty];simp[cmpL,hne]
    ·simp only[bne_eq_false_iff_eq]at heq;refine zz7 ?_;refine⟨xs.length-(k+1),_,oM,Wk.less ?_,k+1,oM,oM,rfl,?_,rfl⟩
     ·exact zz trivial
     ·intro j h1 h2 hj;by_cases e:j=k
      ·subst e;exact heq
      ·exact hinv j h1 h2 oM
  ·have hd:=dF hlt;refine zz5 ?_;have e1:xs.drop k=[]:=List.drop_eq_nil_of_le oM;apply ik<;>intro hs
   ·simp only[Vc,decide_eq_true_eq]at hs;rw[XY xs ys k hk hky hinv,e1,Vq (show k<ys.length by omega)];rfl
   ·simp only[Vc,decide_eq_false_iff_not]at hs;rw[XY xs ys k hk hky hinv,e1,List.drop_eq_nil_of_le (show ys.length≤k by omega)];rfl
mutual
def okV:Val→Prop
 |.mk _ _ _ _ l f=>l.length≤68719476736∧f.length≤68719476736∧JBo l∧JBp f
def JBo:List Val→Prop
 |[]=>True
 |v::r=>okV v∧JBo r
def okF:Fld→Prop
 |.mk _ v=>okV v
def JBp:List Fld→Prop
 |[]=>True
 |v::r=>okF v∧JBp r
end
theorem JIE:∀{l:List Val},JBo l→∀x∈l,okV x
 |[],_,x,h=>by cases h
 |v::r,ho,x,h=>by
  simp only[JBo]at ho;rcases VA.1 h with rfl|h
  ·exact ho.1
  ·exact JIE ho.2 x h
theorem JIF:∀{l:List Fld},JBp l→∀x∈l,okF x
 |[],_,x,h=>by cases h
 |v::r,ho,x,h=>by
  simp only[JBp]at ho;rcases VA.1 h with rfl|h
  ·exact ho.1
  ·exact JIF ho.2 x h
mutual
def Yh:Val→Val→Int
 |.mk k i s t l f,b=>orI [JDl k b.kind,JDl i b.int,JDl s b.scale,JCO t b.text,JAU l b.list,JAV f b.fields]
def JAU:List Val→List Val→Int
 |[],[]=>0
 |[],_::_=> -1
 |_::_,[]=>1
 |x::xs,y::ys=>if Yh x y=0 then JAU xs ys else Yh x y
def JDD:Fld→Fld→Int
 |.mk n v,g=>orI [JCO n g.name,Yh v g.value]
def JAV:List Fld→List Fld→Int
 |[],[]=>0
 |[],_::_=> -1
 |_::_,[]=>1
 |x::xs,y::ys=>if JDD x y=0 then JAV xs ys else JDD x y
end
theorem JIG:∀(xs ys:List Val),JAU xs ys=cmpL Yh xs ys
 |[],[]=>by simp[JAU,cmpL]
 |[],_::_=>by simp[JAU,cmpL]
 |_::_,[]=>by simp[JAU,cmpL]
 |x::xs,y::ys=>by simp[JAU,cmpL,JIG xs ys]
theorem JIH:∀(xs ys:List Fld),JAV xs ys=cmpL JDD xs ys
 |[],[]=>by simp[JAV,cmpL]
 |[],_::_=>by simp[JAV,cmpL]
 |_::_,[]=>by simp[JAV,cmpL]
 |x::xs,y::ys=>by simp[JAV,cmpL,JIH xs ys]
theorem JQ0(n n':Str)(v v':Val)(h:PT 190 [Jm v,Jm v'] (.d (.int .i64 (Yh v v')))):
  PT 244 [XT (.mk n v),XT (.mk n' v')] (.d (.int .i64 (JDD (.mk n v) (.mk n' v')))):=by
 refine ok244.pc ?_;rw[ZY,ZY];have hc:=h.call trivial;rw[J0,J0]at hc;simp only[go_sem,JR9,Fld.name,Fld.value,simprocAttr];refine JG rfl ((JKi n n').call trivial) trivial ?_;refine zz ?_;refine JG rfl hc trivial ?_;refine zz ?_;refine⟨sP,JG rfl ((JKj [JCO n n',Yh v v'] sP).call trivial) trivial ?_⟩;refine zz ?_;exact⟨rfl,by simp only[JDD,Fld.name,Fld.value]⟩
theorem JQ1(a b:Val)(ha:a.list.length≤68719476736)(ha2:a.fields.length≤68719476736)(hb:b.list.length≤68719476736)(hb2:b.fields.length≤68719476736)
  (h1:∀x∈a.list,∀y∈b.list,CT 190 [.d (Jm x),.d (Jm y)] [] (.d (.int .i64 (Yh x y))) [])
  (h2:∀x∈a.fields,∀y∈b.fields,CT 244 [.d (XT x),.d (XT y)] [] (.d (.int .i64 (JDD x y))) []):
  PT 190 [Jm a,Jm b] (.d (.int .i64 (Yh a b))):=by
 refine ok190.pc ?_;rw[J0,J0];simp only[go_sem,JR8,simprocAttr];refine JG rfl ((JGm a.kind b.kind).call trivial) trivial ?_;refine zz ?_;refine JG rfl ((JGm a.int b.int).call trivial) trivial ?_;refine zz ?_;refine JG rfl ((JGm a.scale b.scale).call trivial) trivial ?_;refine zz ?_;refine JG rfl ((JKi a.text b.text).call trivial) trivial ?_;refine zz ?_;refine JG rfl ((JQy a.list b.list Yh 190 ha hb h1).call trivial) trivial ?_;refine zz ?_;refine JG rfl ((JQz a.fields b.fields JDD 244 ha2 hb2 h2).call trivial) trivial ?_;refine zz ?_;refine⟨sP,JG rfl ((JKj [JDl a.kind b.kind,JDl a.int b.int,JDl a.scale b.scale,JCO a.text b.text,cmpL Yh a.list b.list,cmpL JDD a.fields b.fields] sP).call trivial) trivial ?_⟩;refine zz ?_;refine⟨rfl,?_⟩;cases a;simp only[Yh,Val.kind,Val.int,Val.scale,Val.text,Val.list,Val.fields,JIG,JIH]
mutual
theorem JGn:∀(a:Val),okV a→∀b,okV b→PT 190 [Jm a,Jm b] (.d (.int .i64 (Yh a b)))
 |.mk k i s t l f,ha,b,hb=>by
  simp only[okV]at ha;obtain⟨a1,a2,a3,a4⟩:=ha;have hb':b.list.length≤68719476736∧b.fields.length≤68719476736∧JBo b.list∧JBp b.fields:=by cases b;simpa only[okV,Val.list,Val.fields]using hb
  exact JQ1 _ b a1 a2 hb'.1 hb'.2.1 (fun x hx y hy=>(JOv l a3 x hx y (JIE hb'.2.2.1 y hy)).call trivial) (fun x hx y hy=>(JOw f a4 x hx y (JIF hb'.2.2.2 y hy)).call trivial)
theorem JOv:∀(l:List Val),JBo l→∀x∈l,∀b,okV b→PT 190 [Jm x,Jm b] (.d (.int .i64 (Yh x b)))
 |[],_,x,h,_,_=>by cases h
 |v::r,ho,x,h,b,hb=>by
  simp only[JBo]at ho;by_cases e:x=v
  ·rw[e];exact JGn v ho.1 b hb
  ·exact JOv r ho.2 x ((VA.1 h).resolve_left e) b hb
theorem JQ2:∀(a:Fld),okF a→∀b,okF b→PT 244 [XT a,XT b] (.d (.int .i64 (JDD a b)))
 |.mk n v,ha,.mk n' v',hb=>JQ0 n n' v v' (JGn v (by simpa only[okF]using ha) v' (by simpa only[okF]using hb))
theorem JOw:∀(l:List Fld),JBp l→∀x∈l,∀b,okF b→PT 244 [XT x,XT b] (.d (.int .i64 (JDD x b)))
 |[],_,x,h,_,_=>by cases h
 |v::r,ho,x,h,b,hb=>by
  simp only[JBp]at ho;by_cases e:x=v
  ·rw[e];exact JQ2 v ho.1 b hb
  ·exact JOw r ho.2 x ((VA.1 h).resolve_left e) b hb
end
def eqF{α:Type}(eq:α→α→Bool)(xs ys:List α):Bool:=xs.length==ys.length&&(xs.zip ys).all fun p=>eq p.1 p.2
theorem Jn{α:Type}{eq:α→α→Bool}{xs ys:List α}(hl:xs.length=ys.length):eqF eq xs ys=true↔∀(j:Nat) (h1:j<xs.length) (h2:j<ys.length),eq xs[j] ys[j]=true:=by
 simp only[eqF,hl,beq_self_eq_true,Vt,List.all_eq_true];constructor
 ·intro h j h1 h2;have:(xs.zip ys)[j]? =some (xs[j],ys[j]):=by rw[List.getElem?_zip_eq_some];simp[h1,h2]
  exact h _ (List.mem_of_getElem? this)
 ·intro h p hp;obtain⟨j,hj⟩:=List.getElem?_of_mem hp;rw[List.getElem?_zip_eq_some]at hj;obtain⟨h1,e1⟩:=VB.1 hj.1;obtain⟨h2,e2⟩:=VB.1 hj.2;rw[←e1,←e2];exact h j oM oM
theorem JKk(xs ys:List Val)(eq:Val→Val→Bool)(g:Nat)(hl:xs.length≤68719476736)
  (h:∀x∈xs,∀y∈ys,CT g [.d (Jm x),.d (Jm y)] [] (.d (.bool (eq x y))) []):
  PT 107 [.list 6 (xs.map Jm),.list 6 (ys.map Jm),.fn (.func g) [] []] (.d (.bool (eqF eq xs ys))):=by
 refine ok107.pc ?_;simp only[go_sem,JR4,simprocAttr];refine⟨fun hne=>?_,fun heq=>?_⟩
 ·simp only[Vc,bne_iff_ne,ne_eq,Int.ofNat_inj]at hne;simp[eqF,hne]
 simp only[Vc,bne_eq_false_iff_eq,Int.ofNat_inj]at heq;refine JH (fun n s=>∃k:Nat,k≤xs.length∧n=xs.length-k∧(∀(j:Nat) (h1:j<xs.length) (h2:j<ys.length),j<k→eq xs[j] ys[j]=true)∧
  s=⟨[(1,.d (.list 6 (ys.map Jm))),(2,.d (.fn (.func g) [] [])),(15,.d (.list 6 (xs.map Jm))),(16,.d (.int .i64 xs.length)),(17,.d (.int .i64 k))],[]⟩) ?_ ?_
 ·refine⟨_,_,Wk.refl _,0,Nat.zero_le _,rfl,sP,?_⟩;simp
 ·rintro n s ⟨k,hk,rfl,hinv,rfl⟩;by_cases hlt:k<xs.length
  ·have hlty:k<ys.length:=oM;have hx:=Zr hlt;have hy:=Zr hlty;have hd:=dT hlt;refine JQi ?_;have hc:=h xs[k] (Vk _) ys[k] (Vk _);rw[J0,J0]at hc;refine⟨sO,sO,wn hc ?_⟩;refine zz ?_;refine⟨fun hne=>?_,fun heq'=>?_⟩
   ·have:eqF eq xs ys=false:=by
     cases h0:eqF eq xs ys with
     |false=>rfl
     |true=>rw[(Jn heq).1 h0 k hlt oM]at hne;cases hne
    rw[this]
   ·refine zz7 ?_;refine⟨xs.length-(k+1),_,oM,Wk.less ?_,k+1,oM,rfl,?_,rfl⟩
    ·exact zz trivial
    ·intro j h1 h2 hj;by_cases e:j=k
     ·subst e;simpa using heq'
     ·exact hinv j h1 h2 oM
  ·have hd:=dF hlt;refine zz5 ?_;rw[(Jn heq).2 fun j h1 h2=>hinv j h1 h2 oM]
theorem JQ3(a b:Val)(ha:okV a)(hb:okV b):PT 108 [Jm a,Jm b] (.d (.bool (Yh a b==0))):=by
 refine JR7.pc ?_;have hc:=(JGn a ha b hb).call trivial;rw[J0,J0]at hc;rw[J0,J0];simp only[go_sem,JR6,simprocAttr];refine wc hc trivial
theorem JQ4(a:Val)(ha:a.list.length≤68719476736)(ha2:a.fields.length≤68719476736)(h1:∀x∈a.list,CT 129 [.d (Jm x)] [] (.d (Jm x)) [])(h2:∀x∈a.fields,CT 129 [.d (Jm x.value)] [] (.d (Jm x.value)) []):
  PT 129 [Jm a] (.d (Jm a)):=by
 refine JSI.pc ?_;rw[J0];simp only[go_sem,JSH,simprocAttr];refine JH (fun n s=>∃k:Nat,k≤a.list.length∧n=a.list.length-k∧
  s=⟨[(1,.ref 1 0),(2,.ref 2 0),(3,.ref 3 0),(12,.d (.list 6 (a.list.map Jm))),(13,.d (.int .i64 a.list.length)),(14,.d (.int .i64 k))],
   [(1,.box [.d (.int .i64 a.kind),.d (.int .i64 a.int),.d (.int .i64 a.scale),.d (.str a.text),.d (.list 6 (a.list.map Jm)),.d (.list 7 (a.fields.map XT))]),
    (2,.box [.d (.int .i64 0),.d (.int .i64 0),.d (.int .i64 0),.d (.str []),.d (.nil 6),.d (.nil 7)]),
    (3,.box [.d (.int .i64 a.kind),.d (.int .i64 a.int),.d (.int .i64 a.scale),.d (.str a.text),.ms 23 k,.d (.nil 7)]),
    (23,.row k 6 ((a.list.take k).map Jm))]⟩) ?_ ?_
 ·refine⟨_,_,Wk.JCr 3 4 23 6 _ rfl rfl rfl dC,0,Nat.zero_le _,rfl,?_⟩;simp[put]
 ·rintro n s ⟨k,hk,rfl,rfl⟩;by_cases hlt:k<a.list.length
  ·have hx:=Zr hlt;have hd:=dT hlt;refine JJE ?_;have hc:=h1 a.list[k] (Vk _);rw[J0]at hc;refine⟨sO,JG rfl hc trivial ?_⟩;refine zz ?_;refine⟨sP,sO,rfl,a.list.length-(k+1),_,oM,Wk.less ?_,k+1,oM,rfl,rfl⟩;rw[List.take_succ_eq_append_getElem hlt,Vw];simp only[go_sem,JE k oM,Va,Vb,J0 a.list[k],Nat.reduceAdd,Nat.reduceEqDiff,Nat.reduceBEq,Nat.reduceLeDiff,reduceCtorEq,↓reduceIte]
  ·have hd:=dF hlt;obtain rfl:k=a.list.length:=oM;refine JHr ?_;refine JH (fun n s=>∃k:Nat,k≤a.fields.length∧n=a.fields.length-k∧
    s=⟨[(2,.ref 2 0),(3,.ref 3 0),(27,.d (.list 7 (a.fields.map XT))),(28,.d (.int .i64 a.fields.length)),(29,.d (.int .i64 k))],
     [(2,.box [.d (.int .i64 0),.d (.int .i64 0),.d (.int .i64 0),.d (.str []),.d (.nil 6),.d (.nil 7)]),
      (3,.box [.d (.int .i64 a.kind),.d (.int .i64 a.int),.d (.int .i64 a.scale),.d (.str a.text),.ms 23 a.list.length,.ms 42 k]),
      (23,.row a.list.length 6 (a.list.map Jm)),
      (42,.row k 7 ((a.fields.take k).map XT))]⟩) ?_ ?_
   ·refine⟨_,_,(Wk.JCr 3 5 42 7 _ rfl rfl rfl dC).trans (Wk.less ?_),0,Nat.zero_le _,rfl,rfl⟩;simp[put,go_sem]
   ·rintro n s ⟨k,hk,rfl,rfl⟩;by_cases hlt:k<a.fields.length
    ·have hx:=JEm hlt;have hd:=dT hlt;have hc:=h2 a.fields[k] (Vk _);rw[J0]at hc;refine JJE ?_;refine⟨sO,JG rfl hc trivial ?_⟩;refine zz ?_;refine⟨sP,sO,rfl,a.fields.length-(k+1),_,oM,Wk.less ?_,k+1,oM,rfl,rfl⟩;rw[List.take_succ_eq_append_getElem hlt,Vw];simp only[go_sem,JE k oM,Va,Vb,ZY a.fields[k],Nat.reduceAdd,Nat.reduceEqDiff,Nat.reduceBEq,Nat.reduceLeDiff,reduceCtorEq,↓reduceIte]
    ·have hd:=dF hlt;obtain rfl:k=a.fields.length:=oM;exact JHr trivial
mutual
theorem JGo:∀(a:Val),okV a→PT 129 [Jm a] (.d (Jm a))
 |.mk k i s t l f,ha=>by
  simp only[okV]at ha;obtain⟨a1,a2,a3,a4⟩:=ha;exact JQ4 _ a1 a2 (fun x hx=>(JII l a3 x hx).call trivial) (fun x hx=>(JIJ f a4 x hx).call trivial)
theorem JII:∀(l:List Val),JBo l→∀x∈l,PT 129 [Jm x] (.d (Jm x))
 |[],_,x,h=>by cases h
 |v::r,ho,x,h=>by
  simp only[JBo]at ho;by_cases e:x=v
  ·rw[e];exact JGo v ho.1
  ·exact JII r ho.2 x ((VA.1 h).resolve_left e)
theorem JIJ:∀(l:List Fld),JBp l→∀x∈l,PT 129 [Jm x.value] (.d (Jm x.value))
 |[],_,x,h=>by cases h
 |.mk n v::r,ho,x,h=>by
  simp only[JBp,okF]at ho;by_cases e:x=.mk n v
  ·rw[e];exact JGo v ho.1
  ·exact JIJ r ho.2 x ((VA.1 h).resolve_left e)
end
end Go.Proofs
namespace Go.Proofs
open Go Av
variable {g:Nat}
theorem JOx{v:Val}(h:fits (Jm v)):v.text.length≤68719476736∧v.list.length≤68719476736∧v.fields.length≤68719476736:=by
 rw[J0]at h;simp only[fits,Ua,Vc,and_true]at h;exact⟨h.2.2.2.1,h.2.2.2.2.1.1,h.2.2.2.2.2.1⟩
mutual
theorem JE2:∀v:Val,fits (Jm v)→okV v
 |.mk k i s t l f,h=>by
  have h':l.length≤68719476736∧f.length≤68719476736:=(JOx h).2;rw[J0]at h;simp only[fits,Ua,and_true,Val.list,Val.fields]at h;simp only[okV];exact⟨h'.1,h'.2,JF0 l fun x hx=>UQ.1 h.2.2.2.2.1.2 _ (VC.2 ⟨x,hx,rfl⟩),JF1 f fun x hx=>UQ.1 h.2.2.2.2.2.2 _ (VC.2 ⟨x,hx,rfl⟩)⟩
theorem JF0:∀l:List Val,(∀x∈l,fits (Jm x))→JBo l
 |[],_=>by simp[JBo]
 |v::r,h=>by
  simp only[JBo];exact⟨JE2 v (h v (Vh)),JF0 r fun x hx=>h x (Vn _ hx)⟩
theorem JF1:∀l:List Fld,(∀x∈l,fits (XT x))→JBp l
 |[],_=>by simp[JBp]
 |.mk n v::r,h=>by
  have h1:=h (.mk n v) (Vh);rw[ZY]at h1;have h2:fits (Jm v):=by
   rw[J0];simp only[fits,Ua,and_true,Fld.value]at h1⊢;exact h1.2
  simp only[JBp];exact⟨JE2 v h2,JF1 r fun x hx=>h x (Vn _ hx)⟩
end
theorem q70(a:Val):PT 129 [Jm a] (.d (Jm a)):=J3.Jg JSI.has fun h=>JGo a (JE2 a (h _ (Vh)))
theorem JQ5{e:Exp}(h:fits (JX e)):e.text.length≤68719476736∧e.value.length≤68719476736∧e.args.length≤68719476736∧∀x∈e.args,fits (JX x):=by
 rw[Jl]at h;simp only[fits,Ua,Vc,and_true]at h;obtain⟨_,_,h1,⟨h2,h3⟩,h4,h5⟩:=h;exact⟨h1,h2,h4,fun x hx=>UQ.1 h5 _ (VC.2 ⟨x,hx,rfl⟩)⟩
theorem JOy{xs:List Exp}{k:Nat}(h:k<xs.length):nth (xs.map JX) k=.agg [.int .i64 xs[k].op,.int .i64 xs[k].int,.str xs[k].text,.list 6 (xs[k].value.map Jm),.list 5 (xs[k].args.map JX)]:=by
 rw[JN JX h,Jl]
theorem step84(a:Exp)(ha:a.value.length≤68719476736)(ha2:a.args.length≤68719476736)(h1:∀x∈a.value,CT 129 [.d (Jm x)] [] (.d (Jm x)) [])(h2:∀x∈a.args,CT 84 [.d (JX x)] [] (.d (JX x)) []):
  PT 84 [JX a] (.d (JX a)):=by
 refine ok84.pc ?_;rw[Jl];simp only[go_sem,ir84,simprocAttr];refine JH (fun n s=>∃k:Nat,k≤a.value.length∧n=a.value.length-k∧
  s=⟨[(1,.ref 1 0),(2,.ref 2 0),(3,.ref 3 0),(16,.d (.list 6 (a.value.map Jm))),(17,.d (.int .i64 a.value.length)),(18,.d (.int .i64 k))],
   [(1,.box [.d (.int .i64 a.op),.d (.int .i64 a.int),.d (.str a.text),.d (.list 6 (a.value.map Jm)),.d (.list 5 (a.args.map JX))]),
    (2,.box [.d (.int .i64 0),.d (.int .i64 0),.d (.str []),.d (.nil 6),.d (.nil 5)]),
    (3,.box [.d (.int .i64 a.op),.d (.int .i64 a.int),.d (.str a.text),.ms 27 k,.d (.nil 5)]),
    (27,.row k 6 ((a.value.take k).map Jm))]⟩) ?_ ?_
 ·refine⟨_,_,Wk.JCr 3 3 27 6 _ rfl rfl rfl dC,0,Nat.zero_le _,rfl,?_⟩;simp[put]
 ·rintro n s ⟨k,hk,rfl,rfl⟩;by_cases hlt:k<a.value.length
  ·have hx:=Zr hlt;have hd:=dT hlt;refine JJE ?_;have hc:=h1 a.value[k] (Vk _);rw[J0]at hc;refine⟨sO,JG rfl hc trivial ?_⟩;refine zz ?_;refine⟨sP,sO,rfl,a.value.length-(k+1),_,oM,Wk.less ?_,k+1,oM,rfl,rfl⟩;rw[List.take_succ_eq_append_getElem hlt,Vw];simp only[go_sem,JE k oM,Va,Vb,J0 a.value[k],Nat.reduceAdd,Nat.reduceEqDiff,Nat.reduceBEq,Nat.reduceLeDiff,reduceCtorEq,↓reduceIte]
  ·have hd:=dF hlt;obtain rfl:k=a.value.length:=oM;refine JHr ?_;refine JH (fun n s=>∃k:Nat,k≤a.args.length∧n=a.args.length-k∧
    s=⟨[(2,.ref 2 0),(3,.ref 3 0),(31,.d (.list 5 (a.args.map JX))),(32,.d (.int .i64 a.args.length)),(33,.d (.int .i64 k))],
     [(2,.box [.d (.int .i64 0),.d (.int .i64 0),.d (.str []),.d (.nil 6),.d (.nil 5)]),
      (3,.box [.d (.int .i64 a.op),.d (.int .i64 a.int),.d (.str a.text),.ms 27 a.value.length,.ms 42 k]),
      (27,.row a.value.length 6 (a.value.map Jm)),
      (42,.row k 5 ((a.args.take k).map JX))]⟩) ?_ ?_
   ·refine⟨_,_,(Wk.JCr 3 4 42 5 _ rfl rfl rfl dC).trans (Wk.less ?_),0,Nat.zero_le _,rfl,rfl⟩;simp[put,go_sem]
   ·rintro n s ⟨k,hk,rfl,rfl⟩;by_cases hlt:k<a.args.length
    ·have hx:=JOy hlt;have hd:=dT hlt;have hc:=h2 a.args[k] (Vk _);rw[Jl]at hc;refine JJE ?_;refine⟨sO,JG rfl hc trivial ?_⟩;refine zz ?_;refine⟨sP,sO,rfl,a.args.length-(k+1),_,oM,Wk.less ?_,k+1,oM,rfl,rfl⟩;rw[List.take_succ_eq_append_getElem hlt,Vw];simp only[go_sem,JE k oM,Va,Vb,Jl a.args[k],Nat.reduceAdd,Nat.reduceEqDiff,Nat.reduceBEq,Nat.reduceLeDiff,reduceCtorEq,↓reduceIte]
    ·have hd:=dF hlt;obtain rfl:k=a.args.length:=oM;exact JHr trivial
mutual
theorem p84:∀(a:Exp),PT 84 [JX a] (.d (JX a))
 |.mk o i t v r=>J3.Jg ok84.has fun hf=>by
  obtain⟨_,f2,f3,_⟩:=JQ5 (hf _ (List.mem_singleton.2 rfl));exact step84 _ f2 f3 (fun x _=>(q70 x).call trivial) (fun x hx=>(p84s r x hx).call trivial)
theorem p84s:∀(l:List Exp),∀x∈l,PT 84 [JX x] (.d (JX x))
 |[],x,h=>by cases h
 |v::r,x,h=>by
  by_cases e:x=v
  ·rw[e];exact p84 v
  ·exact p84s r x ((VA.1 h).resolve_left e)
end
def JD(m:List Rule):Dat:=.agg [.list 6 (m.map Jz)]
theorem p85(m:List Rule):PT 85 [JD m] (.d (JD m)):=by
 refine J3.Jg ok85.has fun hfit=>?_
 have hml:m.length≤68719476736:=by have:=hfit _ (Vh);simp only[JD,fits,Ua,Vc]at this;exact this.1.1
 refine ok85.pc ?_;simp only[go_sem,ir85,JD,Vc,simprocAttr];refine⟨oM,JH (fun n s=>∃k:Nat,k≤m.length∧n=m.length-k∧
  s=⟨[(2,.ref 2 0),(3,.ms 9 k),(11,.d (.list 6 (m.map Jz))),(12,.d (.int .i64 m.length)),(13,.d (.int .i64 k))],
   [(2,.box [.d (.nil 6)]),(9,.row k 6 ((m.take k).map Jz))]⟩) ?_ ?_⟩
 ·refine⟨_,_,Wk.less ?_,0,Nat.zero_le _,rfl,rfl⟩;simp[go_sem]
 ·rintro n s ⟨k,hk,rfl,rfl⟩;by_cases hlt:k<m.length
  ·have hx:=JN Jz hlt;have hd:=dT hlt;have hc:=(p84 m[k].expr).call trivial;rw[Jl]at hc;simp only[Jz]at hx;refine zz6 ?_;refine⟨oM,JG rfl hc trivial ?_⟩;refine zz ?_;refine⟨sP,sO,rfl,m.length-(k+1),_,oM,Wk.less ?_,k+1,oM,rfl,rfl⟩;rw[List.take_succ_eq_append_getElem hlt,Vw];simp only[go_sem,JE k oM,Va,Vb,Jz,simprocAttr]
  ·have hd:=dF hlt;obtain rfl:k=m.length:=oM;exact zz14 trivial
theorem JD1(l:List Exp)(hg:∀x∈l,PT g [JX x] (.d (JX x))):PT 115 [.list 5 (l.map JX),.fn (.func g) [] []] (.d (.list 5 (l.map JX))):=by
 refine J3.Jg JIC.has fun hfit=>?_
 have hl:l.length≤68719476736:=by have:=(hfit _ (Vh)).1;simpa using this
 refine JIC.pc ?_;simp only[go_sem,JKe,Vc,simprocAttr];refine JH (fun n s=>∃k:Nat,k≤l.length∧n=l.length-k∧
  s=⟨[(1,.d (.fn (.func g) [] [])),(5,.ms 19 k),(8,.d (.list 5 (l.map JX))),(9,.d (.int .i64 l.length)),(10,.d (.int .i64 k))],[(19,.row k 5 ((l.take k).map JX))]⟩) ?_ ?_
 ·refine⟨_,_,(Wk.JHJ 5 19 5 rfl rfl dC).trans (Wk.less ?_),0,Nat.zero_le _,rfl,rfl⟩;simp[put,go_sem]
 ·rintro n s ⟨k,hk,rfl,rfl⟩;by_cases hlt:k<l.length
  ·have hx:=JN JX hlt;have hd:=dT hlt;have hc:=(hg l[k] (Vk _)).call trivial;simp only[Jl,Va,Vb]at hc hx;refine zz6 ?_;refine⟨oM,wn hc ?_⟩;refine zz ?_;refine⟨sP,sO,l.length-(k+1),_,oM,Wk.less ?_,k+1,oM,rfl,rfl⟩;rw[List.take_succ_eq_append_getElem hlt,Vw];simp only[go_sem,JE k oM,Va,Vb,Jl,simprocAttr]
  ·have hd:=dF hlt;obtain rfl:k=l.length:=oM;exact JHr trivial
theorem JGp(l:List Kal)(hg:∀x∈l,PT g [JV x] (.d (JV x))):PT 116 [.list 2 (l.map JV),.fn (.func g) [] []] (.d (.list 2 (l.map JV))):=by
 refine J3.Jg JSd.has fun hfit=>?_
 have hl:l.length≤68719476736:=by have:=(hfit _ (Vh)).1;simpa using this
 refine JSd.pc ?_;simp only[go_sem,JOr,Vc,simprocAttr];refine JH (fun n s=>∃k:Nat,k≤l.length∧n=l.length-k∧
  s=⟨[(1,.d (.fn (.func g) [] [])),(5,.ms 19 k),(8,.d (.list 2 (l.map JV))),(9,.d (.int .i64 l.length)),(10,.d (.int .i64 k))],[(19,.row k 2 ((l.take k).map JV))]⟩) ?_ ?_
 ·refine⟨_,_,(Wk.JHJ 5 19 2 rfl rfl dC).trans (Wk.less ?_),0,Nat.zero_le _,rfl,rfl⟩;simp[put,go_sem]
 ·rintro n s ⟨k,hk,rfl,rfl⟩;by_cases hlt:k<l.length
  ·have hx:=JN JV hlt;have hd:=dT hlt;have hc:=(hg l[k] (Vk _)).call trivial;simp only[JV,Va,Vb]at hc hx;refine zz6 ?_;refine⟨oM,wn hc ?_⟩;refine zz ?_;refine⟨sP,sO,l.length-(k+1),_,oM,Wk.less ?_,k+1,oM,rfl,rfl⟩;rw[List.take_succ_eq_append_getElem hlt,Vw];simp only[go_sem,JE k oM,Va,Vb,JV,simprocAttr]
  ·have hd:=dF hlt;obtain rfl:k=l.length:=oM;exact JHr trivial
theorem JKl(l:List Brn)(hg:∀x∈l,PT g [J5 x] (.d (J5 x))):PT 118 [.list 2 (l.map J5),.fn (.func g) [] []] (.d (.list 2 (l.map J5))):=by
 refine J3.Jg JID.has fun hfit=>?_
 have hl:l.length≤68719476736:=by have:=(hfit _ (Vh)).1;simpa using this
 refine JID.pc ?_;simp only[go_sem,JKf,Vc,simprocAttr];refine JH (fun n s=>∃k:Nat,k≤l.length∧n=l.length-k∧
  s=⟨[(1,.d (.fn (.func g) [] [])),(5,.ms 19 k),(8,.d (.list 2 (l.map J5))),(9,.d (.int .i64 l.length)),(10,.d (.int .i64 k))],[(19,.row k 2 ((l.take k).map J5))]⟩) ?_ ?_
 ·refine⟨_,_,(Wk.JHJ 5 19 2 rfl rfl dC).trans (Wk.less ?_),0,Nat.zero_le _,rfl,rfl⟩;simp[put,go_sem]
 ·rintro n s ⟨k,hk,rfl,rfl⟩;by_cases hlt:k<l.length
  ·have hx:=JN J5 hlt;have hd:=dT hlt;have hc:=(hg l[k] (Vk _)).call trivial;simp only[X6,Va,Vb]at hc hx;refine zz6 ?_;refine⟨oM,wn hc ?_⟩;refine zz ?_;refine⟨sP,sO,l.length-(k+1),_,oM,Wk.less ?_,k+1,oM,rfl,rfl⟩;rw[List.take_succ_eq_append_getElem hlt,Vw];simp only[go_sem,JE k oM,Va,Vb,X6,simprocAttr]
  ·have hd:=dF hlt;obtain rfl:k=l.length:=oM;exact JHr trivial
theorem walk57(l:List Ste)(hg:∀x∈l,PT g [JJ x] (.d (JJ x))):PT 57 [.list 11 (l.map JJ),.fn (.func g) [] []] (.d (.list 11 (l.map JJ))):=by
 refine J3.Jg JOt.has fun hfit=>?_
 have hl:l.length≤68719476736:=by have:=(hfit _ (Vh)).1;simpa using this
 refine JOt.pc ?_;simp only[go_sem,JQt,Vc,simprocAttr];refine JH (fun n s=>∃k:Nat,k≤l.length∧n=l.length-k∧
  s=⟨[(1,.d (.fn (.func g) [] [])),(5,.ms 19 k),(8,.d (.list 11 (l.map JJ))),(9,.d (.int .i64 l.length)),(10,.d (.int .i64 k))],[(19,.row k 11 ((l.take k).map JJ))]⟩) ?_ ?_
 ·refine⟨_,_,(Wk.JHJ 5 19 11 rfl rfl dC).trans (Wk.less ?_),0,Nat.zero_le _,rfl,rfl⟩;simp[put,go_sem]
 ·rintro n s ⟨k,hk,rfl,rfl⟩;by_cases hlt:k<l.length
  ·have hx:=JN JJ hlt;have hd:=dT hlt;have hc:=(hg l[k] (Vk _)).call trivial;simp only[JW,Va,Vb]at hc hx;refine zz6 ?_;refine⟨oM,wn hc ?_⟩;refine zz ?_;refine⟨sP,sO,l.length-(k+1),_,oM,Wk.less ?_,k+1,oM,rfl,rfl⟩;rw[List.take_succ_eq_append_getElem hlt,Vw];simp only[go_sem,JE k oM,Va,Vb,JW,simprocAttr]
  ·have hd:=dF hlt;obtain rfl:k=l.length:=oM;exact JHr trivial
theorem p117(c:Kal):PT 117 [JV c] (.d (JV c)):=by
 refine ok117.pc ?_;have hc:=(p85 c.rules).call trivial;simp only[JD,Va,Vb]at hc;simp only[go_sem,JSe,JV,simprocAttr];refine wc hc trivial
theorem JQ6(b:Brn)(h:∀x∈b.steps,PT 58 [JJ x] (.d (JJ x))):PT 119 [J5 b] (.d (J5 b)):=by
 refine JOs.pc ?_;have h1:=(JD1 b.cond fun x _=>p84 x).call trivial;have h2:=(walk57 b.steps h).call trivial;rw[X6];simp only[go_sem,JKg,simprocAttr];refine JG rfl h1 trivial ?_;refine zz ?_;refine JG rfl h2 trivial ?_;refine zz ?_;rfl
theorem step58(s:Ste)(h:∀b∈s.branches,PT 119 [J5 b] (.d (J5 b))):PT 58 [JJ s] (.d (JJ s)):=by
 refine JQu.pc ?_;have h1:=(JD1 s.exprs fun x _=>p84 x).call trivial;have h2:=(p85 s.rules).call trivial;have h3:=(JGp s.calls fun x _=>p117 x).call trivial;have h4:=(JKl s.branches h).call trivial;simp only[JD,Va,Vb]at h2;rw[JW];simp only[go_sem,JOu,simprocAttr];refine wc h1 ?_;refine wc h2 ?_;refine wc h3 ?_;refine wc h4 trivial
mutual
theorem p58:∀(s:Ste),PT 58 [JJ s] (.d (JJ s))
 |.mk n k u t l x c e r a b=>step58 _ (JOz b)
theorem p58s:∀(l:List Ste),∀x∈l,PT 58 [JJ x] (.d (JJ x))
 |[],x,h=>by cases h
 |v::r,x,h=>by
  by_cases e:x=v
  ·rw[e];exact p58 v
  ·exact p58s r x ((VA.1 h).resolve_left e)
theorem p119:∀(b:Brn),PT 119 [J5 b] (.d (J5 b))
 |.mk w s=>JQ6 _ (p58s s)
theorem JOz:∀(l:List Brn),∀x∈l,PT 119 [J5 x] (.d (J5 x))
 |[],x,h=>by cases h
 |v::r,x,h=>by
  by_cases e:x=v
  ·rw[e];exact p119 v
  ·exact JOz r x ((VA.1 h).resolve_left e)
end
end Go.Proofs
namespace Go.Proofs
open Go Av
def JP(s:Str):Exp:=.mk 2 0 s [] []
def Jt(n:Int):Exp:=.mk 1 0 [] [.mk 2 n 0 [] [] []] []
def UZ(op:Int)(a b:Exp):Exp:=.mk op 0 [] [] [a,b]
theorem JY(o i:Int)(t:Str)(v:List Val)(a:List Exp):JX (.mk o i t v a)=.agg [.int .i64 o,.int .i64 i,.str t,.list 6 (v.map Jm),.list 5 (a.map JX)]:=by
 rw[Jl];rfl
theorem JZ(k i s:Int)(t:Str)(l:List Val)(f:List Fld):Jm (.mk k i s t l f)=.agg [.int .i64 k,.int .i64 i,.int .i64 s,.str t,.list 6 (l.map Jm),.list 7 (f.map XT)]:=by
 rw[J0];rfl
theorem Je(s:Str):PT 43 [.str s] (.d (JX (JP s))):=by
 refine ok43.pc ?_;simp only[go_sem,ir43,JP,JY,Vb,Vv,Vc,simprocAttr]
theorem walk34(n:Int):PT 34 [.int .i64 n] (.d (Jm (.mk 2 n 0 [] [] []))):=by
 refine ok34.pc ?_;simp only[go_sem,ir34,JZ,Vb,Vv,Vc,simprocAttr]
theorem UI(n:Int):PT 10 [.int .i64 n] (.d (JX (Jt n))):=by
 refine ok10.pc ?_;have hc:=(walk34 n).call trivial;simp only[JZ,Vb]at hc;simp only[go_sem,ir10,Jt,JY,JZ,Va,Vb,Vv,Vc,simprocAttr];refine wn hc ?_;simp only[go_sem,Vv,Vc,simprocAttr];simp
theorem U1(op:Int)(a b:Exp):PT 42 [.int .i64 op,JX a,JX b] (.d (JX (UZ op a b))):=by
 refine ok42.pc ?_;simp only[go_sem,ir42,UZ,JY,Jl a,Jl b,Va,Vb,Vv,Vc,simprocAttr];simp
def msr(now:Str):Str:=if now==[108,105,110,101]then[98,111,100,121,46,113,116,121]else if now==[98,105,108,108]then[98,111,100,121,46,116,111,116,97,108]else[98,111,100,121,46,97,109,111,117,110,116]
theorem Uw(s:Str):PT 191 [.str s] (.d (.str (msr s))):=by
 refine ok191.pc ?_;unfold msr;cases h1:s==[108,105,110,101]<;>cases h2:s==[98,105,108,108]<;>
  simp only[go_sem,JSW,h1,h2,Nat.reduceAdd,Nat.reduceEqDiff,Nat.reduceBEq,Nat.reduceLeDiff,reduceCtorEq,↓reduceIte,Vu]
def prs(l:List Rule):List Dat:=l.flatMap fun r=>[.iface 9 (.str r.target),.iface 61 (JX r.expr)]
theorem JCW:∀l:List Rule,(prs l).length=2*l.length
 |[]=>rfl
 |x::r=>by
  have:=JCW r;simp only[prs,List.flatMap_cons,Vg,Vf,Vm]at this⊢;omega
theorem JKm:∀(l:List Rule) (k:Nat) (h:k<l.length),nth (prs l) (2*k)=.iface 9 (.str l[k].target)∧nth (prs l) (2*k+1)=.iface 61 (JX l[k].expr)
 |x::r,0,_=>⟨rfl,rfl⟩
 |x::r,k+1,h=>by
  have:=JKm r k (sX h);simpa only[nth,prs,List.flatMap_cons,List.getElem_cons_succ,Nat.mul_add,Nat.mul_one,List.cons_append,List.nil_append,List.getD_cons_succ]using this
theorem wrap2s(k d:Nat)(h:k+d<9223372036854775807):IntKind.i64.wrap ((k:Int)+(d:Int))=((k+d:Nat):Int):=by
 rw[wrap64 oM oM];omega
theorem JBG(l:List Rule):PT 192 [.list 1 (prs l)] (.d (JD l)):=by
 refine J3.Jg JSY.has fun hfit=>?_
 have hl:2*l.length≤68719476736:=by have:=(hfit _ (Vh)).1;rw[JCW]at this;omega
 clear hfit;refine JSY.pc ?_;simp only[go_sem,JSX,JD,JCW,Vv,Vc,Nat.reduceAdd,Nat.reduceEqDiff,Nat.reduceBEq,Nat.reduceLeDiff,reduceCtorEq,↓reduceIte];refine JH (fun n s=>∃k:Nat,k≤l.length∧n=l.length-k∧
  s=⟨[(0,.d (.list 1 (prs l))),(2,.ref 2 0),(3,.ref 3 0),(4,.d (.int .i64 (2*k:Nat)))],[(2,.box [.d (.nil 6)]),(3,.box [.ms 39 k]),(39,.row k 6 ((l.take k).map Jz))]⟩) ?_ ?_
 ·refine⟨_,_,(Wk.JCr 3 0 39 6 _ rfl rfl rfl dC),0,Nat.zero_le _,rfl,?_⟩;simp[put]
 ·rintro n s ⟨k,hk,rfl,rfl⟩;have e1:IntKind.i64.wrap (((2*k:Nat):Int)+1)=((2*k+1:Nat):Int):=JE _ oM;have e2:IntKind.i64.wrap (((2*k:Nat):Int)+2)=((2*(k+1):Nat):Int):=wrap2s _ 2 oM;by_cases hlt:k<l.length
  ·obtain⟨h1,h2⟩:=JKm l k hlt;have hd:decide (((2*k+1:Nat):Int)<((2*l.length:Nat):Int))=true:=by simp only[decide_eq_true_eq];omega
   rw[Jl]at h2;simp only[go_sem,e1,e2,h1,h2,hd,JCW,Vv,Vv,Vc,Nat.reduceAdd,Nat.reduceEqDiff,Nat.reduceBEq,Nat.reduceLeDiff,reduceCtorEq,↓reduceIte];refine⟨oM,dC,oM,dC,sP,sO,l.length-(k+1),_,oM,Wk.less ?_,k+1,oM,rfl,rfl⟩;rw[List.take_succ_eq_append_getElem hlt,Vw];simp only[go_sem,Va,Vb,Jz,Vv,Vc,Nat.reduceAdd,Nat.reduceEqDiff,Nat.reduceBEq,Nat.reduceLeDiff,reduceCtorEq,↓reduceIte]
  ·have hd:decide (((2*k+1:Nat):Int)<((2*l.length:Nat):Int))=false:=by simp only[decide_eq_false_iff_not];omega
   obtain rfl:k=l.length:=oM;simp only[go_sem,e1,hd,JCW,List.take_length,Vv,Vc,Nat.reduceAdd,Nat.reduceEqDiff,Nat.reduceBEq,Nat.reduceLeDiff,reduceCtorEq,↓reduceIte]
abbrev sId:Str:=[105,100]
abbrev JCX:Str:=[107,105,110,100]
abbrev JBM:Str:=[98,111,100,121,46,105,100]
abbrev Us:Str:=[98,111,100,121,46,107,105,110,100]
def bil(now:Str)(c:Exp):List Rule:=[⟨sId,JP JBM⟩,⟨JCX,JP Us⟩,⟨[116,111,116,97,108],JP (msr now)⟩,⟨[99,111,117,110,116],c⟩]
theorem Zc(now:Str)(c:Exp):PT 193 [.str now,JX c] (.d (JD (bil now c))):=by
 refine ok193.pc ?_;have c1:=(Je JBM).call trivial;have c2:=(Je Us).call trivial;have c3:=(Uw now).call trivial;have c4:=(Je (msr now)).call trivial;have c5:=(JBG (bil now c)).call trivial;simp only[prs,bil,List.flatMap_cons,List.flatMap_nil,List.cons_append,List.nil_append,List.append_nil,JD,Va,Vb]at c1 c2 c3 c4 c5;rw[Jl c]at c5⊢;simp only[go_sem,JSZ,bil,JD,Vv,Vc,simprocAttr];refine JG rfl c1 trivial ?_;simp only[go_sem,Vv,Vc,simprocAttr];refine JG rfl c2 trivial ?_;simp only[go_sem,Vv,Vc,simprocAttr];refine JG rfl c3 trivial ?_;simp only[go_sem,Vv,Vc,simprocAttr];refine JG rfl c4 trivial ?_;simp only[go_sem,Vv,Vc,simprocAttr];refine⟨sP,?_⟩;refine JG rfl c5 trivial ?_;simp only[go_sem,Vv,Vc,simprocAttr];rfl
def stk(i:Nat):List Rule:=[⟨sId,JP JBM⟩,⟨JCX,JP Us⟩,⟨[115,107,117],Jt ((i:Int).tmod 10)⟩,⟨[113,116,121],Jt 1⟩]
def JQ7(now:Str)(i:Nat)(s:Str):Kal:=⟨s,if s==[115,116,111,99,107]then stk i else bil now (Jt 1)⟩
def JAy(now:Str):Nat→List Str→List Kal
 |_,[]=>[]
 |i,s::r=>JQ7 now i s::JAy now (i+1) r
theorem JCY(now:Str):∀(l:List Str) (i:Nat),(JAy now i l).length=l.length
 |[],_=>rfl
 |x::r,i=>by simp[JAy,JCY now r]
theorem JIK(now:Str):∀(l m:List Str) (i:Nat),JAy now i (l++m)=JAy now i l++JAy now (i+l.length) m
 |[],m,i=>by simp[JAy]
 |x::r,m,i=>by simp only[List.cons_append,JAy,JIK now r m (i+1),Vf];congr 3;omega
theorem JF2(now:Str)(l:List Str)(k:Nat)(h:k<l.length):JAy now 0 (l.take (k+1))=JAy now 0 (l.take k)++[JQ7 now k l[k]]:=by
 rw[List.take_succ_eq_append_getElem h,JIK];simp only[JAy,List.length_take,Nat.zero_add];congr 3;omega
theorem JCZ(now:Str)(l:List Str):PT 194 [.str now,.list 1 (l.map .str)] (.d (.list 2 ((JAy now 0 l).map JV))):=by
 refine J3.Jg JSb.has fun hfit=>?_
 have hl:l.length≤68719476736:=by have:=(hfit (.list 1 (l.map .str)) sP).1;simpa using this
 clear hfit;refine JSb.pc ?_;simp only[go_sem,JSa,Vc,Vv,Vc,Nat.reduceAdd,Nat.reduceEqDiff,Nat.reduceBEq,Nat.reduceLeDiff,reduceCtorEq,↓reduceIte];refine JH (fun n s=>∃k:Nat,k≤l.length∧n=l.length-k∧
  s=⟨[(0,.d (.str now)),(1,.d (.list 1 (l.map .str))),(5,.ms 46 k),(6,.d (.int .i64 k))],[(46,.row k 2 ((JAy now 0 (l.take k)).map JV))]⟩) ?_ ?_
 ·refine⟨_,_,(Wk.JHJ 5 46 2 rfl rfl dC).trans (Wk.less ?_),0,Nat.zero_le _,rfl,rfl⟩;simp[put,go_sem,JAy]
 ·rintro n s ⟨k,hk,rfl,rfl⟩;by_cases hlt:k<l.length
  ·have hd:=dT hlt;have hx:nth (l.map .str) k=.str l[k]:=JN _ hlt;have c0:=(UI 1).call trivial;have c1:=(Zc now (Jt 1)).call trivial;have c2:=(Je JBM).call trivial;have c3:=(Je Us).call trivial;have c4:=(UI ((k:Int).tmod 10)).call trivial;have c5:=(JBG (stk k)).call trivial;have hle:(JAy now 0 (l.take k)).length≤68719476735:=by rw[JCY,List.length_take];omega
   simp only[prs,stk,List.flatMap_cons,List.flatMap_nil,List.cons_append,List.nil_append,List.append_nil,JD,Va,Vb]at c0 c1 c2 c3 c4 c5;simp only[go_sem,hx,hd,Vv,Vc,Vv,Vc,Nat.reduceAdd,Nat.reduceEqDiff,Nat.reduceBEq,Nat.reduceLeDiff,reduceCtorEq,↓reduceIte];refine wn c0 ?_;simp only[go_sem,Vv,Vc,Nat.reduceAdd,Nat.reduceEqDiff,Nat.reduceBEq,Nat.reduceLeDiff,reduceCtorEq,↓reduceIte];refine wn c1 ?_;simp only[go_sem,hx,Vv,Vc,Vv,Vc,Nat.reduceAdd,Nat.reduceEqDiff,Nat.reduceBEq,Nat.reduceLeDiff,reduceCtorEq,↓reduceIte];refine⟨oM,dC,?_⟩;cases hs:l[k]==[115,116,111,99,107]
   ·simp only[go_sem,hx,hs,Vv,Vc,Nat.reduceAdd,Nat.reduceEqDiff,Nat.reduceBEq,Nat.reduceLeDiff,reduceCtorEq,↓reduceIte];refine⟨oM,dC,sP,hle,l.length-(k+1),_,oM,Wk.less ?_,k+1,oM,rfl,rfl⟩;rw[JF2 now l k hlt,Vw];simp only[go_sem,JE k oM,Va,Vb,JV,JQ7,hs,Vu,Vv,Vc,Nat.reduceAdd,Nat.reduceEqDiff,Nat.reduceBEq,Nat.reduceLeDiff,reduceCtorEq,↓reduceIte]
   ·simp only[go_sem,hx,hs,Vv,Vc,Nat.reduceAdd,Nat.reduceEqDiff,Nat.reduceBEq,Nat.reduceLeDiff,reduceCtorEq,↓reduceIte];refine wn c2 ?_;simp only[go_sem,Vv,Vc,Nat.reduceAdd,Nat.reduceEqDiff,Nat.reduceBEq,Nat.reduceLeDiff,reduceCtorEq,↓reduceIte];refine wn c3 ?_;simp only[go_sem,Vv,Vc,Nat.reduceAdd,Nat.reduceEqDiff,Nat.reduceBEq,Nat.reduceLeDiff,reduceCtorEq,↓reduceIte];refine⟨dC,?_⟩;refine wn c4 ?_;simp only[go_sem,Vv,Vc,Nat.reduceAdd,Nat.reduceEqDiff,Nat.reduceBEq,Nat.reduceLeDiff,reduceCtorEq,↓reduceIte];refine wn c0 ?_;simp only[go_sem,Vv,Vc,Nat.reduceAdd,Nat.reduceEqDiff,Nat.reduceBEq,Nat.reduceLeDiff,reduceCtorEq,↓reduceIte];refine⟨sP,?_⟩;refine wn c5 ?_;refine zz24 ?_;refine⟨oM,dC,sP,hle,l.length-(k+1),_,oM,Wk.less ?_,k+1,oM,rfl,rfl⟩;rw[JF2 now l k hlt,Vw];simp only[go_sem,JE k oM,Va,Vb,JV,JQ7,hs,stk,Vv,Vc,Nat.reduceAdd,Nat.reduceEqDiff,Nat.reduceBEq,Nat.reduceLeDiff,reduceCtorEq,↓reduceIte]
  ·have hd:=dF hlt;obtain rfl:k=l.length:=oM;simp only[go_sem,hd,List.take_length,Vv,Vc,Nat.reduceAdd,Nat.reduceEqDiff,Nat.reduceBEq,Nat.reduceLeDiff,reduceCtorEq,↓reduceIte]
def toS(now:Str)(a:Int):Ste:=.mk [] 13 0 0 0 (if now==[111,114,100,101,114]&&a.tmod 3==1 then[97,103,97,105,110]else[111,117,116,95]++now) [] [] [] [] []
def UL(k a b:Int):Dat:=.agg [.int .u8 k,.int .u8 a,.int .u8 b]
theorem JGq(now:Str)(k a b:Int)(hn:now.length≤1000):PT 114 [.str now,UL k a b] (.d (JJ (toS now a))):=by
 refine ok114.pc ?_;rw[JW];simp only[go_sem,JSc,UL,toS,Ste.name,Ste.kind,Ste.number,Ste.time,Ste.limit,Ste.text,Ste.schema,Ste.exprs,Ste.rules,Ste.calls,Ste.branches,Vb,Vv,Vc,Nat.reduceAdd,Nat.reduceEqDiff,Nat.reduceBEq,Nat.reduceLeDiff,reduceCtorEq,↓reduceIte];refine⟨oM,XH (a.tmod 3==1) (fun _=>?_) ?_⟩
 ·simp only[go_sem,Vv,Vc,Nat.reduceAdd,Nat.reduceEqDiff,Nat.reduceBEq,Nat.reduceLeDiff,reduceCtorEq,↓reduceIte];intro h;cases h
 ·cases h1:now==[111,114,100,101,114]<;>cases h2:a.tmod 3==1<;>
   simp only[go_sem,h1,h2,Bool.and_true,Bool.and_false,Vt,Bool.false_and,Vu,Vv,Vc,Nat.reduceAdd,Nat.reduceEqDiff,Nat.reduceBEq,Nat.reduceLeDiff,reduceCtorEq,↓reduceIte]
end Go.Proofs
namespace Go.Proofs
open Go Av
@[instance_reducible] def JE3:Rls:={rl:=fun n=>n==5}
attribute [local instance 2000] JE3
theorem JL(n:Nat): @Rls.rl JE3 n=(n==5):=rfl
theorem JM(n:Nat): @Rls.tr JE3 n=false:=rfl
theorem JB(sz n:Nat): @Y7 JE3 sz n=(sz==5&&n==1):=by unfold Y7;rw[JL];show((sz==5&&n==1)||(false&&_))=_;rw[Bool.false_and,Bool.or_false]
abbrev JFR:Exp:=JP Us
def Jh(now:Str)(a:Int):Exp:=UZ 8 (JP (msr now)) (Jt (a.tmod 110))
abbrev ZK:Str:=[111,114,100,101,114]
abbrev JDg:Str:=[98,105,108,108]
abbrev JSh:Str:=[108,105,110,101]
abbrev JBq:Str:=[99,111,117,110,116]
def JCa(now:Str)(a:Int):Ste:=.mk [] 1 0 0 0 [108,97,114,103,101] [] [Jh now a] [] [] []
def JO0(b:Int):Ste:=.mk [] 2 0 0 0 [] ZK [] [⟨sId,JP JBM⟩,⟨[97,109,111,117,110,116],UZ 12 (JP [98,111,100,121,46,97,109,111,117,110,116]) (Jt (b.tmod 4))⟩,⟨JCX,JFR⟩,⟨[105,116,101,109,115],JP [98,111,100,121,46,105,116,101,109,115]⟩] [] []
def JO1(now:Str)(b:Int):Ste:=.mk [] 2 0 0 0 [] JDg [] (bil now (Jt (b.tmod 200))) [] []
def splS:Ste:=.mk [] 3 0 0 0 [98,111,100,121,46,105,116,101,109,115] JSh [] [⟨sId,JP JBM⟩,⟨JCX,JFR⟩,⟨[115,107,117],JP [105,116,101,109,46,115,107,117]⟩,⟨[113,116,121],JP [105,116,101,109,46,113,116,121]⟩] [] []
def JO2(now:Str)(a b:Int):Ste:=.mk [] 4 ((a.tdiv 2).tmod 4) (a.tmod 3*50) (1+b.tmod 4) [] JDg (if a.tmod 2==0 then[JFR,UZ 11 (JP JBq) (Jt (1+b.tmod 4))]else[JFR])
 [⟨sId,UZ 23 (JP [105,116,101,109,115,91,48,93,46,105,100]) (Jt 0)⟩,⟨JCX,JP [107,101,121]⟩,⟨[116,111,116,97,108],.mk 26 0 ([105,116,101,109,115,91,42,93,46]++(msr now).drop 5) [] []⟩,⟨JBq,JP JBq⟩] [] []
def ordS(a b:Int):Ste:=.mk [] 5 0 (a.tmod 3*50) (1+b.tmod 4) [] [] [JFR,JP JBM] [] [] []
def uniS(b:Int):Ste:=.mk [] 6 (1+b.tmod 4) 0 0 [] [] [JP JBM] [] [] []
def thrS(a b:Int):Ste:=.mk [] 7 (1+a.tmod 3) 100 (1+b.tmod 4) [] [] [] [] [] []
def delS(a b:Int):Ste:=.mk [] 8 0 (1+a.tmod 80) (1+b.tmod 4) [] [] [] [] [] []
def calS(now:Str)(a b:Int):Ste:=.mk [] 9 0 (a.tmod 3*60) (1+b.tmod 4) [] JDg [] (bil now (JP [114,101,112,108,121,46,99,111,100,101])) (JAy now 0 [[112,97,121]]) []
def sgL(a:Int):List Str:=if a.tmod 4==0 then[[112,97,121]]else if a.tmod 4==1 then[[112,97,121],[115,116,111,99,107]]else if a.tmod 4==2 then[[115,116,111,99,107],[109,97,105,108]]else[[115,116,111,99,107],[112,97,121],[109,97,105,108]]
def JGr(now:Str)(a b:Int):Ste:=.mk [] 10 0 (b.tmod 3*60) (1+b.tmod 4) [] JDg [] (bil now (Jt (sgL a).length)) (JAy now 0 (sgL a)) []
def UU(br:Ste)(k a b:Int)(now:Str):Ste×Str:=
 if k.tmod 13=0 then(JCa now a,now)
 else if k.tmod 13=1∨k.tmod 13=12 then(if now==ZK&&a.tmod 2==0 then(JO0 b,now)else(JO1 now b,JDg))
 else if k.tmod 13=2 then(if now==ZK then(splS,JSh)else(br,now))
 else if k.tmod 13=3 then(JO2 now a b,JDg)
 else if k.tmod 13=4 then(ordS a b,now)
 else if k.tmod 13=5 then(uniS b,now)
 else if k.tmod 13=6 then(thrS a b,now)
 else if k.tmod 13=7 then(delS a b,now)
 else if k.tmod 13=8 then(calS now a b,JDg)
 else if k.tmod 13=9 then(JGr now a b,JDg)
 else(br,now)
def BrOk(deep:Bool)(br:Ste)(k a b:Int)(now:Str):Prop:=match deep with
 |true=>PT 195 [UL k a b,.str now,JX (Jh now a)] (.d (JJ br))
 |false=>br=JCa now a
def JDm(t:Int):Prop:=∀(br:Ste) (k a b:Int) (now:Str) (deep:Bool),0≤a→a≤255→0≤b→b≤255→k.tmod 13=t→BrOk deep br k a b now→
 PT 112 [UL k a b,.str now,.bool deep] (.tup [.d (JJ (UU br k a b now).1),.d (.str (UU br k a b now).2)])
theorem JQ8(s:Str):5≤(msr s).length∧(msr s).length≤11:=by
 unfold msr;split
 ·decide
 ·split<;>decide
theorem US(a n:Int)(h0:0≤a)(hn:0<n∧n≤256):0≤a.tmod n∧a.tmod n≤255∧a.tmod n<n:=by
 rw[Int.tmod_eq_emod_of_nonneg h0];have:=Int.emod_nonneg a (show n≠0 by omega);have:=Int.emod_lt_of_pos a hn.1;omega
theorem JJZ(a n:Int)(h0:0≤a)(h1:a≤255)(hn:0<n):0≤a.tdiv n∧a.tdiv n≤255:=by
 rw[Int.tdiv_eq_ediv_of_nonneg h0];have:=Int.ediv_nonneg h0 (show 0≤n by omega);have:=Int.ediv_le_self n h0;omega
theorem JE4{P:Program}{f:Cee}{args args':List Av}{T:List (Nat×Option Av.Obj)}{v:Av}{ups:List (Nat×Av.Obj)}(h:JR P f args' T v ups)(e:args.map Av.canon=args'):JR P f args T v ups:=JR.canon (e▸h)
theorem UD{n:Int}(h0: -100000≤n)(h1:n≤100000):IntKind.i64.wrap n=n:=wrap64 oM oM
theorem JA(n:Str)(k u t l:Int)(x c:Str)(e:List Exp)(r:List Rule)(a:List Kal)(b:List Brn):JJ (.mk n k u t l x c e r a b)=.agg [.str n,.int .i64 k,.int .i64 u,.int .i64 t,.int .i64 l,.str x,.str c,.list 5 (e.map JX),.list 6 (r.map Jz),.list 2 (a.map JV),.list 2 (b.map J5)]:=by
 rw[JW];rfl
end Go.Proofs
namespace Go.Proofs
open Go Av
attribute [local instance 2000] JE3
theorem w158_0:JDm 0:=by
 intro br k a b now deep h0 h1 h2 h3 hk hbr;refine Yj.pc ?_;have c0:=(Je Us).call trivial;have c1:=(Uw now).call trivial;have c2:=(Je (msr now)).call trivial;have c3:=(UI (a.tmod 110)).call trivial;have c4:=(U1 8 (JP (msr now)) (Jt (a.tmod 110))).call trivial;have wa:IntKind.i64.wrap a=a:=UD oM oM;have wb:IntKind.i64.wrap b=b:=UD oM oM;obtain⟨b4,b4',b4''⟩:=US b 4 h2 oM;have w4:IntKind.i64.wrap (1+b.tmod 4)=1+b.tmod 4:=UD oM oM;simp only[Va,Vb]at c0 c1 c2 c3 c4;simp only[JD,JP,Jt,UZ,JY,JZ,Jh,prs,List.flatMap_cons,List.flatMap_nil,List.cons_append,List.nil_append,List.append_nil,Va,Vb]at c0 c1 c2 c3 c4;unfold UU;rw[hk];simp only[go_sem,YW,UL,JA,Va,Vb,JD,wa,wb,hk,w4,JL,JM,JB,Int.reduceBEq,Vu,Vt,Bool.false_and,Bool.and_true,Bool.and_false,JD,JP,Jt,UZ,JY,JZ,Jh,prs,List.flatMap_cons,List.flatMap_nil,List.cons_append,List.nil_append,List.append_nil,Va,Vb,JCa,JA,Vv,Vc,Nat.reduceAdd,Nat.reduceEqDiff,Nat.reduceBEq,Nat.reduceLeDiff,reduceCtorEq,↓reduceIte];refine wn c0 ?_;simp only[go_sem,JA,Va,Vb,JD,wa,wb,hk,w4,JL,JM,JB,Int.reduceBEq,Vu,Vt,Bool.false_and,Bool.and_true,Bool.and_false,Vv,Vc,Nat.reduceAdd,Nat.reduceEqDiff,Nat.reduceBEq,Nat.reduceLeDiff,reduceCtorEq,↓reduceIte];refine wn c0 ?_;simp only[go_sem,JA,Va,Vb,JD,wa,wb,hk,w4,JL,JM,JB,Int.reduceBEq,Vu,Vt,Bool.false_and,Bool.and_true,Bool.and_false,Vv,Vc,Nat.reduceAdd,Nat.reduceEqDiff,Nat.reduceBEq,Nat.reduceLeDiff,reduceCtorEq,↓reduceIte];refine⟨sP,?_⟩;refine wn c1 ?_;simp only[go_sem,JA,Va,Vb,JD,wa,wb,hk,w4,JL,JM,JB,Int.reduceBEq,Vu,Vt,Bool.false_and,Bool.and_true,Bool.and_false,Vv,Vc,Nat.reduceAdd,Nat.reduceEqDiff,Nat.reduceBEq,Nat.reduceLeDiff,reduceCtorEq,↓reduceIte];refine wn c2 ?_;simp only[go_sem,JA,Va,Vb,JD,wa,wb,hk,w4,JL,JM,JB,Int.reduceBEq,Vu,Vt,Bool.false_and,Bool.and_true,Bool.and_false,Vv,Vc,Nat.reduceAdd,Nat.reduceEqDiff,Nat.reduceBEq,Nat.reduceLeDiff,reduceCtorEq,↓reduceIte];refine⟨dC,?_⟩;refine wn c3 ?_;simp only[go_sem,JA,Va,Vb,JD,wa,wb,hk,w4,JL,JM,JB,Int.reduceBEq,Vu,Vt,Bool.false_and,Bool.and_true,Bool.and_false,Vv,Vc,Nat.reduceAdd,Nat.reduceEqDiff,Nat.reduceBEq,Nat.reduceLeDiff,reduceCtorEq,↓reduceIte];refine wn c4 ?_;simp only[go_sem,JA,Va,Vb,JD,wa,wb,hk,w4,JL,JM,JB,Int.reduceBEq,Vu,Vt,Bool.false_and,Bool.and_true,Bool.and_false,Int.reduceEq,or_true,or_false,true_or,false_or,not_false_eq_true,not_true_eq_false,ne_eq,true_and,JCa,JA,Va,Vb,Vv,Vc,Nat.reduceAdd,Nat.reduceEqDiff,Nat.reduceBEq,Nat.reduceLeDiff,reduceCtorEq,↓reduceIte];simp
theorem w158_1:JDm 1:=by
 intro br k a b now deep h0 h1 h2 h3 hk hbr;refine Yj.pc ?_;have c0:=(Je Us).call trivial;have c1:=(Uw now).call trivial;have c2:=(Je (msr now)).call trivial;have c3:=(UI (a.tmod 110)).call trivial;have c4:=(U1 8 (JP (msr now)) (Jt (a.tmod 110))).call trivial;have wa:IntKind.i64.wrap a=a:=UD oM oM;have wb:IntKind.i64.wrap b=b:=UD oM oM;obtain⟨b4,b4',b4''⟩:=US b 4 h2 oM;have w4:IntKind.i64.wrap (1+b.tmod 4)=1+b.tmod 4:=UD oM oM;simp only[Va,Vb]at c0 c1 c2 c3 c4;have c5:=(Je JBM).call trivial;have c6:=(Je [98,111,100,121,46,97,109,111,117,110,116]).call trivial;have c7:=(UI (b.tmod 4)).call trivial;have c8:=(U1 12 (JP [98,111,100,121,46,97,109,111,117,110,116]) (Jt (b.tmod 4))).call trivial;have c9:=(Je [98,111,100,121,46,105,116,101,109,115]).call trivial;have cq10:=(UI (b.tmod 200)).call trivial;have cq11:=(Zc now (Jt (b.tmod 200))).call trivial;have cq12:=(JBG [⟨sId,JP JBM⟩,⟨[97,109,111,117,110,116],UZ 12 (JP [98,111,100,121,46,97,109,111,117,110,116]) (Jt (b.tmod 4))⟩,⟨JCX,JFR⟩,⟨[105,116,101,109,115],JP [98,111,100,121,46,105,116,101,109,115]⟩]).call trivial;simp only[JD,JP,Jt,UZ,JY,JZ,Jh,prs,List.flatMap_cons,List.flatMap_nil,List.cons_append,List.nil_append,List.append_nil,Va,Vb]at c0 c1 c2 c3 c4 c5 c6 c7 c8 c9 cq10 cq11 cq12;unfold UU;rw[hk];simp only[go_sem,YW,UL,JA,Va,Vb,JD,wa,wb,hk,w4,JL,JM,JB,Int.reduceBEq,Vu,Vt,Bool.false_and,Bool.and_true,Bool.and_false,JD,JP,Jt,UZ,JY,JZ,Jh,prs,List.flatMap_cons,List.flatMap_nil,List.cons_append,List.nil_append,List.append_nil,Va,Vb,JO0,JO1,JA,Vv,Vc,Nat.reduceAdd,Nat.reduceEqDiff,Nat.reduceBEq,Nat.reduceLeDiff,reduceCtorEq,↓reduceIte];refine wn c0 ?_;simp only[go_sem,JA,Va,Vb,JD,wa,wb,hk,w4,JL,JM,JB,Int.reduceBEq,Vu,Vt,Bool.false_and,Bool.and_true,Bool.and_false,Vv,Vc,Nat.reduceAdd,Nat.reduceEqDiff,Nat.reduceBEq,Nat.reduceLeDiff,reduceCtorEq,↓reduceIte];refine wn c0 ?_;simp only[go_sem,JA,Va,Vb,JD,wa,wb,hk,w4,JL,JM,JB,Int.reduceBEq,Vu,Vt,Bool.false_and,Bool.and_true,Bool.and_false,Vv,Vc,Nat.reduceAdd,Nat.reduceEqDiff,Nat.reduceBEq,Nat.reduceLeDiff,reduceCtorEq,↓reduceIte];refine⟨sP,?_⟩;refine wn c1 ?_;simp only[go_sem,JA,Va,Vb,JD,wa,wb,hk,w4,JL,JM,JB,Int.reduceBEq,Vu,Vt,Bool.false_and,Bool.and_true,Bool.and_false,Vv,Vc,Nat.reduceAdd,Nat.reduceEqDiff,Nat.reduceBEq,Nat.reduceLeDiff,reduceCtorEq,↓reduceIte];refine wn c2 ?_;simp only[go_sem,JA,Va,Vb,JD,wa,wb,hk,w4,JL,JM,JB,Int.reduceBEq,Vu,Vt,Bool.false_and,Bool.and_true,Bool.and_false,Vv,Vc,Nat.reduceAdd,Nat.reduceEqDiff,Nat.reduceBEq,Nat.reduceLeDiff,reduceCtorEq,↓reduceIte];refine⟨dC,?_⟩;refine wn c3 ?_;simp only[go_sem,JA,Va,Vb,JD,wa,wb,hk,w4,JL,JM,JB,Int.reduceBEq,Vu,Vt,Bool.false_and,Bool.and_true,Bool.and_false,Vv,Vc,Nat.reduceAdd,Nat.reduceEqDiff,Nat.reduceBEq,Nat.reduceLeDiff,reduceCtorEq,↓reduceIte];refine wn c4 ?_;simp only[go_sem,JA,Va,Vb,JD,wa,wb,hk,w4,JL,JM,JB,Int.reduceBEq,Vu,Vt,Bool.false_and,Bool.and_true,Bool.and_false,Int.reduceEq,or_true,or_false,true_or,false_or,not_false_eq_true,not_true_eq_false,ne_eq,true_and,JO0,JO1,JA,Va,Vb,Vv,Vc,Nat.reduceAdd,Nat.reduceEqDiff,Nat.reduceBEq,Nat.reduceLeDiff,reduceCtorEq,↓reduceIte];refine sq (a.tmod 2==0) ?_ ?_
 ·simp only[go_sem,Vv,Vc,Nat.reduceAdd,Nat.reduceEqDiff,Nat.reduceBEq,Nat.reduceLeDiff,reduceCtorEq,↓reduceIte];intro h;cases h
 ·cases h4:(now==ZK&&a.tmod 2==0)
  ·simp only[go_sem,h4,JA,Va,Vb,JD,wa,wb,hk,w4,JL,JM,JB,Int.reduceBEq,Vu,Vt,Bool.false_and,Bool.and_true,Bool.and_false,Vv,Vc,Nat.reduceAdd,Nat.reduceEqDiff,Nat.reduceBEq,Nat.reduceLeDiff,reduceCtorEq,↓reduceIte];refine⟨dC,?_⟩;refine wn cq10 ?_;simp only[go_sem,JA,Va,Vb,JD,wa,wb,hk,w4,JL,JM,JB,Int.reduceBEq,Vu,Vt,Bool.false_and,Bool.and_true,Bool.and_false,Vv,Vc,Nat.reduceAdd,Nat.reduceEqDiff,Nat.reduceBEq,Nat.reduceLeDiff,reduceCtorEq,↓reduceIte];refine wn cq11 ?_;simp only[go_sem,JA,Va,Vb,JD,wa,wb,hk,w4,JL,JM,JB,Int.reduceBEq,Vu,Vt,Bool.false_and,Bool.and_true,Bool.and_false,Vv,Vc,Nat.reduceAdd,Nat.reduceEqDiff,Nat.reduceBEq,Nat.reduceLeDiff,reduceCtorEq,↓reduceIte]
  ·simp only[go_sem,h4,JA,Va,Vb,JD,wa,wb,hk,w4,JL,JM,JB,Int.reduceBEq,Vu,Vt,Bool.false_and,Bool.and_true,Bool.and_false,Vv,Vc,Nat.reduceAdd,Nat.reduceEqDiff,Nat.reduceBEq,Nat.reduceLeDiff,reduceCtorEq,↓reduceIte];refine JG rfl c5 trivial ?_;simp only[go_sem,JA,Va,Vb,JD,wa,wb,hk,w4,JL,JM,JB,Int.reduceBEq,Vu,Vt,Bool.false_and,Bool.and_true,Bool.and_false,Vv,Vc,Nat.reduceAdd,Nat.reduceEqDiff,Nat.reduceBEq,Nat.reduceLeDiff,reduceCtorEq,↓reduceIte];refine JG rfl c6 trivial ?_;simp only[go_sem,JA,Va,Vb,JD,wa,wb,hk,w4,JL,JM,JB,Int.reduceBEq,Vu,Vt,Bool.false_and,Bool.and_true,Bool.and_false,Vv,Vc,Nat.reduceAdd,Nat.reduceEqDiff,Nat.reduceBEq,Nat.reduceLeDiff,reduceCtorEq,↓reduceIte];refine⟨dC,?_⟩;refine JG rfl c7 trivial ?_;simp only[go_sem,JA,Va,Vb,JD,wa,wb,hk,w4,JL,JM,JB,Int.reduceBEq,Vu,Vt,Bool.false_and,Bool.and_true,Bool.and_false,Vv,Vc,Nat.reduceAdd,Nat.reduceEqDiff,Nat.reduceBEq,Nat.reduceLeDiff,reduceCtorEq,↓reduceIte];refine JG rfl c8 trivial ?_;simp only[go_sem,JA,Va,Vb,JD,wa,wb,hk,w4,JL,JM,JB,Int.reduceBEq,Vu,Vt,Bool.false_and,Bool.and_true,Bool.and_false,Vv,Vc,Nat.reduceAdd,Nat.reduceEqDiff,Nat.reduceBEq,Nat.reduceLeDiff,reduceCtorEq,↓reduceIte];refine JG rfl c9 trivial ?_;simp only[go_sem,JA,Va,Vb,JD,wa,wb,hk,w4,JL,JM,JB,Int.reduceBEq,Vu,Vt,Bool.false_and,Bool.and_true,Bool.and_false,Vv,Vc,Nat.reduceAdd,Nat.reduceEqDiff,Nat.reduceBEq,Nat.reduceLeDiff,reduceCtorEq,↓reduceIte];refine⟨sP,?_⟩;refine JG rfl cq12 trivial ?_;simp only[go_sem,JA,Va,Vb,JD,wa,wb,hk,w4,JL,JM,JB,Int.reduceBEq,Vu,Vt,Bool.false_and,Bool.and_true,Bool.and_false,Vv,Vc,Nat.reduceAdd,Nat.reduceEqDiff,Nat.reduceBEq,Nat.reduceLeDiff,reduceCtorEq,↓reduceIte];rfl
end Go.Proofs
namespace Go.Proofs
open Go Av
attribute [local instance 2000] JE3
theorem w158_2:JDm 2:=by
 intro br k a b now deep h0 h1 h2 h3 hk hbr;refine Yj.pc ?_;have c0:=(Je Us).call trivial;have c1:=(Uw now).call trivial;have c2:=(Je (msr now)).call trivial;have c3:=(UI (a.tmod 110)).call trivial;have c4:=(U1 8 (JP (msr now)) (Jt (a.tmod 110))).call trivial;have wa:IntKind.i64.wrap a=a:=UD oM oM;have wb:IntKind.i64.wrap b=b:=UD oM oM;obtain⟨b4,b4',b4''⟩:=US b 4 h2 oM;have w4:IntKind.i64.wrap (1+b.tmod 4)=1+b.tmod 4:=UD oM oM;simp only[Va,Vb]at c0 c1 c2 c3 c4;have c5:=(Je JBM).call trivial;have c6:=(Je [105,116,101,109,46,115,107,117]).call trivial;have c7:=(Je [105,116,101,109,46,113,116,121]).call trivial;have cq12:=(JBG [⟨sId,JP JBM⟩,⟨JCX,JFR⟩,⟨[115,107,117],JP [105,116,101,109,46,115,107,117]⟩,⟨[113,116,121],JP [105,116,101,109,46,113,116,121]⟩]).call trivial;simp only[JD,JP,Jt,UZ,JY,JZ,Jh,prs,List.flatMap_cons,List.flatMap_nil,List.cons_append,List.nil_append,List.append_nil,Va,Vb]at c0 c1 c2 c3 c4 c5 c6 c7 cq12;unfold UU;rw[hk];simp only[go_sem,YW,UL,JA,Va,Vb,JD,wa,wb,hk,w4,JL,JM,JB,Int.reduceBEq,Vu,Vt,Bool.false_and,Bool.and_true,Bool.and_false,JD,JP,Jt,UZ,JY,JZ,Jh,prs,List.flatMap_cons,List.flatMap_nil,List.cons_append,List.nil_append,List.append_nil,Va,Vb,splS,JA,Vv,Vc,Nat.reduceAdd,Nat.reduceEqDiff,Nat.reduceBEq,Nat.reduceLeDiff,reduceCtorEq,↓reduceIte];refine wn c0 ?_;simp only[go_sem,JA,Va,Vb,JD,wa,wb,hk,w4,JL,JM,JB,Int.reduceBEq,Vu,Vt,Bool.false_and,Bool.and_true,Bool.and_false,Vv,Vc,Nat.reduceAdd,Nat.reduceEqDiff,Nat.reduceBEq,Nat.reduceLeDiff,reduceCtorEq,↓reduceIte];refine wn c0 ?_;simp only[go_sem,JA,Va,Vb,JD,wa,wb,hk,w4,JL,JM,JB,Int.reduceBEq,Vu,Vt,Bool.false_and,Bool.and_true,Bool.and_false,Vv,Vc,Nat.reduceAdd,Nat.reduceEqDiff,Nat.reduceBEq,Nat.reduceLeDiff,reduceCtorEq,↓reduceIte];refine⟨sP,?_⟩;refine wn c1 ?_;simp only[go_sem,JA,Va,Vb,JD,wa,wb,hk,w4,JL,JM,JB,Int.reduceBEq,Vu,Vt,Bool.false_and,Bool.and_true,Bool.and_false,Vv,Vc,Nat.reduceAdd,Nat.reduceEqDiff,Nat.reduceBEq,Nat.reduceLeDiff,reduceCtorEq,↓reduceIte];refine wn c2 ?_;simp only[go_sem,JA,Va,Vb,JD,wa,wb,hk,w4,JL,JM,JB,Int.reduceBEq,Vu,Vt,Bool.false_and,Bool.and_true,Bool.and_false,Vv,Vc,Nat.reduceAdd,Nat.reduceEqDiff,Nat.reduceBEq,Nat.reduceLeDiff,reduceCtorEq,↓reduceIte];refine⟨dC,?_⟩;refine wn c3 ?_;simp only[go_sem,JA,Va,Vb,JD,wa,wb,hk,w4,JL,JM,JB,Int.reduceBEq,Vu,Vt,Bool.false_and,Bool.and_true,Bool.and_false,Vv,Vc,Nat.reduceAdd,Nat.reduceEqDiff,Nat.reduceBEq,Nat.reduceLeDiff,reduceCtorEq,↓reduceIte];refine wn c4 ?_;simp only[go_sem,JA,Va,Vb,JD,wa,wb,hk,w4,JL,JM,JB,Int.reduceBEq,Vu,Vt,Bool.false_and,Bool.and_true,Bool.and_false,Int.reduceEq,or_true,or_false,true_or,false_or,not_false_eq_true,not_true_eq_false,ne_eq,true_and,splS,JA,Va,Vb,Vv,Vc,Nat.reduceAdd,Nat.reduceEqDiff,Nat.reduceBEq,Nat.reduceLeDiff,reduceCtorEq,↓reduceIte];cases h4:now==ZK
 ·simp only[go_sem,h4,JA,Va,Vb,JD,wa,wb,hk,w4,JL,JM,JB,Int.reduceBEq,Vu,Vt,Bool.false_and,Bool.and_true,Bool.and_false,Vv,Vc,Nat.reduceAdd,Nat.reduceEqDiff,Nat.reduceBEq,Nat.reduceLeDiff,reduceCtorEq,↓reduceIte];cases deep
  ·have hbr:br=JCa now a:=hbr;subst hbr;simp only[go_sem,JA,Va,Vb,JD,wa,wb,hk,w4,JL,JM,JB,Int.reduceBEq,Vu,Vt,Bool.false_and,Bool.and_true,Bool.and_false,JCa,Jh,JD,JP,Jt,UZ,JY,JZ,Jh,prs,List.flatMap_cons,List.flatMap_nil,List.cons_append,List.nil_append,List.append_nil,Va,Vb,Vv,Vc,Nat.reduceAdd,Nat.reduceEqDiff,Nat.reduceBEq,Nat.reduceLeDiff,reduceCtorEq,↓reduceIte];simp
  ·have hb:=J3.call (show PT 195 [UL k a b,.str now,JX (Jh now a)] (.d (JJ br))from hbr) trivial;simp only[UL,JD,JP,Jt,UZ,JY,JZ,Jh,prs,List.flatMap_cons,List.flatMap_nil,List.cons_append,List.nil_append,List.append_nil,Va,Vb,JW br]at hb;rw[JW br];simp only[go_sem,JA,Va,Vb,JD,wa,wb,hk,w4,JL,JM,JB,Int.reduceBEq,Vu,Vt,Bool.false_and,Bool.and_true,Bool.and_false,Vv,Vc,Nat.reduceAdd,Nat.reduceEqDiff,Nat.reduceBEq,Nat.reduceLeDiff,reduceCtorEq,↓reduceIte];refine wn hb ?_;simp only[go_sem,JA,Va,Vb,JD,wa,wb,hk,w4,JL,JM,JB,Int.reduceBEq,Vu,Vt,Bool.false_and,Bool.and_true,Bool.and_false,Vv,Vc,Nat.reduceAdd,Nat.reduceEqDiff,Nat.reduceBEq,Nat.reduceLeDiff,reduceCtorEq,↓reduceIte]
 ·simp only[go_sem,h4,JA,Va,Vb,JD,wa,wb,hk,w4,JL,JM,JB,Int.reduceBEq,Vu,Vt,Bool.false_and,Bool.and_true,Bool.and_false,Vv,Vc,Nat.reduceAdd,Nat.reduceEqDiff,Nat.reduceBEq,Nat.reduceLeDiff,reduceCtorEq,↓reduceIte];refine JG rfl c5 trivial ?_;simp only[go_sem,JA,Va,Vb,JD,wa,wb,hk,w4,JL,JM,JB,Int.reduceBEq,Vu,Vt,Bool.false_and,Bool.and_true,Bool.and_false,Vv,Vc,Nat.reduceAdd,Nat.reduceEqDiff,Nat.reduceBEq,Nat.reduceLeDiff,reduceCtorEq,↓reduceIte];refine JG rfl c6 trivial ?_;simp only[go_sem,JA,Va,Vb,JD,wa,wb,hk,w4,JL,JM,JB,Int.reduceBEq,Vu,Vt,Bool.false_and,Bool.and_true,Bool.and_false,Vv,Vc,Nat.reduceAdd,Nat.reduceEqDiff,Nat.reduceBEq,Nat.reduceLeDiff,reduceCtorEq,↓reduceIte];refine JG rfl c7 trivial ?_;simp only[go_sem,JA,Va,Vb,JD,wa,wb,hk,w4,JL,JM,JB,Int.reduceBEq,Vu,Vt,Bool.false_and,Bool.and_true,Bool.and_false,Vv,Vc,Nat.reduceAdd,Nat.reduceEqDiff,Nat.reduceBEq,Nat.reduceLeDiff,reduceCtorEq,↓reduceIte];refine⟨sP,?_⟩;refine JG rfl cq12 trivial ?_;simp only[go_sem,JA,Va,Vb,JD,wa,wb,hk,w4,JL,JM,JB,Int.reduceBEq,Vu,Vt,Bool.false_and,Bool.and_true,Bool.and_false,Vv,Vc,Nat.reduceAdd,Nat.reduceEqDiff,Nat.reduceBEq,Nat.reduceLeDiff,reduceCtorEq,↓reduceIte];rfl
end Go.Proofs
namespace Go.Proofs
open Go Av
attribute [local instance 2000] JE3
theorem w158_4:JDm 4:=by
 intro br k a b now deep h0 h1 h2 h3 hk hbr;refine Yj.pc ?_;have c0:=(Je Us).call trivial;have c1:=(Uw now).call trivial;have c2:=(Je (msr now)).call trivial;have c3:=(UI (a.tmod 110)).call trivial;have c4:=(U1 8 (JP (msr now)) (Jt (a.tmod 110))).call trivial;have wa:IntKind.i64.wrap a=a:=UD oM oM;have wb:IntKind.i64.wrap b=b:=UD oM oM;obtain⟨b4,b4',b4''⟩:=US b 4 h2 oM;have w4:IntKind.i64.wrap (1+b.tmod 4)=1+b.tmod 4:=UD oM oM;simp only[Va,Vb]at c0 c1 c2 c3 c4;have c5:=(Je JBM).call trivial;obtain⟨m1,m2,m3⟩:=US a 3 h0 oM;have w5:IntKind.i64.wrap (a.tmod 3*50)=a.tmod 3*50:=UD oM oM;simp only[JD,JP,Jt,UZ,JY,JZ,Jh,prs,List.flatMap_cons,List.flatMap_nil,List.cons_append,List.nil_append,List.append_nil,Va,Vb]at c0 c1 c2 c3 c4 c5;unfold UU;rw[hk];simp only[go_sem,YW,UL,JA,Va,Vb,JD,wa,wb,hk,w4,JL,JM,JB,Int.reduceBEq,Vu,Vt,Bool.false_and,Bool.and_true,Bool.and_false,JD,JP,Jt,UZ,JY,JZ,Jh,prs,List.flatMap_cons,List.flatMap_nil,List.cons_append,List.nil_append,List.append_nil,Va,Vb,ordS,JA,Vv,Vc,Nat.reduceAdd,Nat.reduceEqDiff,Nat.reduceBEq,Nat.reduceLeDiff,reduceCtorEq,↓reduceIte];refine wn c0 ?_;simp only[go_sem,JA,Va,Vb,JD,wa,wb,hk,w4,JL,JM,JB,Int.reduceBEq,Vu,Vt,Bool.false_and,Bool.and_true,Bool.and_false,Vv,Vc,Nat.reduceAdd,Nat.reduceEqDiff,Nat.reduceBEq,Nat.reduceLeDiff,reduceCtorEq,↓reduceIte];refine wn c0 ?_;simp only[go_sem,JA,Va,Vb,JD,wa,wb,hk,w4,JL,JM,JB,Int.reduceBEq,Vu,Vt,Bool.false_and,Bool.and_true,Bool.and_false,Vv,Vc,Nat.reduceAdd,Nat.reduceEqDiff,Nat.reduceBEq,Nat.reduceLeDiff,reduceCtorEq,↓reduceIte];refine⟨sP,?_⟩;refine wn c1 ?_;simp only[go_sem,JA,Va,Vb,JD,wa,wb,hk,w4,JL,JM,JB,Int.reduceBEq,Vu,Vt,Bool.false_and,Bool.and_true,Bool.and_false,Vv,Vc,Nat.reduceAdd,Nat.reduceEqDiff,Nat.reduceBEq,Nat.reduceLeDiff,reduceCtorEq,↓reduceIte];refine wn c2 ?_;simp only[go_sem,JA,Va,Vb,JD,wa,wb,hk,w4,JL,JM,JB,Int.reduceBEq,Vu,Vt,Bool.false_and,Bool.and_true,Bool.and_false,Vv,Vc,Nat.reduceAdd,Nat.reduceEqDiff,Nat.reduceBEq,Nat.reduceLeDiff,reduceCtorEq,↓reduceIte];refine⟨dC,?_⟩;refine wn c3 ?_;simp only[go_sem,JA,Va,Vb,JD,wa,wb,hk,w4,JL,JM,JB,Int.reduceBEq,Vu,Vt,Bool.false_and,Bool.and_true,Bool.and_false,Vv,Vc,Nat.reduceAdd,Nat.reduceEqDiff,Nat.reduceBEq,Nat.reduceLeDiff,reduceCtorEq,↓reduceIte];refine wn c4 ?_;simp only[go_sem,JA,Va,Vb,JD,wa,wb,hk,w4,JL,JM,JB,Int.reduceBEq,Vu,Vt,Bool.false_and,Bool.and_true,Bool.and_false,Int.reduceEq,or_true,or_false,true_or,false_or,not_false_eq_true,not_true_eq_false,ne_eq,true_and,ordS,JA,Va,Vb,Vv,Vc,Nat.reduceAdd,Nat.reduceEqDiff,Nat.reduceBEq,Nat.reduceLeDiff,reduceCtorEq,↓reduceIte];refine JG rfl c5 trivial ?_;simp only[go_sem,JA,Va,Vb,JD,wa,wb,hk,w4,JL,JM,JB,Int.reduceBEq,Vu,Vt,Bool.false_and,Bool.and_true,Bool.and_false,Vv,Vc,Nat.reduceAdd,Nat.reduceEqDiff,Nat.reduceBEq,Nat.reduceLeDiff,reduceCtorEq,↓reduceIte];refine⟨sP,dC,?_⟩;rw[w5];exact⟨rfl,rfl⟩
theorem w158_5:JDm 5:=by
 intro br k a b now deep h0 h1 h2 h3 hk hbr;refine Yj.pc ?_;have c0:=(Je Us).call trivial;have c1:=(Uw now).call trivial;have c2:=(Je (msr now)).call trivial;have c3:=(UI (a.tmod 110)).call trivial;have c4:=(U1 8 (JP (msr now)) (Jt (a.tmod 110))).call trivial;have wa:IntKind.i64.wrap a=a:=UD oM oM;have wb:IntKind.i64.wrap b=b:=UD oM oM;obtain⟨b4,b4',b4''⟩:=US b 4 h2 oM;have w4:IntKind.i64.wrap (1+b.tmod 4)=1+b.tmod 4:=UD oM oM;simp only[Va,Vb]at c0 c1 c2 c3 c4;have c5:=(Je JBM).call trivial;simp only[JD,JP,Jt,UZ,JY,JZ,Jh,prs,List.flatMap_cons,List.flatMap_nil,List.cons_append,List.nil_append,List.append_nil,Va,Vb]at c0 c1 c2 c3 c4 c5;unfold UU;rw[hk];simp only[go_sem,YW,UL,JA,Va,Vb,JD,wa,wb,hk,w4,JL,JM,JB,Int.reduceBEq,Vu,Vt,Bool.false_and,Bool.and_true,Bool.and_false,JD,JP,Jt,UZ,JY,JZ,Jh,prs,List.flatMap_cons,List.flatMap_nil,List.cons_append,List.nil_append,List.append_nil,Va,Vb,uniS,JA,Vv,Vc,Nat.reduceAdd,Nat.reduceEqDiff,Nat.reduceBEq,Nat.reduceLeDiff,reduceCtorEq,↓reduceIte];refine wn c0 ?_;simp only[go_sem,JA,Va,Vb,JD,wa,wb,hk,w4,JL,JM,JB,Int.reduceBEq,Vu,Vt,Bool.false_and,Bool.and_true,Bool.and_false,Vv,Vc,Nat.reduceAdd,Nat.reduceEqDiff,Nat.reduceBEq,Nat.reduceLeDiff,reduceCtorEq,↓reduceIte];refine wn c0 ?_;simp only[go_sem,JA,Va,Vb,JD,wa,wb,hk,w4,JL,JM,JB,Int.reduceBEq,Vu,Vt,Bool.false_and,Bool.and_true,Bool.and_false,Vv,Vc,Nat.reduceAdd,Nat.reduceEqDiff,Nat.reduceBEq,Nat.reduceLeDiff,reduceCtorEq,↓reduceIte];refine⟨sP,?_⟩;refine wn c1 ?_;simp only[go_sem,JA,Va,Vb,JD,wa,wb,hk,w4,JL,JM,JB,Int.reduceBEq,Vu,Vt,Bool.false_and,Bool.and_true,Bool.and_false,Vv,Vc,Nat.reduceAdd,Nat.reduceEqDiff,Nat.reduceBEq,Nat.reduceLeDiff,reduceCtorEq,↓reduceIte];refine wn c2 ?_;simp only[go_sem,JA,Va,Vb,JD,wa,wb,hk,w4,JL,JM,JB,Int.reduceBEq,Vu,Vt,Bool.false_and,Bool.and_true,Bool.and_false,Vv,Vc,Nat.reduceAdd,Nat.reduceEqDiff,Nat.reduceBEq,Nat.reduceLeDiff,reduceCtorEq,↓reduceIte];refine⟨dC,?_⟩;refine wn c3 ?_;simp only[go_sem,JA,Va,Vb,JD,wa,wb,hk,w4,JL,JM,JB,Int.reduceBEq,Vu,Vt,Bool.false_and,Bool.and_true,Bool.and_false,Vv,Vc,Nat.reduceAdd,Nat.reduceEqDiff,Nat.reduceBEq,Nat.reduceLeDiff,reduceCtorEq,↓reduceIte];refine wn c4 ?_;simp only[go_sem,JA,Va,Vb,JD,wa,wb,hk,w4,JL,JM,JB,Int.reduceBEq,Vu,Vt,Bool.false_and,Bool.and_true,Bool.and_false,Int.reduceEq,or_true,or_false,true_or,false_or,not_false_eq_true,not_true_eq_false,ne_eq,true_and,uniS,JA,Va,Vb,Vv,Vc,Nat.reduceAdd,Nat.reduceEqDiff,Nat.reduceBEq,Nat.reduceLeDiff,reduceCtorEq,↓reduceIte];refine wn c5 ?_;simp only[go_sem,JA,Va,Vb,JD,wa,wb,hk,w4,JL,JM,JB,Int.reduceBEq,Vu,Vt,Bool.false_and,Bool.and_true,Bool.and_false,Vv,Vc,Nat.reduceAdd,Nat.reduceEqDiff,Nat.reduceBEq,Nat.reduceLeDiff,reduceCtorEq,↓reduceIte];refine⟨sP,?_⟩;rfl
theorem w158_6:JDm 6:=by
 intro br k a b now deep h0 h1 h2 h3 hk hbr;refine Yj.pc ?_;have c0:=(Je Us).call trivial;have c1:=(Uw now).call trivial;have c2:=(Je (msr now)).call trivial;have c3:=(UI (a.tmod 110)).call trivial;have c4:=(U1 8 (JP (msr now)) (Jt (a.tmod 110))).call trivial;have wa:IntKind.i64.wrap a=a:=UD oM oM;have wb:IntKind.i64.wrap b=b:=UD oM oM;obtain⟨b4,b4',b4''⟩:=US b 4 h2 oM;have w4:IntKind.i64.wrap (1+b.tmod 4)=1+b.tmod 4:=UD oM oM;simp only[Va,Vb]at c0 c1 c2 c3 c4;obtain⟨m1,m2,m3⟩:=US a 3 h0 oM;have w5:IntKind.i64.wrap (1+a.tmod 3)=1+a.tmod 3:=UD oM oM;simp only[JD,JP,Jt,UZ,JY,JZ,Jh,prs,List.flatMap_cons,List.flatMap_nil,List.cons_append,List.nil_append,List.append_nil,Va,Vb]at c0 c1 c2 c3 c4;unfold UU;rw[hk];simp only[go_sem,YW,UL,JA,Va,Vb,JD,wa,wb,hk,w4,JL,JM,JB,Int.reduceBEq,Vu,Vt,Bool.false_and,Bool.and_true,Bool.and_false,JD,JP,Jt,UZ,JY,JZ,Jh,prs,List.flatMap_cons,List.flatMap_nil,List.cons_append,List.nil_append,List.append_nil,Va,Vb,thrS,JA,Vv,Vc,Nat.reduceAdd,Nat.reduceEqDiff,Nat.reduceBEq,Nat.reduceLeDiff,reduceCtorEq,↓reduceIte];refine wn c0 ?_;simp only[go_sem,JA,Va,Vb,JD,wa,wb,hk,w4,JL,JM,JB,Int.reduceBEq,Vu,Vt,Bool.false_and,Bool.and_true,Bool.and_false,Vv,Vc,Nat.reduceAdd,Nat.reduceEqDiff,Nat.reduceBEq,Nat.reduceLeDiff,reduceCtorEq,↓reduceIte];refine wn c0 ?_;simp only[go_sem,JA,Va,Vb,JD,wa,wb,hk,w4,JL,JM,JB,Int.reduceBEq,Vu,Vt,Bool.false_and,Bool.and_true,Bool.and_false,Vv,Vc,Nat.reduceAdd,Nat.reduceEqDiff,Nat.reduceBEq,Nat.reduceLeDiff,reduceCtorEq,↓reduceIte];refine⟨sP,?_⟩;refine wn c1 ?_;simp only[go_sem,JA,Va,Vb,JD,wa,wb,hk,w4,JL,JM,JB,Int.reduceBEq,Vu,Vt,Bool.false_and,Bool.and_true,Bool.and_false,Vv,Vc,Nat.reduceAdd,Nat.reduceEqDiff,Nat.reduceBEq,Nat.reduceLeDiff,reduceCtorEq,↓reduceIte];refine wn c2 ?_;simp only[go_sem,JA,Va,Vb,JD,wa,wb,hk,w4,JL,JM,JB,Int.reduceBEq,Vu,Vt,Bool.false_and,Bool.and_true,Bool.and_false,Vv,Vc,Nat.reduceAdd,Nat.reduceEqDiff,Nat.reduceBEq,Nat.reduceLeDiff,reduceCtorEq,↓reduceIte];refine⟨dC,?_⟩;refine wn c3 ?_;simp only[go_sem,JA,Va,Vb,JD,wa,wb,hk,w4,JL,JM,JB,Int.reduceBEq,Vu,Vt,Bool.false_and,Bool.and_true,Bool.and_false,Vv,Vc,Nat.reduceAdd,Nat.reduceEqDiff,Nat.reduceBEq,Nat.reduceLeDiff,reduceCtorEq,↓reduceIte];refine wn c4 ?_;simp only[go_sem,JA,Va,Vb,JD,wa,wb,hk,w4,JL,JM,JB,Int.reduceBEq,Vu,Vt,Bool.false_and,Bool.and_true,Bool.and_false,Int.reduceEq,or_true,or_false,true_or,false_or,not_false_eq_true,not_true_eq_false,ne_eq,true_and,thrS,JA,Va,Vb,Vv,Vc,Nat.reduceAdd,Nat.reduceEqDiff,Nat.reduceBEq,Nat.reduceLeDiff,reduceCtorEq,↓reduceIte];rw[w5]
theorem w158_7:JDm 7:=by
 intro br k a b now deep h0 h1 h2 h3 hk hbr;refine Yj.pc ?_;have c0:=(Je Us).call trivial;have c1:=(Uw now).call trivial;have c2:=(Je (msr now)).call trivial;have c3:=(UI (a.tmod 110)).call trivial;have c4:=(U1 8 (JP (msr now)) (Jt (a.tmod 110))).call trivial;have wa:IntKind.i64.wrap a=a:=UD oM oM;have wb:IntKind.i64.wrap b=b:=UD oM oM;obtain⟨b4,b4',b4''⟩:=US b 4 h2 oM;have w4:IntKind.i64.wrap (1+b.tmod 4)=1+b.tmod 4:=UD oM oM;simp only[Va,Vb]at c0 c1 c2 c3 c4;obtain⟨m1,m2,m3⟩:=US a 80 h0 oM;have w5:IntKind.i64.wrap (1+a.tmod 80)=1+a.tmod 80:=UD oM oM;simp only[JD,JP,Jt,UZ,JY,JZ,Jh,prs,List.flatMap_cons,List.flatMap_nil,List.cons_append,List.nil_append,List.append_nil,Va,Vb]at c0 c1 c2 c3 c4;unfold UU;rw[hk];simp only[go_sem,YW,UL,JA,Va,Vb,JD,wa,wb,hk,w4,JL,JM,JB,Int.reduceBEq,Vu,Vt,Bool.false_and,Bool.and_true,Bool.and_false,JD,JP,Jt,UZ,JY,JZ,Jh,prs,List.flatMap_cons,List.flatMap_nil,List.cons_append,List.nil_append,List.append_nil,Va,Vb,delS,JA,Vv,Vc,Nat.reduceAdd,Nat.reduceEqDiff,Nat.reduceBEq,Nat.reduceLeDiff,reduceCtorEq,↓reduceIte];refine wn c0 ?_;simp only[go_sem,JA,Va,Vb,JD,wa,wb,hk,w4,JL,JM,JB,Int.reduceBEq,Vu,Vt,Bool.false_and,Bool.and_true,Bool.and_false,Vv,Vc,Nat.reduceAdd,Nat.reduceEqDiff,Nat.reduceBEq,Nat.reduceLeDiff,reduceCtorEq,↓reduceIte];refine wn c0 ?_;simp only[go_sem,JA,Va,Vb,JD,wa,wb,hk,w4,JL,JM,JB,Int.reduceBEq,Vu,Vt,Bool.false_and,Bool.and_true,Bool.and_false,Vv,Vc,Nat.reduceAdd,Nat.reduceEqDiff,Nat.reduceBEq,Nat.reduceLeDiff,reduceCtorEq,↓reduceIte];refine⟨sP,?_⟩;refine wn c1 ?_;simp only[go_sem,JA,Va,Vb,JD,wa,wb,hk,w4,JL,JM,JB,Int.reduceBEq,Vu,Vt,Bool.false_and,Bool.and_true,Bool.and_false,Vv,Vc,Nat.reduceAdd,Nat.reduceEqDiff,Nat.reduceBEq,Nat.reduceLeDiff,reduceCtorEq,↓reduceIte];refine wn c2 ?_;simp only[go_sem,JA,Va,Vb,JD,wa,wb,hk,w4,JL,JM,JB,Int.reduceBEq,Vu,Vt,Bool.false_and,Bool.and_true,Bool.and_false,Vv,Vc,Nat.reduceAdd,Nat.reduceEqDiff,Nat.reduceBEq,Nat.reduceLeDiff,reduceCtorEq,↓reduceIte];refine⟨dC,?_⟩;refine wn c3 ?_;simp only[go_sem,JA,Va,Vb,JD,wa,wb,hk,w4,JL,JM,JB,Int.reduceBEq,Vu,Vt,Bool.false_and,Bool.and_true,Bool.and_false,Vv,Vc,Nat.reduceAdd,Nat.reduceEqDiff,Nat.reduceBEq,Nat.reduceLeDiff,reduceCtorEq,↓reduceIte];refine wn c4 ?_;simp only[go_sem,JA,Va,Vb,JD,wa,wb,hk,w4,JL,JM,JB,Int.reduceBEq,Vu,Vt,Bool.false_and,Bool.and_true,Bool.and_false,Int.reduceEq,or_true,or_false,true_or,false_or,not_false_eq_true,not_true_eq_false,ne_eq,true_and,delS,JA,Va,Vb,Vv,Vc,Nat.reduceAdd,Nat.reduceEqDiff,Nat.reduceBEq,Nat.reduceLeDiff,reduceCtorEq,↓reduceIte];rw[w5]
end Go.Proofs
namespace Go.Proofs
open Go Av
attribute [local instance 2000] JE3
theorem w158_8:JDm 8:=by
 intro br k a b now deep h0 h1 h2 h3 hk hbr;refine Yj.pc ?_;have c0:=(Je Us).call trivial;have c1:=(Uw now).call trivial;have c2:=(Je (msr now)).call trivial;have c3:=(UI (a.tmod 110)).call trivial;have c4:=(U1 8 (JP (msr now)) (Jt (a.tmod 110))).call trivial;have wa:IntKind.i64.wrap a=a:=UD oM oM;have wb:IntKind.i64.wrap b=b:=UD oM oM;obtain⟨b4,b4',b4''⟩:=US b 4 h2 oM;have w4:IntKind.i64.wrap (1+b.tmod 4)=1+b.tmod 4:=UD oM oM;simp only[Va,Vb]at c0 c1 c2 c3 c4;obtain⟨m1,m2,m3⟩:=US a 3 h0 oM;have w5:IntKind.i64.wrap (a.tmod 3*60)=a.tmod 3*60:=UD oM oM;have c5:=(JCZ now [[112,97,121]]).call trivial;have c6:=(Je [114,101,112,108,121,46,99,111,100,101]).call trivial;have c7:=(Zc now (JP [114,101,112,108,121,46,99,111,100,101])).call trivial;simp only[JD,JP,Jt,UZ,JY,JZ,Jh,prs,List.flatMap_cons,List.flatMap_nil,List.cons_append,List.nil_append,List.append_nil,Va,Vb]at c0 c1 c2 c3 c4 c5 c6 c7;unfold UU;rw[hk];simp only[go_sem,YW,UL,JA,Va,Vb,JD,wa,wb,hk,w4,JL,JM,JB,Int.reduceBEq,Vu,Vt,Bool.false_and,Bool.and_true,Bool.and_false,JD,JP,Jt,UZ,JY,JZ,Jh,prs,List.flatMap_cons,List.flatMap_nil,List.cons_append,List.nil_append,List.append_nil,Va,Vb,calS,JA,Vv,Vc,Nat.reduceAdd,Nat.reduceEqDiff,Nat.reduceBEq,Nat.reduceLeDiff,reduceCtorEq,↓reduceIte];refine wn c0 ?_;simp only[go_sem,JA,Va,Vb,JD,wa,wb,hk,w4,JL,JM,JB,Int.reduceBEq,Vu,Vt,Bool.false_and,Bool.and_true,Bool.and_false,Vv,Vc,Nat.reduceAdd,Nat.reduceEqDiff,Nat.reduceBEq,Nat.reduceLeDiff,reduceCtorEq,↓reduceIte];refine wn c0 ?_;simp only[go_sem,JA,Va,Vb,JD,wa,wb,hk,w4,JL,JM,JB,Int.reduceBEq,Vu,Vt,Bool.false_and,Bool.and_true,Bool.and_false,Vv,Vc,Nat.reduceAdd,Nat.reduceEqDiff,Nat.reduceBEq,Nat.reduceLeDiff,reduceCtorEq,↓reduceIte];refine⟨sP,?_⟩;refine wn c1 ?_;simp only[go_sem,JA,Va,Vb,JD,wa,wb,hk,w4,JL,JM,JB,Int.reduceBEq,Vu,Vt,Bool.false_and,Bool.and_true,Bool.and_false,Vv,Vc,Nat.reduceAdd,Nat.reduceEqDiff,Nat.reduceBEq,Nat.reduceLeDiff,reduceCtorEq,↓reduceIte];refine wn c2 ?_;simp only[go_sem,JA,Va,Vb,JD,wa,wb,hk,w4,JL,JM,JB,Int.reduceBEq,Vu,Vt,Bool.false_and,Bool.and_true,Bool.and_false,Vv,Vc,Nat.reduceAdd,Nat.reduceEqDiff,Nat.reduceBEq,Nat.reduceLeDiff,reduceCtorEq,↓reduceIte];refine⟨dC,?_⟩;refine wn c3 ?_;simp only[go_sem,JA,Va,Vb,JD,wa,wb,hk,w4,JL,JM,JB,Int.reduceBEq,Vu,Vt,Bool.false_and,Bool.and_true,Bool.and_false,Vv,Vc,Nat.reduceAdd,Nat.reduceEqDiff,Nat.reduceBEq,Nat.reduceLeDiff,reduceCtorEq,↓reduceIte];refine wn c4 ?_;simp only[go_sem,JA,Va,Vb,JD,wa,wb,hk,w4,JL,JM,JB,Int.reduceBEq,Vu,Vt,Bool.false_and,Bool.and_true,Bool.and_false,Int.reduceEq,or_true,or_false,true_or,false_or,not_false_eq_true,not_true_eq_false,ne_eq,true_and,calS,JA,Va,Vb,Vv,Vc,Nat.reduceAdd,Nat.reduceEqDiff,Nat.reduceBEq,Nat.reduceLeDiff,reduceCtorEq,↓reduceIte];refine⟨sP,?_⟩;refine wn c5 ?_;simp only[go_sem,JA,Va,Vb,JD,wa,wb,hk,w4,JL,JM,JB,Int.reduceBEq,Vu,Vt,Bool.false_and,Bool.and_true,Bool.and_false,Vv,Vc,Nat.reduceAdd,Nat.reduceEqDiff,Nat.reduceBEq,Nat.reduceLeDiff,reduceCtorEq,↓reduceIte];refine⟨dC,?_⟩;refine wn c6 ?_;simp only[go_sem,JA,Va,Vb,JD,wa,wb,hk,w4,JL,JM,JB,Int.reduceBEq,Vu,Vt,Bool.false_and,Bool.and_true,Bool.and_false,Vv,Vc,Nat.reduceAdd,Nat.reduceEqDiff,Nat.reduceBEq,Nat.reduceLeDiff,reduceCtorEq,↓reduceIte];refine wn c7 ?_;simp only[go_sem,JA,Va,Vb,JD,wa,wb,hk,w4,JL,JM,JB,Int.reduceBEq,Vu,Vt,Bool.false_and,Bool.and_true,Bool.and_false,Vv,Vc,Nat.reduceAdd,Nat.reduceEqDiff,Nat.reduceBEq,Nat.reduceLeDiff,reduceCtorEq,↓reduceIte];rw[w5]
theorem JQ9:JDm 10:=by
 intro br k a b now deep h0 h1 h2 h3 hk hbr;refine Yj.pc ?_;have c0:=(Je Us).call trivial;have c1:=(Uw now).call trivial;have c2:=(Je (msr now)).call trivial;have c3:=(UI (a.tmod 110)).call trivial;have c4:=(U1 8 (JP (msr now)) (Jt (a.tmod 110))).call trivial;have wa:IntKind.i64.wrap a=a:=UD oM oM;have wb:IntKind.i64.wrap b=b:=UD oM oM;obtain⟨b4,b4',b4''⟩:=US b 4 h2 oM;have w4:IntKind.i64.wrap (1+b.tmod 4)=1+b.tmod 4:=UD oM oM;simp only[Va,Vb]at c0 c1 c2 c3 c4;simp only[JD,JP,Jt,UZ,JY,JZ,Jh,prs,List.flatMap_cons,List.flatMap_nil,List.cons_append,List.nil_append,List.append_nil,Va,Vb]at c0 c1 c2 c3 c4;unfold UU;rw[hk];simp only[go_sem,YW,UL,JA,Va,Vb,JD,wa,wb,hk,w4,JL,JM,JB,Int.reduceBEq,Vu,Vt,Bool.false_and,Bool.and_true,Bool.and_false,JD,JP,Jt,UZ,JY,JZ,Jh,prs,List.flatMap_cons,List.flatMap_nil,List.cons_append,List.nil_append,List.append_nil,Va,Vb,JA,Vv,Vc,Nat.reduceAdd,Nat.reduceEqDiff,Nat.reduceBEq,Nat.reduceLeDiff,reduceCtorEq,↓reduceIte];refine wn c0 ?_;simp only[go_sem,JA,Va,Vb,JD,wa,wb,hk,w4,JL,JM,JB,Int.reduceBEq,Vu,Vt,Bool.false_and,Bool.and_true,Bool.and_false,Vv,Vc,Nat.reduceAdd,Nat.reduceEqDiff,Nat.reduceBEq,Nat.reduceLeDiff,reduceCtorEq,↓reduceIte];refine wn c0 ?_;simp only[go_sem,JA,Va,Vb,JD,wa,wb,hk,w4,JL,JM,JB,Int.reduceBEq,Vu,Vt,Bool.false_and,Bool.and_true,Bool.and_false,Vv,Vc,Nat.reduceAdd,Nat.reduceEqDiff,Nat.reduceBEq,Nat.reduceLeDiff,reduceCtorEq,↓reduceIte];refine⟨sP,?_⟩;refine wn c1 ?_;simp only[go_sem,JA,Va,Vb,JD,wa,wb,hk,w4,JL,JM,JB,Int.reduceBEq,Vu,Vt,Bool.false_and,Bool.and_true,Bool.and_false,Vv,Vc,Nat.reduceAdd,Nat.reduceEqDiff,Nat.reduceBEq,Nat.reduceLeDiff,reduceCtorEq,↓reduceIte];refine wn c2 ?_;simp only[go_sem,JA,Va,Vb,JD,wa,wb,hk,w4,JL,JM,JB,Int.reduceBEq,Vu,Vt,Bool.false_and,Bool.and_true,Bool.and_false,Vv,Vc,Nat.reduceAdd,Nat.reduceEqDiff,Nat.reduceBEq,Nat.reduceLeDiff,reduceCtorEq,↓reduceIte];refine⟨dC,?_⟩;refine wn c3 ?_;simp only[go_sem,JA,Va,Vb,JD,wa,wb,hk,w4,JL,JM,JB,Int.reduceBEq,Vu,Vt,Bool.false_and,Bool.and_true,Bool.and_false,Vv,Vc,Nat.reduceAdd,Nat.reduceEqDiff,Nat.reduceBEq,Nat.reduceLeDiff,reduceCtorEq,↓reduceIte];refine wn c4 ?_;simp only[go_sem,JA,Va,Vb,JD,wa,wb,hk,w4,JL,JM,JB,Int.reduceBEq,Vu,Vt,Bool.false_and,Bool.and_true,Bool.and_false,Int.reduceEq,or_true,or_false,true_or,false_or,not_false_eq_true,not_true_eq_false,ne_eq,true_and,JA,Va,Vb,Vv,Vc,Nat.reduceAdd,Nat.reduceEqDiff,Nat.reduceBEq,Nat.reduceLeDiff,reduceCtorEq,↓reduceIte];cases deep
 ·have hbr:br=JCa now a:=hbr;subst hbr;simp only[go_sem,JA,Va,Vb,JD,wa,wb,hk,w4,JL,JM,JB,Int.reduceBEq,Vu,Vt,Bool.false_and,Bool.and_true,Bool.and_false,JCa,Jh,JD,JP,Jt,UZ,JY,JZ,Jh,prs,List.flatMap_cons,List.flatMap_nil,List.cons_append,List.nil_append,List.append_nil,Va,Vb,Vv,Vc,Nat.reduceAdd,Nat.reduceEqDiff,Nat.reduceBEq,Nat.reduceLeDiff,reduceCtorEq,↓reduceIte];simp
 ·have hb:=J3.call (show PT 195 [UL k a b,.str now,JX (Jh now a)] (.d (JJ br))from hbr) trivial;simp only[UL,JD,JP,Jt,UZ,JY,JZ,Jh,prs,List.flatMap_cons,List.flatMap_nil,List.cons_append,List.nil_append,List.append_nil,Va,Vb,JW br]at hb;rw[JW br];simp only[go_sem,JA,Va,Vb,JD,wa,wb,hk,w4,JL,JM,JB,Int.reduceBEq,Vu,Vt,Bool.false_and,Bool.and_true,Bool.and_false,Vv,Vc,Nat.reduceAdd,Nat.reduceEqDiff,Nat.reduceBEq,Nat.reduceLeDiff,reduceCtorEq,↓reduceIte];refine wn hb ?_;simp only[go_sem,JA,Va,Vb,JD,wa,wb,hk,w4,JL,JM,JB,Int.reduceBEq,Vu,Vt,Bool.false_and,Bool.and_true,Bool.and_false,Vv,Vc,Nat.reduceAdd,Nat.reduceEqDiff,Nat.reduceBEq,Nat.reduceLeDiff,reduceCtorEq,↓reduceIte]
end Go.Proofs
namespace Go.Proofs
open Go Av
attribute [local instance 2000] JE3
theorem w158_3:JDm 3:=by
 intro br k a b now deep h0 h1 h2 h3 hk hbr;refine Yj.pc ?_;have c0:=(Je Us).call trivial;have c1:=(Uw now).call trivial;have c2:=(Je (msr now)).call trivial;have c3:=(UI (a.tmod 110)).call trivial;have c4:=(U1 8 (JP (msr now)) (Jt (a.tmod 110))).call trivial;have wa:IntKind.i64.wrap a=a:=UD oM oM;have wb:IntKind.i64.wrap b=b:=UD oM oM;obtain⟨b4,b4',b4''⟩:=US b 4 h2 oM;have w4:IntKind.i64.wrap (1+b.tmod 4)=1+b.tmod 4:=UD oM oM;simp only[Va,Vb]at c0 c1 c2 c3 c4;have c5:=(Je JBq).call trivial;have c6:=(Je [105,116,101,109,115,91,48,93,46,105,100]).call trivial;have c7:=(UI 0).call trivial;have c8:=(U1 23 (JP [105,116,101,109,115,91,48,93,46,105,100]) (Jt 0)).call trivial;have c9:=(Je [107,101,121]).call trivial;have cq10:=(UI (1+b.tmod 4)).call trivial;have cq11:=(U1 11 (JP JBq) (Jt (1+b.tmod 4))).call trivial;have cq12:=(JBG [⟨sId,UZ 23 (JP [105,116,101,109,115,91,48,93,46,105,100]) (Jt 0)⟩,⟨JCX,JP [107,101,121]⟩,⟨[116,111,116,97,108],.mk 26 0 ([105,116,101,109,115,91,42,93,46]++(msr now).drop 5) [] []⟩,⟨JBq,JP JBq⟩]).call trivial;obtain⟨ml,ml2⟩:=JQ8 now;obtain⟨m1,m2,m3⟩:=US a 3 h0 oM;have w5:IntKind.i64.wrap (a.tmod 3*50)=a.tmod 3*50:=UD oM oM;obtain⟨q1,q2⟩:=JJZ a 2 h0 h1 oM;have w6:IntKind.i64.wrap (a.tdiv 2)=a.tdiv 2:=UD oM oM;have hdr:List.take (((msr now).length:Int)-5).toNat (List.drop (Int.toNat 5) (msr now))=(msr now).drop 5:=by
  rw[show Int.toNat 5=5 from rfl];exact List.take_of_length_le sO
 simp only[JD,JP,Jt,UZ,JY,JZ,Jh,prs,List.flatMap_cons,List.flatMap_nil,List.cons_append,List.nil_append,List.append_nil,Va,Vb]at c0 c1 c2 c3 c4 c5 c6 c7 c8 c9 cq10 cq11 cq12;unfold UU;rw[hk];simp only[go_sem,YW,UL,JA,Va,Vb,JD,wa,wb,hk,w4,JL,JM,JB,Int.reduceBEq,Vu,Vt,Bool.false_and,Bool.and_true,Bool.and_false,JD,JP,Jt,UZ,JY,JZ,Jh,prs,List.flatMap_cons,List.flatMap_nil,List.cons_append,List.nil_append,List.append_nil,Va,Vb,JO2,JA,Vv,Vc,Nat.reduceAdd,Nat.reduceEqDiff,Nat.reduceBEq,Nat.reduceLeDiff,reduceCtorEq,↓reduceIte];refine wn c0 ?_;simp only[go_sem,JA,Va,Vb,JD,wa,wb,hk,w4,JL,JM,JB,Int.reduceBEq,Vu,Vt,Bool.false_and,Bool.and_true,Bool.and_false,Vv,Vc,Nat.reduceAdd,Nat.reduceEqDiff,Nat.reduceBEq,Nat.reduceLeDiff,reduceCtorEq,↓reduceIte];refine wn c0 ?_;simp only[go_sem,JA,Va,Vb,JD,wa,wb,hk,w4,JL,JM,JB,Int.reduceBEq,Vu,Vt,Bool.false_and,Bool.and_true,Bool.and_false,Vv,Vc,Nat.reduceAdd,Nat.reduceEqDiff,Nat.reduceBEq,Nat.reduceLeDiff,reduceCtorEq,↓reduceIte];refine⟨sP,?_⟩;refine wn c1 ?_;simp only[go_sem,JA,Va,Vb,JD,wa,wb,hk,w4,JL,JM,JB,Int.reduceBEq,Vu,Vt,Bool.false_and,Bool.and_true,Bool.and_false,Vv,Vc,Nat.reduceAdd,Nat.reduceEqDiff,Nat.reduceBEq,Nat.reduceLeDiff,reduceCtorEq,↓reduceIte];refine wn c2 ?_;simp only[go_sem,JA,Va,Vb,JD,wa,wb,hk,w4,JL,JM,JB,Int.reduceBEq,Vu,Vt,Bool.false_and,Bool.and_true,Bool.and_false,Vv,Vc,Nat.reduceAdd,Nat.reduceEqDiff,Nat.reduceBEq,Nat.reduceLeDiff,reduceCtorEq,↓reduceIte];refine⟨dC,?_⟩;refine wn c3 ?_;simp only[go_sem,JA,Va,Vb,JD,wa,wb,hk,w4,JL,JM,JB,Int.reduceBEq,Vu,Vt,Bool.false_and,Bool.and_true,Bool.and_false,Vv,Vc,Nat.reduceAdd,Nat.reduceEqDiff,Nat.reduceBEq,Nat.reduceLeDiff,reduceCtorEq,↓reduceIte];refine wn c4 ?_;simp only[go_sem,JA,Va,Vb,JD,wa,wb,hk,w4,JL,JM,JB,Int.reduceBEq,Vu,Vt,Bool.false_and,Bool.and_true,Bool.and_false,Int.reduceEq,or_true,or_false,true_or,false_or,not_false_eq_true,not_true_eq_false,ne_eq,true_and,JO2,JA,Va,Vb,Vv,Vc,Nat.reduceAdd,Nat.reduceEqDiff,Nat.reduceBEq,Nat.reduceLeDiff,reduceCtorEq,↓reduceIte];cases h4:a.tmod 2==0
 ·simp only[go_sem,h4,JA,Va,Vb,JD,wa,wb,hk,w4,JL,JM,JB,Int.reduceBEq,Vu,Vt,Bool.false_and,Bool.and_true,Bool.and_false,Vv,Vc,Nat.reduceAdd,Nat.reduceEqDiff,Nat.reduceBEq,Nat.reduceLeDiff,reduceCtorEq,↓reduceIte];refine wn c1 ?_;simp only[go_sem,JA,Va,Vb,JD,wa,wb,hk,w4,JL,JM,JB,Int.reduceBEq,Vu,Vt,Bool.false_and,Bool.and_true,Bool.and_false,Vv,Vc,Nat.reduceAdd,Nat.reduceEqDiff,Nat.reduceBEq,Nat.reduceLeDiff,reduceCtorEq,↓reduceIte];refine⟨⟨oM,oM,oM⟩,by rw[hdr];simp;omega,?_⟩;rw[hdr];refine wn c6 ?_;simp only[go_sem,JA,Va,Vb,JD,wa,wb,hk,w4,JL,JM,JB,Int.reduceBEq,Vu,Vt,Bool.false_and,Bool.and_true,Bool.and_false,List.cons_append,List.nil_append,Vv,Vc,Nat.reduceAdd,Nat.reduceEqDiff,Nat.reduceBEq,Nat.reduceLeDiff,reduceCtorEq,↓reduceIte];refine wn c7 ?_;simp only[go_sem,JA,Va,Vb,JD,wa,wb,hk,w4,JL,JM,JB,Int.reduceBEq,Vu,Vt,Bool.false_and,Bool.and_true,Bool.and_false,Vv,Vc,Nat.reduceAdd,Nat.reduceEqDiff,Nat.reduceBEq,Nat.reduceLeDiff,reduceCtorEq,↓reduceIte];refine wn c8 ?_;simp only[go_sem,JA,Va,Vb,JD,wa,wb,hk,w4,JL,JM,JB,Int.reduceBEq,Vu,Vt,Bool.false_and,Bool.and_true,Bool.and_false,Vv,Vc,Nat.reduceAdd,Nat.reduceEqDiff,Nat.reduceBEq,Nat.reduceLeDiff,reduceCtorEq,↓reduceIte];refine⟨dC,dC,dC,?_⟩;rw[w5,w6];refine JG rfl c9 trivial ?_;simp only[go_sem,JA,Va,Vb,JD,wa,wb,hk,w4,JL,JM,JB,Int.reduceBEq,Vu,Vt,Bool.false_and,Bool.and_true,Bool.and_false,Vv,Vc,Nat.reduceAdd,Nat.reduceEqDiff,Nat.reduceBEq,Nat.reduceLeDiff,reduceCtorEq,↓reduceIte];refine JG rfl c5 trivial ?_;simp only[go_sem,JA,Va,Vb,JD,wa,wb,hk,w4,JL,JM,JB,Int.reduceBEq,Vu,Vt,Bool.false_and,Bool.and_true,Bool.and_false,Vv,Vc,Nat.reduceAdd,Nat.reduceEqDiff,Nat.reduceBEq,Nat.reduceLeDiff,reduceCtorEq,↓reduceIte];refine⟨sP,?_⟩;refine JG rfl (JE4 cq12 (by simp only[Va,Vb,Av.canon,Dat.canon,JI])) trivial ?_;simp only[go_sem,JA,Va,Vb,JD,wa,wb,hk,w4,JL,JM,JB,Int.reduceBEq,Vu,Vt,Bool.false_and,Bool.and_true,Bool.and_false,Vv,Vc,Nat.reduceAdd,Nat.reduceEqDiff,Nat.reduceBEq,Nat.reduceLeDiff,reduceCtorEq,↓reduceIte];exact⟨rfl,rfl⟩
 ·simp only[go_sem,h4,JA,Va,Vb,JD,wa,wb,hk,w4,JL,JM,JB,Int.reduceBEq,Vu,Vt,Bool.false_and,Bool.and_true,Bool.and_false,Vv,Vc,Nat.reduceAdd,Nat.reduceEqDiff,Nat.reduceBEq,Nat.reduceLeDiff,reduceCtorEq,↓reduceIte];refine wn c5 ?_;simp only[go_sem,JA,Va,Vb,JD,wa,wb,hk,w4,JL,JM,JB,Int.reduceBEq,Vu,Vt,Bool.false_and,Bool.and_true,Bool.and_false,Vv,Vc,Nat.reduceAdd,Nat.reduceEqDiff,Nat.reduceBEq,Nat.reduceLeDiff,reduceCtorEq,↓reduceIte];refine⟨dC,?_⟩;refine wn cq10 ?_;simp only[go_sem,JA,Va,Vb,JD,wa,wb,hk,w4,JL,JM,JB,Int.reduceBEq,Vu,Vt,Bool.false_and,Bool.and_true,Bool.and_false,Vv,Vc,Nat.reduceAdd,Nat.reduceEqDiff,Nat.reduceBEq,Nat.reduceLeDiff,reduceCtorEq,↓reduceIte];refine wn cq11 ?_;simp only[go_sem,JA,Va,Vb,JD,wa,wb,hk,w4,JL,JM,JB,Int.reduceBEq,Vu,Vt,Bool.false_and,Bool.and_true,Bool.and_false,Vv,Vc,Nat.reduceAdd,Nat.reduceEqDiff,Nat.reduceBEq,Nat.reduceLeDiff,reduceCtorEq,↓reduceIte];refine⟨sP,?_⟩;refine wn c1 ?_;simp only[go_sem,JA,Va,Vb,JD,wa,wb,hk,w4,JL,JM,JB,Int.reduceBEq,Vu,Vt,Bool.false_and,Bool.and_true,Bool.and_false,Vv,Vc,Nat.reduceAdd,Nat.reduceEqDiff,Nat.reduceBEq,Nat.reduceLeDiff,reduceCtorEq,↓reduceIte];refine⟨⟨oM,oM,oM⟩,by rw[hdr];simp;omega,?_⟩;rw[hdr];refine wn c6 ?_;simp only[go_sem,JA,Va,Vb,JD,wa,wb,hk,w4,JL,JM,JB,Int.reduceBEq,Vu,Vt,Bool.false_and,Bool.and_true,Bool.and_false,List.cons_append,List.nil_append,Vv,Vc,Nat.reduceAdd,Nat.reduceEqDiff,Nat.reduceBEq,Nat.reduceLeDiff,reduceCtorEq,↓reduceIte];refine wn c7 ?_;simp only[go_sem,JA,Va,Vb,JD,wa,wb,hk,w4,JL,JM,JB,Int.reduceBEq,Vu,Vt,Bool.false_and,Bool.and_true,Bool.and_false,Vv,Vc,Nat.reduceAdd,Nat.reduceEqDiff,Nat.reduceBEq,Nat.reduceLeDiff,reduceCtorEq,↓reduceIte];refine wn c8 ?_;simp only[go_sem,JA,Va,Vb,JD,wa,wb,hk,w4,JL,JM,JB,Int.reduceBEq,Vu,Vt,Bool.false_and,Bool.and_true,Bool.and_false,Vv,Vc,Nat.reduceAdd,Nat.reduceEqDiff,Nat.reduceBEq,Nat.reduceLeDiff,reduceCtorEq,↓reduceIte];refine⟨dC,dC,dC,?_⟩;rw[w5,w6];refine JG rfl c9 trivial ?_;simp only[go_sem,JA,Va,Vb,JD,wa,wb,hk,w4,JL,JM,JB,Int.reduceBEq,Vu,Vt,Bool.false_and,Bool.and_true,Bool.and_false,Vv,Vc,Nat.reduceAdd,Nat.reduceEqDiff,Nat.reduceBEq,Nat.reduceLeDiff,reduceCtorEq,↓reduceIte];refine JG rfl c5 trivial ?_;simp only[go_sem,JA,Va,Vb,JD,wa,wb,hk,w4,JL,JM,JB,Int.reduceBEq,Vu,Vt,Bool.false_and,Bool.and_true,Bool.and_false,Vv,Vc,Nat.reduceAdd,Nat.reduceEqDiff,Nat.reduceBEq,Nat.reduceLeDiff,reduceCtorEq,↓reduceIte];refine⟨sP,?_⟩;refine JG rfl (JE4 cq12 (by simp only[Va,Vb,Av.canon,Dat.canon,JI])) trivial ?_;simp only[go_sem,JA,Va,Vb,JD,wa,wb,hk,w4,JL,JM,JB,Int.reduceBEq,Vu,Vt,Bool.false_and,Bool.and_true,Bool.and_false,Vv,Vc,Nat.reduceAdd,Nat.reduceEqDiff,Nat.reduceBEq,Nat.reduceLeDiff,reduceCtorEq,↓reduceIte];exact⟨rfl,rfl⟩
end Go.Proofs
namespace Go.Proofs
open Go Av
attribute [local instance 2000] JE3
theorem JO3(br:Ste)(k a b:Int)(now:Str)(deep:Bool)(h0:0≤a)(h1:a≤255)(h2:0≤b)(h3:b≤255)(e:a.tmod 4=0)(hk:k.tmod 13=9):
  PT 112 [UL k a b,.str now,.bool deep] (.tup [.d (JJ (UU br k a b now).1),.d (.str (UU br k a b now).2)]):=by
 refine Yj.pc ?_;have c0:=(Je Us).call trivial;have c1:=(Uw now).call trivial;have c2:=(Je (msr now)).call trivial;have c3:=(UI (a.tmod 110)).call trivial;have c4:=(U1 8 (JP (msr now)) (Jt (a.tmod 110))).call trivial;have wa:IntKind.i64.wrap a=a:=UD oM oM;have wb:IntKind.i64.wrap b=b:=UD oM oM;obtain⟨b4,b4',b4''⟩:=US b 4 h2 oM;have w4:IntKind.i64.wrap (1+b.tmod 4)=1+b.tmod 4:=UD oM oM;simp only[Va,Vb]at c0 c1 c2 c3 c4;obtain⟨m1,m2,m3⟩:=US b 3 h2 oM;have w5:IntKind.i64.wrap (b.tmod 3*60)=b.tmod 3*60:=UD oM oM;have c5:=(JCZ now [[112,97,121]]).call trivial;have c6:=(UI ((1:Nat):Int)).call trivial;have c7:=(Zc now (Jt ((1:Nat):Int))).call trivial;simp only[JD,JP,Jt,UZ,JY,JZ,Jh,prs,List.flatMap_cons,List.flatMap_nil,List.cons_append,List.nil_append,List.append_nil,Va,Vb]at c0 c1 c2 c3 c4 c5 c6 c7;unfold UU;rw[hk];simp only[go_sem,YW,UL,JA,Va,Vb,JD,wa,wb,hk,w4,JL,JM,JB,Int.reduceBEq,Vu,Vt,Bool.false_and,Bool.and_true,Bool.and_false,JD,JP,Jt,UZ,JY,JZ,Jh,prs,List.flatMap_cons,List.flatMap_nil,List.cons_append,List.nil_append,List.append_nil,Va,Vb,JGr,sgL,e,JA,Vv,Vc,Nat.reduceAdd,Nat.reduceEqDiff,Nat.reduceBEq,Nat.reduceLeDiff,reduceCtorEq,↓reduceIte];refine wn c0 ?_;simp only[go_sem,JA,Va,Vb,JD,wa,wb,hk,w4,JL,JM,JB,Int.reduceBEq,Vu,Vt,Bool.false_and,Bool.and_true,Bool.and_false,Vv,Vc,Nat.reduceAdd,Nat.reduceEqDiff,Nat.reduceBEq,Nat.reduceLeDiff,reduceCtorEq,↓reduceIte];refine wn c0 ?_;simp only[go_sem,JA,Va,Vb,JD,wa,wb,hk,w4,JL,JM,JB,Int.reduceBEq,Vu,Vt,Bool.false_and,Bool.and_true,Bool.and_false,Vv,Vc,Nat.reduceAdd,Nat.reduceEqDiff,Nat.reduceBEq,Nat.reduceLeDiff,reduceCtorEq,↓reduceIte];refine⟨sP,?_⟩;refine wn c1 ?_;simp only[go_sem,JA,Va,Vb,JD,wa,wb,hk,w4,JL,JM,JB,Int.reduceBEq,Vu,Vt,Bool.false_and,Bool.and_true,Bool.and_false,Vv,Vc,Nat.reduceAdd,Nat.reduceEqDiff,Nat.reduceBEq,Nat.reduceLeDiff,reduceCtorEq,↓reduceIte];refine wn c2 ?_;simp only[go_sem,JA,Va,Vb,JD,wa,wb,hk,w4,JL,JM,JB,Int.reduceBEq,Vu,Vt,Bool.false_and,Bool.and_true,Bool.and_false,Vv,Vc,Nat.reduceAdd,Nat.reduceEqDiff,Nat.reduceBEq,Nat.reduceLeDiff,reduceCtorEq,↓reduceIte];refine⟨dC,?_⟩;refine wn c3 ?_;simp only[go_sem,JA,Va,Vb,JD,wa,wb,hk,w4,JL,JM,JB,Int.reduceBEq,Vu,Vt,Bool.false_and,Bool.and_true,Bool.and_false,Vv,Vc,Nat.reduceAdd,Nat.reduceEqDiff,Nat.reduceBEq,Nat.reduceLeDiff,reduceCtorEq,↓reduceIte];refine wn c4 ?_;simp only[go_sem,JA,Va,Vb,JD,wa,wb,hk,w4,JL,JM,JB,Int.reduceBEq,Vu,Vt,Bool.false_and,Bool.and_true,Bool.and_false,Int.reduceEq,or_true,or_false,true_or,false_or,not_false_eq_true,not_true_eq_false,ne_eq,true_and,JGr,sgL,e,JA,Va,Vb,Vv,Vc,Nat.reduceAdd,Nat.reduceEqDiff,Nat.reduceBEq,Nat.reduceLeDiff,reduceCtorEq,↓reduceIte];refine⟨sP,sP,sP,sP,sP,dC,dC,?_⟩;have hnn:nth [.list 1 [.str [112,97,121]],.list 1 [.str [112,97,121],.str [115,116,111,99,107]],.list 1 [.str [115,116,111,99,107],.str [109,97,105,108]],.list 1 [.str [115,116,111,99,107],.str [112,97,121],.str [109,97,105,108]]] (Int.toNat 0)=.list 1 [.str [112,97,121]]:=rfl;rw[hnn];simp only[go_sem,JA,Va,Vb,JD,wa,wb,hk,w4,JL,JM,JB,Int.reduceBEq,Vu,Vt,Bool.false_and,Bool.and_true,Bool.and_false,Vv,Vc,Nat.reduceAdd,Nat.reduceEqDiff,Nat.reduceBEq,Nat.reduceLeDiff,reduceCtorEq,↓reduceIte];refine wn c5 ?_;simp only[go_sem,JA,Va,Vb,JD,wa,wb,hk,w4,JL,JM,JB,Int.reduceBEq,Vu,Vt,Bool.false_and,Bool.and_true,Bool.and_false,Vv,Vc,Nat.reduceAdd,Nat.reduceEqDiff,Nat.reduceBEq,Nat.reduceLeDiff,reduceCtorEq,↓reduceIte];refine⟨dC,?_⟩;rw[w5];refine wn c6 ?_;simp only[go_sem,JA,Va,Vb,JD,wa,wb,hk,w4,JL,JM,JB,Int.reduceBEq,Vu,Vt,Bool.false_and,Bool.and_true,Bool.and_false,Vv,Vc,Nat.reduceAdd,Nat.reduceEqDiff,Nat.reduceBEq,Nat.reduceLeDiff,reduceCtorEq,↓reduceIte];refine wn c7 ?_;simp only[go_sem,JA,Va,Vb,JD,wa,wb,hk,w4,JL,JM,JB,Int.reduceBEq,Vu,Vt,Bool.false_and,Bool.and_true,Bool.and_false,Vv,Vc,Nat.reduceAdd,Nat.reduceEqDiff,Nat.reduceBEq,Nat.reduceLeDiff,reduceCtorEq,↓reduceIte]
theorem JO4(br:Ste)(k a b:Int)(now:Str)(deep:Bool)(h0:0≤a)(h1:a≤255)(h2:0≤b)(h3:b≤255)(e:a.tmod 4=1)(hk:k.tmod 13=9):
  PT 112 [UL k a b,.str now,.bool deep] (.tup [.d (JJ (UU br k a b now).1),.d (.str (UU br k a b now).2)]):=by
 refine Yj.pc ?_;have c0:=(Je Us).call trivial;have c1:=(Uw now).call trivial;have c2:=(Je (msr now)).call trivial;have c3:=(UI (a.tmod 110)).call trivial;have c4:=(U1 8 (JP (msr now)) (Jt (a.tmod 110))).call trivial;have wa:IntKind.i64.wrap a=a:=UD oM oM;have wb:IntKind.i64.wrap b=b:=UD oM oM;obtain⟨b4,b4',b4''⟩:=US b 4 h2 oM;have w4:IntKind.i64.wrap (1+b.tmod 4)=1+b.tmod 4:=UD oM oM;simp only[Va,Vb]at c0 c1 c2 c3 c4;obtain⟨m1,m2,m3⟩:=US b 3 h2 oM;have w5:IntKind.i64.wrap (b.tmod 3*60)=b.tmod 3*60:=UD oM oM;have c5:=(JCZ now [[112,97,121],[115,116,111,99,107]]).call trivial;have c6:=(UI ((2:Nat):Int)).call trivial;have c7:=(Zc now (Jt ((2:Nat):Int))).call trivial;simp only[JD,JP,Jt,UZ,JY,JZ,Jh,prs,List.flatMap_cons,List.flatMap_nil,List.cons_append,List.nil_append,List.append_nil,Va,Vb]at c0 c1 c2 c3 c4 c5 c6 c7;unfold UU;rw[hk];simp only[go_sem,YW,UL,JA,Va,Vb,JD,wa,wb,hk,w4,JL,JM,JB,Int.reduceBEq,Vu,Vt,Bool.false_and,Bool.and_true,Bool.and_false,JD,JP,Jt,UZ,JY,JZ,Jh,prs,List.flatMap_cons,List.flatMap_nil,List.cons_append,List.nil_append,List.append_nil,Va,Vb,JGr,sgL,e,JA,Vv,Vc,Nat.reduceAdd,Nat.reduceEqDiff,Nat.reduceBEq,Nat.reduceLeDiff,reduceCtorEq,↓reduceIte];refine wn c0 ?_;simp only[go_sem,JA,Va,Vb,JD,wa,wb,hk,w4,JL,JM,JB,Int.reduceBEq,Vu,Vt,Bool.false_and,Bool.and_true,Bool.and_false,Vv,Vc,Nat.reduceAdd,Nat.reduceEqDiff,Nat.reduceBEq,Nat.reduceLeDiff,reduceCtorEq,↓reduceIte];refine wn c0 ?_;simp only[go_sem,JA,Va,Vb,JD,wa,wb,hk,w4,JL,JM,JB,Int.reduceBEq,Vu,Vt,Bool.false_and,Bool.and_true,Bool.and_false,Vv,Vc,Nat.reduceAdd,Nat.reduceEqDiff,Nat.reduceBEq,Nat.reduceLeDiff,reduceCtorEq,↓reduceIte];refine⟨sP,?_⟩;refine wn c1 ?_;simp only[go_sem,JA,Va,Vb,JD,wa,wb,hk,w4,JL,JM,JB,Int.reduceBEq,Vu,Vt,Bool.false_and,Bool.and_true,Bool.and_false,Vv,Vc,Nat.reduceAdd,Nat.reduceEqDiff,Nat.reduceBEq,Nat.reduceLeDiff,reduceCtorEq,↓reduceIte];refine wn c2 ?_;simp only[go_sem,JA,Va,Vb,JD,wa,wb,hk,w4,JL,JM,JB,Int.reduceBEq,Vu,Vt,Bool.false_and,Bool.and_true,Bool.and_false,Vv,Vc,Nat.reduceAdd,Nat.reduceEqDiff,Nat.reduceBEq,Nat.reduceLeDiff,reduceCtorEq,↓reduceIte];refine⟨dC,?_⟩;refine wn c3 ?_;simp only[go_sem,JA,Va,Vb,JD,wa,wb,hk,w4,JL,JM,JB,Int.reduceBEq,Vu,Vt,Bool.false_and,Bool.and_true,Bool.and_false,Vv,Vc,Nat.reduceAdd,Nat.reduceEqDiff,Nat.reduceBEq,Nat.reduceLeDiff,reduceCtorEq,↓reduceIte];refine wn c4 ?_;simp only[go_sem,JA,Va,Vb,JD,wa,wb,hk,w4,JL,JM,JB,Int.reduceBEq,Vu,Vt,Bool.false_and,Bool.and_true,Bool.and_false,Int.reduceEq,or_true,or_false,true_or,false_or,not_false_eq_true,not_true_eq_false,ne_eq,true_and,JGr,sgL,e,JA,Va,Vb,Vv,Vc,Nat.reduceAdd,Nat.reduceEqDiff,Nat.reduceBEq,Nat.reduceLeDiff,reduceCtorEq,↓reduceIte];refine⟨sP,sP,sP,sP,sP,dC,dC,?_⟩;have hnn:nth [.list 1 [.str [112,97,121]],.list 1 [.str [112,97,121],.str [115,116,111,99,107]],.list 1 [.str [115,116,111,99,107],.str [109,97,105,108]],.list 1 [.str [115,116,111,99,107],.str [112,97,121],.str [109,97,105,108]]] (Int.toNat 1)=.list 1 [.str [112,97,121],.str [115,116,111,99,107]]:=rfl;rw[hnn];simp only[go_sem,JA,Va,Vb,JD,wa,wb,hk,w4,JL,JM,JB,Int.reduceBEq,Vu,Vt,Bool.false_and,Bool.and_true,Bool.and_false,Vv,Vc,Nat.reduceAdd,Nat.reduceEqDiff,Nat.reduceBEq,Nat.reduceLeDiff,reduceCtorEq,↓reduceIte];refine wn c5 ?_;simp only[go_sem,JA,Va,Vb,JD,wa,wb,hk,w4,JL,JM,JB,Int.reduceBEq,Vu,Vt,Bool.false_and,Bool.and_true,Bool.and_false,Vv,Vc,Nat.reduceAdd,Nat.reduceEqDiff,Nat.reduceBEq,Nat.reduceLeDiff,reduceCtorEq,↓reduceIte];refine⟨dC,?_⟩;rw[w5];refine wn c6 ?_;simp only[go_sem,JA,Va,Vb,JD,wa,wb,hk,w4,JL,JM,JB,Int.reduceBEq,Vu,Vt,Bool.false_and,Bool.and_true,Bool.and_false,Vv,Vc,Nat.reduceAdd,Nat.reduceEqDiff,Nat.reduceBEq,Nat.reduceLeDiff,reduceCtorEq,↓reduceIte];refine wn c7 ?_;simp only[go_sem,JA,Va,Vb,JD,wa,wb,hk,w4,JL,JM,JB,Int.reduceBEq,Vu,Vt,Bool.false_and,Bool.and_true,Bool.and_false,Vv,Vc,Nat.reduceAdd,Nat.reduceEqDiff,Nat.reduceBEq,Nat.reduceLeDiff,reduceCtorEq,↓reduceIte]
theorem JO5(br:Ste)(k a b:Int)(now:Str)(deep:Bool)(h0:0≤a)(h1:a≤255)(h2:0≤b)(h3:b≤255)(e:a.tmod 4=2)(hk:k.tmod 13=9):
  PT 112 [UL k a b,.str now,.bool deep] (.tup [.d (JJ (UU br k a b now).1),.d (.str (UU br k a b now).2)]):=by
 refine Yj.pc ?_;have c0:=(Je Us).call trivial;have c1:=(Uw now).call trivial;have c2:=(Je (msr now)).call trivial;have c3:=(UI (a.tmod 110)).call trivial;have c4:=(U1 8 (JP (msr now)) (Jt (a.tmod 110))).call trivial;have wa:IntKind.i64.wrap a=a:=UD oM oM;have wb:IntKind.i64.wrap b=b:=UD oM oM;obtain⟨b4,b4',b4''⟩:=US b 4 h2 oM;have w4:IntKind.i64.wrap (1+b.tmod 4)=1+b.tmod 4:=UD oM oM;simp only[Va,Vb]at c0 c1 c2 c3 c4;obtain⟨m1,m2,m3⟩:=US b 3 h2 oM;have w5:IntKind.i64.wrap (b.tmod 3*60)=b.tmod 3*60:=UD oM oM;have c5:=(JCZ now [[115,116,111,99,107],[109,97,105,108]]).call trivial;have c6:=(UI ((2:Nat):Int)).call trivial;have c7:=(Zc now (Jt ((2:Nat):Int))).call trivial;simp only[JD,JP,Jt,UZ,JY,JZ,Jh,prs,List.flatMap_cons,List.flatMap_nil,List.cons_append,List.nil_append,List.append_nil,Va,Vb]at c0 c1 c2 c3 c4 c5 c6 c7;unfold UU;rw[hk];simp only[go_sem,YW,UL,JA,Va,Vb,JD,wa,wb,hk,w4,JL,JM,JB,Int.reduceBEq,Vu,Vt,Bool.false_and,Bool.and_true,Bool.and_false,JD,JP,Jt,UZ,JY,JZ,Jh,prs,List.flatMap_cons,List.flatMap_nil,List.cons_append,List.nil_append,List.append_nil,Va,Vb,JGr,sgL,e,JA,Vv,Vc,Nat.reduceAdd,Nat.reduceEqDiff,Nat.reduceBEq,Nat.reduceLeDiff,reduceCtorEq,↓reduceIte];refine wn c0 ?_;simp only[go_sem,JA,Va,Vb,JD,wa,wb,hk,w4,JL,JM,JB,Int.reduceBEq,Vu,Vt,Bool.false_and,Bool.and_true,Bool.and_false,Vv,Vc,Nat.reduceAdd,Nat.reduceEqDiff,Nat.reduceBEq,Nat.reduceLeDiff,reduceCtorEq,↓reduceIte];refine wn c0 ?_;simp only[go_sem,JA,Va,Vb,JD,wa,wb,hk,w4,JL,JM,JB,Int.reduceBEq,Vu,Vt,Bool.false_and,Bool.and_true,Bool.and_false,Vv,Vc,Nat.reduceAdd,Nat.reduceEqDiff,Nat.reduceBEq,Nat.reduceLeDiff,reduceCtorEq,↓reduceIte];refine⟨sP,?_⟩;refine wn c1 ?_;simp only[go_sem,JA,Va,Vb,JD,wa,wb,hk,w4,JL,JM,JB,Int.reduceBEq,Vu,Vt,Bool.false_and,Bool.and_true,Bool.and_false,Vv,Vc,Nat.reduceAdd,Nat.reduceEqDiff,Nat.reduceBEq,Nat.reduceLeDiff,reduceCtorEq,↓reduceIte];refine wn c2 ?_;simp only[go_sem,JA,Va,Vb,JD,wa,wb,hk,w4,JL,JM,JB,Int.reduceBEq,Vu,Vt,Bool.false_and,Bool.and_true,Bool.and_false,Vv,Vc,Nat.reduceAdd,Nat.reduceEqDiff,Nat.reduceBEq,Nat.reduceLeDiff,reduceCtorEq,↓reduceIte];refine⟨dC,?_⟩;refine wn c3 ?_;simp only[go_sem,JA,Va,Vb,JD,wa,wb,hk,w4,JL,JM,JB,Int.reduceBEq,Vu,Vt,Bool.false_and,Bool.and_true,Bool.and_false,Vv,Vc,Nat.reduceAdd,Nat.reduceEqDiff,Nat.reduceBEq,Nat.reduceLeDiff,reduceCtorEq,↓reduceIte];refine wn c4 ?_;simp only[go_sem,JA,Va,Vb,JD,wa,wb,hk,w4,JL,JM,JB,Int.reduceBEq,Vu,Vt,Bool.false_and,Bool.and_true,Bool.and_false,Int.reduceEq,or_true,or_false,true_or,false_or,not_false_eq_true,not_true_eq_false,ne_eq,true_and,JGr,sgL,e,JA,Va,Vb,Vv,Vc,Nat.reduceAdd,Nat.reduceEqDiff,Nat.reduceBEq,Nat.reduceLeDiff,reduceCtorEq,↓reduceIte];refine⟨sP,sP,sP,sP,sP,dC,dC,?_⟩;have hnn:nth [.list 1 [.str [112,97,121]],.list 1 [.str [112,97,121],.str [115,116,111,99,107]],.list 1 [.str [115,116,111,99,107],.str [109,97,105,108]],.list 1 [.str [115,116,111,99,107],.str [112,97,121],.str [109,97,105,108]]] (Int.toNat 2)=.list 1 [.str [115,116,111,99,107],.str [109,97,105,108]]:=rfl;rw[hnn];simp only[go_sem,JA,Va,Vb,JD,wa,wb,hk,w4,JL,JM,JB,Int.reduceBEq,Vu,Vt,Bool.false_and,Bool.and_true,Bool.and_false,Vv,Vc,Nat.reduceAdd,Nat.reduceEqDiff,Nat.reduceBEq,Nat.reduceLeDiff,reduceCtorEq,↓reduceIte];refine wn c5 ?_;simp only[go_sem,JA,Va,Vb,JD,wa,wb,hk,w4,JL,JM,JB,Int.reduceBEq,Vu,Vt,Bool.false_and,Bool.and_true,Bool.and_false,Vv,Vc,Nat.reduceAdd,Nat.reduceEqDiff,Nat.reduceBEq,Nat.reduceLeDiff,reduceCtorEq,↓reduceIte];refine⟨dC,?_⟩;rw[w5];refine wn c6 ?_;simp only[go_sem,JA,Va,Vb,JD,wa,wb,hk,w4,JL,JM,JB,Int.reduceBEq,Vu,Vt,Bool.false_and,Bool.and_true,Bool.and_false,Vv,Vc,Nat.reduceAdd,Nat.reduceEqDiff,Nat.reduceBEq,Nat.reduceLeDiff,reduceCtorEq,↓reduceIte];refine wn c7 ?_;simp only[go_sem,JA,Va,Vb,JD,wa,wb,hk,w4,JL,JM,JB,Int.reduceBEq,Vu,Vt,Bool.false_and,Bool.and_true,Bool.and_false,Vv,Vc,Nat.reduceAdd,Nat.reduceEqDiff,Nat.reduceBEq,Nat.reduceLeDiff,reduceCtorEq,↓reduceIte]
theorem JO6(br:Ste)(k a b:Int)(now:Str)(deep:Bool)(h0:0≤a)(h1:a≤255)(h2:0≤b)(h3:b≤255)(e:a.tmod 4=3)(hk:k.tmod 13=9):
  PT 112 [UL k a b,.str now,.bool deep] (.tup [.d (JJ (UU br k a b now).1),.d (.str (UU br k a b now).2)]):=by
 refine Yj.pc ?_;have c0:=(Je Us).call trivial;have c1:=(Uw now).call trivial;have c2:=(Je (msr now)).call trivial;have c3:=(UI (a.tmod 110)).call trivial;have c4:=(U1 8 (JP (msr now)) (Jt (a.tmod 110))).call trivial;have wa:IntKind.i64.wrap a=a:=UD oM oM;have wb:IntKind.i64.wrap b=b:=UD oM oM;obtain⟨b4,b4',b4''⟩:=US b 4 h2 oM;have w4:IntKind.i64.wrap (1+b.tmod 4)=1+b.tmod 4:=UD oM oM;simp only[Va,Vb]at c0 c1 c2 c3 c4;obtain⟨m1,m2,m3⟩:=US b 3 h2 oM;have w5:IntKind.i64.wrap (b.tmod 3*60)=b.tmod 3*60:=UD oM oM;have c5:=(JCZ now [[115,116,111,99,107],[112,97,121],[109,97,105,108]]).call trivial;have c6:=(UI ((3:Nat):Int)).call trivial;have c7:=(Zc now (Jt ((3:Nat):Int))).call trivial;simp only[JD,JP,Jt,UZ,JY,JZ,Jh,prs,List.flatMap_cons,List.flatMap_nil,List.cons_append,List.nil_append,List.append_nil,Va,Vb]at c0 c1 c2 c3 c4 c5 c6 c7;unfold UU;rw[hk];simp only[go_sem,YW,UL,JA,Va,Vb,JD,wa,wb,hk,w4,JL,JM,JB,Int.reduceBEq,Vu,Vt,Bool.false_and,Bool.and_true,Bool.and_false,JD,JP,Jt,UZ,JY,JZ,Jh,prs,List.flatMap_cons,List.flatMap_nil,List.cons_append,List.nil_append,List.append_nil,Va,Vb,JGr,sgL,e,JA,Vv,Vc,Nat.reduceAdd,Nat.reduceEqDiff,Nat.reduceBEq,Nat.reduceLeDiff,reduceCtorEq,↓reduceIte];refine wn c0 ?_;simp only[go_sem,JA,Va,Vb,JD,wa,wb,hk,w4,JL,JM,JB,Int.reduceBEq,Vu,Vt,Bool.false_and,Bool.and_true,Bool.and_false,Vv,Vc,Nat.reduceAdd,Nat.reduceEqDiff,Nat.reduceBEq,Nat.reduceLeDiff,reduceCtorEq,↓reduceIte];refine wn c0 ?_;simp only[go_sem,JA,Va,Vb,JD,wa,wb,hk,w4,JL,JM,JB,Int.reduceBEq,Vu,Vt,Bool.false_and,Bool.and_true,Bool.and_false,Vv,Vc,Nat.reduceAdd,Nat.reduceEqDiff,Nat.reduceBEq,Nat.reduceLeDiff,reduceCtorEq,↓reduceIte];refine⟨sP,?_⟩;refine wn c1 ?_;simp only[go_sem,JA,Va,Vb,JD,wa,wb,hk,w4,JL,JM,JB,Int.reduceBEq,Vu,Vt,Bool.false_and,Bool.and_true,Bool.and_false,Vv,Vc,Nat.reduceAdd,Nat.reduceEqDiff,Nat.reduceBEq,Nat.reduceLeDiff,reduceCtorEq,↓reduceIte];refine wn c2 ?_;simp only[go_sem,JA,Va,Vb,JD,wa,wb,hk,w4,JL,JM,JB,Int.reduceBEq,Vu,Vt,Bool.false_and,Bool.and_true,Bool.and_false,Vv,Vc,Nat.reduceAdd,Nat.reduceEqDiff,Nat.reduceBEq,Nat.reduceLeDiff,reduceCtorEq,↓reduceIte];refine⟨dC,?_⟩;refine wn c3 ?_;simp only[go_sem,JA,Va,Vb,JD,wa,wb,hk,w4,JL,JM,JB,Int.reduceBEq,Vu,Vt,Bool.false_and,Bool.and_true,Bool.and_false,Vv,Vc,Nat.reduceAdd,Nat.reduceEqDiff,Nat.reduceBEq,Nat.reduceLeDiff,reduceCtorEq,↓reduceIte];refine wn c4 ?_;simp only[go_sem,JA,Va,Vb,JD,wa,wb,hk,w4,JL,JM,JB,Int.reduceBEq,Vu,Vt,Bool.false_and,Bool.and_true,Bool.and_false,Int.reduceEq,or_true,or_false,true_or,false_or,not_false_eq_true,not_true_eq_false,ne_eq,true_and,JGr,sgL,e,JA,Va,Vb,Vv,Vc,Nat.reduceAdd,Nat.reduceEqDiff,Nat.reduceBEq,Nat.reduceLeDiff,reduceCtorEq,↓reduceIte];refine⟨sP,sP,sP,sP,sP,dC,dC,?_⟩;have hnn:nth [.list 1 [.str [112,97,121]],.list 1 [.str [112,97,121],.str [115,116,111,99,107]],.list 1 [.str [115,116,111,99,107],.str [109,97,105,108]],.list 1 [.str [115,116,111,99,107],.str [112,97,121],.str [109,97,105,108]]] (Int.toNat 3)=.list 1 [.str [115,116,111,99,107],.str [112,97,121],.str [109,97,105,108]]:=rfl;rw[hnn];simp only[go_sem,JA,Va,Vb,JD,wa,wb,hk,w4,JL,JM,JB,Int.reduceBEq,Vu,Vt,Bool.false_and,Bool.and_true,Bool.and_false,Vv,Vc,Nat.reduceAdd,Nat.reduceEqDiff,Nat.reduceBEq,Nat.reduceLeDiff,reduceCtorEq,↓reduceIte];refine wn c5 ?_;simp only[go_sem,JA,Va,Vb,JD,wa,wb,hk,w4,JL,JM,JB,Int.reduceBEq,Vu,Vt,Bool.false_and,Bool.and_true,Bool.and_false,Vv,Vc,Nat.reduceAdd,Nat.reduceEqDiff,Nat.reduceBEq,Nat.reduceLeDiff,reduceCtorEq,↓reduceIte];refine⟨dC,?_⟩;rw[w5];refine wn c6 ?_;simp only[go_sem,JA,Va,Vb,JD,wa,wb,hk,w4,JL,JM,JB,Int.reduceBEq,Vu,Vt,Bool.false_and,Bool.and_true,Bool.and_false,Vv,Vc,Nat.reduceAdd,Nat.reduceEqDiff,Nat.reduceBEq,Nat.reduceLeDiff,reduceCtorEq,↓reduceIte];refine wn c7 ?_;simp only[go_sem,JA,Va,Vb,JD,wa,wb,hk,w4,JL,JM,JB,Int.reduceBEq,Vu,Vt,Bool.false_and,Bool.and_true,Bool.and_false,Vv,Vc,Nat.reduceAdd,Nat.reduceEqDiff,Nat.reduceBEq,Nat.reduceLeDiff,reduceCtorEq,↓reduceIte]
end Go.Proofs
namespace Go.Proofs
open Go Av
attribute [local instance 2000] JE3
theorem JRA:JDm 12:=by
 intro br k a b now deep h0 h1 h2 h3 hk hbr;refine Yj.pc ?_;have c0:=(Je Us).call trivial;have c1:=(Uw now).call trivial;have c2:=(Je (msr now)).call trivial;have c3:=(UI (a.tmod 110)).call trivial;have c4:=(U1 8 (JP (msr now)) (Jt (a.tmod 110))).call trivial;have wa:IntKind.i64.wrap a=a:=UD oM oM;have wb:IntKind.i64.wrap b=b:=UD oM oM;obtain⟨b4,b4',b4''⟩:=US b 4 h2 oM;have w4:IntKind.i64.wrap (1+b.tmod 4)=1+b.tmod 4:=UD oM oM;simp only[Va,Vb]at c0 c1 c2 c3 c4;have c5:=(Je JBM).call trivial;have c6:=(Je [98,111,100,121,46,97,109,111,117,110,116]).call trivial;have c7:=(UI (b.tmod 4)).call trivial;have c8:=(U1 12 (JP [98,111,100,121,46,97,109,111,117,110,116]) (Jt (b.tmod 4))).call trivial;have c9:=(Je [98,111,100,121,46,105,116,101,109,115]).call trivial;have cq10:=(UI (b.tmod 200)).call trivial;have cq11:=(Zc now (Jt (b.tmod 200))).call trivial;have cq12:=(JBG [⟨sId,JP JBM⟩,⟨[97,109,111,117,110,116],UZ 12 (JP [98,111,100,121,46,97,109,111,117,110,116]) (Jt (b.tmod 4))⟩,⟨JCX,JFR⟩,⟨[105,116,101,109,115],JP [98,111,100,121,46,105,116,101,109,115]⟩]).call trivial;simp only[JD,JP,Jt,UZ,JY,JZ,Jh,prs,List.flatMap_cons,List.flatMap_nil,List.cons_append,List.nil_append,List.append_nil,Va,Vb]at c0 c1 c2 c3 c4 c5 c6 c7 c8 c9 cq10 cq11 cq12;unfold UU;rw[hk];simp only[go_sem,YW,UL,JA,Va,Vb,JD,wa,wb,hk,w4,JL,JM,JB,Int.reduceBEq,Vu,Vt,Bool.false_and,Bool.and_true,Bool.and_false,JD,JP,Jt,UZ,JY,JZ,Jh,prs,List.flatMap_cons,List.flatMap_nil,List.cons_append,List.nil_append,List.append_nil,Va,Vb,JO0,JO1,JA,Vv,Vc,Nat.reduceAdd,Nat.reduceEqDiff,Nat.reduceBEq,Nat.reduceLeDiff,reduceCtorEq,↓reduceIte];refine wn c0 ?_;simp only[go_sem,JA,Va,Vb,JD,wa,wb,hk,w4,JL,JM,JB,Int.reduceBEq,Vu,Vt,Bool.false_and,Bool.and_true,Bool.and_false,Vv,Vc,Nat.reduceAdd,Nat.reduceEqDiff,Nat.reduceBEq,Nat.reduceLeDiff,reduceCtorEq,↓reduceIte];refine wn c0 ?_;simp only[go_sem,JA,Va,Vb,JD,wa,wb,hk,w4,JL,JM,JB,Int.reduceBEq,Vu,Vt,Bool.false_and,Bool.and_true,Bool.and_false,Vv,Vc,Nat.reduceAdd,Nat.reduceEqDiff,Nat.reduceBEq,Nat.reduceLeDiff,reduceCtorEq,↓reduceIte];refine⟨sP,?_⟩;refine wn c1 ?_;simp only[go_sem,JA,Va,Vb,JD,wa,wb,hk,w4,JL,JM,JB,Int.reduceBEq,Vu,Vt,Bool.false_and,Bool.and_true,Bool.and_false,Vv,Vc,Nat.reduceAdd,Nat.reduceEqDiff,Nat.reduceBEq,Nat.reduceLeDiff,reduceCtorEq,↓reduceIte];refine wn c2 ?_;simp only[go_sem,JA,Va,Vb,JD,wa,wb,hk,w4,JL,JM,JB,Int.reduceBEq,Vu,Vt,Bool.false_and,Bool.and_true,Bool.and_false,Vv,Vc,Nat.reduceAdd,Nat.reduceEqDiff,Nat.reduceBEq,Nat.reduceLeDiff,reduceCtorEq,↓reduceIte];refine⟨dC,?_⟩;refine wn c3 ?_;simp only[go_sem,JA,Va,Vb,JD,wa,wb,hk,w4,JL,JM,JB,Int.reduceBEq,Vu,Vt,Bool.false_and,Bool.and_true,Bool.and_false,Vv,Vc,Nat.reduceAdd,Nat.reduceEqDiff,Nat.reduceBEq,Nat.reduceLeDiff,reduceCtorEq,↓reduceIte];refine wn c4 ?_;simp only[go_sem,JA,Va,Vb,JD,wa,wb,hk,w4,JL,JM,JB,Int.reduceBEq,Vu,Vt,Bool.false_and,Bool.and_true,Bool.and_false,Int.reduceEq,or_true,or_false,true_or,false_or,not_false_eq_true,not_true_eq_false,ne_eq,true_and,JO0,JO1,JA,Va,Vb,Vv,Vc,Nat.reduceAdd,Nat.reduceEqDiff,Nat.reduceBEq,Nat.reduceLeDiff,reduceCtorEq,↓reduceIte];refine sq (a.tmod 2==0) ?_ ?_
 ·simp only[go_sem,Vv,Vc,Nat.reduceAdd,Nat.reduceEqDiff,Nat.reduceBEq,Nat.reduceLeDiff,reduceCtorEq,↓reduceIte];intro h;cases h
 ·cases h4:(now==ZK&&a.tmod 2==0)
  ·simp only[go_sem,h4,JA,Va,Vb,JD,wa,wb,hk,w4,JL,JM,JB,Int.reduceBEq,Vu,Vt,Bool.false_and,Bool.and_true,Bool.and_false,Vv,Vc,Nat.reduceAdd,Nat.reduceEqDiff,Nat.reduceBEq,Nat.reduceLeDiff,reduceCtorEq,↓reduceIte];refine⟨dC,?_⟩;refine wn cq10 ?_;simp only[go_sem,JA,Va,Vb,JD,wa,wb,hk,w4,JL,JM,JB,Int.reduceBEq,Vu,Vt,Bool.false_and,Bool.and_true,Bool.and_false,Vv,Vc,Nat.reduceAdd,Nat.reduceEqDiff,Nat.reduceBEq,Nat.reduceLeDiff,reduceCtorEq,↓reduceIte];refine wn cq11 ?_;simp only[go_sem,JA,Va,Vb,JD,wa,wb,hk,w4,JL,JM,JB,Int.reduceBEq,Vu,Vt,Bool.false_and,Bool.and_true,Bool.and_false,Vv,Vc,Nat.reduceAdd,Nat.reduceEqDiff,Nat.reduceBEq,Nat.reduceLeDiff,reduceCtorEq,↓reduceIte]
  ·simp only[go_sem,h4,JA,Va,Vb,JD,wa,wb,hk,w4,JL,JM,JB,Int.reduceBEq,Vu,Vt,Bool.false_and,Bool.and_true,Bool.and_false,Vv,Vc,Nat.reduceAdd,Nat.reduceEqDiff,Nat.reduceBEq,Nat.reduceLeDiff,reduceCtorEq,↓reduceIte];refine JG rfl c5 trivial ?_;simp only[go_sem,JA,Va,Vb,JD,wa,wb,hk,w4,JL,JM,JB,Int.reduceBEq,Vu,Vt,Bool.false_and,Bool.and_true,Bool.and_false,Vv,Vc,Nat.reduceAdd,Nat.reduceEqDiff,Nat.reduceBEq,Nat.reduceLeDiff,reduceCtorEq,↓reduceIte];refine JG rfl c6 trivial ?_;simp only[go_sem,JA,Va,Vb,JD,wa,wb,hk,w4,JL,JM,JB,Int.reduceBEq,Vu,Vt,Bool.false_and,Bool.and_true,Bool.and_false,Vv,Vc,Nat.reduceAdd,Nat.reduceEqDiff,Nat.reduceBEq,Nat.reduceLeDiff,reduceCtorEq,↓reduceIte];refine⟨dC,?_⟩;refine JG rfl c7 trivial ?_;simp only[go_sem,JA,Va,Vb,JD,wa,wb,hk,w4,JL,JM,JB,Int.reduceBEq,Vu,Vt,Bool.false_and,Bool.and_true,Bool.and_false,Vv,Vc,Nat.reduceAdd,Nat.reduceEqDiff,Nat.reduceBEq,Nat.reduceLeDiff,reduceCtorEq,↓reduceIte];refine JG rfl c8 trivial ?_;simp only[go_sem,JA,Va,Vb,JD,wa,wb,hk,w4,JL,JM,JB,Int.reduceBEq,Vu,Vt,Bool.false_and,Bool.and_true,Bool.and_false,Vv,Vc,Nat.reduceAdd,Nat.reduceEqDiff,Nat.reduceBEq,Nat.reduceLeDiff,reduceCtorEq,↓reduceIte];refine JG rfl c9 trivial ?_;simp only[go_sem,JA,Va,Vb,JD,wa,wb,hk,w4,JL,JM,JB,Int.reduceBEq,Vu,Vt,Bool.false_and,Bool.and_true,Bool.and_false,Vv,Vc,Nat.reduceAdd,Nat.reduceEqDiff,Nat.reduceBEq,Nat.reduceLeDiff,reduceCtorEq,↓reduceIte];refine⟨sP,?_⟩;refine JG rfl cq12 trivial ?_;simp only[go_sem,JA,Va,Vb,JD,wa,wb,hk,w4,JL,JM,JB,Int.reduceBEq,Vu,Vt,Bool.false_and,Bool.and_true,Bool.and_false,Vv,Vc,Nat.reduceAdd,Nat.reduceEqDiff,Nat.reduceBEq,Nat.reduceLeDiff,reduceCtorEq,↓reduceIte];rfl
theorem JRB:JDm 11:=by
 intro br k a b now deep h0 h1 h2 h3 hk hbr;refine Yj.pc ?_;have c0:=(Je Us).call trivial;have c1:=(Uw now).call trivial;have c2:=(Je (msr now)).call trivial;have c3:=(UI (a.tmod 110)).call trivial;have c4:=(U1 8 (JP (msr now)) (Jt (a.tmod 110))).call trivial;have wa:IntKind.i64.wrap a=a:=UD oM oM;have wb:IntKind.i64.wrap b=b:=UD oM oM;obtain⟨b4,b4',b4''⟩:=US b 4 h2 oM;have w4:IntKind.i64.wrap (1+b.tmod 4)=1+b.tmod 4:=UD oM oM;simp only[Va,Vb]at c0 c1 c2 c3 c4;simp only[JD,JP,Jt,UZ,JY,JZ,Jh,prs,List.flatMap_cons,List.flatMap_nil,List.cons_append,List.nil_append,List.append_nil,Va,Vb]at c0 c1 c2 c3 c4;unfold UU;rw[hk];simp only[go_sem,YW,UL,JA,Va,Vb,JD,wa,wb,hk,w4,JL,JM,JB,Int.reduceBEq,Vu,Vt,Bool.false_and,Bool.and_true,Bool.and_false,JD,JP,Jt,UZ,JY,JZ,Jh,prs,List.flatMap_cons,List.flatMap_nil,List.cons_append,List.nil_append,List.append_nil,Va,Vb,JA,Vv,Vc,Nat.reduceAdd,Nat.reduceEqDiff,Nat.reduceBEq,Nat.reduceLeDiff,reduceCtorEq,↓reduceIte];refine wn c0 ?_;simp only[go_sem,JA,Va,Vb,JD,wa,wb,hk,w4,JL,JM,JB,Int.reduceBEq,Vu,Vt,Bool.false_and,Bool.and_true,Bool.and_false,Vv,Vc,Nat.reduceAdd,Nat.reduceEqDiff,Nat.reduceBEq,Nat.reduceLeDiff,reduceCtorEq,↓reduceIte];refine wn c0 ?_;simp only[go_sem,JA,Va,Vb,JD,wa,wb,hk,w4,JL,JM,JB,Int.reduceBEq,Vu,Vt,Bool.false_and,Bool.and_true,Bool.and_false,Vv,Vc,Nat.reduceAdd,Nat.reduceEqDiff,Nat.reduceBEq,Nat.reduceLeDiff,reduceCtorEq,↓reduceIte];refine⟨sP,?_⟩;refine wn c1 ?_;simp only[go_sem,JA,Va,Vb,JD,wa,wb,hk,w4,JL,JM,JB,Int.reduceBEq,Vu,Vt,Bool.false_and,Bool.and_true,Bool.and_false,Vv,Vc,Nat.reduceAdd,Nat.reduceEqDiff,Nat.reduceBEq,Nat.reduceLeDiff,reduceCtorEq,↓reduceIte];refine wn c2 ?_;simp only[go_sem,JA,Va,Vb,JD,wa,wb,hk,w4,JL,JM,JB,Int.reduceBEq,Vu,Vt,Bool.false_and,Bool.and_true,Bool.and_false,Vv,Vc,Nat.reduceAdd,Nat.reduceEqDiff,Nat.reduceBEq,Nat.reduceLeDiff,reduceCtorEq,↓reduceIte];refine⟨dC,?_⟩;refine wn c3 ?_;simp only[go_sem,JA,Va,Vb,JD,wa,wb,hk,w4,JL,JM,JB,Int.reduceBEq,Vu,Vt,Bool.false_and,Bool.and_true,Bool.and_false,Vv,Vc,Nat.reduceAdd,Nat.reduceEqDiff,Nat.reduceBEq,Nat.reduceLeDiff,reduceCtorEq,↓reduceIte];refine wn c4 ?_;simp only[go_sem,JA,Va,Vb,JD,wa,wb,hk,w4,JL,JM,JB,Int.reduceBEq,Vu,Vt,Bool.false_and,Bool.and_true,Bool.and_false,Int.reduceEq,or_true,or_false,true_or,false_or,not_false_eq_true,not_true_eq_false,ne_eq,true_and,JA,Va,Vb,Vv,Vc,Nat.reduceAdd,Nat.reduceEqDiff,Nat.reduceBEq,Nat.reduceLeDiff,reduceCtorEq,↓reduceIte];cases deep
 ·have hbr:br=JCa now a:=hbr;subst hbr;simp only[go_sem,JA,Va,Vb,JD,wa,wb,hk,w4,JL,JM,JB,Int.reduceBEq,Vu,Vt,Bool.false_and,Bool.and_true,Bool.and_false,JCa,Jh,JD,JP,Jt,UZ,JY,JZ,Jh,prs,List.flatMap_cons,List.flatMap_nil,List.cons_append,List.nil_append,List.append_nil,Va,Vb,Vv,Vc,Nat.reduceAdd,Nat.reduceEqDiff,Nat.reduceBEq,Nat.reduceLeDiff,reduceCtorEq,↓reduceIte];simp
 ·have hb:=J3.call (show PT 195 [UL k a b,.str now,JX (Jh now a)] (.d (JJ br))from hbr) trivial;simp only[UL,JD,JP,Jt,UZ,JY,JZ,Jh,prs,List.flatMap_cons,List.flatMap_nil,List.cons_append,List.nil_append,List.append_nil,Va,Vb,JW br]at hb;rw[JW br];simp only[go_sem,JA,Va,Vb,JD,wa,wb,hk,w4,JL,JM,JB,Int.reduceBEq,Vu,Vt,Bool.false_and,Bool.and_true,Bool.and_false,Vv,Vc,Nat.reduceAdd,Nat.reduceEqDiff,Nat.reduceBEq,Nat.reduceLeDiff,reduceCtorEq,↓reduceIte];refine wn hb ?_;simp only[go_sem,JA,Va,Vb,JD,wa,wb,hk,w4,JL,JM,JB,Int.reduceBEq,Vu,Vt,Bool.false_and,Bool.and_true,Bool.and_false,Vv,Vc,Nat.reduceAdd,Nat.reduceEqDiff,Nat.reduceBEq,Nat.reduceLeDiff,reduceCtorEq,↓reduceIte]
end Go.Proofs
namespace Go.Proofs
open Go Av
theorem tmod13(k:Int)(h:0≤k):k.tmod 13=0∨k.tmod 13=1∨k.tmod 13=2∨k.tmod 13=3∨k.tmod 13=4∨k.tmod 13=5∨k.tmod 13=6∨k.tmod 13=7∨k.tmod 13=8∨k.tmod 13=9∨k.tmod 13=10∨k.tmod 13=11∨k.tmod 13=12:=by
 rw[Int.tmod_eq_emod_of_nonneg h];omega
theorem JKn(br:Ste)(k a b:Int)(now:Str)(deep:Bool)(hk:0≤k)(h0:0≤a)(h1:a≤255)(h2:0≤b)(h3:b≤255)(hbr:BrOk deep br k a b now):
  PT 112 [UL k a b,.str now,.bool deep] (.tup [.d (JJ (UU br k a b now).1),.d (.str (UU br k a b now).2)]):=by
 rcases tmod13 k hk with e|e|e|e|e|e|e|e|e|e|e|e|e
 ·exact w158_0 br k a b now deep h0 h1 h2 h3 e hbr
 ·exact w158_1 br k a b now deep h0 h1 h2 h3 e hbr
 ·exact w158_2 br k a b now deep h0 h1 h2 h3 e hbr
 ·exact w158_3 br k a b now deep h0 h1 h2 h3 e hbr
 ·exact w158_4 br k a b now deep h0 h1 h2 h3 e hbr
 ·exact w158_5 br k a b now deep h0 h1 h2 h3 e hbr
 ·exact w158_6 br k a b now deep h0 h1 h2 h3 e hbr
 ·exact w158_7 br k a b now deep h0 h1 h2 h3 e hbr
 ·exact w158_8 br k a b now deep h0 h1 h2 h3 e hbr
 ·have:a.tmod 4=0∨a.tmod 4=1∨a.tmod 4=2∨a.tmod 4=3:=by rw[Int.tmod_eq_emod_of_nonneg h0];omega
  rcases this with e2|e2|e2|e2
  ·exact JO3 br k a b now deep h0 h1 h2 h3 e2 e
  ·exact JO4 br k a b now deep h0 h1 h2 h3 e2 e
  ·exact JO5 br k a b now deep h0 h1 h2 h3 e2 e
  ·exact JO6 br k a b now deep h0 h1 h2 h3 e2 e
 ·exact JQ9 br k a b now deep h0 h1 h2 h3 e hbr
 ·exact JRB br k a b now deep h0 h1 h2 h3 e hbr
 ·exact JRA br k a b now deep h0 h1 h2 h3 e hbr
end Go.Proofs
namespace Go.Proofs
open Go Av
open Av.Y
end Go.Proofs
namespace Go.Proofs
open Go Av
theorem JIL{G:Nat→Option Av.Obj}:∀cs:List Dat,JT G (cs.map .d)
 |[]=>trivial
 |_::r=>⟨trivial,JIL r⟩
theorem JJa(ρ:Nat→Nat):∀cs:List Dat,UV ρ (cs.map .d)=cs.map .d
 |[]=>rfl
 |_::r=>by simp only[Va,UV,Av.ren,JJa ρ r]
theorem JAF(i:Nat)(cs:List Dat):closed (get [(i,.box (cs.map .d))]):=by
 refine J4 ?_;simp only[Jf,J8,JIL,and_true]
theorem Con.ro{P:Program}{f:Nat}{ds cs:List Dat}{r:Dat}(h:Con P f (.ref 1000 0::ds.map .d) [(1000,.box (cs.map .d))] (.d r) [])(i:Nat):
  JR P f (.ref i 0::ds.map .d) [(i,some (.box (cs.map .d)))] (.d r) []:=by
 have h1:∀j,(get [(1000,Obj.box (cs.map .d))] j).isSome=true→j=1000:=by
  intro j hj;simp only[Av.get]at hj;split at hj
  ·rename_i e;exact e.symm
  ·cases hj
 have:=h.call (fun _=>i) (fun j hj=>by rw[h1 j hj];decide) (fun a b ha hb _=>by rw[h1 a ha,h1 b hb]) ?_ (JAF _ _) [] sP (JAF _ _) trivial
 ·have e:(ds.map Av.d).map (Av.ren fun _=>i)=ds.map Av.d:=by
   rw[List.map_map];exact List.map_congr_left fun x _=>by simp[Av.ren]
  simpa[Av.ren,Obj.ren,JJa,e]using this
 ·intro c hc;rcases VA.1 hc with rfl|hc
  ·rfl
  ·obtain⟨x,_,rfl⟩:=VC.1 hc;trivial
structure Part where
 kind:Int
 index:Int
 name:Str
def encP(p:Part):Dat:=.agg [.int .i64 p.kind,.int .i64 p.index,.str p.name]
end Go.Proofs
namespace Go.Proofs
open Go.Shelf
def Tryz.JHK:Go.Shelf.Ren:=⟨fun|171=>198|243=>247|246=>280|283=>322|284=>323|285=>324|286=>325|129=>360|317=>359|318=>361|319=>362|320=>363|337=>409|338=>410|n=>n,fun|3=>3|9=>9|2=>2|4=>4|171=>392|0=>0|53=>393|37=>314|5=>5|173=>396|212=>429|51=>430|20=>20|213=>431|46=>366|232=>494|233=>495|n=>n,fun|17=>3|18=>6|19=>7|n=>n⟩
theorem Tryz.JQC:Go.Proofs.LaysM.n171 Tryz.prog Tryz.JHK:={
 mixed:=kR
 f129:=Tryz.func360.trans (congrArg some kR)
 f171:=Tryz.func198.trans (congrArg some kR)
 f243:=Tryz.func247.trans (congrArg some kR)
 f246:=Tryz.func280.trans (congrArg some kR)
 f283:=Tryz.func322.trans (congrArg some kR)
 f284:=Tryz.func323.trans (congrArg some kR)
 f285:=Tryz.func324.trans (congrArg some kR)
 f286:=Tryz.func325.trans (congrArg some kR)
 f317:=Tryz.func359.trans (congrArg some kR)
 f318:=Tryz.func361.trans (congrArg some kR)
 f319:=Tryz.func362.trans (congrArg some kR)
 f320:=Tryz.func363.trans (congrArg some kR)
 f337:=Tryz.func409.trans (congrArg some kR)
 f338:=Tryz.func410.trans (congrArg some kR)
 t0:=Tryz.underlying0
 a0:=Tryz.isAgg0
 z0:=Tryz.sizeOf0
 v0:=Tryz.zeroValue0
 t2:=Tryz.underlying2
 a2:=Tryz.isAgg2
 z2:=Tryz.sizeOf2
 v2:=Tryz.zeroValue2
 t3:=Tryz.underlying3
 a3:=Tryz.isAgg3
 z3:=Tryz.sizeOf3
 v3:=Tryz.zeroValue3
 t4:=Tryz.underlying4
 a4:=Tryz.isAgg4
 z4:=Tryz.sizeOf4
 v4:=Tryz.zeroValue4
 t5:=Tryz.underlying5
 a5:=Tryz.isAgg5
 z5:=Tryz.sizeOf5
 v5:=Tryz.zeroValue5
 t9:=Tryz.underlying9
 a9:=Tryz.isAgg9
 z9:=Tryz.sizeOf9
 v9:=Tryz.zeroValue9
 t20:=Tryz.underlying20
 a20:=Tryz.isAgg20
 z20:=Tryz.sizeOf20
 v20:=Tryz.zeroValue20
 t37:=Tryz.underlying314
 a37:=Tryz.isAgg314
 z37:=Tryz.sizeOf314
 v37:=Tryz.zeroValue314
 t46:=Tryz.underlying366
 a46:=Tryz.isAgg366
 z46:=Tryz.sizeOf366
 v46:=Tryz.zeroValue366
 t51:=Tryz.underlying430
 a51:=Tryz.isAgg430
 z51:=Tryz.sizeOf430
 v51:=Tryz.zeroValue430
 t53:=Tryz.underlying393
 a53:=Tryz.isAgg393
 z53:=Tryz.sizeOf393
 v53:=Tryz.zeroValue393
 t171:=Tryz.underlying392
 a171:=Tryz.isAgg392
 z171:=Tryz.sizeOf392
 v171:=Tryz.zeroValue392
 t173:=Tryz.underlying396
 a173:=Tryz.isAgg396
 z173:=Tryz.sizeOf396
 v173:=Tryz.zeroValue396
 t212:=Tryz.underlying429
 a212:=Tryz.isAgg429
 z212:=Tryz.sizeOf429
 v212:=Tryz.zeroValue429
 t213:=Tryz.underlying431
 a213:=Tryz.isAgg431
 z213:=Tryz.sizeOf431
 t232:=Tryz.underlying494
 a232:=Tryz.isAgg494
 z232:=Tryz.sizeOf494
 v232:=Tryz.zeroValue494
 t233:=Tryz.underlying495
 a233:=Tryz.isAgg495
 z233:=Tryz.sizeOf495
 v233:=Tryz.zeroValue495
 g17:=kR
 g18:=kR
 g19:=kR
 i0:=kR
 i2:=kR
 i3:=kR
 i4:=kR
 i5:=kR
 i9:=kR
 i20:=kR
 i37:=kR
 i46:=kR
 i51:=kR
 i53:=kR
 i171:=kR
 i173:=kR
 i212:=kR
 i232:=kR
 i233:=kR
 m17:=kR
 m18:=kR
 m19:=by kernel_rfl}
end Go.Proofs
namespace Go.Proofs
open Go Av Go.RowKit
theorem hasT{f:Nat}{fn:Func}(h:Tryz.prog.funcs[f]? =some fn)(h1:fn.body.isSome=true)(h2:(fn.name== "runtime.NumGoroutine")=false):Has Tryz.prog f:=⟨fn,h,h1,h2⟩
theorem JRC{vs:Array Value}(h:1=vs.size):∃x,vs=#[x]:=by
 refine⟨vs[0],?_⟩;apply Array.ext
 ·simp[←h]
 ·intro i h1 h2;have:i=0:=oM;subst this;rfl
theorem tabI{A:Nat→Prop}{w:World}(hg:∀g cs,Y5 g=some cs→JBu A w g cs):Lib.TabIs Tryz.prog w "internal/strconv.uint64pow10" .u64 Lib.pow10Tab:=by
 obtain⟨h0,C,T,fr,h1,h2,h3,h4⟩:=hg 3 JGg rfl;have hn:Tryz.prog.globalNamed "internal/strconv.uint64pow10" =some 3:=kR;unfold Lib.TabIs World.var?;rw[hn];simp only[Option.bind_some,h1,Vd];have hlen:JGg.length=20:=by simp[JGg]
 apply Array.ext
 ·rw[←h2,hlen];simp[Lib.pow10Tab]
 ·intro i hi hi';have hi20:i<20:=by rw[←h2,hlen]at hi;exact hi
  have e1:JGg[i]? =some (.int .u64 ((10^i:Nat):Int)):=by simp[JGg,hi20]
  have:=h4 i _ C[i] e1 sP;generalize C[i]=v at this;cases this;simp[Lib.pow10Tab]
theorem call198(n:Int)(h0: -9223372036854775808≤n)(h1:n≤9223372036854775807):CT 198 [.d (.int .i64 n)] [] (.d (.str (Lib.itoa n))) []:=by
 refine JR.JMP (ds:=[.int .i64 n]) (hasT Tryz.func198 kR kR) ?_;intro A w vs hg hl hv;obtain⟨x,rfl⟩:=JRC hl;have hx:=hv 0 _ x rfl rfl;cases hx with
 |int=>
  refine(Any.strconv_Itoa Tryz.JQC n h0 h1 w (tabI hg)).mono ?_;rintro e w' ⟨rfl,k,os,rfl⟩;refine⟨_,rfl,?_,fun β H=>.d _ _ (.str _ ?_)⟩
  ·refine⟨rfl,rfl,rfl,by simp[Sort.grow],fun i hi=>?_⟩;show((w.drewN k).heap++os)[i]? =_;rw[Array.getElem?_append_left (by show i<w.heap.size;omega)];rfl
  ·have:=Lib.itoa_length_le n h0 h1;omega
end Go.Proofs
namespace Go.Proofs
open Go Av
open Av.Y
end Go.Proofs
namespace Go.Proofs
open Go Av Go.RowKit
end Go.Proofs
namespace Go.Proofs
open Go Av
open Av.Y
end Go.Proofs
namespace Go.Proofs
open Go Av
open Av.Y
end Go.Proofs
namespace Go.Proofs
open Go Av
end Go.Proofs
namespace Go.Proofs
open Go Av
open Av.Y
end Go.Proofs
namespace Go.Proofs
open Go Av
end Go.Proofs
namespace Go.Proofs
open Go Av
open Av.Y
end Go.Proofs
namespace Go.Proofs
open Go Av
theorem Con.rl{P:Program}{f:Nat}{ds cs:List Dat}{r:Dat}(h:Con P f (ds.map .d++[.ref 1000 0]) [(1000,.box (cs.map .d))] (.d r) [])(i:Nat):
  JR P f (ds.map .d++[.ref i 0]) [(i,some (.box (cs.map .d)))] (.d r) []:=by
 have h1:∀j,(get [(1000,Obj.box (cs.map .d))] j).isSome=true→j=1000:=by
  intro j hj;simp only[Av.get]at hj;split at hj
  ·rename_i e;exact e.symm
  ·cases hj
 have:=h.call (fun _=>i) (fun j hj=>by rw[h1 j hj];decide) (fun a b ha hb _=>by rw[h1 a ha,h1 b hb]) ?_ (JAF _ _) [] sP (JAF _ _) trivial
 ·have e:(ds.map Av.d).map (Av.ren fun _=>i)=ds.map Av.d:=by
   rw[List.map_map];exact List.map_congr_left fun x _=>by simp[Av.ren]
  simpa[Av.ren,Obj.ren,JJa,e]using this
 ·intro c hc;rcases List.mem_append.1 hc with hc|hc
  ·obtain⟨x,_,rfl⟩:=VC.1 hc;trivial
  ·rw[List.mem_singleton.1 hc];rfl
theorem JGs(l:List Part):JI (l.map encP)=l.map encP:=by
 rw[J1,List.map_map];exact List.map_congr_left fun p _=>by simp[encP,Dat.canon,JI]
attribute [go_sem] JGs
end Go.Proofs
namespace Go.Proofs
open Go Av
open Av.Y
end Go.Proofs
namespace Go.Proofs
open Go Av
mutual
def szV:Val→Nat
 |.mk _ _ _ _ l f=>1+JRD l+JRE f
def JRD:List Val→Nat
 |[]=>0
 |v::r=>szV v+JRD r
def JRE:List Fld→Nat
 |[]=>0
 |.mk _ v::r=>szV v+JRE r
end
theorem szV_eq(v:Val):szV v=1+JRD v.list+JRE v.fields:=by cases v;rfl
end Go.Proofs
namespace Go.Proofs
open Go Av
open Av.Y
def JSi:Ic:=q (.reg (oN 2 y6<|N))<|q (R (om 3 0<|oo 4 (.bld y6 [(0,1,i 4),(3,1,t 3)])<|oS 6 2 4<|N) [0,3,4])<|.ret
theorem ok245:FT 245 5 JSi [.cell 2 (some 6)]:=.o Tryz.func245
end Go.Proofs
namespace Go.Proofs
open Go Av
theorem JRF{v:Val}(h:fits (Jm v)):v.text.length≤68719476736∧v.list.length≤68719476736∧v.fields.length≤68719476736:=by
 rw[J0]at h;simp only[fits,Ua,Vc,and_true]at h;exact⟨h.2.2.2.1,h.2.2.2.2.1.1,h.2.2.2.2.2.1⟩
theorem JRG(s:Str):PT 245 [.str s] (.d (Jm (.mk 4 0 0 s [] []))):=by
 refine ok245.pc ?_;simp only[go_sem,JSi,simprocAttr];rfl
def rejS:Ste:=.mk [] 14 0 0 0 [110,111] [] [] [] [] []
def JJb:Exp:=.mk 1 0 [] [.mk 4 0 0 [98] [] []] []
def eqB:Exp:=UZ 6 JFR JJb
def pick(inn t:Ste)(j:Int):List Ste:=if j=0 then[inn]else if j=1 then[inn,t]else if j=2 then[rejS]else[]
def whn(c:Bool)(a b:Int)(small:Exp)(i:Nat):List Exp:=if c&&(decide ((i:Int)≤a.tmod 2)||b.tmod 5==0)then(if 0<i then[eqB]else[small])else[]
def brn(c:Bool)(a b:Int)(small:Exp)(inn t:Ste)(i:Nat):Brn:=.mk (whn c a b small i) (pick inn t ((b+i).tmod 4))
def JRH:Dat:=.agg [.str [],.int .i64 14,.int .i64 0,.int .i64 0,.int .i64 0,.str [110,111],.str [],.nil 5,.nil 6,.nil 2,.nil 2]
theorem JJc:JRH.canon=JJ rejS:=rfl
def L4(inn t:Dat):List Dat:=[.list 11 [inn],.list 11 [inn,t],.list 11 [JRH],.nil 11]
theorem JO7(inn t:Dat):(L4 inn t).length=4:=rfl
def JGt(w:List Exp)(l:Dat):Dat:=.agg [if w.isEmpty then .nil 5 else .list 5 (w.map JX),l]
theorem JO8(inn t:Ste)(j:Nat)(h:j<4):(nth (L4 (JJ inn) (JJ t)) j).canon=.list 11 ((pick inn t j).map JJ):=by
 match j,h with
 |0,_=>simp[nth,L4,pick,Dat.canon,JI,Zb]
 |1,_=>simp[nth,L4,pick,Dat.canon,JI,Zb]
 |2,_=>simp[nth,L4,pick,Dat.canon,JI,JJc]
 |3,_=>simp[nth,L4,pick,Dat.canon,JI]
theorem JJd(w:List Exp)(inn t:Ste)(j:Nat)(h:j<4):(JGt w (nth (L4 (JJ inn) (JJ t)) j)).canon=J5 (.mk w (pick inn t j)):=by
 rw[X6];cases w<;>simp only[JGt,List.isEmpty_nil,List.isEmpty_cons,if_true,if_false,Vu,Dat.canon,JI,UK,JO8 inn t j h,Brn.cond,Brn.steps,Vb]
def JRI(k a b:Int)(now:Str):Ste:=(UU (JCa now (a.tdiv 2)) (4+b.tmod 4) (a.tdiv 2) (b.tdiv 3) now).1
def idx(b:Int)(i:Nat):Nat:=((b+i).tmod 4).toNat
def JJe(c:Bool)(a b:Int)(small:Exp)(inn t:Ste)(i:Nat):Dat:=JGt (whn c a b small i) (nth (L4 (JJ inn) (JJ t)) (idx b i))
theorem JJf(b:Int)(i:Nat)(h:0≤b):idx b i<4∧((idx b i:Nat):Int)=(b+i).tmod 4:=by
 unfold idx;rw[Int.tmod_eq_emod_of_nonneg oM];omega
theorem JJg(c:Bool)(a b:Int)(small:Exp)(inn t:Ste)(i:Nat)(h:0≤b):(JJe c a b small inn t i).canon=J5 (brn c a b small inn t i):=by
 obtain⟨h1,h2⟩:=JJf b i h;unfold JJe brn;rw[JJd _ _ _ _ h1,←h2]
theorem JDh(c:Bool)(a b:Int)(small:Exp)(inn t:Ste)(n:Nat)(h:0≤b):JI ((List.range n).map (JJe c a b small inn t))=((List.range n).map (brn c a b small inn t)).map J5:=by
 rw[J1,List.map_map,List.map_map];exact List.map_congr_left fun i _=>JJg c a b small inn t i h
theorem JIM(inn t:Dat)(j:Nat)(h:j<4):(nth (L4 inn t) j).cells=[nth (L4 inn t) j]∧(Av.d (nth (L4 inn t) j)).cells=some [.d (nth (L4 inn t) j)]:=by
 match j,h with
 |0,_=>exact⟨rfl,rfl⟩
 |1,_=>exact⟨rfl,rfl⟩
 |2,_=>exact⟨rfl,rfl⟩
 |3,_=>exact⟨rfl,rfl⟩
def bBr(k a b:Int)(now:Str):List Brn:=(List.range (2+(a.tmod 2).toNat)).map (brn (!(k.tmod 13==11)) a b (Jh now a) (JRI k a b now) (toS now a))
def brS(k a b:Int)(now:Str):Ste:=.mk [] (if k.tmod 13==11 then 12 else 11) 0 0 0 [] [] [] [] [] (bBr k a b now)
theorem w8{n:Int}(h0:0≤n)(h1:n≤255):IntKind.u8.wrap n=n:=by
 simp only[IntKind.wrap,IntKind.signed,IntKind.bits];simp;omega
theorem JRJ(k a b:Int)(now:Str)(hk:0≤k)(h0:0≤a)(h1:a≤255)(h2:0≤b)(h3:b≤255)(hn:now.length≤1000):
    J3 Tryz.prog 195 [UL k a b,.str now,JX (Jh now a)] (.d (JJ (brS k a b now))):=by
  refine ok195.pcon (Nat.le_of_ble_eq_true rfl) trivial ?_
  obtain⟨p1,p2,p3⟩:=US b 4 h2 (by omega)
  obtain⟨q1,q2⟩:=JJZ a 2 h0 h1 (by omega)
  obtain⟨r1,r2⟩:=JJZ b 3 h2 h3 (by omega)
  obtain⟨a1,a2,a3⟩:=US a 2 h0 (by omega)
  have e1:IntKind.u8.wrap (4+b.tmod 4)=4+b.tmod 4:=w8 (by omega) (by omega)
  have e2:IntKind.u8.wrap (a.tdiv 2)=a.tdiv 2:=w8 (by omega) (by omega)
  have e3:IntKind.u8.wrap (b.tdiv 3)=b.tdiv 3:=w8 (by omega) (by omega)
  have e4:IntKind.i64.wrap a=a:=UD (by omega) (by omega)
  have e5:IntKind.i64.wrap b=b:=UD (by omega) (by omega)
  have c0:=(JKn (JCa now (a.tdiv 2)) (4+b.tmod 4) (a.tdiv 2) (b.tdiv 3) now false (by omega) q1 q2 r1 r2 rfl).call (by simp[XE])
  have c1:=(JGq now k a b hn).call trivial
  have c2:=(Je Us).call trivial
  have c3:=(JRG [98]).call trivial
  have c4:=(U1 6 JFR JJb).call trivial
  unfold brS bBr JRI
  generalize hm:UU (JCa now (a.tdiv 2)) (4+b.tmod 4) (a.tdiv 2) (b.tdiv 3) now=M at*
  obtain⟨inn,nx⟩:=M
  generalize hT:toS now a=T at*
  generalize hS:Jh now a=S at*
  rw[JA]
  simp only[UL,Va,Vb]at c0 c1
  simp only[JJb,UZ,JP,JY,JZ,Va,Vb]at c2 c3 c4
  rw[JW inn]at c0
  rw[JW T]at c1
  simp only[go_sem,JR1,UL,Jl S,Vv,Vc,Nat.reduceAdd,Nat.reduceEqDiff,Nat.reduceBEq,Nat.reduceLeDiff,reduceCtorEq,↓reduceIte]
  cases hc:k.tmod 13==11
  · simp only[go_sem,hc,e1,e2,e3,Vu,Vv,Vc,Nat.reduceAdd,Nat.reduceEqDiff,Nat.reduceBEq,Nat.reduceLeDiff,reduceCtorEq,↓reduceIte]
    refine⟨by decide,by decide,by decide,by decide,?_⟩
    refine JU rfl c0 trivial ?_
    simp only[go_sem,Vv,Vc,Nat.reduceAdd,Nat.reduceEqDiff,Nat.reduceBEq,Nat.reduceLeDiff,reduceCtorEq,↓reduceIte]
    refine⟨by simp,?_⟩
    refine JG rfl c1 trivial ?_
    simp only[go_sem,Vv,Vc,Nat.reduceAdd,Nat.reduceEqDiff,Nat.reduceBEq,Nat.reduceLeDiff,reduceCtorEq,↓reduceIte]
    refine⟨by simp,by simp,by simp,rfl,?_⟩
    rw[←JW inn,←JW T]
    refine JH (fun n s=>∃i:Nat,i≤2+(a.tmod 2).toNat∧n=2+(a.tmod 2).toNat-i∧
      s=⟨[(3,.ref 3 0),(5,.ref 5 0),(6,.ref 6 0),(7,.ref 7 0),(10,.d (.list 1 (L4 (JJ inn) (JJ T)))),(11,.d (.int .i64 i))],
        [(3,.box [.d (.int .u8 k),.d (.int .u8 a),.d (.int .u8 b)]),(5,.box [.d (.int .i64 S.op),.d (.int .i64 S.int),.d (.str S.text),.d (.list 6 (S.value.map Jm)),.d (.list 5 (S.args.map JX))]),
         (6,.box [.d (.str []),.d (.int .i64 0),.d (.int .i64 0),.d (.int .i64 0),.d (.int .i64 0),.d (.str []),.d (.str []),.d (.nil 5),.d (.nil 6),.d (.nil 2),.d (.nil 2)]),
         (7,.box [.d (.str []),.d (.int .i64 11),.d (.int .i64 0),.d (.int .i64 0),.d (.int .i64 0),.d (.str []),.d (.str []),.d (.nil 5),.d (.nil 6),.d (.nil 2),.ms 97 i]),
         (97,.row i 2 ((List.range i).map (JJe true a b S inn T)))]⟩) ?_ ?_
    · refine⟨_,_,(Wk.JCr 7 10 97 2 _ rfl rfl rfl (by decide)).trans (Wk.less ?_),0,Nat.zero_le _,rfl,rfl⟩
      simp[put,go_sem,L4,JRH]
      trace_state
    · rintro n s ⟨i,hi,rfl,rfl⟩
      have hin:(a.tmod 2).toNat≤1:=by omega
      obtain⟨x1,x2⟩:=JJf b i h2
      have f1:IntKind.i64.wrap (1+a.tmod 2)=1+a.tmod 2:=UD (by omega) (by omega)
      have f2:IntKind.i64.wrap (b+(i:Int))=b+i:=UD (by omega) (by omega)
      by_cases hlt:i<2+(a.tmod 2).toNat
      · have hd:decide ((i:Int)≤1+a.tmod 2)=true:=by simp;omega
        obtain⟨hc1,hc2⟩:=JIM (JJ inn) (JJ T) _ x1
        have hraw:JJe true a b S inn T i=JGt (whn true a b S i) (nth (L4 (JJ inn) (JJ T)) (idx b i)):=rfl
        obtain⟨D,hD⟩:∃D,nth (L4 (JJ inn) (JJ T)) (idx b i)=D:=⟨_,rfl⟩
        rw[hD]at hc1 hc2 hraw
        simp only[Dat.cells]at hc1
        simp only[Av.cells]at hc2
        simp only[go_sem,hd,e4,e5,f1,f2,←x2,JO7,hD,hc1,hc2,Vv,Vc,Nat.reduceAdd,Nat.reduceEqDiff,Nat.reduceBEq,Nat.reduceLeDiff,reduceCtorEq,↓reduceIte]
        refine⟨by decide,by decide,by omega,by decide,?_⟩
        refine⟨by decide,XH (b.tmod 5==0) (fun _=>?_) ?_⟩
        · simp only[go_sem,Vv,Vc,Nat.reduceAdd,Nat.reduceEqDiff,Nat.reduceBEq,Nat.reduceLeDiff,reduceCtorEq,↓reduceIte]
          intro h;cases h
        · cases hw:(decide ((i:Int)≤a.tmod 2)||b.tmod 5==0)
          · simp only[go_sem,hw,Vu,Vv,Vc,Nat.reduceAdd,Nat.reduceEqDiff,Nat.reduceBEq,Nat.reduceLeDiff,reduceCtorEq,↓reduceIte]
            refine⟨by simp,by simp;omega,2+(a.tmod 2).toNat-(i+1),_,by omega,Wk.less ?_,i+1,by omega,rfl,rfl⟩
            rw[List.range_succ,Vw]
            simp only[go_sem,JE i (by omega),Va,Vb,hraw,JGt,whn,hw,eqB,UZ,JJb,JP,JY,JZ,Jl S,List.isEmpty_nil,List.isEmpty_cons,Vt,Bool.false_and,Vu,List.length_range,Vv,Vc,Nat.reduceAdd,Nat.reduceEqDiff,Nat.reduceBEq,Nat.reduceLeDiff,reduceCtorEq,↓reduceIte]
          · simp only[go_sem,hw,Jl S,Vv,Vc,Nat.reduceAdd,Nat.reduceEqDiff,Nat.reduceBEq,Nat.reduceLeDiff,reduceCtorEq,↓reduceIte]
            cases hz:decide ((i:Int)>0)
            · have hz':(0<i)=False:=by simp at hz;simp;omega
              simp only[go_sem,hz,Jl S,Vu,Vv,Vc,Nat.reduceAdd,Nat.reduceEqDiff,Nat.reduceBEq,Nat.reduceLeDiff,reduceCtorEq,↓reduceIte]
              refine⟨by simp,by simp,by simp;omega,2+(a.tmod 2).toNat-(i+1),_,by omega,Wk.less ?_,i+1,by omega,rfl,rfl⟩
              rw[List.range_succ,Vw]
              simp only[go_sem,JE i (by omega),Va,Vb,hraw,JGt,whn,hw,hz',eqB,UZ,JJb,JP,JY,JZ,Jl S,List.isEmpty_nil,List.isEmpty_cons,Vt,Bool.false_and,Vu,List.length_range,Vv,Vc,Nat.reduceAdd,Nat.reduceEqDiff,Nat.reduceBEq,Nat.reduceLeDiff,reduceCtorEq,↓reduceIte]
            · have hz':(0<i)=True:=by simp at hz;simp;omega
              simp only[go_sem,hz,Jl S,Vv,Vc,Nat.reduceAdd,Nat.reduceEqDiff,Nat.reduceBEq,Nat.reduceLeDiff,reduceCtorEq,↓reduceIte]
              refine⟨by simp,?_⟩
              refine JU rfl c2 trivial ?_
              simp only[go_sem,Vv,Vc,Nat.reduceAdd,Nat.reduceEqDiff,Nat.reduceBEq,Nat.reduceLeDiff,reduceCtorEq,↓reduceIte]
              refine JU rfl c3 trivial ?_
              simp only[go_sem,Vv,Vc,Nat.reduceAdd,Nat.reduceEqDiff,Nat.reduceBEq,Nat.reduceLeDiff,reduceCtorEq,↓reduceIte]
              refine⟨by simp,?_⟩
              refine JU rfl (JE4 c4 (by simp only[Va,Vb,Av.canon,Dat.canon,JI])) trivial ?_
              simp only[go_sem,Vv,Vc,Nat.reduceAdd,Nat.reduceEqDiff,Nat.reduceBEq,Nat.reduceLeDiff,reduceCtorEq,↓reduceIte]
              refine⟨by simp,by simp,by simp;omega,2+(a.tmod 2).toNat-(i+1),_,by omega,Wk.less ?_,i+1,by omega,rfl,rfl⟩
              rw[List.range_succ,Vw]
              simp only[go_sem,JE i (by omega),Va,Vb,hraw,JGt,whn,hw,hz',eqB,UZ,JJb,JP,JY,JZ,Jl S,List.isEmpty_nil,List.isEmpty_cons,Vt,Bool.false_and,Vu,List.length_range,Vv,Vc,Nat.reduceAdd,Nat.reduceEqDiff,Nat.reduceBEq,Nat.reduceLeDiff,reduceCtorEq,↓reduceIte]
      · have hd:decide ((i:Int)≤1+a.tmod 2)=false:=by simp;omega
        obtain rfl:i=2+(a.tmod 2).toNat:=by omega
        simp only[go_sem,hd,e4,e5,f1,f2,Vv,Vc,Nat.reduceAdd,Nat.reduceEqDiff,Nat.reduceBEq,Nat.reduceLeDiff,reduceCtorEq,↓reduceIte]
        refine⟨by decide,?_⟩
        rw[JDh _ _ _ _ _ _ _ h2]
        rfl
  · simp only[go_sem,hc,e1,e2,e3,Vv,Vc,Nat.reduceAdd,Nat.reduceEqDiff,Nat.reduceBEq,Nat.reduceLeDiff,reduceCtorEq,↓reduceIte]
    refine⟨by decide,by decide,by decide,by decide,?_⟩
    refine JU rfl c0 trivial ?_
    simp only[go_sem,Vv,Vc,Nat.reduceAdd,Nat.reduceEqDiff,Nat.reduceBEq,Nat.reduceLeDiff,reduceCtorEq,↓reduceIte]
    refine⟨by simp,?_⟩
    refine JG rfl c1 trivial ?_
    simp only[go_sem,Vv,Vc,Nat.reduceAdd,Nat.reduceEqDiff,Nat.reduceBEq,Nat.reduceLeDiff,reduceCtorEq,↓reduceIte]
    refine⟨by simp,by simp,by simp,rfl,?_⟩
    rw[←JW inn,←JW T]
    refine JH (fun n s=>∃i:Nat,i≤2+(a.tmod 2).toNat∧n=2+(a.tmod 2).toNat-i∧
      s=⟨[(3,.ref 3 0),(5,.ref 5 0),(6,.ref 6 0),(7,.ref 7 0),(10,.d (.list 1 (L4 (JJ inn) (JJ T)))),(11,.d (.int .i64 i))],
        [(3,.box [.d (.int .u8 k),.d (.int .u8 a),.d (.int .u8 b)]),(5,.box [.d (.int .i64 S.op),.d (.int .i64 S.int),.d (.str S.text),.d (.list 6 (S.value.map Jm)),.d (.list 5 (S.args.map JX))]),
         (6,.box [.d (.str []),.d (.int .i64 0),.d (.int .i64 0),.d (.int .i64 0),.d (.int .i64 0),.d (.str []),.d (.str []),.d (.nil 5),.d (.nil 6),.d (.nil 2),.d (.nil 2)]),
         (7,.box [.d (.str []),.d (.int .i64 12),.d (.int .i64 0),.d (.int .i64 0),.d (.int .i64 0),.d (.str []),.d (.str []),.d (.nil 5),.d (.nil 6),.d (.nil 2),.ms 97 i]),
         (97,.row i 2 ((List.range i).map (JJe false a b S inn T)))]⟩) ?_ ?_
    · refine⟨_,_,(Wk.JCr 7 10 97 2 _ rfl rfl rfl (by decide)).trans (Wk.less ?_),0,Nat.zero_le _,rfl,rfl⟩
      simp[put,go_sem,L4,JRH]
      trace_state
    · rintro n s ⟨i,hi,rfl,rfl⟩
      have hin:(a.tmod 2).toNat≤1:=by omega
      obtain⟨x1,x2⟩:=JJf b i h2
      have f1:IntKind.i64.wrap (1+a.tmod 2)=1+a.tmod 2:=UD (by omega) (by omega)
      have f2:IntKind.i64.wrap (b+(i:Int))=b+i:=UD (by omega) (by omega)
      by_cases hlt:i<2+(a.tmod 2).toNat
      · have hd:decide ((i:Int)≤1+a.tmod 2)=true:=by simp;omega
        obtain⟨hc1,hc2⟩:=JIM (JJ inn) (JJ T) _ x1
        have hraw:JJe false a b S inn T i=JGt (whn false a b S i) (nth (L4 (JJ inn) (JJ T)) (idx b i)):=rfl
        obtain⟨D,hD⟩:∃D,nth (L4 (JJ inn) (JJ T)) (idx b i)=D:=⟨_,rfl⟩
        rw[hD]at hc1 hc2 hraw
        simp only[Dat.cells]at hc1
        simp only[Av.cells]at hc2
        simp only[go_sem,hd,e4,e5,f1,f2,←x2,JO7,hD,hc1,hc2,Vv,Vc,Nat.reduceAdd,Nat.reduceEqDiff,Nat.reduceBEq,Nat.reduceLeDiff,reduceCtorEq,↓reduceIte]
        refine⟨by decide,by decide,by omega,by decide,?_⟩
        simp only[go_sem,Int.reduceBEq,Vu,Vv,Vc,Nat.reduceAdd,Nat.reduceEqDiff,Nat.reduceBEq,Nat.reduceLeDiff,reduceCtorEq,↓reduceIte]
        refine⟨by simp,by simp;omega,2+(a.tmod 2).toNat-(i+1),_,by omega,Wk.less ?_,i+1,by omega,rfl,rfl⟩
        rw[List.range_succ,Vw]
        simp only[go_sem,JE i (by omega),Va,Vb,hraw,JGt,whn,eqB,UZ,JJb,JP,JY,JZ,Jl S,List.isEmpty_nil,List.isEmpty_cons,Vt,Bool.false_and,Vu,List.length_range,Vv,Vc,Nat.reduceAdd,Nat.reduceEqDiff,Nat.reduceBEq,Nat.reduceLeDiff,reduceCtorEq,↓reduceIte]
      · have hd:decide ((i:Int)≤1+a.tmod 2)=false:=by simp;omega
        obtain rfl:i=2+(a.tmod 2).toNat:=by omega
        simp only[go_sem,hd,e4,e5,f1,f2,Vv,Vc,Nat.reduceAdd,Nat.reduceEqDiff,Nat.reduceBEq,Nat.reduceLeDiff,reduceCtorEq,↓reduceIte]
        refine⟨by decide,?_⟩
        rw[JDh _ _ _ _ _ _ _ h2]
        rfl
end Go.Proofs
namespace Go.Proofs
open Go Av
open Av.Y
def JSj:Ic:=q (R (ox 1 0<|ow 2 false<|N) [0,2])<|q (q (R (of 3 1 1<|ol 4 3<|N) [3])<|D (.block 0<|q (q (R (oi 6 .eql 4 13<|om 5 6<|N) [6])<|I 5 S (R (oi 7 .eql 4 14<|om 5 7<|N) [7]))<|D (I 5 (q (R (ow 2 true<|N) [1,4,5])<|.ret) (q (q (R (oi 9 .eql 4 11<|om 8 9<|N) [5,9])<|D (I 8 S (R (oi 10 .eql 4 12<|om 8 10<|N) [4,10])) [4])<|D (I 8 (q (R (of 11 1 10<|ol 12 11<|oh 13 12<|oi 14 .gtr 13 0<|om 15 14<|.sc 15 true (of 16 1 10<|ol 17 16<|cl 18 196 [t 17,.k (.fn (.func 197) [] [])]<|og 19 18<|N) (t 19) 20 (om 2 20<|N)) [1,8,11,12,13,14,15,20])<|.ret) S) [1,8])) []) [7,10,11])<|q (.reg (ow 2 false<|N))<|.ret
theorem JSk:FT 113 21 JSj [.tmp 2]:=.o Tryz.func113
def JSl:Ic:=q (R (ox 1 0<|ow 2 false<|N) [0,2])<|q (R (of 3 1 1<|ol 4 3<|cl 5 69 [t 4]<|og 6 5<|om 2 6<|N) [1,3,4,5,6])<|.ret
theorem ok197:FT 197 7 JSl [.tmp 2]:=.o Tryz.func197
def ir69:Ic:=q (R (ow 2 false<|N) [2])<|q (R (om 3 0<|oh 4 3<|oi 5 .gtr 4 0<|om 6 5<|.sc 6 true (om 7 0<|om 8 0<|oh 9 8<|oi 10 .sub 9 1<|oa true 11 11 7 10<|oL 12 11 11<|cl 13 113 [t 12]<|N) (t 13) 14 (om 2 14<|N)) [0,3,4,5,6,14])<|.ret
theorem ok69:FT 69 15 ir69 [.tmp 2]:=.o Tryz.func69
def ir61:Ic:=q (R (ok 2 (.k (.str []))<|N) [2])<|q (.reg (ok 3 (.k (.str []))<|N))<|q (q (R (om 6 0<|oh 7 6<|oz 8 0<|N) [0])<|D (.block 0<|.loop (q (.reg (ot 9 .lss 8 7<|N))<|q (D (I 9 S (E 0)) [9])<|q (D (.block 1<|q (R (oa false 10 1 6 8<|ol 11 10<|om 5 11<|N) [10,11])<|q (R (om 12 5<|om 13 3<|ot 14 .sne 12 13<|N) [12,13])<|D (I 14 (q (R (om 15 5<|om 2 15<|N) [3,6,7,8,5,14,15])<|.ret) S) [5,14]) [])<|R (oi 16 .add 8 1<|om 8 16<|N) [16])) [6,7,8,9,10,11,5])<|q (R (om 17 3<|om 2 17<|N) [3,17])<|.ret
theorem ok61:FT 61 18 ir61 [.tmp 2]:=.o Tryz.func61
def ir62:Ic:=q (R (ok 4 (.k (.str []))<|N) [4])<|q (R (om 5 0<|oo 6 (.bls 1 [t 5])<|om 7 1<|oo 8 (.app 1 (t 6) (t 7))<|cl 9 121 [t 8,.k (.str [95])]<|ob 10 .cat (.k (.str [115])) (t 9)<|om 4 10<|N) [0,1,5,6,7,8,9,10])<|.ret
theorem ok62:FT 62 11 ir62 [.tmp 4]:=.o Tryz.func62
def JSm:Ic:=q (R (ok 4 (.k (.str []))<|N) [4])<|q (.reg (ok 5 (.k (.nil 1))<|N))<|q (q (R (om 8 0<|oh 9 8<|oz 10 0<|N) [0])<|D (.block 0<|.loop (q (.reg (ot 11 .lss 10 9<|N))<|q (D (I 11 S (E 0)) [11])<|q (D (.block 1<|q (R (oa false 12 1 8 10<|ol 13 12<|om 7 13<|N) [12,13])<|R (om 14 5<|om 15 7<|cl 16 198 [t 15]<|oo 17 (.bls 1 [t 16])<|oo 18 (.app 1 (t 14) (t 17))<|om 5 18<|N) [7,14,15,16,17,18]) [])<|R (oi 19 .add 10 1<|om 10 19<|N) [19])) [8,9,10,11,7])<|q (R (om 20 5<|om 21 1<|cl 22 199 [t 20,t 21]<|om 4 22<|N) [1,5,20,21,22])<|.ret
theorem JSn:FT 121 23 JSm [.tmp 4]:=.o Tryz.func121
end Go.Proofs
namespace Go.Proofs
open Go Av
mutual
def JAz:Ste→Bool
 |.mk _ k _ _ _ _ _ _ _ _ b=>(k==13||k==14)||((k==11||k==12)&&(decide (0<b.length)&&JF3 b))
def JF3:List Brn→Bool
 |[]=>true
 |b::r=>JDn b&&JF3 r
def JDn:Brn→Bool
 |.mk _ s=>Up s
def Up:List Ste→Bool
 |[]=>false
 |[x]=>JAz x
 |_::y::r=>Up (y::r)
end
theorem JO9(s:Ste):JAz s=((s.kind==13||s.kind==14)||((s.kind==11||s.kind==12)&&(decide (0<s.branches.length)&&JF3 s.branches))):=by cases s;simp only[JAz,Ste.kind,Ste.branches];try rfl
theorem JRK(b:Brn):JDn b=Up b.steps:=by cases b;simp only[JDn,Brn.steps]
theorem JIN:∀l:List Brn,JF3 l= !(l.any fun b=> !JDn b)
 |[]=>rfl
 |b::r=>by simp only[JF3,List.any_cons,JIN r];cases JDn b<;>simp
theorem JE5:∀(l:List Ste) (h:0<l.length),Up l=JAz (l[l.length-1]'oM)
 |[x],_=>by simp[Up]
 |_::y::r,_=>by
  rw[Up,JE5 (y::r) sP];simp
theorem JPA(l:List Ste)(h:∀x∈l,PT 113 [JJ x] (.d (.bool (JAz x)))):PT 69 [.list 11 (l.map JJ)] (.d (.bool (Up l))):=by
 refine J3.Jg ok69.has fun hfit=>?_
 have hl:l.length≤68719476736:=by have:=(hfit _ (Vh)).1;simpa using this
 refine ok69.pc ?_;simp only[go_sem,ir69,Vc,simprocAttr];refine XH (Up l) (fun hp=>?_) ?_
 ·have hpos:0<l.length:=by have:=of_decide_eq_true hp;omega
  have hlt:l.length-1<l.length:=oM;have hx:=Zt hlt;have hc:=(h l[l.length-1] (Vk _)).call trivial;have hw:IntKind.i64.wrap ((l.length:Int)-1)=((l.length-1:Nat):Int):=by rw[wrap64 oM oM];omega
  rw[←JE5 l hpos]at hc;rw[JW]at hc;simp only[go_sem,hw,hx,Vv,Vc,simprocAttr];refine⟨oM,wn hc ?_⟩;exact zz trivial
 ·have e:(decide ((l.length:Int)>0)&&Up l)=Up l:=by
   cases l with
   |nil=>simp[Up]
   |cons x r=>simp<;>omega
  simp only[go_sem,e,simprocAttr]
theorem JRL(b:Brn)(h:PT 69 [.list 11 (b.steps.map JJ)] (.d (.bool (Up b.steps)))):PT 197 [J5 b] (.d (.bool (!JDn b))):=by
 refine ok197.pc ?_;have hc:=h.call trivial;rw[X6,JRK];simp only[go_sem,JSl,simprocAttr];refine wc hc trivial
theorem JRM(s:Ste)(h:∀b∈s.branches,PT 197 [J5 b] (.d (.bool (!JDn b)))):PT 113 [JJ s] (.d (.bool (JAz s))):=by
 refine J3.Jg JSk.has fun hfit=>?_
 have hl:s.branches.length≤68719476736:=by
  have:=hfit _ (Vh);rw[JW]at this;simp only[fits,Ua,Vc]at this;omega
 refine JSk.pc ?_;have hc:=(JQw (cs:=[]) s.branches h hl).call trivial;have e:=JIN s.branches;generalize hE:JAz s=E;rw[JO9]at hE;rw[JW];simp only[go_sem,JSj,Vc,simprocAttr];generalize(s.kind==13)=k13 at*;generalize(s.kind==14)=k14 at*;generalize(s.kind==11)=k11 at*;generalize(s.kind==12)=k12 at*;have fin:∀(b:Bool),(b=true→JF3 s.branches=true∧0<s.branches.length)→True:=fun _ _=>trivial
 have rest:k13=false→k14=false→(k11||k12)=true→(decide ((s.branches.length:Int)>0)&& !(s.branches.any fun b=> !JDn b))=E:=by
  intro a b c;rw[←hE,a,b,←e];simp only[Bool.or_self,Bool.false_or,c,Vt];congr 1;exact decide_eq_decide.2 oM
 cases k13 with
 |true=>simp at hE;subst hE;simp only[go_sem,simprocAttr]
 |false=>
  cases k14 with
  |true=>simp at hE;subst hE;simp only[go_sem,simprocAttr]
  |false=>
   cases k11 with
   |true=>
    have rest:=rest rfl rfl rfl;refine zz ?_;refine sq (!(s.branches.any fun b=> !JDn b)) ?_ ?_
    ·refine zz ?_;refine wc hc trivial
    ·simp only[go_sem,rest,simprocAttr]
   |false=>
    cases k12 with
    |true=>
     have rest:=rest rfl rfl rfl;refine zz ?_;refine sq (!(s.branches.any fun b=> !JDn b)) ?_ ?_
     ·refine zz ?_;refine wc hc trivial
     ·simp only[go_sem,rest,simprocAttr]
    |false=>simp at hE;subst hE;simp only[go_sem,simprocAttr]
mutual
theorem p113:∀(s:Ste),PT 113 [JJ s] (.d (.bool (JAz s)))
 |.mk n k u t l x c e r a b=>JRM _ (JSp b)
theorem JSo:∀(l:List Ste),∀x∈l,PT 113 [JJ x] (.d (.bool (JAz x)))
 |[],x,h=>by cases h
 |v::r,x,h=>by
  by_cases e:x=v
  ·rw[e];exact p113 v
  ·exact JSo r x ((VA.1 h).resolve_left e)
theorem p197:∀(b:Brn),PT 197 [J5 b] (.d (.bool (!JDn b)))
 |.mk w s=>JRL _ (JPA s (JSo s))
theorem JSp:∀(l:List Brn),∀x∈l,PT 197 [J5 x] (.d (.bool (!JDn x)))
 |[],x,h=>by cases h
 |v::r,x,h=>by
  by_cases e:x=v
  ·rw[e];exact p197 v
  ·exact JSp r x ((VA.1 h).resolve_left e)
end
theorem p69(l:List Ste):PT 69 [.list 11 (l.map JJ)] (.d (.bool (Up l))):=JPA l fun x _=>p113 x
mutual
def cntS:Ste→Int→Int
 |.mk _ _ _ _ _ _ _ _ _ _ b,n=>JMC b n
def ZL:List Ste→Int→Int
 |[],n=>n
 |x::y,n=>ZL y (cntS x n)
def cnB:Brn→Int→Int
 |.mk _ l,n=>IntKind.i64.wrap (n+ZL l l.length)
def JMC:List Brn→Int→Int
 |[],n=>n
 |x::y,n=>JMC y (cnB x n)
end
theorem cnS_eq(x:Ste)(n:Int):cntS x n=JMC x.branches n:=by cases x;simp only[cntS,Ste.branches]
theorem cnB_eq(x:Brn)(n:Int):cnB x n=IntKind.i64.wrap (n+ZL x.steps x.steps.length):=by cases x;simp only[cnB,Brn.steps]
def JMD(l:List Ste):Prop:=PT 111 [.list 11 (l.map JJ)] (.d (.int .i64 (ZL l l.length)))
theorem JKo(l:List Ste)(h:∀x∈l,∀b∈x.branches,JMD b.steps):JMD l:=by
 refine J3.Jg JR3.has fun hfit=>?_
 have hl:l.length≤68719476736:=by have:=(hfit (.list 11 (l.map JJ)) sP).1;simpa using this
 have hfs:∀x∈l,x.branches.length≤68719476736:=by
  intro x hxm;have:=UQ.1 (hfit (.list 11 (l.map JJ)) sP).2 _ (VC.2 ⟨x,hxm,rfl⟩);rw[JW]at this;simp only[fits,Ua,Vc]at this;omega
 clear hfit;refine JR3.pc ?_;generalize hR:ZL l l.length=R;simp only[go_sem,JR2,Vv,Vc,Nat.reduceAdd,Nat.reduceEqDiff,Nat.reduceBEq,Nat.reduceLeDiff,reduceCtorEq,↓reduceIte];refine JH (fun n s=>∃(k:Nat) (z:Int) (y:Int),k≤l.length∧n=l.length-k∧ZL (l.drop k) z=R∧
  s=⟨[(0,.d (.list 11 (l.map JJ))),(3,.d (.int .i64 z)),(4,.d (.int .i64 k))],[]⟩) ?_ ?_
 ·refine⟨_,_,Wk.less ?_,0,l.length,0,Nat.zero_le _,rfl,by simpa using hR,rfl⟩;simp[go_sem]
 ·rintro n s ⟨k,z,y,hk,rfl,hinv,rfl⟩;by_cases hlt:k<l.length
  ·have hd:=dT hlt;have hn:=Zt hlt;have hbr:=hfs _ (Vk hlt);have hV:=h _ (Vk hlt);rw[Vq hlt,ZL,cnS_eq]at hinv;generalize l[k]=x at*;simp only[go_sem,hd,Vv,Vc,Nat.reduceAdd,Nat.reduceEqDiff,Nat.reduceBEq,Nat.reduceLeDiff,reduceCtorEq,↓reduceIte];refine JH (fun n s=>∃(j:Nat) (q:Int),j≤x.branches.length∧n=x.branches.length-j∧ZL (l.drop (k+1)) (JMC (x.branches.drop j) q)=R∧
    s=⟨[(0,.d (.list 11 (l.map JJ))),(3,.d (.int .i64 q)),(4,.d (.int .i64 k)),(5,.d (.int .i64 j))],[]⟩) ?_ ?_
   ·refine⟨_,_,Wk.less ?_,0,z,Nat.zero_le _,rfl,by simpa using hinv,rfl⟩;simp[go_sem]
   ·rintro n s ⟨j,q,hj,rfl,hinv2,rfl⟩;by_cases hjl:j<x.branches.length
    ·have hdj:decide ((j:Int)<(x.branches.length:Int))=true:=sO;have hnb:=Ya hjl;have hc:=(hV _ (Vk hjl)).call trivial;rw[Vq hjl,JMC,cnB_eq]at hinv2;generalize x.branches[j]=b at*;simp only[Va,Vb]at hc;simp only[go_sem,hn,hnb,hdj,Vv,Vc,Nat.reduceAdd,Nat.reduceEqDiff,Nat.reduceBEq,Nat.reduceLeDiff,reduceCtorEq,↓reduceIte];refine⟨oM,dC,oM,dC,oM,dC,?_⟩;refine wn hc ?_;simp only[go_sem,Vv,Vc,Nat.reduceAdd,Nat.reduceEqDiff,Nat.reduceBEq,Nat.reduceLeDiff,reduceCtorEq,↓reduceIte];refine⟨x.branches.length-(j+1),_,oM,Wk.less ?_,j+1,_,oM,rfl,hinv2,rfl⟩;simp only[go_sem,JE j oM,Vv,Vc,Nat.reduceAdd,Nat.reduceEqDiff,Nat.reduceBEq,Nat.reduceLeDiff,reduceCtorEq,↓reduceIte]
    ·have hdj:decide ((j:Int)<(x.branches.length:Int))=false:=sO;obtain rfl:j=x.branches.length:=oM;rw[List.drop_length,JMC]at hinv2;simp only[go_sem,hn,hdj,Vv,Vc,Nat.reduceAdd,Nat.reduceEqDiff,Nat.reduceBEq,Nat.reduceLeDiff,reduceCtorEq,↓reduceIte];refine⟨oM,dC,l.length-(k+1),_,oM,Wk.less ?_,k+1,q,0,oM,rfl,hinv2,rfl⟩;simp only[go_sem,JE k oM,Vv,Vc,Nat.reduceAdd,Nat.reduceEqDiff,Nat.reduceBEq,Nat.reduceLeDiff,reduceCtorEq,↓reduceIte]
  ·have hd:=dF hlt;obtain rfl:k=l.length:=oM;rw[List.drop_length,ZL]at hinv;subst hinv;simp only[go_sem,hd,Vv,Vc,Nat.reduceAdd,Nat.reduceEqDiff,Nat.reduceBEq,Nat.reduceLeDiff,reduceCtorEq,↓reduceIte]
mutual
theorem JPB:∀(l:List Ste),∀x∈l,∀b∈x.branches,JMD b.steps
 |[],x,h,_,_=>by cases h
 |v::q,x,h,b,hb=>by
  by_cases e:x=v
  ·rw[e]at hb;exact v157S v b hb
  ·exact JPB q x ((VA.1 h).resolve_left e) b hb
theorem v157S:∀(x:Ste),∀b∈x.branches,JMD b.steps
 |.mk n k u t l x c e ru a bs=>JPC bs
theorem JPC:∀(l:List Brn),∀b∈l,JMD b.steps
 |[],b,h=>by cases h
 |v::q,b,h=>by
  by_cases e:b=v
  ·rw[e];exact v157B v
  ·exact JPC q b ((VA.1 h).resolve_left e)
theorem v157B:∀(b:Brn),JMD b.steps
 |.mk w s=>JKo s (JPB s)
end
theorem JRN(l:List Ste):PT 111 [.list 11 (l.map JJ)] (.d (.int .i64 (ZL l l.length))):=JKo l (JPB l)
structure S3 where
 k:Int
 a:Int
 b:Int
def JAG(x:S3):Dat:=UL x.k x.a x.b
def JE6(x:S3):Prop:=0≤x.k∧x.k≤255∧0≤x.a∧x.a≤255∧0≤x.b∧x.b≤255
def mdS(x:S3)(now:Str):Ste×Str:=UU (brS x.k x.a x.b now) x.k x.a x.b now
theorem JME(br:Ste)(k a b:Int)(now:Str)(h:now.length≤1000):(UU br k a b now).2.length≤1000:=by
 unfold UU
 repeat' split
 all_goals first|exact h|exact(show 4≤1000 by decide)
theorem JPD(x:S3)(now:Str)(h:JE6 x)(hn:now.length≤1000):PT 112 [JAG x,.str now,.bool true] (.tup [.d (JJ (mdS x now).1),.d (.str (mdS x now).2)]):=
 JKn _ _ _ _ _ _ h.1 h.2.2.1 h.2.2.2.1 h.2.2.2.2.1 h.2.2.2.2.2 (JRJ x.k x.a x.b now h.1 h.2.2.1 h.2.2.2.1 h.2.2.2.2.1 h.2.2.2.2.2 hn)
def rtR:List S3→Nat→List Ste→Str→S3→List Ste
 |[],_,out,now,last=>out++[toS now last.a]
 |x::r,i,out,now,last=>if(decide ((i:Int)<6)&&decide (ZL out out.length<16))then(if JAz (mdS x now).1 then out++[(mdS x now).1]else rtR r (i+1) (out++[(mdS x now).1]) (mdS x now).2 x)else out++[toS now last.a]
theorem JPE{xs:List S3}{k:Nat}(h:k<xs.length):nth (xs.map JAG) k=.agg [.int .u8 xs[k].k,.int .u8 xs[k].a,.int .u8 xs[k].b]:=JN JAG h
theorem walk55(l:List S3)(h:∀x∈l,JE6 x):PT 55 [.list 3 (l.map JAG)] (.d (.list 11 ((rtR l 0 [] ZK ⟨0,0,0⟩).map JJ))):=by
 refine J3.Jg ok55.has fun hfit=>?_
 have hl:l.length≤68719476736:=by have:=(hfit (.list 3 (l.map JAG)) sP).1;simpa using this
 clear hfit;refine ok55.pc ?_;generalize hR:rtR l 0 [] ZK ⟨0,0,0⟩=R;simp only[go_sem,ir55,Vv,Vc,simprocAttr];refine JH (fun n s=>∃(k:Nat) (out:List Ste) (now:Str) (z:S3),k≤l.length∧n=l.length-k∧rtR (l.drop k) k out now z=R∧out.length=k∧now.length≤1000∧k≤6∧
  s=⟨[(0,.d (.list 3 (l.map JAG))),(3,.ms 37 k),(4,.d (.str now)),(5,.ref 5 0),(6,.d (.int .i64 k))],[(5,.box [.d (.int .u8 z.k),.d (.int .u8 z.a),.d (.int .u8 z.b)]),(37,.row k 11 (out.map JJ))]⟩) ?_ ?_
 ·refine⟨_,_,(Wk.JHJ 3 37 11 rfl rfl dC).trans (Wk.less ?_),0,[],ZK,⟨0,0,0⟩,Nat.zero_le _,rfl,by simpa using hR,rfl,dC,oM,rfl⟩;simp[put,go_sem]
 ·rintro n s ⟨k,out,now,z,hk,rfl,hinv,ho,hnow,hk6,rfl⟩;by_cases hlt:k<l.length
  ·have hd:=dT hlt;have hn:=JPE hlt;have hok:=h _ (Vk hlt);rw[Vq hlt,rtR]at hinv;generalize hX:l[k]=x at*;have cM:=(JPD x now hok hnow).call (by simp[XE]);have cE:=(p113 (mdS x now).1).call trivial;have cT:=(JGq now z.k z.a z.b hnow).call trivial;have hcl:JI (out.map JJ++[JJ (toS now z.a)])=out.map JJ++[JJ (toS now z.a)]:=by
    have:=Xu (out++[toS now z.a]);rwa[Vw]at this
   rw[JW (toS now z.a)]at hcl;have hcn:PT 111 ([Dat.list 11 (out.map JJ)].map Dat.canon) (.d (.int .i64 (ZL out out.length))):=by
    simpa only[Va,Vb,Dat.canon,Xu]using JRN out
   have cB:CT 111 [.ms 37 k] [(37,some (.row k 11 (out.map JJ)))] (.d (.int .i64 (ZL out out.length))) []:=
    hcn.borrow rfl (p:=k=k∧True) (u:=[(37,.frz k 11 (out.map JJ))]) (fun H hH=>by simp only[Jo,XO,Uz,hH (37,_) (Vh),List.append_nil]) ⟨rfl,trivial⟩
   have hnx:=JME (brS x.k x.a x.b now) x.k x.a x.b now hnow;rw[show UU (brS x.k x.a x.b now) x.k x.a x.b now=mdS x now from rfl]at hnx;generalize hM:mdS x now=M at*;obtain⟨s,nx⟩:=M;simp only[JAG,UL,Va,Vb]at cM cE cT;rw[JW s]at cM cE;rw[JW (toS now z.a)]at cT;simp only[go_sem,hd,Vv,Vc,simprocAttr];refine sq (decide (ZL out out.length<16)) ?_ ?_
   ·simp only[go_sem,Vv,Vc,simprocAttr];refine wn cB ?_;simp only[go_sem,Vv,Vc,simprocAttr]
   ·cases hq:(decide ((k:Int)<6)&&decide (ZL out out.length<16))
    ·simp only[go_sem,hq,Vu,Vv,Vc,simprocAttr];refine wn cT ?_;simp only[go_sem,Vv,Vc,simprocAttr];refine⟨sP,oM,?_⟩;simp only[hq,Vu,if_false]at hinv;rw[hcl,←hinv,Vw,Va,Vb,←JW]
    ·simp only[go_sem,hq,hn,Vv,Vc,simprocAttr];refine⟨oM,?_⟩;refine wn cM ?_;simp only[go_sem,hn,Vv,Vc,simprocAttr];refine⟨sP,oM,oM,rfl,?_⟩;refine wn cE ?_;simp only[go_sem,Vv,Vc,simprocAttr];simp only[Vi,decide_eq_true_eq]at hq;simp only[hq.1,hq.2,if_true,decide_true,Bool.and_true]at hinv;cases he:JAz s
     ·simp only[go_sem,he,Vu,Vv,Vc,simprocAttr];simp only[he,Vu,if_false]at hinv;refine⟨l.length-(k+1),_,oM,Wk.less ?_,k+1,out++[s],nx,x,oM,rfl,hinv,by simp[ho],hnx,oM,rfl⟩;rw[Vw];simp only[go_sem,JE k oM,Va,Vb,JW s,Vv,Vc,simprocAttr]
     ·simp only[go_sem,he,Vv,Vc,simprocAttr];simp only[he,if_true]at hinv;have hcs:JI (out.map JJ++[JJ s])=out.map JJ++[JJ s]:=by
       have:=Xu (out++[s]);rwa[Vw]at this
      rw[←JW,hcs,←hinv,Vw,Va,Vb]
  ·have hd:=dF hlt;obtain rfl:k=l.length:=oM;have cT:=(JGq now z.k z.a z.b hnow).call trivial;rw[List.drop_length,rtR]at hinv;subst hinv;rw[Vw];simp only[UL,Va,Vb]at cT⊢;have hcl:JI (out.map JJ++[JJ (toS now z.a)])=out.map JJ++[JJ (toS now z.a)]:=by
    have:=Xu (out++[toS now z.a]);rwa[Vw]at this
   rw[JW (toS now z.a)]at cT hcl⊢;simp only[go_sem,hd,Vv,Vc,simprocAttr];refine wn cT ?_;simp only[go_sem,Vv,Vc,simprocAttr];exact⟨sP,oM,by rw[hcl]⟩
end Go.Proofs
namespace Av
open Go
variable [Glb]
variable {xs:List Dat}{k:Nat}{x:Dat}
def Pos:Dat→List (Nat×Nat)→Nat→Nat→Prop
 |.own _ xs,[],k,c=>∃cs,xs[k]? =some (.agg cs)∧c<cs.length
 |.own _ xs,(k',c')::p,k,c=>∃cs y,xs[k']? =some (.agg cs)∧cs[c']? =some y∧Pos y p k c
 |_,_,_,_=>False
theorem getD_some(h:xs[k]? =some x):xs.getD k .opq=x:=by simp[List.getD,h]
theorem YL{y:Dat}(h:xs[k]? =some x):(xs.set k y)[k]? =some y:=by
 have:=(VB.1 h).1;rw[List.getElem?_set_self this]
theorem Zg(h:xs[k]? =some x):xs.set k x=xs:=by
 obtain⟨h1,rfl⟩:=VB.1 h;exact List.set_getElem_self h1
theorem JIO(sz:Nat)(xs:List Dat)(p:List (Nat×Nat))(k c:Nat)(y:Dat): .own sz (JCs (setAt (.own sz xs) p k c y))=setAt (.own sz xs) p k c y:=by
 cases p with
 |nil=>rfl
 |cons a p=>obtain⟨k',c'⟩:=a;rfl
theorem Xm:∀{p:List (Nat×Nat)} {x:Dat} {k c:Nat},Pos x p k c→∀(R:Dat) (q:List (Nat×Nat)),nodeAt (setAt x p k c R) (p++(k,c)::q)=nodeAt R q
 |[],.own sz xs,k,c,h,R,q=>by
  obtain⟨cs,h1,h2⟩:=h;simp only[List.nil_append,setAt,getD_some h1,U3,nodeAt,cellAt,YL h1,Option.bind_some,Dat.cells];rw[List.getElem?_set_self h2]
 |(k',c')::p,.own sz xs,k,c,h,R,q=>by
  obtain⟨cs,y,h1,h2,h3⟩:=h;have hc:=(VB.1 h2).1;simp only[List.cons_append,setAt,getD_some h1,U3,nodeAt,cellAt,YL h1,Option.bind_some,Dat.cells];rw[List.getElem?_set_self hc];simp only[getD_some h2];exact Xm h3 R q
theorem JDE:∀{p:List (Nat×Nat)} {x:Dat} {k c:Nat},Pos x p k c→∀(R:Dat) (q:List (Nat×Nat)) (j o:Nat) (y:Dat),setAt (setAt x p k c R) (p++(k,c)::q) j o y=setAt x p k c (setAt R q j o y)
 |[],.own sz xs,k,c,h,R,q,j,o,y=>by
  obtain⟨cs,h1,h2⟩:=h;simp only[List.nil_append,setAt,getD_some h1,U3,getD_some (YL h1),Dat.cells];rw[getD_some (YL (Vl h2)),List.set_set,List.set_set]
 |(k',c')::p,.own sz xs,k,c,h,R,q,j,o,y=>by
  obtain⟨cs,z,h1,h2,h3⟩:=h;simp only[List.cons_append,setAt,getD_some h1,U3,getD_some (YL h1),Dat.cells,getD_some h2];rw[getD_some (YL h2),List.set_set,List.set_set,JDE h3]
theorem JKp:∀{p:List (Nat×Nat)} {x:Dat} {k c:Nat},Pos x p k c→∀(R:Dat) (q:List (Nat×Nat)) (j o:Nat),Pos R q j o→Pos (setAt x p k c R) (p++(k,c)::q) j o
 |[],.own sz xs,k,c,h,R,q,j,o,hq=>by
  obtain⟨cs,h1,h2⟩:=h;simp only[List.nil_append,setAt,getD_some h1,U3];exact⟨cs.set c R,R,YL h1,YL (Vl h2),hq⟩
 |(k',c')::p,.own sz xs,k,c,h,R,q,j,o,hq=>by
  obtain⟨cs,z,h1,h2,h3⟩:=h;simp only[List.cons_append,setAt,getD_some h1,U3,getD_some h2,Dat.cells];exact⟨cs.set c' (setAt z p k c R),_,YL h1,YL h2,JKp h3 R q j o hq⟩
theorem JE7:∀{p:List (Nat×Nat)} {x:Dat} {k c:Nat},Pos x p k c→∀{R:Dat},nodeAt x (p++[(k,c)])=some R→setAt x p k c R=x
 |[],.own sz xs,k,c,h,R,hR=>by
  obtain⟨cs,h1,h2⟩:=h;simp only[List.nil_append,nodeAt,cellAt,h1,Option.bind_some,Dat.cells,Vl h2]at hR;have e:cs[c]=R:=by
   generalize cs[c]=y at hR;cases y<;>simp[nodeAt]at hR<;>exact hR
  simp only[setAt,getD_some h1,U3];rw[←e,List.set_getElem_self,Zg h1]
 |(k',c')::p,.own sz xs,k,c,h,R,hR=>by
  obtain⟨cs,z,h1,h2,h3⟩:=h;simp only[List.cons_append,nodeAt,cellAt,h1,Option.bind_some,Dat.cells,h2]at hR;simp only[setAt,getD_some h1,U3,Dat.cells,getD_some h2];rw[JE7 h3 hR,Zg h2,Zg h1]
section
variable [Rls]
theorem Con.JQD{P:Program}{f:Nat}{ds:List Dat}{x a1 b1 s1:Nat}{X:List Dat}{v:Av}(h:Con P f (ds.map .d) [] v [(x,.tre a1 b1 s1 X)])
  (hv:inT (JC (get []) [(x,.tre a1 b1 s1 X)]) v)(i:Nat):JR P f (ds.map .d) [(i,none)] (v.ren fun _=>i) [(i,.tre a1 b1 s1 X)]:=by
 have hput:∀n,(JC (get []) [(x,Obj.tre a1 b1 s1 X)] n).isSome=true→n=x:=by
  intro n;simp only[JC,upd,get];by_cases h2:n=x
  ·subst h2;simp
  ·simp[h2]
 have:=Con.call h (fun _=>i) (by intro n h;cases h) (by
   intro m n hm hn e;rw[hput m hm,hput n hn]) (by intro c hc;obtain⟨d,_,rfl⟩:=VC.1 hc;trivial) (by intro n o h;cases h) [x] (by
   intro e he;simp only[VA,List.not_mem_nil,or_false]at he;subst he;exact .inr sP) (by
   intro n o hn;simp only[JC,upd,get]at hn;split at hn
   ·cases hn;trivial
   ·cases hn) hv
 have e0:(ds.map Av.d).map (Av.ren fun _=>i)=ds.map .d:=by simp[Av.ren]
 simp only[e0,Va,Vb,Obj.ren,List.nil_append]at this;exact this
theorem Con.JLD{P:Program}{f:Nat}{ds:List Dat}{y:Dat}(h:Con P f (ds.map .d) [] (.d y) []):JR P f (ds.map .d) [] (.d y) []:=by
 have:=Con.call h (fun i=>i) (by intro n h;cases h) (by intro m n hm;cases hm) (by intro c hc;obtain⟨d,_,rfl⟩:=VC.1 hc;trivial) (by intro n o h;cases h) [] (by intro e he;cases he) (by intro n o hn;cases hn) trivial;have e0:(ds.map Av.d).map (Av.ren fun i=>i)=ds.map .d:=by simp[Av.ren]
 simp only[e0,Vb,List.append_nil]at this;exact this
end
end Av
namespace Go.Proofs
open Go Av
open Av.Y
end Go.Proofs
namespace Go.Proofs
open Go Av
open Av.Y
end Go.Proofs
namespace Go.Proofs
open Go Av
open Av.Y
def ir78:Ic:=q (R (ok 2 (.k (.nil 1))<|N) [2])<|q (q (R (om 3 0<|oo 4 (.nilq false false (t 3))<|N) [3])<|D (I 4 (q (R (ok 2 (.k (.nil 1))<|N) [0,4])<|.ret) S) [4])<|q (R (oo 5 (.bls 1 [])<|om 6 0<|oo 7 (.app 1 (t 5) (t 6))<|om 2 7<|N) [0,5,6,7])<|.ret
theorem ok78:FT 78 8 ir78 [.tmp 2]:=.o Tryz.func78
def ir59:Ic:=q (R (ox 3 1<|N) [1])<|q (.reg (oN 4 [.nil 1]<|N))<|q (.reg (oN 5 [.nilFn]<|N))<|q (R (oo 6 (.fnv (.func 120) [] [t 4,t 3,t 5])<|os 5 6<|N) [3,4,6])<|R (ol 7 5<|om 8 0<|.call (some 9) (.dyn (t 7)) [t 8] N) [0,5,7,8,9]
theorem ok59:FT 59 10 ir59 []:=.o Tryz.func59
def JKq:Ic:=q (R (om 7 0<|oh 8 7<|oz 9 0<|N) [7])<|D (.block 0<|.loop (q (.reg (ot 10 .lss 9 8<|N))<|q (D (I 10 S (E 0)) [10])<|q (D (.block 1<|q (R (om 11 9<|om 5 11<|N) [11])<|q (R (ol 12 1<|om 13 5<|oo 14 (.bls 1 [t 13])<|oo 15 (.app 1 (t 12) (t 14))<|os 1 15<|N) [12,13,14,15])<|q (R (ol 16 2<|ol 17 1<|om 18 0<|om 19 5<|oa true 20 11 18 19<|.call (some 21) (.dyn (t 16)) [t 17,t 20] N) [16,17,18,19,20,21])<|q (q (R (om 22 0<|om 23 5<|oa true 24 11 22 23<|of 25 24 10<|ol 26 25<|oh 27 26<|oz 28 0<|N) [22,23,24,25,26])<|D (.block 2<|.loop (q (.reg (ot 29 .lss 28 27<|N))<|q (D (I 29 S (E 2)) [29])<|q (D (.block 3<|q (R (om 30 28<|om 6 30<|N) [30])<|q (R (ol 31 1<|om 32 6<|oo 33 (.bls 1 [t 32])<|oo 34 (.app 1 (t 31) (t 33))<|os 1 34<|N) [31,32,33,34])<|q (R (ol 35 3<|om 36 0<|om 37 5<|oa true 38 11 36 37<|of 39 38 10<|ol 40 39<|om 41 6<|oa true 42 2 40 41<|of 43 42 1<|ol 44 43<|.call (some 45) (.dyn (t 35)) [t 44] N) [6,35,36,37,38,39,40,41,42,43,44,45])<|R (ol 46 1<|ol 47 1<|oh 48 47<|oi 49 .sub 48 1<|oo 50 (.slc 1 (t 46) none (some (t 49)) none)<|os 1 50<|N) [46,47,48,49,50]) [])<|R (oi 51 .add 28 1<|om 28 51<|N) [51])) [5,27,28,29,6])<|R (ol 52 1<|ol 53 1<|oh 54 53<|oi 55 .sub 54 1<|oo 56 (.slc 1 (t 52) none (some (t 55)) none)<|os 1 56<|N) [52,53,54,55,56]) [])<|R (oi 57 .add 9 1<|om 9 57<|N) [57])) [0,8,9,10,11,5,6]
theorem JIP:FT 120 58 JKq []:=.o Tryz.func120
def JSq:Ic:=D (.regd [(0,3),(1,3),(3,6),(0,7),(1,7),(0,9)] (ol 6 2<|ol 7 3<|om 8 0<|cl 9 78 [t 8]<|om 10 1<|oc 11 10<|oL 12 11 11<|cl 13 58 [t 12]<|oo 14 (.bld [.int .i64 0,.nil 1,.str [],.int .i64 0,.int .i64 0,.int .i64 0,.int .i64 0,.str [],.str [],.nil 5,.nil 6,.nil 2,.nil 2] [(0,1,t 7),(1,1,t 9),(2,11,t 13)])<|oo 15 (.bls 13 [t 14])<|oo 16 (.app 13 (t 6) (t 15))<|os 2 16<|N)) [0,1,6,7,8,9,10,11,12,13,14,15,16]
theorem ok124:FT 124 17 JSq []:=.o Tryz.func124
def ir67:Ic:=q (R (ox 2 0<|ox 3 1<|ok 4 (.k (.nil 13))<|N) [0,1,4])<|q (.reg (oN 5 [.nil 13]<|N))<|q (R (of 6 2 4<|ol 7 6<|ol 8 3<|oa true 9 3 7 8<|of 10 9 2<|ol 11 10<|oo 12 (.fnv (.func 124) [] [t 5,t 3])<|cl 13 59 [t 11,t 12]<|N) [2,3,6,7,8,9,10,11,12,13])<|q (R (ol 14 5<|om 4 14<|N) [5,14])<|.ret
theorem ok67:FT 67 15 ir67 [.tmp 4]:=.o Tryz.func67
def ir29:Ic:=q (R (ox 1 0<|ok 2 (.k (.nil 13))<|N) [0,2])<|q (.reg (ok 3 (.k (.nil 13))<|N))<|q (q (R (of 5 1 4<|ol 6 5<|oh 7 6<|oz 8 0<|N) [5,6])<|D (.block 0<|.loop (q (.reg (ot 9 .lss 8 7<|N))<|q (D (I 9 S (E 0)) [9])<|q (D (.block 1<|q (R (om 10 8<|om 4 10<|N) [10])<|R (om 11 3<|oL 12 5 1<|om 13 4<|cl 14 67 [t 12,t 13]<|oo 15 (.app 13 (t 11) (t 14))<|om 3 15<|N) [4,11,12,13,14,15]) [])<|R (oi 16 .add 8 1<|om 8 16<|N) [16])) [1,7,8,9,10,4,11])<|q (R (om 17 3<|om 2 17<|N) [3,17])<|.ret
theorem ok29:FT 29 18 ir29 [.tmp 2]:=.o Tryz.func29
end Go.Proofs
namespace Go.Proofs
open Go Av
def Ys(l:List Exp):Dat:=match l with|[]=>.nil 5|_=>.list 5 (l.map JX)
theorem JPF{g:Nat}(l:List Exp)(hg:∀x∈l,J3 Tryz.prog g [JX x] (.d (JX x))):J3 Tryz.prog 115 [.list 5 (l.map JX),.fn (.func g) [] []] (.d (Ys l)):=by
  refine J3.Jg JIC.has fun hfit=>?_
  have hl:l.length≤68719476736:=by have:=(hfit _ (Vh)).1;simpa using this
  clear hfit
  by_cases hne:l=[]
  · subst hne
    refine JIC.con (k:=none) (Nat.le_of_ble_eq_true rfl) (by intro i o h;cases h) trivial ?_
    simp only[go_sem,JKe,Vb,Vm,Vv,Vc,Nat.reduceAdd,Nat.reduceEqDiff,Nat.reduceBEq,Nat.reduceLeDiff,reduceCtorEq,↓reduceIte]
    refine JH (fun n s=>s=⟨[(1,.d (.fn (.func g) [] [])),(5,.d (.nil 5)),(8,.d (.list 5 [])),(9,.d (.int .i64 0)),(10,.d (.int .i64 0))],[]⟩) ?_ ?_
    · exact⟨0,_,Wk.refl _,rfl⟩
    · rintro n s rfl
      simp only[go_sem,Int.lt_irrefl,decide_false,Vu,Ys,Vv,Vc,Nat.reduceAdd,Nat.reduceEqDiff,Nat.reduceBEq,Nat.reduceLeDiff,reduceCtorEq,↓reduceIte]
  · refine JIC.con (k:=none) (Nat.le_of_ble_eq_true rfl) (by intro i o h;cases h) trivial ?_
    have hr:Ys l=.list 5 (l.map JX):=by cases l with|nil=>exact absurd rfl hne|cons a b=>rfl
    rw[hr]
    simp only[go_sem,JKe,Vv,Vc,Nat.reduceAdd,Nat.reduceEqDiff,Nat.reduceBEq,Nat.reduceLeDiff,reduceCtorEq,↓reduceIte]
    refine JH (fun n s=>∃k:Nat,k≤l.length∧n=l.length-k∧
      s=⟨[(1,.d (.fn (.func g) [] [])),(5,.ms 19 k),(8,.d (.list 5 (l.map JX))),(9,.d (.int .i64 l.length)),(10,.d (.int .i64 k))],[(19,.row k 5 ((l.take k).map JX))]⟩) ?_ ?_
    · refine⟨_,_,(Wk.JHJ 5 19 5 rfl rfl (by decide)).trans (Wk.less ?_),0,Nat.zero_le _,rfl,rfl⟩
      simp[put,go_sem]
    · rintro n s ⟨k,hk,rfl,rfl⟩
      by_cases hlt:k<l.length
      · have hx:=JN JX hlt
        have hd:decide ((k:Int)<(l.length:Int))=true:=by simp;omega
        have hc:=(hg l[k] (Vk _)).call trivial
        simp only[Jl,Va,Vb]at hc hx
        simp only[go_sem,hx,hd,Vv,Vc,Nat.reduceAdd,Nat.reduceEqDiff,Nat.reduceBEq,Nat.reduceLeDiff,reduceCtorEq,↓reduceIte]
        refine⟨by omega,JU rfl hc trivial ?_⟩
        simp only[go_sem,Vv,Vc,Nat.reduceAdd,Nat.reduceEqDiff,Nat.reduceBEq,Nat.reduceLeDiff,reduceCtorEq,↓reduceIte]
        refine⟨by simp,by simp;omega,l.length-(k+1),_,by omega,Wk.less ?_,k+1,by omega,rfl,rfl⟩
        rw[List.take_succ_eq_append_getElem hlt,Vw]
        simp only[go_sem,JE k (by omega),Va,Vb,Jl,Vv,Vc,Nat.reduceAdd,Nat.reduceEqDiff,Nat.reduceBEq,Nat.reduceLeDiff,reduceCtorEq,↓reduceIte]
      · have hd:decide ((k:Int)<(l.length:Int))=false:=by simp;omega
        obtain rfl:k=l.length:=by omega
        simp only[go_sem,hd,List.take_length,Vv,Vc,Nat.reduceAdd,Nat.reduceEqDiff,Nat.reduceBEq,Nat.reduceLeDiff,reduceCtorEq,↓reduceIte]
def JE8(s:Ste):Dat:=.agg [.str s.name,.int .i64 s.kind,.int .i64 s.number,.int .i64 s.time,.int .i64 s.limit,.str s.text,.str s.schema,Ys s.exprs,.list 6 (s.rules.map Jz),.list 2 (s.calls.map JV),.list 2 (s.branches.map J5)]
theorem q106(s:Ste):J3 Tryz.prog 58 [JJ s] (.d (JE8 s)):=by
  refine JQu.con (k:=none) (Nat.le_of_ble_eq_true rfl) (by intro i o h;cases h) trivial ?_
  have h1:=(JPF s.exprs fun x _=>p84 x).call trivial
  have h2:=(p85 s.rules).call trivial
  have h3:=(JGp s.calls fun x _=>p117 x).call trivial
  have h4:=(JKl s.branches fun x hx=>JOz s.branches x hx).call trivial
  simp only[JD,Va,Vb]at h2
  have hcell:Dat.cells (Ys s.exprs)=[Ys s.exprs]∧Av.cells (.d (Ys s.exprs))=some [.d (Ys s.exprs)]:=by cases s.exprs<;>exact⟨rfl,rfl⟩
  obtain⟨g1,g2⟩:=hcell
  simp only[Dat.cells]at g1
  simp only[Av.cells]at g2
  unfold JE8
  generalize Ys s.exprs=E at*
  rw[JW]
  simp only[go_sem,JOu,Vv,Vc,Nat.reduceAdd,Nat.reduceEqDiff,Nat.reduceBEq,Nat.reduceLeDiff,reduceCtorEq,↓reduceIte]
  refine JU rfl h1 trivial ?_
  simp only[go_sem,g1,g2,Vv,Vc,Nat.reduceAdd,Nat.reduceEqDiff,Nat.reduceBEq,Nat.reduceLeDiff,reduceCtorEq,↓reduceIte]
  refine JU rfl h2 trivial ?_
  simp only[go_sem,Vv,Vc,Nat.reduceAdd,Nat.reduceEqDiff,Nat.reduceBEq,Nat.reduceLeDiff,reduceCtorEq,↓reduceIte]
  refine JU rfl h3 trivial ?_
  simp only[go_sem,Vv,Vc,Nat.reduceAdd,Nat.reduceEqDiff,Nat.reduceBEq,Nat.reduceLeDiff,reduceCtorEq,↓reduceIte]
  refine JU rfl h4 trivial ?_
  simp only[go_sem,Vv,Vc,Nat.reduceAdd,Nat.reduceEqDiff,Nat.reduceBEq,Nat.reduceLeDiff,reduceCtorEq,↓reduceIte]
def Xe(x:Wlk):Dat:=.agg [.int .i64 x.route,.list 1 (x.place.map (.int .i64)),.str x.step.name,.int .i64 x.step.kind,.int .i64 x.step.number,.int .i64 x.step.time,.int .i64 x.step.limit,.str x.step.text,.str x.step.schema,Ys x.step.exprs,.list 6 (x.step.rules.map Jz),.list 2 (x.step.calls.map JV),.list 2 (x.step.branches.map J5)]
end Go.Proofs
namespace Av
open Go
variable [Glb][Rls]
section
variable {β:JO}{A:Nat→Prop}{w:World}{H:Heap}{D:Nat→Prop}
theorem Stp.boxSee(hc:Core β A w H){b:Nat}{cs cs':List Av}(hb:H b=some (.box cs))(hl:cs'.length=cs.length)
  (h:∀(i:Nat) c c' u,cs[i]? =some c→cs'[i]? =some c'→VRep β A w H c u→VRep β A w H c' u):Stp β A w H β A w (upd H b (some (.box cs'))):=by
 obtain⟨bb,C,T,e1,e2,e3,e4,e5⟩:=hc.objs b _ hb;have hset:w.setRow bb C=w:=Xr e2;have hst2:=Stp.JDH (cs':=cs') (C':=C) hc hb e1 e2 oM e4 (fun hall i c' v hc' hv'=>by
  have hlt:i<cs.length:=by have:=(VB.1 hc').1;omega
  exact hall _ _ (h i _ c' v (Vl hlt) hc' (e5 i _ v (Vl hlt) hv')))
 rw[hset]at hst2;exact hst2
end
theorem JRO{α:Type}{cs:List α}{j:Nat}{x y:α}(hj:cs[j]? =some x){i:Nat}{c c':α}(h1:cs[i]? =some c)(h2:(cs.set j y)[i]? =some c'):(i=j∧c=x∧c'=y)∨c'=c:=by
 rw[List.getElem?_set]at h2;split at h2
 ·rename_i e;subst e;split at h2
  ·cases h2;rw[hj]at h1;cases h1;exact .inl ⟨rfl,rfl,rfl⟩
  ·cases h2
 ·rw[h1]at h2;cases h2;exact .inr rfl
theorem Wk.JMR{D:Nat→Prop}{st:St}(b j i ver sz:Nat)(xs:List Dat)(cs:List Av)(hb:get st.hp b=some (.box cs))(hj:cs[j]? =some (.ms i ver))(hi:get st.hp i=some (.row ver sz xs)):
  Wk D st ⟨st.tm,put st.hp b (.box (cs.set j (.sub i ver 0 xs.length)))⟩:=by
 refine Wk.JBr fun β A w a hc htr=>?_
 have hst:=Stp.boxSee (cs':=cs.set j (.sub i ver 0 xs.length)) hc hb sP (fun n c c' u h1 h2 hv=>by
  rcases JRO hj h1 h2 with⟨_,rfl,rfl⟩|rfl
  ·exact hv.JGH hi
  ·exact hv)
 have e:get (put st.hp b (.box (cs.set j (.sub i ver 0 xs.length))))=upd (get st.hp) b (some (.box (cs.set j (.sub i ver 0 xs.length)))):=by
  funext m;rw[UG];unfold upd;split<;>rfl
 refine⟨β,A,?_,?_⟩
 ·rw[e];exact hst
 ·rw[e];intro t v hv;obtain⟨u,q1,q2⟩:=htr t v hv;exact⟨u,q1,hst.vals _ _ q2⟩
end Av
namespace Go.Proofs
open Go Av
variable {d:Nat}
theorem con78(v:Nat)(a:Dat)(r:List Dat)(ha:a.canon=a)(hr:JI r=r)(hl:r.length<68719476736)(h1:∀x∈a::r,x.cells.length=1):
  KT 78 [.ms 1000 v] [(1000,.row v 1 (a::r))] (.d (.list 1 (a::r))) []:=by
 refine ok78.con (k:=some false) (Nat.le_of_ble_eq_true rfl) (J4 (by simp[Jf,J8])) trivial ?_;simp only[go_sem,ir78,Nat.reduceAdd,Nat.reduceEqDiff,Nat.reduceBEq,Nat.reduceLeDiff,reduceCtorEq,↓reduceIte];exact⟨sP,⟨dC,oM,fun y hy=>h1 y hy⟩,by rw[ha,hr]⟩
theorem call78(i v:Nat)(a:Int)(p:List Int)(hl:p.length<68719476736):CT (.fn 78) [.ms i v] [(i,some (.row v 1 (.int .i64 a::p.map (.int .i64))))] (.d (.list 1 (.int .i64 a::p.map (.int .i64)))) []:=by
 have h:=con78 v (.int .i64 a) (p.map (.int .i64)) (by simp[Dat.canon]) (XU p) (sX hl) (fun x hx=>by
  rcases VA.1 hx with rfl|hx
  ·rfl
  ·obtain⟨n,_,rfl⟩:=VC.1 hx;rfl)
 have:=h.call (fun _=>i) (fun j hj=>by simp only[Av.get]at hj;split at hj;omega;cases hj) (fun a b ha hb _=>by
   simp only[JC,Av.get]at ha hb;split at ha
   ·split at hb
    ·omega
    ·cases hb
   ·cases ha) (by intro c hc;simp only[List.mem_singleton]at hc;subst hc;simp[JS,Av.get]) (J4 (by simp[Jf,J8])) [] sP (Jr (by simp[U6,put,Jf,J8])) trivial
 simp[Av.ren,Obj.ren]at this;exact this
theorem con124(v w:Nat)(r a:Int)(p:List Int)(s:Ste)(outs:List Wlk)(hl:p.length<68719476736)(hw:outs.length<68719476736):
  KT 124 [.ms 1006 v,.d (.ptr (JJ s).cells),.ref 1004 0,.ref 1005 0] [(1004,.box [.ms 1007 w]),(1005,.box [.d (.int .i64 r)]),(1006,.row v 1 (.int .i64 a::p.map (.int .i64))),(1007,.row w 13 (outs.map Xe))] (.tup [])
   [(1004,.box [.ms 1007 (w+1)]),(1007,.row (w+1) 13 ((outs++[Wlk.mk r (a::p) s]).map Xe))]:=by
 refine ok124.con (k:=some false) (Nat.le_of_ble_eq_true rfl) (Jr (by simp[U6,put,Jf,J8,JT,JS,Av.get])) trivial ?_;have h1:=call78 1006 v a p hl;have h2:=(q106 s).call trivial;rw[JW]at h2⊢;simp only[JE8]at h2;simp only[go_sem,JSq,simprocAttr];refine JG rfl h1 ⟨rfl,trivial⟩ ?_;refine zz ?_;refine JG rfl h2 trivial ?_;simp only[go_sem,Vw,Xe,simprocAttr];exact⟨sP,sO,rfl⟩
abbrev PO:=Nat×List Int×List Wlk
mutual
def JFS(r:Int):Ste→Int→Nat→PO→PO
 |.mk n k u t l x c e ru a b,i,d,s=>X7 r b 0 (d+1) (s.1+1,s.2.1.take d++[i],s.2.2++[Wlk.mk r (s.2.1.take d++[i]) (.mk n k u t l x c e ru a b)])
def Uf(r:Int):List Ste→Int→Nat→PO→PO
 |[],_,_,s=>s
 |x::y,i,d,s=>Uf r y (i+1) d (JFS r x i d s)
def JFT(r:Int):Brn→Int→Nat→PO→PO
 |.mk w l,b,d,s=>Uf r l 0 (d+1) (s.1+1,s.2.1.take d++[b],s.2.2)
def X7(r:Int):List Brn→Int→Nat→PO→PO
 |[],_,_,s=>s
 |x::y,i,d,s=>X7 r y (i+1) d (JFT r x i d s)
end
theorem JKr(r:Int)(x:Ste)(i:Int)(d:Nat)(s:PO):JFS r x i d s=X7 r x.branches 0 (d+1) (s.1+1,s.2.1.take d++[i],s.2.2++[Wlk.mk r (s.2.1.take d++[i]) x]):=by
 cases x;simp only[JFS,Ste.branches]
theorem JKs(r:Int)(x:Brn)(i:Int)(d:Nat)(s:PO):JFT r x i d s=Uf r x.steps 0 (d+1) (s.1+1,s.2.1.take d++[i],s.2.2):=by
 cases x;simp only[JFT,Brn.steps]
def ZM(d:Nat)(s t:PO):Prop:=d≤t.2.1.length∧t.2.1.take d=s.2.1.take d
theorem ZM.refl{s:PO}(h:d≤s.2.1.length):ZM d s s:=⟨h,rfl⟩
theorem ZM.trans{s t u:PO}(h1:ZM d s t)(h2:ZM d t u):ZM d s u:=⟨h2.1,h2.2.trans h1.2⟩
theorem ZM.less{s t:PO}{i:Int}{v:Nat}{o:List Wlk}(hd:d≤s.2.1.length)(h:ZM (d+1) (v,s.2.1.take d++[i],o) t):ZM d s t:=by
 obtain⟨h1,h2⟩:=h;refine⟨oM,?_⟩;have h3:=congrArg (List.take d) h2;rw[List.take_take,List.take_take]at h3;have e:min d (d+1)=d:=oM;rw[e]at h3;simp only[]at h3;rw[h3,List.take_append_of_le_length sO,List.take_take,Nat.min_self]
mutual
theorem JF4(r:Int):∀(x:Ste) (i:Int) (d:Nat) (s:PO),d≤s.2.1.length→ZM d s (JFS r x i d s)
 |.mk n k u t l x c e ru a b,i,d,s,h=>by
  rw[JFS];exact ZM.less h (JE9 r b 0 (d+1) _ sO)
theorem JAH(r:Int):∀(x:List Ste) (i:Int) (d:Nat) (s:PO),d≤s.2.1.length→ZM d s (Uf r x i d s)
 |[],_,_,s,h=>.refl h
 |x::y,i,d,s,h=>(JF4 r x i d s h).trans (JAH r y (i+1) d _ (JF4 r x i d s h).1)
theorem JF5(r:Int):∀(x:Brn) (i:Int) (d:Nat) (s:PO),d≤s.2.1.length→ZM d s (JFT r x i d s)
 |.mk w l,i,d,s,h=>by
  rw[JFT];exact ZM.less h (JAH r l 0 (d+1) _ sO)
theorem JE9(r:Int):∀(x:List Brn) (i:Int) (d:Nat) (s:PO),d≤s.2.1.length→ZM d s (X7 r x i d s)
 |[],_,_,s,h=>.refl h
 |x::y,i,d,s,h=>(JF5 r x i d s h).trans (JE9 r y (i+1) d _ (JF5 r x i d s h).1)
end
mutual
theorem JPG(r:Int):∀(x:Ste) (i:Int) (d:Nat) (s:PO),(JFS r x i d s).2.2.length≤s.2.2.length+szS x
 |.mk n k u t l x c e ru a b,i,d,s=>by
  rw[JFS,szS];have:=JF6 r b 0 (d+1) (s.1+1,s.2.1.take d++[i],s.2.2++[Wlk.mk r (s.2.1.take d++[i]) (.mk n k u t l x c e ru a b)]);simp only[Vg,Vf,Vm]at this;omega
theorem JBH(r:Int):∀(x:List Ste) (i:Int) (d:Nat) (s:PO),(Uf r x i d s).2.2.length≤s.2.2.length+UC x
 |[],_,_,s=>by simp[Uf]
 |x::y,i,d,s=>by
  rw[Uf,UC];have h1:=JPG r x i d s;have h2:=JBH r y (i+1) d (JFS r x i d s);omega
theorem JPH(r:Int):∀(x:Brn) (i:Int) (d:Nat) (s:PO),(JFT r x i d s).2.2.length≤s.2.2.length+szB x
 |.mk w l,i,d,s=>by
  rw[JFT,szB];have:=JBH r l 0 (d+1) (s.1+1,s.2.1.take d++[i],s.2.2);simp only[]at this;omega
theorem JF6(r:Int):∀(x:List Brn) (i:Int) (d:Nat) (s:PO),(X7 r x i d s).2.2.length≤s.2.2.length+XX x
 |[],_,_,s=>by simp[X7]
 |x::y,i,d,s=>by
  rw[X7,XX];have h1:=JPH r x i d s;have h2:=JF6 r y (i+1) d (JFT r x i d s);omega
end
abbrev TV8(r:Int)(c:Av)(v:Nat)(xs:List Int)(o:List Wlk):List (Nat×Av.Obj):=[(1001,.box [c]),(1002,.box [.clo (.func 124) [] [.ref 1004 0,.ref 1005 0]]),(1003,.box [.clo (.func 120) [] [.ref 1001 0,.ref 1002 0,.ref 1003 0]]),
 (1004,.box [.ms 1007 o.length]),(1005,.box [.d (.int .i64 r)]),(1006,.row v 1 (xs.map (.int .i64))),(1007,.row o.length 13 (o.map Xe))]
end Go.Proofs
namespace Go.Proofs
open Go Av
theorem YH(ds:List Dat):UV (fun i=>i) (ds.map .d)=ds.map .d:=by
 induction ds with
 |nil=>rfl
 |cons x r ih=>simp[UV,Av.ren,ih]
theorem JGu(r:Int)(v v':Nat)(xs xs':List Int)(o o':List Wlk)(c:Av)(n:Nat)(hc:c=.ms 1006 n∨∃k,c=.sub 1006 n 0 k):closed (JC (get (TV8 r (.ms 1006 v) v xs o)) (TV8 r c v' xs' o')):=by
 refine Jr ?_;rcases hc with rfl|⟨k,rfl⟩<;>simp[TV8,U6,put,Jf,J8,JT,JS,Uk,Av.get]
theorem JKt{r:Int}{c:Av}{v:Nat}{xs:List Int}{o:List Wlk}{i:Nat}(h:(get (TV8 r c v xs o) i).isSome=true):1000≤i:=by
 simp only[TV8,Av.get]at h
 repeat' split at h
 all_goals first|(cases h;done)|omega
theorem XZ(n:Nat)(h:0<n)(h2:n<9000000000000000000):IntKind.i64.wrap ((n:Int)-1)=((n-1:Nat):Int):=by
 rw[wrap64 oM oM];omega
theorem call124(v:Nat)(r:Int)(xs:List Int)(hx:0<xs.length)(s:Ste)(o:List Wlk)(c:Av)(hl:xs.length<68719476736)(hw:o.length<68719476736):
  CT (.fn 124) [.ms 1006 v,.d (.ptr (JJ s).cells),.ref 1004 0,.ref 1005 0] [(1004,some (.box [.ms 1007 o.length])),(1005,some (.box [.d (.int .i64 r)])),(1006,some (.row v 1 (xs.map (.int .i64)))),(1007,some (.row o.length 13 (o.map Xe)))] (.tup [])
   [(1004,.box [.ms 1007 (o.length+1)]),(1007,.row (o.length+1) 13 ((o++[Wlk.mk r xs s]).map Xe))]:=by
 match xs,hx with
 |a::p,_=>
  have:=(con124 v o.length r a p s o (by simp at hl;omega) hw).call (fun i=>i) (fun i hi=>by
   simp only[Av.get]at hi
   repeat' split at hi
   all_goals first|(cases hi;done)|omega) (fun i j _ _ h=>h) (by simp[JS,Av.get]) (J4 (by simp[Jf,J8,JT,JS,Av.get])) [] (by simp[Av.get]) (Jr (by simp[U6,put,Jf,J8,JT,JS,Av.get])) trivial
  simp only[Va,Vb,Obj.ren,Av.ren,UV,YH,List.append_nil]at this⊢;exact this
def JIQ(r:Int)(l:List Ste):Prop:=∀(v:Nat) (xs:List Int) (o:List Wlk),xs.length+2*UC l≤10000000000→o.length+UC l≤10000000000→
 KT 120 [.d (.list 11 (l.map JJ)),.ref 1001 0,.ref 1002 0,.ref 1003 0] (TV8 r (.ms 1006 v) v xs o) (.tup [])
  (TV8 r (.sub 1006 (Uf r l 0 xs.length (v,xs,o)).1 0 xs.length) (Uf r l 0 xs.length (v,xs,o)).1 (Uf r l 0 xs.length (v,xs,o)).2.1 (Uf r l 0 xs.length (v,xs,o)).2.2)
theorem call120{r:Int}{l:List Ste}(h:JIQ r l)(v:Nat)(xs:List Int)(o:List Wlk)(h1:xs.length+2*UC l≤10000000000)(h2:o.length+UC l≤10000000000):
  CT (.fn 120) [.d (.list 11 (l.map JJ)),.ref 1001 0,.ref 1002 0,.ref 1003 0] ((TV8 r (.ms 1006 v) v xs o).map fun x=>(x.1,some x.2)) (.tup [])
  (TV8 r (.sub 1006 (Uf r l 0 xs.length (v,xs,o)).1 0 xs.length) (Uf r l 0 xs.length (v,xs,o)).1 (Uf r l 0 xs.length (v,xs,o)).2.1 (Uf r l 0 xs.length (v,xs,o)).2.2):=by
 have:=(h v xs o h1 h2).call (fun i=>i) (fun i hi=>JKt hi) (fun i j _ _ h=>h) (by simp[JS,Av.get]) (J4 (by simp[Jf,J8,JT,JS,Uk,Av.get])) [] (by simp[Av.get]) (JGu r v _ xs _ o _ _ _ (.inr ⟨_,rfl⟩)) trivial;simp only[TV8,Va,Vb,Obj.ren,Av.ren,UV,YH,List.append_nil]at this⊢;exact this
set_option maxHeartbeats 2000000 in
theorem JKu(r:Int)(l:List Ste)(h:∀x∈l,∀b∈x.branches,JIQ r b.steps):JIQ r l:=by
 intro v xs o hx ho;refine Con.Jg JIP.has fun hfit=>?_
 have hl:l.length≤68719476736:=by have:=(hfit (.list 11 (l.map JJ)) sP).1;simpa using this
 have hfs:∀x∈l,x.branches.length≤68719476736:=by
  intro x hxm;have:=UQ.1 (hfit (.list 11 (l.map JJ)) sP).2 _ (VC.2 ⟨x,hxm,rfl⟩);rw[JW]at this;simp only[fits,Ua,Vc]at this;omega
 clear hfit;generalize hR:Uf r l 0 xs.length (v,xs,o)=R;refine JIP.con (k:=some false) (Nat.le_of_ble_eq_true rfl) (JGu r v _ xs _ o _ _ _ (.inr ⟨_,rfl⟩)) trivial ?_;generalize hd:xs.length=d at*;simp only[TV8,go_sem,JKq,Vc,Nat.reduceAdd,Nat.reduceEqDiff,Nat.reduceBEq,Nat.reduceLeDiff,reduceCtorEq,↓reduceIte];refine JH (fun n st=>∃(k:Nat) (S:PO),k≤l.length∧n=l.length-k∧Uf r (l.drop k) k d S=R∧d≤S.2.1.length∧S.2.2.length+UC (l.drop k)≤10000000000∧
  st=⟨[(0,.d (.list 11 (l.map JJ))),(1,.ref 1001 0),(2,.ref 1002 0),(3,.ref 1003 0),(8,.d (.int .i64 l.length)),(9,.d (.int .i64 k))],TV8 r (.sub 1006 S.1 0 d) S.1 S.2.1 S.2.2⟩) ?_ ?_
 ·refine⟨_,_,(Wk.JMR 1001 0 1006 v 1 (xs.map (.int .i64)) [.ms 1006 v] rfl rfl rfl).trans (Wk.less ?_),0,(v,xs,o),Nat.zero_le _,rfl,by simpa using hR,by simp[hd],by simpa using ho,rfl⟩;simp[go_sem,TV8,hd]
 ·rintro n st ⟨k,S,hk,rfl,hinv,hS,hb,rfl⟩;by_cases hlt:k<l.length
  ·have hn:=Zt hlt;have hdk:decide ((k:Int)<(l.length:Int))=true:=sO;have hbr:=hfs _ (Vk hlt);have hV:=h _ (Vk hlt);rw[Vq hlt,UC,JEx]at hb;rw[Vq hlt,Uf,JKr]at hinv;have hszd:szS l[k]≤UC l:=JEy (Vk hlt);rw[JEx]at hszd;have hdl:d+2*XX l[k].branches+2≤10000000000:=oM;generalize hX:l[k]=x at*;have hc:=call124 (S.1+1) r (S.2.1.take d++[(k:Int)]) sP x S.2.2 (.any) sO oM;rw[JW]at hc;simp only[Vw,List.map_take,Va,Vb]at hc;simp only[TV8,go_sem,hn,hdk,Vv,Vc,Nat.reduceAdd,Nat.reduceEqDiff,Nat.reduceBEq,Nat.reduceLeDiff,reduceCtorEq,↓reduceIte];refine⟨sP,⟨oM,oM⟩,⟨oM,oM⟩,JU rfl hc ⟨rfl,rfl,rfl,rfl,trivial⟩ ?_⟩;simp only[go_sem,hn,Vv,Vc,Nat.reduceAdd,Nat.reduceEqDiff,Nat.reduceBEq,Nat.reduceLeDiff,reduceCtorEq,↓reduceIte];refine⟨oM,dC,?_⟩;clear hc;generalize hbs:x.branches=bs at*;generalize hRB:X7 r bs 0 (d+1) _=RB at hinv;refine JH (fun n st=>∃(b:Nat) (T:PO),b≤bs.length∧n=bs.length-b∧X7 r (bs.drop b) b (d+1) T=RB∧d+1≤T.2.1.length∧T.2.2.length+XX (bs.drop b)+UC (l.drop (k+1))≤10000000000∧
    st=⟨[(0,.d (.list 11 (l.map JJ))),(1,.ref 1001 0),(2,.ref 1002 0),(3,.ref 1003 0),(8,.d (.int .i64 l.length)),(9,.d (.int .i64 k)),(5,.d (.int .i64 k)),(27,.d (.int .i64 bs.length)),(28,.d (.int .i64 b))],TV8 r (.sub 1006 T.1 0 (d+1)) T.1 T.2.1 T.2.2⟩) ?_ ?_
   ·refine⟨_,_,(Wk.JMR 1001 0 1006 (S.1+1) 1 _ [.ms 1006 (S.1+1)] rfl rfl rfl).trans (Wk.less ?_),0,(S.1+1,S.2.1.take d++[(k:Int)],S.2.2++[Wlk.mk r (S.2.1.take d++[(k:Int)]) x]),Nat.zero_le _,rfl,by simpa using hRB,sO,sO,rfl⟩;simp[go_sem,TV8];omega
   ·rintro n st ⟨b,T,hbk,rfl,hinv2,hT,hb2,rfl⟩;by_cases hbl:b<bs.length
    ·have hbn:=Ya hbl;have hdb:decide ((b:Int)<(bs.length:Int))=true:=sO;have hVb:=hV _ (Vk hbl);have hszb:szB bs[b]≤XX bs:=JEz (Vk hbl);rw[Vq hbl,XX,JAx]at hb2;rw[Vq hbl,X7,JKs]at hinv2;rw[JAx]at hszb;generalize bs[b]=br at*;have hlen:(T.2.1.take (d+1)++[(b:Int)]).length=d+1+1:=sO;have hc2:=call120 hVb (T.1+1) (T.2.1.take (d+1)++[(b:Int)]) T.2.2 (by rw[hlen];omega) oM;rw[hlen]at hc2;have hU1:=JBH r br.steps 0 (d+1+1) (T.1+1,T.2.1.take (d+1)++[(b:Int)],T.2.2);have hU2:=(JAH r br.steps 0 (d+1+1) (T.1+1,T.2.1.take (d+1)++[(b:Int)],T.2.2) (by show _≤List.length _;rw[hlen];omega)).1;generalize hU:Uf r br.steps 0 (d+1+1) (T.1+1,T.2.1.take (d+1)++[(b:Int)],T.2.2)=U at*;simp only[TV8,Vw,List.map_take,Va,Vb]at hc2;simp only[TV8,go_sem,hn,hbn,hdb,hbs,Vv,Vc,Nat.reduceAdd,Nat.reduceEqDiff,Nat.reduceBEq,Nat.reduceLeDiff,reduceCtorEq,↓reduceIte];refine⟨sP,⟨oM,oM⟩,⟨oM,oM⟩,dC,⟨oM,oM⟩,dC,JU rfl hc2 ⟨rfl,rfl,rfl,rfl,rfl,rfl,rfl,trivial⟩ ?_⟩;have e2:min (d+1+1) U.2.1.length=d+1+1:=oM;have e3:IntKind.i64.wrap (((d+1+1:Nat):Int)-1)=((d+1:Nat):Int):=XZ (d+2) oM oM;simp only[go_sem,List.length_take,Vc,List.drop_zero,e2,e3,Nat.reduceAdd,Nat.reduceEqDiff,Nat.reduceBEq,Nat.reduceLeDiff,reduceCtorEq,↓reduceIte];have e4:(((d+1:Nat):Int)-0).toNat=d+1:=oM;have e5:Int.toNat 0=0:=rfl;refine⟨⟨oM,oM,oM⟩,bs.length-(b+1),_,oM,Wk.less ?_,b+1,U,oM,rfl,by simpa using hinv2,oM,by simp only at hU1;omega,rfl⟩;simp only[go_sem,e4,e5,JE b oM,Nat.reduceAdd,Nat.reduceEqDiff,Nat.reduceBEq,Nat.reduceLeDiff,reduceCtorEq,↓reduceIte]
    ·have hdb:decide ((b:Int)<(bs.length:Int))=false:=sO;obtain rfl:b=bs.length:=oM;rw[List.drop_length,X7]at hinv2;subst hinv2;rw[List.drop_length,XX]at hb2;have e2:min (d+1) T.2.1.length=d+1:=oM;have e3:IntKind.i64.wrap (((d+1:Nat):Int)-1)=((d:Nat):Int):=XZ (d+1) oM oM;have e4:((d:Int)-0).toNat=d:=oM;have e5:Int.toNat 0=0:=rfl;simp only[TV8,go_sem,hdb,List.length_take,Vc,List.drop_zero,e2,e3,Nat.reduceAdd,Nat.reduceEqDiff,Nat.reduceBEq,Nat.reduceLeDiff,reduceCtorEq,↓reduceIte];refine⟨⟨oM,oM,oM⟩,l.length-(k+1),_,oM,Wk.less ?_,k+1,T,oM,rfl,by simpa using hinv,oM,oM,rfl⟩;simp only[go_sem,TV8,e4,e5,JE k oM,Nat.reduceAdd,Nat.reduceEqDiff,Nat.reduceBEq,Nat.reduceLeDiff,reduceCtorEq,↓reduceIte]
  ·have hdk:decide ((k:Int)<(l.length:Int))=false:=sO;obtain rfl:k=l.length:=oM;rw[List.drop_length,Uf]at hinv;subst hinv;simp only[TV8,go_sem,hdk,Nat.reduceAdd,Nat.reduceEqDiff,Nat.reduceBEq,Nat.reduceLeDiff,reduceCtorEq,↓reduceIte]
mutual
theorem JPI(r:Int):∀(l:List Ste),∀x∈l,∀b∈x.branches,JIQ r b.steps
 |[],x,h,_,_=>by cases h
 |v::q,x,h,b,hb=>by
  by_cases e:x=v
  ·rw[e]at hb;exact v340S r v b hb
  ·exact JPI r q x ((VA.1 h).resolve_left e) b hb
theorem v340S(r:Int):∀(x:Ste),∀b∈x.branches,JIQ r b.steps
 |.mk n k u t l x c e ru a bs=>JPJ r bs
theorem JPJ(r:Int):∀(l:List Brn),∀b∈l,JIQ r b.steps
 |[],b,h=>by cases h
 |v::q,b,h=>by
  by_cases e:b=v
  ·rw[e];exact v340B r v
  ·exact JPJ r q b ((VA.1 h).resolve_left e)
theorem v340B(r:Int):∀(b:Brn),JIQ r b.steps
 |.mk w s=>JKu r s (JPI r s)
end
theorem w340(r:Int)(l:List Ste):JIQ r l:=JKu r l (JPI r l)
theorem JR.JMQ{P:Program}{f:Cee}{args:List Av}{T T':List (Nat×Option Av.Obj)}{v:Av}{ups:List (Nat×Av.Obj)}(h:JR P f args T v ups)(hs:∀e∈T,e∈T'):JR P f args T' v ups:=
 fun β A w H vs hT hc hv=>h β A w H vs (fun e he=>hT e (hs e he)) hc hv
def wk1(r:Int)(l:List Ste):List Wlk:=(Uf r l 0 0 (0,[],[])).2.2
abbrev JFU(i:Nat):Nat:=if i=1001 then 4 else if i=1002 then 3 else if i=1003 then 5 else if i=1006 then 6 else i
theorem JIR{r:Int}{c:Av}{v:Nat}{xs:List Int}{o:List Wlk}{c':Av}{v':Nat}{xs':List Int}{o':List Wlk}{i:Nat}(h:(JC (get (TV8 r c v xs o)) (TV8 r c' v' xs' o') i).isSome=true):i=1001∨i=1002∨i=1003∨i=1004∨i=1005∨i=1006∨i=1007:=by
 refine Decidable.byContradiction fun hn=>?_
 simp only[not_or]at hn;obtain⟨a1,a2,a3,a4,a5,a6,a7⟩:=hn;simp[TV8,JC,upd,Av.get,a1,a2,a3,a4,a5,a6,a7,Ne.symm a1,Ne.symm a2,Ne.symm a3,Ne.symm a4,Ne.symm a5,Ne.symm a6,Ne.symm a7]at h
theorem JPK{i j:Nat}(hi:i=1001∨i=1002∨i=1003∨i=1004∨i=1005∨i=1006∨i=1007)(hj:j=1001∨j=1002∨j=1003∨j=1004∨j=1005∨j=1006∨j=1007)(h:JFU i=JFU j):i=j:=by
 rcases hi with rfl|rfl|rfl|rfl|rfl|rfl|rfl<;>rcases hj with rfl|rfl|rfl|rfl|rfl|rfl|rfl<;>first|rfl|(revert h;decide)
theorem JPL(r:Int)(l:List Ste)(hl:UC l≤1000000000):
  ∃(v:Nat) (xs:List Int),CT (.fn 120) [.d (.list 11 (l.map JJ)),.ref 4 0,.ref 3 0,.ref 5 0]
   [(4,some (.box [.d (.nil 1)])),(6,none),(3,some (.box [.clo (.func 124) [] [.ref 1004 0,.ref 1005 0]])),(5,some (.box [.clo (.func 120) [] [.ref 4 0,.ref 3 0,.ref 5 0]])),(1004,some (.box [.ms 1007 0])),(1005,some (.box [.d (.int .i64 r)])),(1007,some (.row 0 13 []))] (.tup [])
   [(4,.box [.sub 6 v 0 0]),(3,.box [.clo (.func 124) [] [.ref 1004 0,.ref 1005 0]]),(5,.box [.clo (.func 120) [] [.ref 4 0,.ref 3 0,.ref 5 0]]),(1004,.box [.ms 1007 (wk1 r l).length]),(1005,.box [.d (.int .i64 r)]),(6,.row v 1 (xs.map (.int .i64))),(1007,.row (wk1 r l).length 13 ((wk1 r l).map Xe))]:=by
 have hw:=w340 r l 0 [] [] sO sO;simp only[Vm]at hw;unfold wk1;generalize Uf r l 0 0 (0,[],[])=R at hw⊢;refine⟨R.1,R.2.1,?_⟩;have h:=hw.call JFU (fun i hi=>JKt hi) (fun i j hi hj=>JPK (JIR hi) (JIR hj)) (by simp[JS,Av.get]) (J4 (by simp[Jf,J8,JT,JS,Uk,Av.get])) [] (by simp[Av.get]) (JGu r 0 _ [] _ [] _ _ _ (.inr ⟨_,rfl⟩)) trivial;simp only[TV8,Va,Vb,Vm,Obj.ren,Av.ren,UV,JFU,YH,List.append_nil,Nat.reduceEqDiff,↓reduceIte]at h;refine JR.JMQ (JR.JJ4 (j:=0) (JR.JMQ h ?_) ?_ dC rfl dC rfl rfl) (fun e he=>he)
 ·simp
 ·simp
abbrev TU(r:Int)(o:List Wlk):List (Nat×Av.Obj):=[(1004,.box [.ms 1007 o.length]),(1005,.box [.d (.int .i64 r)]),(1007,.row o.length 13 (o.map Xe))]
theorem con59(r:Int)(l:List Ste)(hl:UC l≤1000000000):
  KT 59 [.d (.list 11 (l.map JJ)),.clo (.func 124) [] [.ref 1004 0,.ref 1005 0]] (TU r []) (.tup []) (TU r (wk1 r l)):=by
 refine ok59.con (k:=some false) (Nat.le_of_ble_eq_true rfl) (Jr (by simp[TU,U6,put,Jf,J8,JT,JS,Av.get])) trivial ?_;obtain⟨v,xs,hc⟩:=JPL r l hl;simp only[TU,go_sem,ir59,simprocAttr];refine JU rfl hc ⟨rfl,rfl,rfl,rfl,rfl,rfl,rfl,trivial⟩ ?_;exact zz trivial
theorem call59(r:Int)(l:List Ste)(hl:UC l≤1000000000):
  CT (.fn 59) [.d (.list 11 (l.map JJ)),.clo (.func 124) [] [.ref 5 0,.ref 3 0]] [(5,some (.box [.d (.nil 13)])),(7,none),(3,some (.box [.d (.int .i64 r)]))] (.tup [])
   [(5,.box [.ms 7 (wk1 r l).length]),(3,.box [.d (.int .i64 r)]),(7,.row (wk1 r l).length 13 ((wk1 r l).map Xe))]:=by
 have hd:∀o i,(JC (get (TU r [])) (TU r o) i).isSome=true→i=1004∨i=1005∨i=1007:=by
  intro o i h;refine Decidable.byContradiction fun hn=>?_
  simp only[not_or]at hn;obtain⟨a1,a2,a3⟩:=hn;simp[TU,JC,upd,Av.get,a1,a2,a3,Ne.symm a1,Ne.symm a2,Ne.symm a3]at h
 have h:=(con59 r l hl).call (fun i=>if i=1004 then 5 else if i=1005 then 3 else if i=1007 then 7 else i) (fun i hi=>by
   simp only[TU,Av.get]at hi
   repeat' split at hi
   all_goals first|(cases hi;done)|omega) (fun i j hi hj h=>by
   rcases hd _ i hi with rfl|rfl|rfl<;>rcases hd _ j hj with rfl|rfl|rfl<;>first|rfl|(revert h;decide)) (by simp[JS,JT,Av.get]) (J4 (by simp[Jf,J8,JT,JS,Uk,Av.get])) [] (by simp[Av.get])
   (Jr (by simp[TU,U6,put,Jf,J8,JT,JS,Av.get])) trivial
 simp only[TU,Va,Vb,Vm,Obj.ren,Av.ren,UV,YH,List.append_nil,Nat.reduceEqDiff,↓reduceIte]at h;refine JR.JJ4 (j:=0) (JR.JMQ h ?_) ?_ dC rfl dC rfl rfl
 ·simp
 ·simp
theorem walk67(p:Prg)(r:Nat)(hr:r<p.routes.length)(hl:UC p.routes[r].steps≤1000000000):J3 Tryz.prog 67 [UH p,.int .i64 r] (.d (.list 13 ((wk1 r p.routes[r].steps).map Xe))):=by
  refine ok67.con (k:=none) (Nat.le_of_ble_eq_true rfl) (by intro i o h;cases h) trivial ?_
  have hc:=call59 r p.routes[r].steps hl
  have hx:=JN Un hr
  simp only[Un]at hx
  generalize wk1 (r:Int) p.routes[r].steps=o at*
  simp only[go_sem,ir67,UH,hx,Vv,Vc,Nat.reduceAdd,Nat.reduceEqDiff,Nat.reduceBEq,Nat.reduceLeDiff,reduceCtorEq,↓reduceIte]
  refine⟨⟨by omega,by omega⟩,by decide,JU rfl hc ⟨rfl,rfl,rfl,trivial⟩ ?_⟩
  simp only[go_sem,Nat.reduceAdd,Nat.reduceEqDiff,Nat.reduceBEq,Nat.reduceLeDiff,reduceCtorEq,↓reduceIte]
def wkN(l:List Rou)(k:Nat):List Wlk:=(List.range k).flatMap fun i=>match l[i]? with|some x=>wk1 i x.steps|none=>[]
theorem JFA{l:List Rou}{k:Nat}(h:k<l.length):wkN l (k+1)=wkN l k++wk1 k l[k].steps:=by
 unfold wkN;rw[List.range_succ,List.flatMap_append];simp[Vl h]
def XV:List Rou→Nat
 |[]=>0
 |x::r=>UC x.steps+XV r
theorem JIS:∀{l:List Rou} {x:Rou},x∈l→UC x.steps≤XV l
 |v::r,s,h=>by
  rcases VA.1 h with rfl|h
  ·simp only[XV];omega
  ·have:=JIS h;simp only[XV];omega
theorem JD2(l:List Rou):∀k:Nat,k≤l.length→(wkN l k).length≤XV (l.take k)
 |0,_=>by simp[wkN]
 |k+1,h=>by
  rw[JFA oM,Vg,List.take_succ_eq_append_getElem oM];have h1:=JD2 l k oM;have h2:(wk1 k l[k].steps).length≤UC l[k].steps:=by
   have:=JBH k l[k].steps 0 0 (0,[],[]);simpa[wk1]using this
  have h3:∀(a b:List Rou),XV (a++b)=XV a+XV b:=by
   intro a b
   induction a with
   |nil=>simp[XV]
   |cons x r ih=>simp only[List.cons_append,XV,ih];omega
  rw[h3];simp only[XV];omega
theorem Zu:∀(l:List Rou) (k:Nat),XV (l.take k)≤XV l
 |[],k=>by simp
 |x::r,0=>by simp[XV]
 |x::r,k+1=>by
  have:=Zu r k;simp only[List.take_succ_cons,XV];omega
theorem walk29(p:Prg)(hl:XV p.routes≤1000000000):J3 Tryz.prog 29 [UH p] (.d (.list 13 ((wkN p.routes p.routes.length).map Xe))):=by
  refine J3.Jg ok29.has fun hfit=>?_
  have hn:p.routes.length≤68719476736:=by
    have:=hfit _ (Vh)
    simp only[UH,fits,Ua,Vc]at this
    omega
  clear hfit
  refine ok29.con (k:=none) (Nat.le_of_ble_eq_true rfl) (by intro i o h;cases h) trivial ?_
  simp only[go_sem,ir29,UH,Vc,Nat.reduceAdd,Nat.reduceEqDiff,Nat.reduceBEq,Nat.reduceLeDiff,reduceCtorEq,↓reduceIte]
  refine JH (fun n st=>∃k:Nat,k≤p.routes.length∧n=p.routes.length-k∧
    st=⟨[(1,.ref 1 0),(3,.ms 15 k),(7,.d (.int .i64 p.routes.length)),(8,.d (.int .i64 k))],
      [(1,.box [.d (.int .i64 p.version),.d (.list 9 (p.schemas.map UB)),.d (.list 7 (p.endpoints.map Jp)),.d (.list 4 (p.services.map UR)),.d (.list 3 (p.routes.map Un))]),(15,.row k 13 ((wkN p.routes k).map Xe))]⟩) ?_ ?_
  · refine⟨_,_,(Wk.JHJ 3 15 13 rfl rfl (by decide)).trans (Wk.less ?_),0,Nat.zero_le _,rfl,rfl⟩
    simp[put,go_sem,wkN]
  · rintro n st ⟨k,hk,rfl,rfl⟩
    by_cases hlt:k<p.routes.length
    · have hd:decide ((k:Int)<(p.routes.length:Int))=true:=by simp;omega
      have hsz:UC p.routes[k].steps≤XV p.routes:=JIS (Vk hlt)
      have hc:=(walk67 p k hlt (by omega)).call trivial
      have hln:=JD2 p.routes (k+1) (by omega)
      have htk:=Zu p.routes (k+1)
      rw[JFA hlt,Vg]at hln
      simp only[UH]at hc
      simp only[go_sem,hd,Nat.reduceAdd,Nat.reduceEqDiff,Nat.reduceBEq,Nat.reduceLeDiff,reduceCtorEq,↓reduceIte]
      refine JU rfl hc trivial ?_
      simp only[go_sem,Nat.reduceAdd,Nat.reduceEqDiff,Nat.reduceBEq,Nat.reduceLeDiff,reduceCtorEq,↓reduceIte]
      refine⟨by simp;omega,p.routes.length-(k+1),_,by omega,Wk.less ?_,k+1,by omega,rfl,rfl⟩
      rw[JFA hlt,Vw]
      simp only[go_sem,JE k (by omega),Nat.reduceAdd,Nat.reduceEqDiff,Nat.reduceBEq,Nat.reduceLeDiff,reduceCtorEq,↓reduceIte]
    · have hd:decide ((k:Int)<(p.routes.length:Int))=false:=by simp;omega
      obtain rfl:k=p.routes.length:=by omega
      simp only[go_sem,hd,Nat.reduceAdd,Nat.reduceEqDiff,Nat.reduceBEq,Nat.reduceLeDiff,reduceCtorEq,↓reduceIte]
end Go.Proofs
namespace Go.Proofs
open Go Av
open Av.Y
end Go.Proofs
namespace Go.Proofs
open Go Av
open Av.Y
end Go.Proofs
namespace Go.Proofs
open Go Av
end Go.Proofs
namespace Go.Proofs
open Go Av
open Av.Y
end Go.Proofs
namespace Go.Proofs
open Go Av
end Go.Proofs
namespace Go.Proofs
open Go Av Go.RowKit
end Go.Proofs
namespace Go.Proofs
open Go.Shelf
end Go.Proofs
namespace Go.Proofs
open Go Av
open Av.Y
end Go.Proofs
namespace Go.Proofs
open Go Av Go.RowKit
end Go.Proofs
namespace Go.Proofs
open Go Av
theorem JGv{o1 o2:Av.Obj}{i:Nat}(h:(get [(1000,o1),(1001,o2)] i).isSome=true):i=1000∨i=1001:=by
 simp only[Av.get]at h;split at h
 ·rename_i e;exact .inl e.symm
 ·split at h
  ·rename_i e;exact .inr e.symm
  ·cases h
theorem Con.two{P:Program}{f:Nat}{args:List Av}{o1 o2:Av.Obj}{r:Dat}(h:Con P f args [(1000,o1),(1001,o2)] (.d r) [])(i j:Nat)(hij:i≠j)
  (hargs:∀c∈args,inT (get [(1000,o1),(1001,o2)]) c)(hcl:closed (get [(1000,o1),(1001,o2)])):
  JR P f (args.map (Av.ren fun n=>if n=1000 then i else j)) [(i,some (o1.ren fun n=>if n=1000 then i else j)),(j,some (o2.ren fun n=>if n=1000 then i else j))] (.d r) []:=by
 have:=h.call (fun n=>if n=1000 then i else j) (fun k hk=>by rcases JGv hk with rfl|rfl<;>decide) (fun a b ha hb e=>?_) hargs hcl [] sP hcl trivial
 ·simpa[Av.ren]using this
 ·rcases JGv ha with rfl|rfl<;>rcases JGv hb with rfl|rfl
  ·rfl
  ·simp at e;exact absurd e hij
  ·simp at e;exact absurd e.symm hij
  ·rfl
end Go.Proofs
namespace Go.Proofs
open Go.Shelf
end Go.Proofs
namespace Go.Proofs
open Go Av
end Go.Proofs
namespace Go.Proofs
open Go Av Go.RowKit
end Go.Proofs
namespace Go.Proofs
open Go Av
end Go.Proofs
namespace Go.Proofs
open Go Av Go.RowKit Go.Shelf
end Go.Proofs
namespace Av
open Go
end Av
namespace Go.Proofs
open Go Av Go.RowKit Go.Shelf
theorem JIT{α:Type}{l:List α}{m j:Nat}{v:α}(h:(l.take m)[j]? =some v):l[j]? =some v:=by
 rw[List.getElem?_take]at h;split at h
 ·exact h
 ·cases h
end Go.Proofs
namespace Go.Proofs
open Go Av Go.RowKit Go.Shelf
variable {A:Nat→Prop}{w:World}{F:List Dat}{V:List Value}
def Pt(A:Nat→Prop)(w:World)(F:List Dat)(V:List Value):Prop:=F.length=V.length∧∀(j:Nat) c v,F[j]? =some c→V[j]? =some v→Rep A w c v∧v.oneCell'=true
theorem Pt.app{F':List Dat}{V':List Value}(h:Pt A w F V)(h':Pt A w F' V'):Pt A w (F++F') (V++V'):=by
 refine⟨by rw[Vg,Vg,h.1,h'.1],fun j c v hc hv=>?_⟩;by_cases hj:j<F.length
 ·rw[Vz hj]at hc;rw[Vz (by rw[←h.1];exact hj)]at hv;exact h.2 j c v hc hv
 ·rw[Vy oM]at hc;rw[Vy (by rw[←h.1];omega),←h.1]at hv;exact h'.2 _ c v hc hv
theorem Pt.take(h:Pt A w F V)(k:Nat):Pt A w (F.take k) (V.take k):=
 ⟨by simp[h.1],fun j c v hc hv=>h.2 j c v (JIT hc) (JIT hv)⟩
theorem Pt.drop(h:Pt A w F V)(k:Nat):Pt A w (F.drop k) (V.drop k):=
 ⟨by simp[h.1],fun j c v hc hv=>by
  rw[List.getElem?_drop]at hc hv;exact h.2 _ c v hc hv⟩
theorem Pt.one{R:List Value}(h:Pt A w F V)(j:Nat)(v:Value)(hj:j<F.length)(hv:((V++R).toArray)[j]? =some v):v.oneCell'=true:=by
 rw[List.getElem?_toArray,Vz (by rw[←h.1];exact hj)]at hv;exact(h.2 j _ v (Vl hj) hv).2
theorem Pt.rep{R:List Value}(h:Pt A w F V)(j:Nat)(c:Dat)(v:Value)(hc:F[j]? =some c)(hv:((V++R).toArray)[j]? =some v):Rep A w c v:=by
 have hj:j<F.length:=(VB.1 hc).1;rw[List.getElem?_toArray,Vz (by rw[←h.1];exact hj)]at hv;exact(h.2 j c v hc hv).1
end Go.Proofs
namespace Go.Proofs
open Go Av
open Av.Y
end Go.Proofs
namespace Go.Proofs
open Go Av
mutual
theorem JCb:∀v:Val,fits (Jm v)→okV v
 |.mk k i s t l f,h=>by
  have h':l.length≤68719476736∧f.length≤68719476736:=(JRF h).2;rw[J0]at h;simp only[fits,Ua,and_true,Val.list,Val.fields]at h;simp only[okV];exact⟨h'.1,h'.2,JF7 l fun x hx=>UQ.1 h.2.2.2.2.1.2 _ (VC.2 ⟨x,hx,rfl⟩),JF8 f fun x hx=>UQ.1 h.2.2.2.2.2.2 _ (VC.2 ⟨x,hx,rfl⟩)⟩
theorem JF7:∀l:List Val,(∀x∈l,fits (Jm x))→JBo l
 |[],_=>by simp[JBo]
 |v::r,h=>by
  simp only[JBo];exact⟨JCb v (h v (Vh)),JF7 r fun x hx=>h x (Vn _ hx)⟩
theorem JF8:∀l:List Fld,(∀x∈l,fits (XT x))→JBp l
 |[],_=>by simp[JBp]
 |.mk n v::r,h=>by
  have h1:=h (.mk n v) (Vh);rw[ZY]at h1;have h2:fits (Jm v):=by
   rw[J0];simp only[fits,Ua,and_true,Fld.value]at h1⊢;exact h1.2
  simp only[JBp];exact⟨JCb v h2,JF8 r fun x hx=>h x (Vn _ hx)⟩
end
theorem p108(a b:Val):PT 108 [Jm a,Jm b] (.d (.bool (Yh a b==0))):=J3.Jg JR7.has fun h=>JQ3 a b (JCb a (h _ (Vh))) (JCb b (h _ (Vn _ (Vh))))
theorem fits_T{t:Typ}(h:fits (UW t)):t.words.length≤68719476736∧t.elem.length≤68719476736∧t.fields.length≤68719476736:=by
 rw[UA]at h;simp only[fits,Ua,Vc,and_true]at h;exact⟨h.2.2.2.2.1.1,h.2.2.2.2.2.1.1,h.2.2.2.2.2.2.1⟩
end Go.Proofs
namespace Go.Proofs
open Go.Shelf
end Go.Proofs
namespace Go.Proofs
open Go Av Go.RowKit
end Go.Proofs
namespace Go.Proofs
open Go Av
def JHN(a b:Int):Typ:=.mk 2 a b 0 [] [] []
def recG(k:Nat)(p:Str×Typ):TFl:=.mk ((k:Int)+1) p.1 1 p.2 []
def JSr:Nat→List (Str×Typ)→List TFl
 |_,[]=>[]
 |k,p::r=>recG k p::JSr (k+1) r
def recT(l:List (Str×Typ)):Typ:=.mk 9 0 0 0 [] [] (JSr 0 l)
@[instance_reducible] def rls0:Rls:={rl:=fun _=>false}
def sBody:Str:=[98,111,100,121]
def sReply:Str:=[114,101,112,108,121]
def JNF(b x:Typ):Typ:=recT [(sBody,b),(sReply,x)]
end Go.Proofs
namespace Go.Proofs
open Go Av
open Av.Y
def ir46:Ic:=q (R (ox 2 0<|ox 3 1<|ow 4 false<|N) [0,1,4])<|q (R (of 5 2 0<|ol 6 5<|of 7 3 0<|ol 8 7<|ot 9 .eql 6 8<|om 10 9<|.sc 10 true (of 11 2 1<|ol 12 11<|of 13 3 1<|ol 14 13<|ot 15 .eql 12 14<|N) (t 15) 16 (om 17 16<|.sc 17 true (of 18 2 2<|ol 19 18<|of 20 3 2<|ol 21 20<|ot 22 .eql 19 21<|N) (t 22) 23 (om 24 23<|.sc 24 true (of 25 2 3<|ol 26 25<|of 27 3 3<|ol 28 27<|ot 29 .eql 26 28<|N) (t 29) 30 (om 31 30<|.sc 31 true (of 32 2 4<|ol 33 32<|of 34 3 4<|ol 35 34<|cl 36 104 [t 33,t 35]<|N) (t 36) 37 (om 38 37<|.sc 38 true (of 39 2 5<|ol 40 39<|of 41 3 5<|ol 42 41<|cl 43 47 [t 40,t 42,.k (.fn (.func 46) [] [])]<|N) (t 43) 44 (om 45 44<|.sc 45 true (of 46 2 6<|ol 47 46<|of 48 3 6<|ol 49 48<|cl 50 105 [t 47,t 49,.k (.fn (.func 106) [] [])]<|N) (t 50) 51 (om 4 51<|N))))))) [2,3,5,6,7,8,9,10,16,17,23,24,30,31,37,38,44,45,51])<|.ret
theorem ok46:FT 46 52 ir46 [.tmp 4]:=.o Tryz.func46
def JSs:Ic:=q (R (ox 2 0<|ox 3 1<|ow 4 false<|N) [0,1,4])<|q (R (of 5 2 0<|ol 6 5<|of 7 3 0<|ol 8 7<|ot 9 .eql 6 8<|om 10 9<|.sc 10 true (of 11 2 1<|ol 12 11<|of 13 3 1<|ol 14 13<|ot 15 .seq 12 14<|N) (t 15) 16 (om 17 16<|.sc 17 true (of 18 2 2<|ol 19 18<|of 20 3 2<|ol 21 20<|ot 22 .eql 19 21<|N) (t 22) 23 (om 24 23<|.sc 24 true (of 25 2 3<|oL 26 7 25<|of 27 3 3<|oL 28 7 27<|cl 29 46 [t 26,t 28]<|N) (t 29) 30 (om 31 30<|.sc 31 true (of 32 2 10<|ol 33 32<|of 34 3 10<|ol 35 34<|cl 36 107 [t 33,t 35,.k (.fn (.func 108) [] [])]<|N) (t 36) 37 (om 4 37<|N))))) [2,3,5,6,7,8,9,10,16,17,23,24,30,31,37])<|.ret
theorem JSt:FT 106 38 JSs [.tmp 4]:=.o Tryz.func106
end Go.Proofs
namespace Go.Proofs
open Go Av
structure Lim where
 name:Str
 low:Int
 high:Int
 bounds:Bool
 scale:Bool
 text:Bool
 list:Bool
 fields:Bool
theorem JIU{xs:List Str}{k:Nat}(h:k<xs.length):nth (xs.map .str) k=.str xs[k]:=by rw[XL (sX h),List.getElem_map]
theorem JR.datA{P:Program}[Glb]{f:Nat}{vs:List Av}{hp u:List (Nat×Av.Obj)}{ds:List Dat}{v:Av}{p:Prop}(hd:Jo (Av.get hp) vs=some (p,ds,u))(hp0:p)(h:JR P (.fn f) (ds.map .d) [] v []):
  JR P (.fn f) vs ((vs.flatMap JAW).map fun i=>(i,Av.get hp i)) v u:=by
 intro β A w H us hT hc hvs;have heq:Jo H vs=some (p,ds,u):=by
  rw[←hd];refine YQ fun x hx=>?_
  exact hT (x,Av.get hp x) (VC.2 ⟨x,hx,rfl⟩)
 obtain⟨A1,s1,l1,r1,m1⟩:=XD hc heq hp0 (us:=us.toList) (sX hvs.1) (fun k c u h1 h2=>hvs.2 k c u h1 (sX h2));refine(h β A1 w (JC H u) us (by intro e he;cases he) s1.core ⟨by simpa using l1,fun k c u h1 h2=>?_⟩).mono ?_
 ·rw[Vo]at h1;cases e:ds[k]? with
  |none=>simp[e]at h1
  |some x=>
   simp only[e,Vj,Vd]at h1;subst h1;exact .d _ _ (r1 k x u e (sX h2))
 ·rintro v' w' ⟨β',A',q1,q2⟩;exact⟨β',A',s1.trans q1,q2⟩
@[instance_reducible] def rls7:Rls:={rl:=fun n=>n==1||n==7}
@[instance_reducible] def rls8:Rls:={rl:=fun n=>n==8}
end Go.Proofs
