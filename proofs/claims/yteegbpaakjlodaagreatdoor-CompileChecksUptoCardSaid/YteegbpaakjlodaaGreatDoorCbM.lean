/- Part M of a proof. -/
import Derived.Test.YteegbpaakjlodaaGreatDoorCbF
import Derived.Test.YteegbpaakjlodaaGreatDoorCbC
import Derived.Test.YteegbpaakjlodaaGreatDoorCbA
import Derived.Test.YteegbpaakjlodaaGreatDoorCbL
import Derived.Test.YteegbpaakjlodaaGreatDoorProg
import Derived.Shelf.SlGeneric
import Derived.Shelf.LaysM
import Derived.Shelf.Strconv.Itoa3
import Derived.Shelf.LaysC
import Derived.Shelf.Strconv.AtoiAll
import Derived.Ground.Names2Prog
import Derived.Ground.SlgnProg
import Derived.Lib.ItoaLen
import Derived.Shelf.Strings.BuilderK
import Derived.Shelf.Strings.BuilderRune
import Derived.Shelf.Strings.Repeat
import Derived.Shelf.Unicode.DecodeAny
import Derived.Shelf.Sort.Plain
import Derived.Shelf.Slices.In.SortNone
import Derived.Shelf.Slices.CompactS
import Derived.Lib.RuneLoops
import Derived.WalkKit
import Derived.Laws.CopyRow
import Derived.Shelf.Spec.SlicesInsertGrow
import Derived.Shelf.Slices.Clone
set_option linter.unusedVariables false
set_option linter.unusedSimpArgs false
set_option linter.unusedSectionVars false
set_option linter.constructorNameAsVariable false
set_option linter.unnecessarySimpa false
set_option maxRecDepth 100000
namespace Av
open Go
variable [Glb]
mutual
inductive Typ where
 |mk (kind min max scale:Int) (words:List Str) (elem:List Typ) (fields:List TFl)
inductive TFl where
 |mk (number:Int) (name:Str) (need:Int) (type:Typ) (JLM:List Val)
end
namespace Typ
def kind:Typ→Int|.mk k _ _ _ _ _ _=>k
def min:Typ→Int|.mk _ a _ _ _ _ _=>a
def max:Typ→Int|.mk _ _ b _ _ _ _=>b
def scale:Typ→Int|.mk _ _ _ s _ _ _=>s
def words:Typ→List Str|.mk _ _ _ _ w _ _=>w
def elem:Typ→List Typ|.mk _ _ _ _ _ e _=>e
def fields:Typ→List TFl|.mk _ _ _ _ _ _ f=>f
end Typ
namespace TFl
def number:TFl→Int|.mk n _ _ _ _=>n
def name:TFl→Str|.mk _ n _ _ _=>n
def need:TFl→Int|.mk _ _ n _ _=>n
def type:TFl→Typ|.mk _ _ _ t _=>t
def JLM:TFl→List Val|.mk _ _ _ _ d=>d
end TFl
mutual
def Xp:Typ→Dat
 |.mk k a b s w e f=>.agg [.int .i64 k,.int .i64 a,.int .i64 b,.int .i64 s,.list 1 (w.map .str),.list 7 (JCC e),.list 11 (JCE f)]
def JCC:List Typ→List Dat
 |[]=>[]
 |v::r=>Xp v::JCC r
def JCD:TFl→Dat
 |.mk n m d t v=>.agg ([.int .i64 n,.str m,.int .i64 d]++((Xp t).cells++[.list 6 (v.map UF)]))
def JCE:List TFl→List Dat
 |[]=>[]
 |v::r=>JCD v::JCE r
end
theorem JCr:∀l:List Typ,JCC l=l.map Xp
 |[]=>by simp[JCC]
 |v::r=>by simp[JCC,JCr r]
theorem JCs:∀l:List TFl,JCE l=l.map JCD
 |[]=>by simp[JCE]
 |v::r=>by simp[JCE,JCs r]
theorem Yi(t:Typ):Xp t=.agg [.int .i64 t.kind,.int .i64 t.min,.int .i64 t.max,.int .i64 t.scale,.list 1 (t.words.map .str),.list 7 (t.elem.map Xp),.list 11 (t.fields.map JCD)]:=by
 cases t;simp[Xp,JCr,JCs,Typ.kind,Typ.min,Typ.max,Typ.scale,Typ.words,Typ.elem,Typ.fields]
theorem Xj(l:List Str):JH (l.map .str)=l.map .str:=by
 rw[Jv,List.map_map];exact List.map_congr_left fun p _=>by simp[Dat.canon]
mutual
theorem JBc:∀t:Typ,(Xp t).canon=Xp t
 |.mk k a b s w e f=>by simp only[Xp,Dat.canon,JH,Xj,JAg e,JAh f]
theorem JAg:∀l:List Typ,JH (JCC l)=JCC l
 |[]=>by simp[JCC,JH]
 |v::r=>by simp only[JCC,JH,JBc v,JAg r]
theorem JET:∀f:TFl,(JCD f).canon=JCD f
 |.mk n m d t v=>by
  have:=JBc t;cases t with
  |mk k a b s w e f=>
   simp only[Xp,Dat.canon,JH,Dat.agg.injEq,List.cons.injEq,true_and,and_true,Dat.list.injEq]at this;simp only[JCD,Xp,Dat.cells,List.cons_append,List.nil_append,Dat.canon,JH,ZS,this]
theorem JAh:∀l:List TFl,JH (JCE l)=JCE l
 |[]=>by simp[JCE,JH]
 |v::r=>by simp only[JCE,JH,JET v,JAh r]
end
theorem Xk(l:List Typ):JH (l.map Xp)=l.map Xp:=by rw[←JCr,JAg]
theorem YR(l:List TFl):JH (l.map JCD)=l.map JCD:=by rw[←JCs,JAh]
attribute [go_sem] Xj JBc JET Xk YR
end Av
namespace Av
open Go
variable [Glb]
variable {k:Nat}
structure Kal where
 service:Str
 rules:List Rule
def JW(c:Kal):Dat:=.agg [.str c.service,.list 6 (c.rules.map UR)]
mutual
inductive Ste where
 |mk (name:Str) (kind number time limit:Int) (text schema:Str) (exprs:List Exp) (rules:List Rule) (calls:List Kal) (branches:List Brn)
inductive Brn where
 |mk (cond:List Exp) (steps:List Ste)
end
namespace Ste
def name:Ste→Str|.mk n _ _ _ _ _ _ _ _ _ _=>n
def kind:Ste→Int|.mk _ n _ _ _ _ _ _ _ _ _=>n
def number:Ste→Int|.mk _ _ n _ _ _ _ _ _ _ _=>n
def time:Ste→Int|.mk _ _ _ n _ _ _ _ _ _ _=>n
def limit:Ste→Int|.mk _ _ _ _ n _ _ _ _ _ _=>n
def text:Ste→Str|.mk _ _ _ _ _ n _ _ _ _ _=>n
def schema:Ste→Str|.mk _ _ _ _ _ _ n _ _ _ _=>n
def exprs:Ste→List Exp|.mk _ _ _ _ _ _ _ n _ _ _=>n
def rules:Ste→List Rule|.mk _ _ _ _ _ _ _ _ n _ _=>n
def calls:Ste→List Kal|.mk _ _ _ _ _ _ _ _ _ n _=>n
def branches:Ste→List Brn|.mk _ _ _ _ _ _ _ _ _ _ n=>n
end Ste
namespace Brn
def cond:Brn→List Exp|.mk w _=>w
def steps:Brn→List Ste|.mk _ s=>s
end Brn
mutual
def JI:Ste→Dat
 |.mk n k u t l x c e r a b=>.agg [.str n,.int .i64 k,.int .i64 u,.int .i64 t,.int .i64 l,.str x,.str c,.list 5 (e.map Jf),.list 6 (r.map UR),.list 2 (a.map JW),.list 2 (Zj b)]
def X9:List Ste→List Dat
 |[]=>[]
 |v::r=>JI v::X9 r
def Jz:Brn→Dat
 |.mk w s=>.agg [.list 5 (w.map Jf),.list 11 (X9 s)]
def Zj:List Brn→List Dat
 |[]=>[]
 |v::r=>Jz v::Zj r
end
theorem Z6:∀l:List Ste,X9 l=l.map JI
 |[]=>by simp[X9]
 |v::r=>by simp[X9,Z6 r]
theorem JCt:∀l:List Brn,Zj l=l.map Jz
 |[]=>by simp[Zj]
 |v::r=>by simp[Zj,JCt r]
theorem JV(s:Ste):JI s=.agg [.str s.name,.int .i64 s.kind,.int .i64 s.number,.int .i64 s.time,.int .i64 s.limit,.str s.text,.str s.schema,.list 5 (s.exprs.map Jf),.list 6 (s.rules.map UR),.list 2 (s.calls.map JW),.list 2 (s.branches.map Jz)]:=by
 cases s;simp[JI,JCt,Ste.name,Ste.kind,Ste.number,Ste.time,Ste.limit,Ste.text,Ste.schema,Ste.exprs,Ste.rules,Ste.calls,Ste.branches]
theorem Xv(b:Brn):Jz b=.agg [.list 5 (b.cond.map Jf),.list 11 (b.steps.map JI)]:=by
 cases b;simp[Jz,Z6,Brn.cond,Brn.steps]
structure Sch where
 name:Str
 version:Int
 type:Typ
def Uc(c:Sch):Dat:=.agg [.str c.name,.int .i64 c.version,.int .i64 c.type.kind,.int .i64 c.type.min,.int .i64 c.type.max,.int .i64 c.type.scale,.list 1 (c.type.words.map .str),.list 7 (c.type.elem.map Xp),.list 11 (c.type.fields.map JCD)]
structure Epd where
 name:Str
 kind:Int
 schema:Str
 version:Int
 fkind:Int
 sep:Int
 widths:List Int
def J8(x:Epd):Dat:=.agg [.str x.name,.int .i64 x.kind,.str x.schema,.int .i64 x.version,.int .i64 x.fkind,.int .i64 x.sep,.list 1 (x.widths.map (.int .i64))]
structure Svc where
 name:Str
 request:Str
 reply:Str
 undo:Bool
def Uk(x:Svc):Dat:=.agg [.str x.name,.str x.request,.str x.reply,.bool x.undo]
structure Rou where
 name:Str
 src:Str
 steps:List Ste
def Ue(x:Rou):Dat:=.agg [.str x.name,.str x.src,.list 11 (x.steps.map JI)]
structure Prg where
 version:Int
 schemas:List Sch
 endpoints:List Epd
 services:List Svc
 routes:List Rou
def UA(p:Prg):Dat:=.agg [.int .i64 p.version,.list 9 (p.schemas.map Uc),.list 7 (p.endpoints.map J8),.list 4 (p.services.map Uk),.list 3 (p.routes.map Ue)]
structure Prb where
 code:Int
 route:Str
 place:List Int
 name:Str
def JN1(x:Prb):Dat:=.agg [.int .i64 x.code,.str x.route,.list 1 (x.place.map (.int .i64)),.str x.name]
structure Wlk where
 route:Int
 place:List Int
 step:Ste
def JHV(x:Wlk):Dat:=.agg [.int .i64 x.route,.list 1 (x.place.map (.int .i64)),.str x.step.name,.int .i64 x.step.kind,.int .i64 x.step.number,.int .i64 x.step.time,.int .i64 x.step.limit,.str x.step.text,.str x.step.schema,.list 5 (x.step.exprs.map Jf),.list 6 (x.step.rules.map UR),.list 2 (x.step.calls.map JW),.list 2 (x.step.branches.map Jz)]
theorem Zk{xs:List Ste}(h:k<xs.length):nth (xs.map JI) k=.agg [.str xs[k].name,.int .i64 xs[k].kind,.int .i64 xs[k].number,.int .i64 xs[k].time,.int .i64 xs[k].limit,.str xs[k].text,.str xs[k].schema,.list 5 (xs[k].exprs.map Jf),.list 6 (xs[k].rules.map UR),.list 2 (xs[k].calls.map JW),.list 2 (xs[k].branches.map Jz)]:=by
 rw[Xr (sX h),List.getElem_map,JV]
theorem YS{xs:List Brn}(h:k<xs.length):nth (xs.map Jz) k=.agg [.list 5 (xs[k].cond.map Jf),.list 11 (xs[k].steps.map JI)]:=by
 rw[Xr (sX h),List.getElem_map,Xv]
theorem JU{α:Type}(f:α→Dat){xs:List α}(h:k<xs.length):nth (xs.map f) k=f xs[k]:=by
 rw[Xr (sX h),List.getElem_map]
theorem U7(l:List Int):JH (l.map (.int .i64))=l.map (.int .i64):=by
 rw[Jv,List.map_map];exact List.map_congr_left fun p _=>by simp[Dat.canon]
theorem JDF(c:Kal):(JW c).canon=JW c:=by simp only[JW,Dat.canon,JH,UO]
theorem XJ(l:List Kal):JH (l.map JW)=l.map JW:=by
 rw[Jv,List.map_map];exact List.map_congr_left fun r _=>JDF r
mutual
theorem ZT:∀s:Ste,(JI s).canon=JI s
 |.mk n k u t l x c e r a b=>by simp only[JI,Dat.canon,JH,J7,UO,XJ,JAi b]
theorem Z7:∀l:List Ste,JH (X9 l)=X9 l
 |[]=>by simp[X9,JH]
 |v::r=>by simp only[X9,JH,ZT v,Z7 r]
theorem JEU:∀b:Brn,(Jz b).canon=Jz b
 |.mk w s=>by simp only[Jz,Dat.canon,JH,J7,Z7 s]
theorem JAi:∀l:List Brn,JH (Zj l)=Zj l
 |[]=>by simp[Zj,JH]
 |v::r=>by simp only[Zj,JH,JEU v,JAi r]
end
theorem Xl(l:List Ste):JH (l.map JI)=l.map JI:=by rw[←Z6,Z7]
theorem JDG(l:List Brn):JH (l.map Jz)=l.map Jz:=by rw[←JCt,JAi]
theorem JEV(c:Sch):(Uc c).canon=Uc c:=by simp only[Uc,Dat.canon,JH,Xj,Xk,YR]
theorem JDH(c:Epd):(J8 c).canon=J8 c:=by simp only[J8,Dat.canon,JH,U7]
theorem JEW(c:Svc):(Uk c).canon=Uk c:=by simp only[Uk,Dat.canon,JH]
theorem JEX(c:Rou):(Ue c).canon=Ue c:=by simp only[Ue,Dat.canon,JH,Xl]
theorem JEY(c:Prb):(JN1 c).canon=JN1 c:=by simp only[JN1,Dat.canon,JH,U7]
theorem JDI(c:Wlk):(JHV c).canon=JHV c:=by simp only[JHV,Dat.canon,JH,U7,J7,UO,XJ,JDG]
theorem Yt{α:Type}(f:α→Dat)(h:∀a,(f a).canon=f a)(l:List α):JH (l.map f)=l.map f:=by
 rw[Jv,List.map_map];exact List.map_congr_left fun r _=>h r
theorem JAj(l:List Sch):JH (l.map Uc)=l.map Uc:=Yt _ JEV l
theorem JDJ(l:List Epd):JH (l.map J8)=l.map J8:=Yt _ JDH l
theorem JAk(l:List Svc):JH (l.map Uk)=l.map Uk:=Yt _ JEW l
theorem JAl(l:List Rou):JH (l.map Ue)=l.map Ue:=Yt _ JEX l
theorem JHW(l:List Prb):JH (l.map JN1)=l.map JN1:=Yt _ JEY l
theorem JHX(l:List Wlk):JH (l.map JHV)=l.map JHV:=Yt _ JDI l
theorem JHY(p:Prg):(UA p).canon=UA p:=by simp only[UA,Dat.canon,JH,JAj,JDJ,JAk,JAl]
attribute [go_sem] U7 JDF XJ ZT JEU Xl JDG JEV JDH JEW JEX JEY JDI JAj JDJ JAk JAl JHW JHX JHY
mutual
def szS:Ste→Nat
 |.mk _ _ _ _ _ _ _ _ _ _ b=>1+XN b
def J3:List Ste→Nat
 |[]=>0
 |v::r=>szS v+J3 r
def szB:Brn→Nat
 |.mk _ s=>1+J3 s
def XN:List Brn→Nat
 |[]=>0
 |v::r=>szB v+XN r
end
theorem JEZ(s:Ste):szS s=1+XN s.branches:=by cases s;simp[szS,Ste.branches]
theorem JAm(b:Brn):szB b=1+J3 b.steps:=by cases b;simp[szB,Brn.steps]
theorem JEa:∀{l:List Ste} {s:Ste},s∈l→szS s≤J3 l
 |v::r,s,h=>by
  rcases VA.1 h with rfl|h
  ·simp only[J3];omega
  ·have:=JEa h;simp only[J3];omega
theorem JEb:∀{l:List Brn} {s:Brn},s∈l→szB s≤XN l
 |v::r,s,h=>by
  rcases VA.1 h with rfl|h
  ·simp only[XN];omega
  ·have:=JEb h;simp only[XN];omega
end Av
namespace Go.Proofs
open Go Av
def JE2:List Sch:=[⟨[111,114,100,101,114],1,.mk 9 0 0 0 [] [] [.mk 1 [105,100] 1 (.mk 2 0 999 0 [] [] []) [],.mk 2 [97,109,111,117,110,116] 1 (.mk 2 0 100 0 [] [] []) [],.mk 3 [107,105,110,100] 1 (.mk 4 0 0 0 [[97],[98],[99]] [] []) [],.mk 4 [105,116,101,109,115] 1 (.mk 8 0 4 0 [] [.mk 9 0 0 0 [] [] [.mk 1 [115,107,117] 1 (.mk 2 0 9 0 [] [] []) [],.mk 2 [113,116,121] 1 (.mk 2 0 9 0 [] [] []) []]] []) [],.mk 5 [110,111,116,101] 2 (.mk 4 0 20 0 [] [] []) [],.mk 6 [102,108,97,103] 3 (.mk 1 0 0 0 [] [] []) [.mk 1 0 0 [] [] []]]⟩,⟨[108,105,110,101],1,.mk 9 0 0 0 [] [] [.mk 1 [105,100] 1 (.mk 2 0 999 0 [] [] []) [],.mk 2 [107,105,110,100] 1 (.mk 4 0 0 0 [[97],[98],[99]] [] []) [],.mk 3 [115,107,117] 1 (.mk 2 0 9 0 [] [] []) [],.mk 4 [113,116,121] 1 (.mk 2 0 9 0 [] [] []) []]⟩,⟨[98,105,108,108],1,.mk 9 0 0 0 [] [] [.mk 1 [105,100] 1 (.mk 2 0 999 0 [] [] []) [],.mk 2 [107,105,110,100] 1 (.mk 4 0 0 0 [[97],[98],[99]] [] []) [],.mk 3 [116,111,116,97,108] 1 (.mk 2 0 100000 0 [] [] []) [],.mk 4 [99,111,117,110,116] 1 (.mk 2 0 256 0 [] [] []) []]⟩,⟨[97,110,115,119,101,114],1,.mk 9 0 0 0 [] [] [.mk 1 [111,107] 1 (.mk 1 0 0 0 [] [] []) [],.mk 2 [99,111,100,101] 1 (.mk 2 0 99 0 [] [] []) []]⟩]
def JCF:List Epd:=[⟨[105,110,95,97],1,[111,114,100,101,114],1,1,0,[]⟩,⟨[105,110,95,98],1,[111,114,100,101,114],1,4,0,[]⟩,⟨[97,103,97,105,110],3,[111,114,100,101,114],1,1,0,[]⟩,⟨[111,117,116,95,111,114,100,101,114],2,[111,114,100,101,114],1,4,0,[]⟩,⟨[111,117,116,95,108,105,110,101],2,[108,105,110,101],1,2,44,[]⟩,⟨[111,117,116,95,98,105,108,108],2,[98,105,108,108],1,1,0,[]⟩]
def JDO:List Svc:=[⟨[112,97,121],[98,105,108,108],[97,110,115,119,101,114],true⟩,⟨[115,116,111,99,107],[108,105,110,101],[97,110,115,119,101,114],true⟩,⟨[109,97,105,108],[98,105,108,108],[97,110,115,119,101,114],false⟩]
def JHZ(x:Epd):Dat:=.agg [.str x.name,.int .i64 x.kind,.str x.schema,.int .i64 x.version,.int .i64 x.fkind,.int .i64 x.sep,.nil 1]
def JIl:Dat:=.agg [.int .i64 1,.list 9 (JE2.map Uc),.list 7 (JCF.map JHZ),.list 4 (JDO.map Uk),.nil 3]
def K84(f:Nat):Nat:=if f==53||f==94 then 2 else K27 f
theorem k84:JM3 Tryz.prog JIk K84 53 [.int .i64 1] (.d JIl)=true:=kR
theorem JR9:PT 53 [.int .i64 1] (.d JIl):=(JGE (K:=K84) JFZ k84).1
theorem k10:JM3 Tryz.prog JIk K27 8 [] (.d (.bool true))=true:=kR
theorem walk8:PT 8 [] (.d (.bool true)):=(JGE (K:=K27) JFZ k10).1
def JEc(r:List Rou):Prg:=⟨1,JE2,JCF,JDO,r⟩
theorem JHa:(JCF.map JHZ).map Dat.canon=JCF.map J8:=rfl
end Go.Proofs
namespace Go.Proofs
open Go Av
open Av.Y
def ir55:Ic:=q (.reg (oN 2 [.int .i64 0,.int .i64 0,.str [],.nil 6,.nil 5]<|N))<|q (R (om 3 0<|oo 4 (.bld [.int .i64 0,.int .i64 0,.str [],.nil 6,.nil 5] [(0,1,i 2),(2,1,t 3)])<|oS 5 2 4<|N) [0,3,4])<|.ret
theorem ok55:FT 55 5 ir55 [.cell 2 (some 5)]:=.o Tryz.func55
def ir14:Ic:=q (.reg (oN 2 [.int .i64 0,.int .i64 0,.str [],.nil 6,.nil 5]<|N))<|q (R (om 3 0<|cl 4 44 [t 3]<|oo 5 (.bls 6 [t 4])<|oo 6 (.bld [.int .i64 0,.int .i64 0,.str [],.nil 6,.nil 5] [(0,1,i 1),(3,1,t 5)])<|oS 5 2 6<|N) [0,3,4,5,6])<|.ret
theorem ok14:FT 14 7 ir14 [.cell 2 (some 5)]:=.o Tryz.func14
def ir44:Ic:=q (.reg (oN 2 y6<|N))<|q (R (om 3 0<|oo 4 (.bld y6 [(0,1,i 2),(1,1,t 3)])<|oS 6 2 4<|N) [0,3,4])<|.ret
theorem ok44:FT 44 5 ir44 [.cell 2 (some 6)]:=.o Tryz.func44
def ir54:Ic:=q (R (ox 4 1<|ox 5 2<|oN 6 [.int .i64 0,.int .i64 0,.str [],.nil 6,.nil 5]<|N) [1,2])<|q (R (om 7 0<|oL 8 5 4<|oL 9 5 5<|oo 10 (.bls 5 [t 8,t 9])<|oo 11 (.bld [.int .i64 0,.int .i64 0,.str [],.nil 6,.nil 5] [(0,1,t 7),(4,1,t 10)])<|oS 5 6 11<|N) [0,4,5,7,8,9,10,11])<|.ret
theorem ok54:FT 54 12 ir54 [.cell 6 (some 5)]:=.o Tryz.func54
def JQ0:Ic:=q (R (ok 2 (.k (.str []))<|N) [2])<|q (q (R (om 3 0<|N) [0])<|D (.block 0<|q (R (ob 5 .seq (t 3) (.k (.str [108,105,110,101]))<|om 4 5<|N) [5])<|D (I 4 (q (R (ok 2 (.k (.str [98,111,100,121,46,113,116,121]))<|N) [3,4])<|.ret) (q (R (ob 7 .seq (t 3) (.k (.str [98,105,108,108]))<|om 6 7<|N) [3,4,7])<|D (I 6 (q (R (ok 2 (.k (.str [98,111,100,121,46,116,111,116,97,108]))<|N) [6])<|.ret) S) [6])) []) [])<|q (.reg (ok 2 (.k (.str [98,111,100,121,46,97,109,111,117,110,116]))<|N))<|.ret
theorem ok188:FT 188 8 JQ0 [.tmp 2]:=.o Tryz.func188
def JQ1:Ic:=q (.reg (oN 2 [.nil 6]<|N))<|q (.reg (oN 3 [.nil 6]<|N))<|q (q (.reg (oz 4 0<|N))<|D (.block 0<|.loop (q (q (R (om 9 4<|oi 10 .add 9 1<|om 11 0<|oh 12 11<|ot 13 .lss 10 12<|N) [9,10,11,12])<|D (I 13 S (E 0)) [13])<|q (D (.block 1<|q (R (om 17 0<|om 18 4<|oa false 19 1 17 18<|ol 20 19<|oo 21 (.asr 9 (t 20))<|om 16 21<|oe 22 16 0<|oe 23 16 1<|om 5 22<|om 6 23<|N) [17,18,19,20,21,16,22,23,6])<|q (R (om 25 0<|om 26 4<|oi 27 .add 26 1<|oa false 28 1 25 27<|ol 29 28<|oo 30 (.asr 65 (t 29))<|om 24 30<|oe 31 24 0<|oe 32 24 1<|oN 7 [.int .i64 0,.int .i64 0,.str [],.nil 6,.nil 5]<|oS 5 7 31<|om 8 32<|N) [25,26,27,28,29,30,24,31,32,8])<|R (of 33 3 0<|ol 34 33<|om 35 5<|oL 36 5 7<|oo 37 (.bld [.str [],.int .i64 0,.int .i64 0,.str [],.nil 6,.nil 5] [(0,1,t 35),(1,5,t 36)])<|oo 38 (.bls 6 [t 37])<|oo 39 (.app 6 (t 34) (t 38))<|of 40 3 0<|os 40 39<|N) [5,7,33,34,35,36,37,38,39,40]) [])<|R (om 14 4<|oi 15 .add 14 2<|om 4 15<|N) [14,15])) [0,4,13,5,6,7,8])<|q (R (oL 41 1 3<|oS 1 2 41<|N) [3,41])<|.ret
theorem JQ2:FT 189 42 JQ1 [.cell 2 (some 1)]:=.o Tryz.func189
def JQ3:Ic:=q (R (ox 3 1<|oN 4 [.nil 6]<|N) [1])<|q (D (.regd [(1,12),(4,12),(8,12),(9,12)] (oo 5 (.ifc 9 (.k (.str [105,100])))<|cl 6 55 [.k (.str [98,111,100,121,46,105,100])]<|oo 7 (.ifc 65 (t 6))<|oo 8 (.ifc 9 (.k (.str [107,105,110,100])))<|cl 9 55 [.k (.str [98,111,100,121,46,107,105,110,100])]<|oo 10 (.ifc 65 (t 9))<|oo 11 (.ifc 9 (.k (.str [116,111,116,97,108])))<|om 12 0<|cl 13 188 [t 12]<|cl 14 55 [t 13]<|oo 15 (.ifc 65 (t 14))<|oo 16 (.ifc 9 (.k (.str [99,111,117,110,116])))<|oL 17 5 3<|oo 18 (.ifc 65 (t 17))<|oo 19 (.bls 1 [t 5,t 7,t 8,t 10,t 11,t 15,t 16,t 18])<|cl 20 189 [t 19]<|oS 1 4 20<|N)) [0,3,5,6,7,8,9,10,11,12,13,14,15,16,17,18,19,20])<|.ret
theorem ok190:FT 190 21 JQ3 [.cell 4 (some 1)]:=.o Tryz.func190
def JQ4:Ic:=q (R (ok 4 (.k (.nil 2))<|N) [4])<|q (.reg (ok 5 (.k (.nil 2))<|N))<|q (q (.reg (oz 6 0<|N))<|D (.block 0<|.loop (q (q (R (om 8 6<|om 9 1<|oh 10 9<|ot 11 .lss 8 10<|N) [8,9,10])<|D (I 11 S (E 0)) [11])<|q (D (.block 1<|q (R (om 14 0<|cl 15 14 [i 1]<|cl 16 190 [t 14,t 15]<|oN 7 [.nil 6]<|oS 1 7 16<|N) [14,15,16])<|q (q (R (om 17 1<|om 18 6<|oa false 19 1 17 18<|ol 20 19<|ob 21 .seq (t 20) (.k (.str [115,116,111,99,107]))<|N) [17,18,19,20])<|D (I 21 (R (oo 22 (.ifc 9 (.k (.str [105,100])))<|cl 23 55 [.k (.str [98,111,100,121,46,105,100])]<|oo 24 (.ifc 65 (t 23))<|oo 25 (.ifc 9 (.k (.str [107,105,110,100])))<|cl 26 55 [.k (.str [98,111,100,121,46,107,105,110,100])]<|oo 27 (.ifc 65 (t 26))<|oo 28 (.ifc 9 (.k (.str [115,107,117])))<|om 29 6<|oi 30 .rem 29 10<|cl 31 14 [t 30]<|oo 32 (.ifc 65 (t 31))<|oo 33 (.ifc 9 (.k (.str [113,116,121])))<|cl 34 14 [i 1]<|oo 35 (.ifc 65 (t 34))<|oo 36 (.bls 1 [t 22,t 24,t 25,t 27,t 28,t 32,t 33,t 35])<|cl 37 189 [t 36]<|oS 1 7 37<|N) [21,22,23,24,25,26,27,28,29,30,31,32,33,34,35,36,37]) S) [21])<|R (om 38 5<|om 39 1<|om 40 6<|oa false 41 1 39 40<|ol 42 41<|oL 43 1 7<|oo 44 (.bld [.str [],.nil 6] [(0,1,t 42),(1,1,t 43)])<|oo 45 (.bls 2 [t 44])<|oo 46 (.app 2 (t 38) (t 45))<|om 5 46<|N) [7,38,39,40,41,42,43,44,45,46]) [])<|R (om 12 6<|oi 13 .add 12 1<|om 6 13<|N) [12,13])) [0,1,6,11,7])<|q (R (om 47 5<|om 4 47<|N) [5,47])<|.ret
theorem JQ5:FT 191 48 JQ4 [.tmp 4]:=.o Tryz.func191
def JQ6:Ic:=q (R (ox 3 1<|oN 4 [.str [],.int .i64 0,.int .i64 0,.int .i64 0,.int .i64 0,.str [],.str [],.nil 5,.nil 6,.nil 2,.nil 2]<|N) [1])<|q (R (om 6 0<|ob 7 .cat (.k (.str [111,117,116,95])) (t 6)<|om 5 7<|N) [6,7])<|q (q (R (om 8 0<|ob 9 .seq (t 8) (.k (.str [111,114,100,101,114]))<|om 10 9<|.sc 10 true (of 11 3 1<|ol 12 11<|ob 13 .rem (t 12) (.k (.int .u8 3))<|ob 14 .eql (t 13) (.k (.int .u8 1))<|N) (t 14) 15 N) [0,3,8,9,10])<|D (I 15 (R (ok 5 (.k (.str [97,103,97,105,110]))<|N) [15]) S) [15])<|q (R (om 16 5<|oo 17 (.bld [.str [],.int .i64 0,.int .i64 0,.int .i64 0,.int .i64 0,.str [],.str [],.nil 5,.nil 6,.nil 2,.nil 2] [(1,1,i 13),(5,1,t 16)])<|oS 11 4 17<|N) [5,16,17])<|.ret
theorem ok112:FT 112 18 JQ6 [.cell 4 (some 11)]:=.o Tryz.func112
end Go.Proofs
namespace Go.Proofs
open Go Av
open Av.Y
def ir90:Ic:=q (R (ox 1 0<|oN 2 [.int .i64 0,.int .i64 0,.str [],.nil 6,.nil 5]<|N) [0])<|q (R (of 8 1 0<|ol 9 8<|of 10 1 1<|ol 11 10<|of 12 1 2<|ol 13 12<|oo 14 (.bld [.int .i64 0,.int .i64 0,.str [],.nil 6,.nil 5] [(0,1,t 9),(1,1,t 11),(2,1,t 13)])<|oN 3 [.int .i64 0,.int .i64 0,.str [],.nil 6,.nil 5]<|oS 5 3 14<|N) [8,9,10,11,12,13,14])<|q (q (R (of 15 1 3<|ol 16 15<|oh 17 16<|oz 18 0<|N) [15])<|D (.block 0<|.loop (q (.reg (ot 19 .lss 18 17<|N))<|q (D (I 19 S (E 0)) [19])<|q (D (.block 1<|q (R (oa true 20 6 16 18<|oL 21 6 20<|oN 5 y6<|oS 6 5 21<|N) [20,21])<|D (.regd [(1,3),(1,4)] (of 22 3 3<|ol 23 22<|oL 24 6 5<|cl 25 127 [t 24]<|oo 26 (.bls 6 [t 25])<|oo 27 (.app 6 (t 23) (t 26))<|of 28 3 3<|os 28 27<|N)) [5,22,23,24,25,26,27,28]) [])<|R (oi 29 .add 18 1<|om 18 29<|N) [29])) [16,17,18,19,5])<|q (q (R (of 30 1 4<|ol 31 30<|oh 32 31<|oz 33 0<|N) [1,30])<|D (.block 2<|.loop (q (.reg (ot 34 .lss 33 32<|N))<|q (D (I 34 S (E 2)) [34])<|q (D (.block 3<|q (R (oa true 35 5 31 33<|oL 36 5 35<|oN 7 [.int .i64 0,.int .i64 0,.str [],.nil 6,.nil 5]<|oS 5 7 36<|N) [35,36])<|D (.regd [(1,3),(1,4)] (of 37 3 4<|ol 38 37<|oL 39 5 7<|cl 40 90 [t 39]<|oo 41 (.bls 5 [t 40])<|oo 42 (.app 5 (t 38) (t 41))<|of 43 3 4<|os 43 42<|N)) [7,37,38,39,40,41,42,43]) [])<|R (oi 44 .add 33 1<|om 33 44<|N) [44])) [31,32,33,34,7])<|q (R (oL 45 5 3<|oS 5 2 45<|N) [3,45])<|.ret
theorem ok90:FT 90 46 ir90 [.cell 2 (some 5)]:=.o Tryz.func90
def ir91:Ic:=q (R (ox 1 0<|oN 2 [.nil 6]<|N) [0])<|q (R (of 6 1 0<|ol 7 6<|oh 8 7<|oo 9 (.mks 6 [.str [],.int .i64 0,.int .i64 0,.str [],.nil 6,.nil 5] (i 0) (t 8))<|om 3 9<|N) [6,7,8,9])<|q (q (R (of 10 1 0<|ol 11 10<|oh 12 11<|oz 13 0<|N) [1,10])<|D (.block 0<|.loop (q (.reg (ot 14 .lss 13 12<|N))<|q (D (I 14 S (E 0)) [14])<|q (D (.block 1<|q (R (oa true 15 6 11 13<|oL 16 6 15<|oN 5 [.str [],.int .i64 0,.int .i64 0,.str [],.nil 6,.nil 5]<|oS 6 5 16<|N) [15,16])<|D (.regd [(2,5)] (om 17 3<|of 18 5 0<|ol 19 18<|of 20 5 1<|oL 21 5 20<|cl 22 90 [t 21]<|oo 23 (.bld [.str [],.int .i64 0,.int .i64 0,.str [],.nil 6,.nil 5] [(0,1,t 19),(1,5,t 22)])<|oo 24 (.bls 6 [t 23])<|oo 25 (.app 6 (t 17) (t 24))<|om 3 25<|N)) [5,17,18,19,20,21,22,23,24,25]) [])<|R (oi 26 .add 13 1<|om 13 26<|N) [26])) [11,12,13,14,5])<|q (R (om 27 3<|oo 28 (.bld [.nil 6] [(0,1,t 27)])<|oS 1 2 28<|N) [3,27,28])<|.ret
theorem ok91:FT 91 29 ir91 [.cell 2 (some 1)]:=.o Tryz.func91
def JJr:Ic:=q (R (ok 4 (.k (.nil 5))<|N) [4])<|q (.reg (ok 5 (.k (.nil 5))<|N))<|q (q (R (om 8 0<|oh 9 8<|oz 10 0<|N) [0])<|D (.block 0<|.loop (q (.reg (ot 11 .lss 10 9<|N))<|q (D (I 11 S (E 0)) [11])<|q (D (.block 1<|q (R (oa true 12 5 8 10<|oL 13 5 12<|oN 7 [.int .i64 0,.int .i64 0,.str [],.nil 6,.nil 5]<|oS 5 7 13<|N) [12,13])<|R (om 14 5<|om 15 1<|oL 16 5 7<|.call (some 17) (.dyn (t 15)) [t 16] (oo 18 (.bls 5 [t 17])<|oo 19 (.app 5 (t 14) (t 18))<|om 5 19<|N)) [7,14,15,16,17,18,19]) [])<|R (oi 20 .add 10 1<|om 10 20<|N) [20])) [1,8,9,10,11,7])<|q (R (om 21 5<|om 4 21<|N) [5,21])<|.ret
theorem JHb:FT 113 22 JJr [.tmp 4]:=.o Tryz.func113
def JQ7:Ic:=q (R (ok 4 (.k (.nil 2))<|N) [4])<|q (.reg (ok 5 (.k (.nil 2))<|N))<|q (q (R (om 8 0<|oh 9 8<|oz 10 0<|N) [0])<|D (.block 0<|.loop (q (.reg (ot 11 .lss 10 9<|N))<|q (D (I 11 S (E 0)) [11])<|q (D (.block 1<|q (R (oa true 12 2 8 10<|oL 13 2 12<|oN 7 [.str [],.nil 6]<|oS 2 7 13<|N) [12,13])<|R (om 14 5<|om 15 1<|oL 16 2 7<|.call (some 17) (.dyn (t 15)) [t 16] (oo 18 (.bls 2 [t 17])<|oo 19 (.app 2 (t 14) (t 18))<|om 5 19<|N)) [7,14,15,16,17,18,19]) [])<|R (oi 20 .add 10 1<|om 10 20<|N) [20])) [1,8,9,10,11,7])<|q (R (om 21 5<|om 4 21<|N) [5,21])<|.ret
theorem JQ8:FT 114 22 JQ7 [.tmp 4]:=.o Tryz.func114
def JQ9:Ic:=q (R (ox 1 0<|oN 2 [.str [],.nil 6]<|N) [0])<|q (R (of 3 1 1<|oL 4 1 3<|cl 5 91 [t 4]<|of 6 1 1<|oS 1 6 5<|N) [3,4,5,6])<|q (R (oL 7 2 1<|oS 2 2 7<|N) [1,7])<|.ret
theorem ok115:FT 115 8 JQ9 [.cell 2 (some 2)]:=.o Tryz.func115
def JHc:Ic:=q (R (ok 4 (.k (.nil 2))<|N) [4])<|q (.reg (ok 5 (.k (.nil 2))<|N))<|q (q (R (om 8 0<|oh 9 8<|oz 10 0<|N) [0])<|D (.block 0<|.loop (q (.reg (ot 11 .lss 10 9<|N))<|q (D (I 11 S (E 0)) [11])<|q (D (.block 1<|q (R (oa true 12 2 8 10<|oL 13 2 12<|oN 7 [.nil 5,.nil 11]<|oS 2 7 13<|N) [12,13])<|R (om 14 5<|om 15 1<|oL 16 2 7<|.call (some 17) (.dyn (t 15)) [t 16] (oo 18 (.bls 2 [t 17])<|oo 19 (.app 2 (t 14) (t 18))<|om 5 19<|N)) [7,14,15,16,17,18,19]) [])<|R (oi 20 .add 10 1<|om 10 20<|N) [20])) [1,8,9,10,11,7])<|q (R (om 21 5<|om 4 21<|N) [5,21])<|.ret
theorem JHd:FT 116 22 JHc [.tmp 4]:=.o Tryz.func116
def JJs:Ic:=q (R (ox 1 0<|oN 2 [.nil 5,.nil 11]<|N) [0])<|q (D (.regd [(2,4)] (of 3 1 0<|ol 4 3<|cl 5 113 [t 4,.k (.fn (.func 90) [] [])]<|of 6 1 1<|ol 7 6<|cl 8 63 [t 7,.k (.fn (.func 64) [] [])]<|oo 9 (.bld [.nil 5,.nil 11] [(0,1,t 5),(1,1,t 8)])<|oS 2 2 9<|N)) [1,3,4,5,6,7,8,9])<|.ret
theorem JN2:FT 117 10 JJs [.cell 2 (some 2)]:=.o Tryz.func117
def JPp:Ic:=q (R (ok 4 (.k (.nil 11))<|N) [4])<|q (.reg (ok 5 (.k (.nil 11))<|N))<|q (q (R (om 8 0<|oh 9 8<|oz 10 0<|N) [0])<|D (.block 0<|.loop (q (.reg (ot 11 .lss 10 9<|N))<|q (D (I 11 S (E 0)) [11])<|q (D (.block 1<|q (R (oa true 12 11 8 10<|oL 13 11 12<|oN 7 [.str [],.int .i64 0,.int .i64 0,.int .i64 0,.int .i64 0,.str [],.str [],.nil 5,.nil 6,.nil 2,.nil 2]<|oS 11 7 13<|N) [12,13])<|R (om 14 5<|om 15 1<|oL 16 11 7<|.call (some 17) (.dyn (t 15)) [t 16] (oo 18 (.bls 11 [t 17])<|oo 19 (.app 11 (t 14) (t 18))<|om 5 19<|N)) [7,14,15,16,17,18,19]) [])<|R (oi 20 .add 10 1<|om 10 20<|N) [20])) [1,8,9,10,11,7])<|q (R (om 21 5<|om 4 21<|N) [5,21])<|.ret
theorem JN3:FT 63 22 JPp [.tmp 4]:=.o Tryz.func63
def JN4:Ic:=q (R (ox 1 0<|oN 2 [.str [],.int .i64 0,.int .i64 0,.int .i64 0,.int .i64 0,.str [],.str [],.nil 5,.nil 6,.nil 2,.nil 2]<|N) [0])<|q (R (of 3 1 7<|ol 4 3<|cl 5 113 [t 4,.k (.fn (.func 90) [] [])]<|of 6 1 7<|os 6 5<|N) [3,4,5,6])<|q (R (of 7 1 8<|oL 8 1 7<|cl 9 91 [t 8]<|of 10 1 8<|oS 1 10 9<|N) [7,8,9,10])<|q (R (of 11 1 9<|ol 12 11<|cl 13 114 [t 12,.k (.fn (.func 115) [] [])]<|of 14 1 9<|os 14 13<|N) [11,12,13,14])<|q (R (of 15 1 10<|ol 16 15<|cl 17 116 [t 16,.k (.fn (.func 117) [] [])]<|of 18 1 10<|os 18 17<|N) [15,16,17,18])<|q (R (oL 19 11 1<|oS 11 2 19<|N) [1,19])<|.ret
theorem JPq:FT 64 20 JN4 [.cell 2 (some 11)]:=.o Tryz.func64
end Go.Proofs
namespace Go.Proofs
open Go Av
open Av.Y
def JRA:Ic:=q (R (oz 4 0<|N) [4])<|q (q (R (om 6 0<|oh 7 6<|oz 8 0<|N) [6])<|D (.block 0<|.loop (q (.reg (ot 9 .lss 8 7<|N))<|q (D (I 9 S (E 0)) [9])<|q (D (.block 1<|q (R (om 10 8<|om 5 10<|N) [10])<|q (R (om 11 1<|om 12 0<|om 13 5<|oa true 14 2 12 13<|oL 15 2 14<|.call (some 16) (.dyn (t 11)) [t 15] N) [11,12,13,14,15])<|D (I 16 (q (R (om 17 5<|om 4 17<|N) [0,1,7,8,5,16,17])<|.ret) S) [5,16]) [])<|R (oi 18 .add 8 1<|om 8 18<|N) [18])) [0,1,7,8,9,10,5,11])<|q (.reg (oz 4 (-1)<|N))<|.ret
theorem ok236:FT 236 19 JRA [.tmp 4]:=.o Tryz.func236
def JRB:Ic:=q (R (ow 4 false<|N) [4])<|q (R (om 5 0<|om 6 1<|cl 7 236 [t 5,t 6]<|oi 8 .geq 7 0<|om 4 8<|N) [0,1,5,6,7,8])<|.ret
theorem ok193:FT 193 9 JRB [.tmp 4]:=.o Tryz.func193
end Go.Proofs
namespace Av
open Go
variable [Glb][Rls]
abbrev JPr(g:Nat)(cs:List Dat):Dat:=.fn (.func g) [] [.ptr cs]
theorem JAn(cs:List Dat):Ya (cs.map .d)=some cs:=by
 induction cs with
 |nil=>rfl
 |cons x r ih=>simp only[Va,Ya,ih]
theorem JQ.clo{P:Program}{f g:Nat}{ds cs:List Dat}{r:Dat}(h:UD P f (ds++[JPr g cs]) (.d r))(hr:scalar r=true)(i:Nat):
  JQ P f (ds.map .d++[.clo (.func g) [] [.ref i 0]]) [(i,some (.box (cs.map .d)))] (.d r) []:=by
 intro β A w H vs hT hc hvs;have hi:H i=some (.box (cs.map .d)):=hT _ (List.mem_singleton.2 rfl);have st:=Stp.Yu hc hi (JAn cs);have hc0:Core β (fun k=>A k∨β i=some k) w (get []):=⟨(by intro i o hi;cases hi),(by intro i j o o' b hi;cases hi),(by intro i o b hi;cases hi),st.core.old,st.core.glob⟩;refine .inl ⟨h.1,(h.2 β (fun k=>A k∨β i=some k) w vs hc0 ⟨by have:=hvs.1;simp at this⊢;omega,?_⟩).mono ?_⟩
 ·intro k c v h1 h2;rw[Vo]at h1;cases e:(ds++[JPr g cs])[k]? with
  |none=>simp[e]at h1
  |some x=>
   simp only[e,Vj,Vd]at h1;subst h1;refine .d _ _ ?_;by_cases hk:k<ds.length
   ·rw[Vz hk]at e;have:=hvs.2 k (.d x) v (by rw[Vz (sX hk),Vo,e];rfl) h2;exact(st.vals _ _ this).Jc
   ·rw[Vy oM]at e;have hk0:k-ds.length=0:=by
     rcases Nat.eq_zero_or_pos (k-ds.length)with h|h
     ·exact h
     ·rw[List.getElem?_eq_none sO]at e;cases e
    rw[hk0]at e;cases e;have hlen:(ds.map Av.d).length=ds.length:=sP;have:=hvs.2 k (.clo (.func g) [] [.ref i 0]) v (by rw[Vy sO,hlen,hk0];rfl) h2;have h3:=st.vals _ _ this;cases h3 with
    |clo _ _ _ a1 a2 l1 l2 hf hvv=>
     refine .fn _ _ _ a1 a2 l1 (sX l2) (by intro j c v hj;cases hj) ?_;intro j c v hj hjv
     match j,hj with
     |0,hj=>
      cases hj;have hrf:=hvv 0 _ v rfl hjv;cases hrf with
      |ref _ _ _ _ _ hu g0 g1 g2=>
       have:=g2 cs sU;simpa using this
     |j+1,hj=>cases hj
 ·rintro e w' ⟨v,β1,A1,rfl,hsince,hc1,hv⟩;obtain⟨s1,s2,s3,s4,s5,sl,s6,s7,s8⟩:=hsince;dsimp only at s1 s2 s3 s4 s5 sl;have hsame:∀b,b<w.heap.size→w'.heap[b]? =w.heap[b]? :=fun b hb=>s5 b hb (by intro i o hi;cases hi)
  have hst:Stp β A w H β A w' H:=Stp.new hc s1 s2 s3 s4 hsame (fun _ h=>h) (fun _ h=>.inl h) (fun b hb=>by have:=hc.old b hb;omega);exact⟨v,rfl,β,A,hst,.d _ _ (hv.Jc.scalar hr)⟩
end Av
namespace Go.Proofs
open Go Av
def ixQ{α:Type}(q:α→Bool)(l:List α):Int:=match l.findIdx? q with
 |some k=>(k:Int)
 |none=> -1
theorem ZC{α:Type}{q:α→Bool}{l:List α}{k:Nat}(h:k<l.length)(hk:q l[k]=true)(hj:∀(j:Nat) (h1:j<l.length),j<k→q l[j]=false):ixQ q l=k:=by
 have:l.findIdx? q=some k:=by
  rw[List.findIdx?_eq_some_iff_getElem];exact⟨h,hk,fun j h2=>by rw[hj j oM h2];decide⟩
 simp only[ixQ,this]
theorem ZD{α:Type}{q:α→Bool}{l:List α}(hj:∀(j:Nat) (h1:j<l.length),q l[j]=false):ixQ q l= -1:=by
 have:l.findIdx? q=none:=by
  rw[List.findIdx?_eq_none_iff];intro x hx;obtain⟨j,h,rfl⟩:=List.getElem_of_mem hx;exact hj j h
 simp only[ixQ,this]
theorem Z8{α:Type}(q:α→Bool)(l:List α):decide (ixQ q l≥0)=l.any q:=by
 unfold ixQ;cases e:l.findIdx? q with
 |none=>
  rw[List.findIdx?_eq_none_iff]at e;have:l.any q=false:=by rw[List.any_eq_false];intro x hx;rw[e x hx];decide
  rw[this];rfl
 |some k=>
  obtain⟨h1,h2,_⟩:=List.findIdx?_eq_some_iff_getElem.1 e;have:l.any q=true:=List.any_eq_true.2 ⟨_,Vk h1,h2⟩;rw[this];simp
theorem ix300{g:Nat}{cs:List Dat}{q:Brn→Bool}(l:List Brn)(hq:∀x∈l,PT g (Jz x::cs) (.d (.bool (q x))))(hl:l.length≤68719476736):
  PT 236 [.list 2 (l.map Jz),.fn (.func g) [] cs] (.d (.int .i64 (ixQ q l))):=by
 refine ok236.pc ?_;simp only[go_sem,JRA,Vc,simprocAttr];refine JK (fun n s=>∃k:Nat,k≤l.length∧n=l.length-k∧(∀(j:Nat) (h1:j<l.length),j<k→q l[j]=false)∧
  s=⟨[(0,.d (.list 2 (l.map Jz))),(1,.d (.fn (.func g) [] cs)),(7,.d (.int .i64 l.length)),(8,.d (.int .i64 k))],[]⟩) ?_ ?_
 ·exact⟨_,_,Wk.refl _,0,Nat.zero_le _,rfl,sP,rfl⟩
 ·rintro n s ⟨k,hk,rfl,hinv,rfl⟩;by_cases hlt:k<l.length
  ·have hx:=JU Jz hlt;have hd:=dT hlt;have hc:=(hq l[k] (Vk _)).call trivial;simp only[Xv,Va]at hc hx;refine zz6 ?_;refine⟨oM,wn hc ?_⟩;refine zz ?_;apply ik<;>intro hf
   ·rw[ZC hlt hf hinv]
   ·refine⟨l.length-(k+1),_,oM,Wk.less ?_,k+1,oM,rfl,fun j h1 hj=>?_,rfl⟩
    ·exact zz7 trivial
    ·by_cases e:j=k
     ·subst e;exact hf
     ·exact hinv j h1 oM
  ·have hd:=dF hlt;refine zz5 ?_;rw[ZD (fun j h=>hinv j h oM)]
theorem JPs{g:Nat}{cs:List Dat}{q:Brn→Bool}(l:List Brn)(hq:∀x∈l,PT g (Jz x::cs) (.d (.bool (q x))))(hl:l.length≤68719476736):
  PT 193 [.list 2 (l.map Jz),.fn (.func g) [] cs] (.d (.bool (l.any q))):=by
 refine ok193.pc ?_;have c:=(ix300 l hq hl).call trivial;rw[←Z8];simp only[go_sem,JRB,simprocAttr];refine wc c trivial
end Go.Proofs
namespace Av
open Go
variable [Glb][Rls]
theorem UD.JKL{P:Program}{f g:Nat}{d:Dat}{cs:List Dat}{r:Av}(h:UD P f [d,JPr g cs] r)(hr:U6 r)(i:Nat):
  JQ P f [.d d,.clo (.func g) [] [.ref i 0]] [(i,some (.box (cs.map .d)))] r [(i,.fbox cs)]:=by
 intro β A w H vs hT hc hvs;have hi:H i=some (.box (cs.map .d)):=hT _ (List.mem_singleton.2 rfl);have st:=Stp.Yu hc hi (JAn cs);obtain⟨x1,x2,rfl⟩:∃x y,vs=#[x,y]:=by
  have h2:2=vs.size:=sX hvs.1;refine⟨vs[0],vs[1],?_⟩;apply Array.ext
  ·simp[←h2]
  ·intro i h1 h2;have:i=0∨i=1:=oM;rcases this with rfl|rfl<;>rfl
 have v1:=st.vals _ _ (hvs.2 0 _ x1 rfl rfl);have v2:=st.vals _ _ (hvs.2 1 _ x2 rfl rfl);have hv2:Rep (fun k=>A k∨β i=some k) w (JPr g cs) x2:=by
  cases v2 with
  |clo _ _ _ a1 a2 l1 l2 hf hvv=>
   refine .fn _ _ _ a1 a2 l1 (sX l2) (by intro j c v hj;cases hj) ?_;intro k c v hk hkv
   match k,hk with
   |0,hk=>
    cases hk;have hrf:=hvv 0 _ v rfl hkv;cases hrf with
    |ref _ _ _ _ _ hu g0 g1 g2=>
     have:=g2 cs sU;simpa using this
   |k+1,hk=>cases hk
 have:=h.call hr β _ w _ #[x1,x2] sP st.core ⟨rfl,fun k c u h1 h2=>by
  match k,h1,h2 with
  |0,h1,h2=>cases h1;cases h2;exact v1
  |1,h1,h2=>cases h1;cases h2;exact .d _ _ hv2
  |k+2,h1,h2=>cases h1⟩
 rcases this with⟨a1,a2⟩|⟨u,w',a1,β',A',a2,a3⟩
 ·refine .inl ⟨a1,a2.mono ?_⟩;rintro e w' ⟨u,rfl,β',A',b1,b2⟩;exact⟨u,rfl,β',A',st.trans b1,b2⟩
 ·exact .inr ⟨u,w',a1,β',A',st.trans a2,a3⟩
end Av
namespace Go.Proofs
open Go Av
mutual
def okV:Val→Prop
 |.mk _ _ _ _ l f=>l.length≤68719476736∧f.length≤68719476736∧JIm l∧JIn f
def JIm:List Val→Prop
 |[]=>True
 |v::r=>okV v∧JIm r
def okF:Fld→Prop
 |.mk _ v=>okV v
def JIn:List Fld→Prop
 |[]=>True
 |v::r=>okF v∧JIn r
end
theorem JPt(a:Val)(ha:a.list.length≤68719476736)(ha2:a.fields.length≤68719476736)(h1:∀x∈a.list,CT 127 [.d (UF x)] [] (.d (UF x)) [])(h2:∀x∈a.fields,CT 127 [.d (UF x.value)] [] (.d (UF x.value)) []):
  PT 127 [UF a] (.d (UF a)):=by
 refine JQm.pc ?_;rw[XM];simp only[go_sem,JQl,simprocAttr];refine JK (fun n s=>∃k:Nat,k≤a.list.length∧n=a.list.length-k∧
  s=⟨[(1,.ref 1 0),(2,.ref 2 0),(3,.ref 3 0),(12,.d (.list 6 (a.list.map UF))),(13,.d (.int .i64 a.list.length)),(14,.d (.int .i64 k))],
   [(1,.box [.d (.int .i64 a.kind),.d (.int .i64 a.int),.d (.int .i64 a.scale),.d (.str a.text),.d (.list 6 (a.list.map UF)),.d (.list 7 (a.fields.map Z5))]),
    (2,.box [.d (.int .i64 0),.d (.int .i64 0),.d (.int .i64 0),.d (.str []),.d (.nil 6),.d (.nil 7)]),
    (3,.box [.d (.int .i64 a.kind),.d (.int .i64 a.int),.d (.int .i64 a.scale),.d (.str a.text),.ms 23 k,.d (.nil 7)]),
    (23,.row k 6 ((a.list.take k).map UF))]⟩) ?_ ?_
 ·refine⟨_,_,Wk.JCY 3 4 23 6 _ rfl rfl rfl dC,0,Nat.zero_le _,rfl,?_⟩;simp[put]
 ·rintro n s ⟨k,hk,rfl,rfl⟩;by_cases hlt:k<a.list.length
  ·have hx:=JHT hlt;have hd:=dT hlt;refine JPe ?_;have hc:=h1 a.list[k] (Vk _);rw[XM]at hc;refine⟨sO,JG rfl hc trivial ?_⟩;refine zz ?_;refine⟨sP,sO,rfl,a.list.length-(k+1),_,oM,Wk.less ?_,k+1,oM,rfl,rfl⟩;rw[List.take_succ_eq_append_getElem hlt,Vw];simp only[go_sem,JE k oM,Va,Vb,XM a.list[k],Nat.reduceAdd,Nat.reduceEqDiff,Nat.reduceBEq,Nat.reduceLeDiff,reduceCtorEq,↓reduceIte]
  ·have hd:=dF hlt;obtain rfl:k=a.list.length:=oM;refine JHH ?_;refine JK (fun n s=>∃k:Nat,k≤a.fields.length∧n=a.fields.length-k∧
    s=⟨[(2,.ref 2 0),(3,.ref 3 0),(27,.d (.list 7 (a.fields.map Z5))),(28,.d (.int .i64 a.fields.length)),(29,.d (.int .i64 k))],
     [(2,.box [.d (.int .i64 0),.d (.int .i64 0),.d (.int .i64 0),.d (.str []),.d (.nil 6),.d (.nil 7)]),
      (3,.box [.d (.int .i64 a.kind),.d (.int .i64 a.int),.d (.int .i64 a.scale),.d (.str a.text),.ms 23 a.list.length,.ms 42 k]),
      (23,.row a.list.length 6 (a.list.map UF)),
      (42,.row k 7 ((a.fields.take k).map Z5))]⟩) ?_ ?_
   ·refine⟨_,_,(Wk.JCY 3 5 42 7 _ rfl rfl rfl dC).trans (Wk.less ?_),0,Nat.zero_le _,rfl,rfl⟩;simp[put,go_sem]
   ·rintro n s ⟨k,hk,rfl,rfl⟩;by_cases hlt:k<a.fields.length
    ·have hx:=JMz hlt;have hd:=dT hlt;have hc:=h2 a.fields[k] (Vk _);rw[XM]at hc;refine JPe ?_;refine⟨sO,JG rfl hc trivial ?_⟩;refine zz ?_;refine⟨sP,sO,rfl,a.fields.length-(k+1),_,oM,Wk.less ?_,k+1,oM,rfl,rfl⟩;rw[List.take_succ_eq_append_getElem hlt,Vw];simp only[go_sem,JE k oM,Va,Vb,JGB a.fields[k],Nat.reduceAdd,Nat.reduceEqDiff,Nat.reduceBEq,Nat.reduceLeDiff,reduceCtorEq,↓reduceIte]
    ·have hd:=dF hlt;obtain rfl:k=a.fields.length:=oM;exact JHH trivial
mutual
theorem JGG:∀(a:Val),okV a→PT 127 [UF a] (.d (UF a))
 |.mk k i s t l f,ha=>by
  simp only[okV]at ha;obtain⟨a1,a2,a3,a4⟩:=ha;exact JPt _ a1 a2 (fun x hx=>(JHe l a3 x hx).call trivial) (fun x hx=>(JHf f a4 x hx).call trivial)
theorem JHe:∀(l:List Val),JIm l→∀x∈l,PT 127 [UF x] (.d (UF x))
 |[],_,x,h=>by cases h
 |v::r,ho,x,h=>by
  simp only[JIm]at ho;by_cases e:x=v
  ·rw[e];exact JGG v ho.1
  ·exact JHe r ho.2 x ((VA.1 h).resolve_left e)
theorem JHf:∀(l:List Fld),JIn l→∀x∈l,PT 127 [UF x.value] (.d (UF x.value))
 |[],_,x,h=>by cases h
 |.mk n v::r,ho,x,h=>by
  simp only[JIn,okF]at ho;by_cases e:x=.mk n v
  ·rw[e];exact JGG v ho.1
  ·exact JHf r ho.2 x ((VA.1 h).resolve_left e)
end
end Go.Proofs
namespace Go.Proofs
open Go Av
variable {g:Nat}
theorem JN5{v:Val}(h:fits (UF v)):v.text.length≤68719476736∧v.list.length≤68719476736∧v.fields.length≤68719476736:=by
 rw[XM]at h;simp only[fits,XW,Vc,and_true]at h;exact⟨h.2.2.2.1,h.2.2.2.2.1.1,h.2.2.2.2.2.1⟩
mutual
theorem JEd:∀v:Val,fits (UF v)→okV v
 |.mk k i s t l f,h=>by
  have h':l.length≤68719476736∧f.length≤68719476736:=(JN5 h).2;rw[XM]at h;simp only[fits,XW,and_true,Val.list,Val.fields]at h;simp only[okV];exact⟨h'.1,h'.2,JFa l fun x hx=>Un.1 h.2.2.2.2.1.2 _ (VC.2 ⟨x,hx,rfl⟩),JFb f fun x hx=>Un.1 h.2.2.2.2.2.2 _ (VC.2 ⟨x,hx,rfl⟩)⟩
theorem JFa:∀l:List Val,(∀x∈l,fits (UF x))→JIm l
 |[],_=>by simp[JIm]
 |v::r,h=>by
  simp only[JIm];exact⟨JEd v (h v (Vh)),JFa r fun x hx=>h x (Vn _ hx)⟩
theorem JFb:∀l:List Fld,(∀x∈l,fits (Z5 x))→JIn l
 |[],_=>by simp[JIn]
 |.mk n v::r,h=>by
  have h1:=h (.mk n v) (Vh);rw[JGB]at h1;have h2:fits (UF v):=by
   rw[XM];simp only[fits,XW,and_true,Fld.value]at h1⊢;exact h1.2
  simp only[JIn];exact⟨JEd v h2,JFb r fun x hx=>h x (Vn _ hx)⟩
end
theorem q70(a:Val):PT 127 [UF a] (.d (UF a)):=UD.Ju JQm.has fun h=>JGG a (JEd a (h _ (Vh)))
theorem JPu{e:Exp}(h:fits (Jf e)):e.text.length≤68719476736∧e.value.length≤68719476736∧e.args.length≤68719476736∧∀x∈e.args,fits (Jf x):=by
 rw[Jy]at h;simp only[fits,XW,Vc,and_true]at h;obtain⟨_,_,h1,⟨h2,h3⟩,h4,h5⟩:=h;exact⟨h1,h2,h4,fun x hx=>Un.1 h5 _ (VC.2 ⟨x,hx,rfl⟩)⟩
theorem JN6{xs:List Exp}{k:Nat}(h:k<xs.length):nth (xs.map Jf) k=.agg [.int .i64 xs[k].op,.int .i64 xs[k].int,.str xs[k].text,.list 6 (xs[k].value.map UF),.list 5 (xs[k].args.map Jf)]:=by
 rw[JU Jf h,Jy]
theorem JSA(a:Exp)(ha:a.value.length≤68719476736)(ha2:a.args.length≤68719476736)(h1:∀x∈a.value,CT 127 [.d (UF x)] [] (.d (UF x)) [])(h2:∀x∈a.args,CT 90 [.d (Jf x)] [] (.d (Jf x)) []):
  PT 90 [Jf a] (.d (Jf a)):=by
 refine ok90.pc ?_;rw[Jy];simp only[go_sem,ir90,simprocAttr];refine JK (fun n s=>∃k:Nat,k≤a.value.length∧n=a.value.length-k∧
  s=⟨[(1,.ref 1 0),(2,.ref 2 0),(3,.ref 3 0),(16,.d (.list 6 (a.value.map UF))),(17,.d (.int .i64 a.value.length)),(18,.d (.int .i64 k))],
   [(1,.box [.d (.int .i64 a.op),.d (.int .i64 a.int),.d (.str a.text),.d (.list 6 (a.value.map UF)),.d (.list 5 (a.args.map Jf))]),
    (2,.box [.d (.int .i64 0),.d (.int .i64 0),.d (.str []),.d (.nil 6),.d (.nil 5)]),
    (3,.box [.d (.int .i64 a.op),.d (.int .i64 a.int),.d (.str a.text),.ms 27 k,.d (.nil 5)]),
    (27,.row k 6 ((a.value.take k).map UF))]⟩) ?_ ?_
 ·refine⟨_,_,Wk.JCY 3 3 27 6 _ rfl rfl rfl dC,0,Nat.zero_le _,rfl,?_⟩;simp[put]
 ·rintro n s ⟨k,hk,rfl,rfl⟩;by_cases hlt:k<a.value.length
  ·have hx:=JHT hlt;have hd:=dT hlt;refine JPe ?_;have hc:=h1 a.value[k] (Vk _);rw[XM]at hc;refine⟨sO,JG rfl hc trivial ?_⟩;refine zz ?_;refine⟨sP,sO,rfl,a.value.length-(k+1),_,oM,Wk.less ?_,k+1,oM,rfl,rfl⟩;rw[List.take_succ_eq_append_getElem hlt,Vw];simp only[go_sem,JE k oM,Va,Vb,XM a.value[k],Nat.reduceAdd,Nat.reduceEqDiff,Nat.reduceBEq,Nat.reduceLeDiff,reduceCtorEq,↓reduceIte]
  ·have hd:=dF hlt;obtain rfl:k=a.value.length:=oM;refine JHH ?_;refine JK (fun n s=>∃k:Nat,k≤a.args.length∧n=a.args.length-k∧
    s=⟨[(2,.ref 2 0),(3,.ref 3 0),(31,.d (.list 5 (a.args.map Jf))),(32,.d (.int .i64 a.args.length)),(33,.d (.int .i64 k))],
     [(2,.box [.d (.int .i64 0),.d (.int .i64 0),.d (.str []),.d (.nil 6),.d (.nil 5)]),
      (3,.box [.d (.int .i64 a.op),.d (.int .i64 a.int),.d (.str a.text),.ms 27 a.value.length,.ms 42 k]),
      (27,.row a.value.length 6 (a.value.map UF)),
      (42,.row k 5 ((a.args.take k).map Jf))]⟩) ?_ ?_
   ·refine⟨_,_,(Wk.JCY 3 4 42 5 _ rfl rfl rfl dC).trans (Wk.less ?_),0,Nat.zero_le _,rfl,rfl⟩;simp[put,go_sem]
   ·rintro n s ⟨k,hk,rfl,rfl⟩;by_cases hlt:k<a.args.length
    ·have hx:=JN6 hlt;have hd:=dT hlt;have hc:=h2 a.args[k] (Vk _);rw[Jy]at hc;refine JPe ?_;refine⟨sO,JG rfl hc trivial ?_⟩;refine zz ?_;refine⟨sP,sO,rfl,a.args.length-(k+1),_,oM,Wk.less ?_,k+1,oM,rfl,rfl⟩;rw[List.take_succ_eq_append_getElem hlt,Vw];simp only[go_sem,JE k oM,Va,Vb,Jy a.args[k],Nat.reduceAdd,Nat.reduceEqDiff,Nat.reduceBEq,Nat.reduceLeDiff,reduceCtorEq,↓reduceIte]
    ·have hd:=dF hlt;obtain rfl:k=a.args.length:=oM;exact JHH trivial
mutual
theorem p90:∀(a:Exp),PT 90 [Jf a] (.d (Jf a))
 |.mk o i t v r=>UD.Ju ok90.has fun hf=>by
  obtain⟨_,f2,f3,_⟩:=JPu (hf _ (List.mem_singleton.2 rfl));exact JSA _ f2 f3 (fun x _=>(q70 x).call trivial) (fun x hx=>(p90s r x hx).call trivial)
theorem p90s:∀(l:List Exp),∀x∈l,PT 90 [Jf x] (.d (Jf x))
 |[],x,h=>by cases h
 |v::r,x,h=>by
  by_cases e:x=v
  ·rw[e];exact p90 v
  ·exact p90s r x ((VA.1 h).resolve_left e)
end
def JD(m:List Rule):Dat:=.agg [.list 6 (m.map UR)]
theorem p91(m:List Rule):PT 91 [JD m] (.d (JD m)):=by
 refine UD.Ju ok91.has fun hfit=>?_
 have hml:m.length≤68719476736:=by have:=hfit _ (Vh);simp only[JD,fits,XW,Vc]at this;exact this.1.1
 refine ok91.pc ?_;simp only[go_sem,ir91,JD,Vc,simprocAttr];refine⟨oM,JK (fun n s=>∃k:Nat,k≤m.length∧n=m.length-k∧
  s=⟨[(2,.ref 2 0),(3,.ms 9 k),(11,.d (.list 6 (m.map UR))),(12,.d (.int .i64 m.length)),(13,.d (.int .i64 k))],
   [(2,.box [.d (.nil 6)]),(9,.row k 6 ((m.take k).map UR))]⟩) ?_ ?_⟩
 ·refine⟨_,_,Wk.less ?_,0,Nat.zero_le _,rfl,rfl⟩;simp[go_sem]
 ·rintro n s ⟨k,hk,rfl,rfl⟩;by_cases hlt:k<m.length
  ·have hx:=JU UR hlt;have hd:=dT hlt;have hc:=(p90 m[k].expr).call trivial;rw[Jy]at hc;simp only[UR]at hx;refine zz6 ?_;refine⟨oM,JG rfl hc trivial ?_⟩;refine zz ?_;refine⟨sP,sO,rfl,m.length-(k+1),_,oM,Wk.less ?_,k+1,oM,rfl,rfl⟩;rw[List.take_succ_eq_append_getElem hlt,Vw];simp only[go_sem,JE k oM,Va,Vb,UR,simprocAttr]
  ·have hd:=dF hlt;obtain rfl:k=m.length:=oM;exact zz14 trivial
theorem JDc(l:List Exp)(hg:∀x∈l,PT g [Jf x] (.d (Jf x))):PT 113 [.list 5 (l.map Jf),.fn (.func g) [] []] (.d (.list 5 (l.map Jf))):=by
 refine UD.Ju JHb.has fun hfit=>?_
 have hl:l.length≤68719476736:=by have:=(hfit _ (Vh)).1;simpa using this
 refine JHb.pc ?_;simp only[go_sem,JJr,Vc,simprocAttr];refine JK (fun n s=>∃k:Nat,k≤l.length∧n=l.length-k∧
  s=⟨[(1,.d (.fn (.func g) [] [])),(5,.ms 19 k),(8,.d (.list 5 (l.map Jf))),(9,.d (.int .i64 l.length)),(10,.d (.int .i64 k))],[(19,.row k 5 ((l.take k).map Jf))]⟩) ?_ ?_
 ·refine⟨_,_,(Wk.JEv 5 19 5 rfl rfl dC).trans (Wk.less ?_),0,Nat.zero_le _,rfl,rfl⟩;simp[put,go_sem]
 ·rintro n s ⟨k,hk,rfl,rfl⟩;by_cases hlt:k<l.length
  ·have hx:=JU Jf hlt;have hd:=dT hlt;have hc:=(hg l[k] (Vk _)).call trivial;simp only[Jy,Va,Vb]at hc hx;refine zz6 ?_;refine⟨oM,wn hc ?_⟩;refine zz ?_;refine⟨sP,sO,l.length-(k+1),_,oM,Wk.less ?_,k+1,oM,rfl,rfl⟩;rw[List.take_succ_eq_append_getElem hlt,Vw];simp only[go_sem,JE k oM,Va,Vb,Jy,simprocAttr]
  ·have hd:=dF hlt;obtain rfl:k=l.length:=oM;exact JHH trivial
theorem JGH(l:List Kal)(hg:∀x∈l,PT g [JW x] (.d (JW x))):PT 114 [.list 2 (l.map JW),.fn (.func g) [] []] (.d (.list 2 (l.map JW))):=by
 refine UD.Ju JQ8.has fun hfit=>?_
 have hl:l.length≤68719476736:=by have:=(hfit _ (Vh)).1;simpa using this
 refine JQ8.pc ?_;simp only[go_sem,JQ7,Vc,simprocAttr];refine JK (fun n s=>∃k:Nat,k≤l.length∧n=l.length-k∧
  s=⟨[(1,.d (.fn (.func g) [] [])),(5,.ms 19 k),(8,.d (.list 2 (l.map JW))),(9,.d (.int .i64 l.length)),(10,.d (.int .i64 k))],[(19,.row k 2 ((l.take k).map JW))]⟩) ?_ ?_
 ·refine⟨_,_,(Wk.JEv 5 19 2 rfl rfl dC).trans (Wk.less ?_),0,Nat.zero_le _,rfl,rfl⟩;simp[put,go_sem]
 ·rintro n s ⟨k,hk,rfl,rfl⟩;by_cases hlt:k<l.length
  ·have hx:=JU JW hlt;have hd:=dT hlt;have hc:=(hg l[k] (Vk _)).call trivial;simp only[JW,Va,Vb]at hc hx;refine zz6 ?_;refine⟨oM,wn hc ?_⟩;refine zz ?_;refine⟨sP,sO,l.length-(k+1),_,oM,Wk.less ?_,k+1,oM,rfl,rfl⟩;rw[List.take_succ_eq_append_getElem hlt,Vw];simp only[go_sem,JE k oM,Va,Vb,JW,simprocAttr]
  ·have hd:=dF hlt;obtain rfl:k=l.length:=oM;exact JHH trivial
theorem JJt(l:List Brn)(hg:∀x∈l,PT g [Jz x] (.d (Jz x))):PT 116 [.list 2 (l.map Jz),.fn (.func g) [] []] (.d (.list 2 (l.map Jz))):=by
 refine UD.Ju JHd.has fun hfit=>?_
 have hl:l.length≤68719476736:=by have:=(hfit _ (Vh)).1;simpa using this
 refine JHd.pc ?_;simp only[go_sem,JHc,Vc,simprocAttr];refine JK (fun n s=>∃k:Nat,k≤l.length∧n=l.length-k∧
  s=⟨[(1,.d (.fn (.func g) [] [])),(5,.ms 19 k),(8,.d (.list 2 (l.map Jz))),(9,.d (.int .i64 l.length)),(10,.d (.int .i64 k))],[(19,.row k 2 ((l.take k).map Jz))]⟩) ?_ ?_
 ·refine⟨_,_,(Wk.JEv 5 19 2 rfl rfl dC).trans (Wk.less ?_),0,Nat.zero_le _,rfl,rfl⟩;simp[put,go_sem]
 ·rintro n s ⟨k,hk,rfl,rfl⟩;by_cases hlt:k<l.length
  ·have hx:=JU Jz hlt;have hd:=dT hlt;have hc:=(hg l[k] (Vk _)).call trivial;simp only[Xv,Va,Vb]at hc hx;refine zz6 ?_;refine⟨oM,wn hc ?_⟩;refine zz ?_;refine⟨sP,sO,l.length-(k+1),_,oM,Wk.less ?_,k+1,oM,rfl,rfl⟩;rw[List.take_succ_eq_append_getElem hlt,Vw];simp only[go_sem,JE k oM,Va,Vb,Xv,simprocAttr]
  ·have hd:=dF hlt;obtain rfl:k=l.length:=oM;exact JHH trivial
theorem JSB(l:List Ste)(hg:∀x∈l,PT g [JI x] (.d (JI x))):PT 63 [.list 11 (l.map JI),.fn (.func g) [] []] (.d (.list 11 (l.map JI))):=by
 refine UD.Ju JN3.has fun hfit=>?_
 have hl:l.length≤68719476736:=by have:=(hfit _ (Vh)).1;simpa using this
 refine JN3.pc ?_;simp only[go_sem,JPp,Vc,simprocAttr];refine JK (fun n s=>∃k:Nat,k≤l.length∧n=l.length-k∧
  s=⟨[(1,.d (.fn (.func g) [] [])),(5,.ms 19 k),(8,.d (.list 11 (l.map JI))),(9,.d (.int .i64 l.length)),(10,.d (.int .i64 k))],[(19,.row k 11 ((l.take k).map JI))]⟩) ?_ ?_
 ·refine⟨_,_,(Wk.JEv 5 19 11 rfl rfl dC).trans (Wk.less ?_),0,Nat.zero_le _,rfl,rfl⟩;simp[put,go_sem]
 ·rintro n s ⟨k,hk,rfl,rfl⟩;by_cases hlt:k<l.length
  ·have hx:=JU JI hlt;have hd:=dT hlt;have hc:=(hg l[k] (Vk _)).call trivial;simp only[JV,Va,Vb]at hc hx;refine zz6 ?_;refine⟨oM,wn hc ?_⟩;refine zz ?_;refine⟨sP,sO,l.length-(k+1),_,oM,Wk.less ?_,k+1,oM,rfl,rfl⟩;rw[List.take_succ_eq_append_getElem hlt,Vw];simp only[go_sem,JE k oM,Va,Vb,JV,simprocAttr]
  ·have hd:=dF hlt;obtain rfl:k=l.length:=oM;exact JHH trivial
theorem JSC(c:Kal):PT 115 [JW c] (.d (JW c)):=by
 refine ok115.pc ?_;have hc:=(p91 c.rules).call trivial;simp only[JD,Va,Vb]at hc;simp only[go_sem,JQ9,JW,simprocAttr];refine wc hc trivial
theorem JPv(b:Brn)(h:∀x∈b.steps,PT 64 [JI x] (.d (JI x))):PT 117 [Jz b] (.d (Jz b)):=by
 refine JN2.pc ?_;have h1:=(JDc b.cond fun x _=>p90 x).call trivial;have h2:=(JSB b.steps h).call trivial;rw[Xv];simp only[go_sem,JJs,simprocAttr];refine JG rfl h1 trivial ?_;refine zz ?_;refine JG rfl h2 trivial ?_;refine zz ?_;rfl
theorem JSD(s:Ste)(h:∀b∈s.branches,PT 117 [Jz b] (.d (Jz b))):PT 64 [JI s] (.d (JI s)):=by
 refine JPq.pc ?_;have h1:=(JDc s.exprs fun x _=>p90 x).call trivial;have h2:=(p91 s.rules).call trivial;have h3:=(JGH s.calls fun x _=>JSC x).call trivial;have h4:=(JJt s.branches h).call trivial;simp only[JD,Va,Vb]at h2;rw[JV];simp only[go_sem,JN4,simprocAttr];refine wc h1 ?_;refine wc h2 ?_;refine wc h3 ?_;refine wc h4 trivial
mutual
theorem p64:∀(s:Ste),PT 64 [JI s] (.d (JI s))
 |.mk n k u t l x c e r a b=>JSD _ (JN7 b)
theorem p64s:∀(l:List Ste),∀x∈l,PT 64 [JI x] (.d (JI x))
 |[],x,h=>by cases h
 |v::r,x,h=>by
  by_cases e:x=v
  ·rw[e];exact p64 v
  ·exact p64s r x ((VA.1 h).resolve_left e)
theorem p117:∀(b:Brn),PT 117 [Jz b] (.d (Jz b))
 |.mk w s=>JPv _ (p64s s)
theorem JN7:∀(l:List Brn),∀x∈l,PT 117 [Jz x] (.d (Jz x))
 |[],x,h=>by cases h
 |v::r,x,h=>by
  by_cases e:x=v
  ·rw[e];exact p117 v
  ·exact JN7 r x ((VA.1 h).resolve_left e)
end
end Go.Proofs
namespace Go.Proofs
open Go Av
def JO(s:Str):Exp:=.mk 2 0 s [] []
def Jo(n:Int):Exp:=.mk 1 0 [] [.mk 2 n 0 [] [] []] []
def US(op:Int)(a b:Exp):Exp:=.mk op 0 [] [] [a,b]
theorem JX(o i:Int)(t:Str)(v:List Val)(a:List Exp):Jf (.mk o i t v a)=.agg [.int .i64 o,.int .i64 i,.str t,.list 6 (v.map UF),.list 5 (a.map Jf)]:=by
 rw[Jy];rfl
theorem JY(k i s:Int)(t:Str)(l:List Val)(f:List Fld):UF (.mk k i s t l f)=.agg [.int .i64 k,.int .i64 i,.int .i64 s,.str t,.list 6 (l.map UF),.list 7 (f.map Z5)]:=by
 rw[XM];rfl
theorem Jd(s:Str):PT 55 [.str s] (.d (Jf (JO s))):=by
 refine ok55.pc ?_;simp only[go_sem,ir55,JO,JX,Vb,Vv,Vc,simprocAttr]
theorem JSE(n:Int):PT 44 [.int .i64 n] (.d (UF (.mk 2 n 0 [] [] []))):=by
 refine ok44.pc ?_;simp only[go_sem,ir44,JY,Vb,Vv,Vc,simprocAttr]
theorem UB(n:Int):PT 14 [.int .i64 n] (.d (Jf (Jo n))):=by
 refine ok14.pc ?_;have hc:=(JSE n).call trivial;simp only[JY,Vb]at hc;simp only[go_sem,ir14,Jo,JX,JY,Va,Vb,Vv,Vc,simprocAttr];refine wn hc ?_;simp only[go_sem,Vv,Vc,simprocAttr];simp
theorem Ut(op:Int)(a b:Exp):PT 54 [.int .i64 op,Jf a,Jf b] (.d (Jf (US op a b))):=by
 refine ok54.pc ?_;simp only[go_sem,ir54,US,JX,Jy a,Jy b,Va,Vb,Vv,Vc,simprocAttr];simp
def msr(now:Str):Str:=if now==[108,105,110,101]then[98,111,100,121,46,113,116,121]else if now==[98,105,108,108]then[98,111,100,121,46,116,111,116,97,108]else[98,111,100,121,46,97,109,111,117,110,116]
theorem Uq(s:Str):PT 188 [.str s] (.d (.str (msr s))):=by
 refine ok188.pc ?_;unfold msr;cases h1:s==[108,105,110,101]<;>cases h2:s==[98,105,108,108]<;>
  simp only[go_sem,JQ0,h1,h2,Nat.reduceAdd,Nat.reduceEqDiff,Nat.reduceBEq,Nat.reduceLeDiff,reduceCtorEq,↓reduceIte,Vu]
def prs(l:List Rule):List Dat:=l.flatMap fun r=>[.iface 9 (.str r.target),.iface 65 (Jf r.expr)]
theorem JCG:∀l:List Rule,(prs l).length=2*l.length
 |[]=>rfl
 |x::r=>by
  have:=JCG r;simp only[prs,List.flatMap_cons,Vg,Vf,Vm]at this⊢;omega
theorem JJu:∀(l:List Rule) (k:Nat) (h:k<l.length),nth (prs l) (2*k)=.iface 9 (.str l[k].target)∧nth (prs l) (2*k+1)=.iface 65 (Jf l[k].expr)
 |x::r,0,_=>⟨rfl,rfl⟩
 |x::r,k+1,h=>by
  have:=JJu r k (sX h);simpa only[nth,prs,List.flatMap_cons,List.getElem_cons_succ,Nat.mul_add,Nat.mul_one,List.cons_append,List.nil_append,List.getD_cons_succ]using this
theorem JSF(k d:Nat)(h:k+d<9223372036854775807):IntKind.i64.wrap ((k:Int)+(d:Int))=((k+d:Nat):Int):=by
 rw[wrap64 oM oM];omega
theorem JA6(l:List Rule):PT 189 [.list 1 (prs l)] (.d (JD l)):=by
 refine UD.Ju JQ2.has fun hfit=>?_
 have hl:2*l.length≤68719476736:=by have:=(hfit _ (Vh)).1;rw[JCG]at this;omega
 clear hfit;refine JQ2.pc ?_;simp only[go_sem,JQ1,JD,JCG,Vv,Vc,Nat.reduceAdd,Nat.reduceEqDiff,Nat.reduceBEq,Nat.reduceLeDiff,reduceCtorEq,↓reduceIte];refine JK (fun n s=>∃k:Nat,k≤l.length∧n=l.length-k∧
  s=⟨[(0,.d (.list 1 (prs l))),(2,.ref 2 0),(3,.ref 3 0),(4,.d (.int .i64 (2*k:Nat)))],[(2,.box [.d (.nil 6)]),(3,.box [.ms 39 k]),(39,.row k 6 ((l.take k).map UR))]⟩) ?_ ?_
 ·refine⟨_,_,(Wk.JCY 3 0 39 6 _ rfl rfl rfl dC),0,Nat.zero_le _,rfl,?_⟩;simp[put]
 ·rintro n s ⟨k,hk,rfl,rfl⟩;have e1:IntKind.i64.wrap (((2*k:Nat):Int)+1)=((2*k+1:Nat):Int):=JE _ oM;have e2:IntKind.i64.wrap (((2*k:Nat):Int)+2)=((2*(k+1):Nat):Int):=JSF _ 2 oM;by_cases hlt:k<l.length
  ·obtain⟨h1,h2⟩:=JJu l k hlt;have hd:decide (((2*k+1:Nat):Int)<((2*l.length:Nat):Int))=true:=by simp only[decide_eq_true_eq];omega
   rw[Jy]at h2;simp only[go_sem,e1,e2,h1,h2,hd,JCG,Vv,Vv,Vc,Nat.reduceAdd,Nat.reduceEqDiff,Nat.reduceBEq,Nat.reduceLeDiff,reduceCtorEq,↓reduceIte];refine⟨oM,dC,oM,dC,sP,sO,l.length-(k+1),_,oM,Wk.less ?_,k+1,oM,rfl,rfl⟩;rw[List.take_succ_eq_append_getElem hlt,Vw];simp only[go_sem,Va,Vb,UR,Vv,Vc,Nat.reduceAdd,Nat.reduceEqDiff,Nat.reduceBEq,Nat.reduceLeDiff,reduceCtorEq,↓reduceIte]
  ·have hd:decide (((2*k+1:Nat):Int)<((2*l.length:Nat):Int))=false:=by simp only[decide_eq_false_iff_not];omega
   obtain rfl:k=l.length:=oM;simp only[go_sem,e1,hd,JCG,List.take_length,Vv,Vc,Nat.reduceAdd,Nat.reduceEqDiff,Nat.reduceBEq,Nat.reduceLeDiff,reduceCtorEq,↓reduceIte]
abbrev sId:Str:=[105,100]
abbrev JCH:Str:=[107,105,110,100]
abbrev JBC:Str:=[98,111,100,121,46,105,100]
abbrev Ul:Str:=[98,111,100,121,46,107,105,110,100]
def bil(now:Str)(c:Exp):List Rule:=[⟨sId,JO JBC⟩,⟨JCH,JO Ul⟩,⟨[116,111,116,97,108],JO (msr now)⟩,⟨[99,111,117,110,116],c⟩]
theorem ZU(now:Str)(c:Exp):PT 190 [.str now,Jf c] (.d (JD (bil now c))):=by
 refine ok190.pc ?_;have c1:=(Jd JBC).call trivial;have c2:=(Jd Ul).call trivial;have c3:=(Uq now).call trivial;have c4:=(Jd (msr now)).call trivial;have c5:=(JA6 (bil now c)).call trivial;simp only[prs,bil,List.flatMap_cons,List.flatMap_nil,List.cons_append,List.nil_append,List.append_nil,JD,Va,Vb]at c1 c2 c3 c4 c5;rw[Jy c]at c5⊢;simp only[go_sem,JQ3,bil,JD,Vv,Vc,simprocAttr];refine JG rfl c1 trivial ?_;simp only[go_sem,Vv,Vc,simprocAttr];refine JG rfl c2 trivial ?_;simp only[go_sem,Vv,Vc,simprocAttr];refine JG rfl c3 trivial ?_;simp only[go_sem,Vv,Vc,simprocAttr];refine JG rfl c4 trivial ?_;simp only[go_sem,Vv,Vc,simprocAttr];refine⟨sP,?_⟩;refine JG rfl c5 trivial ?_;simp only[go_sem,Vv,Vc,simprocAttr];rfl
def stk(i:Nat):List Rule:=[⟨sId,JO JBC⟩,⟨JCH,JO Ul⟩,⟨[115,107,117],Jo ((i:Int).tmod 10)⟩,⟨[113,116,121],Jo 1⟩]
def JPw(now:Str)(i:Nat)(s:Str):Kal:=⟨s,if s==[115,116,111,99,107]then stk i else bil now (Jo 1)⟩
def JAo(now:Str):Nat→List Str→List Kal
 |_,[]=>[]
 |i,s::r=>JPw now i s::JAo now (i+1) r
theorem JCI(now:Str):∀(l:List Str) (i:Nat),(JAo now i l).length=l.length
 |[],_=>rfl
 |x::r,i=>by simp[JAo,JCI now r]
theorem JHg(now:Str):∀(l m:List Str) (i:Nat),JAo now i (l++m)=JAo now i l++JAo now (i+l.length) m
 |[],m,i=>by simp[JAo]
 |x::r,m,i=>by simp only[List.cons_append,JAo,JHg now r m (i+1),Vf];congr 3;omega
theorem JFc(now:Str)(l:List Str)(k:Nat)(h:k<l.length):JAo now 0 (l.take (k+1))=JAo now 0 (l.take k)++[JPw now k l[k]]:=by
 rw[List.take_succ_eq_append_getElem h,JHg];simp only[JAo,List.length_take,Nat.zero_add];congr 3;omega
theorem JCJ(now:Str)(l:List Str):PT 191 [.str now,.list 1 (l.map .str)] (.d (.list 2 ((JAo now 0 l).map JW))):=by
 refine UD.Ju JQ5.has fun hfit=>?_
 have hl:l.length≤68719476736:=by have:=(hfit (.list 1 (l.map .str)) sP).1;simpa using this
 clear hfit;refine JQ5.pc ?_;simp only[go_sem,JQ4,Vc,Vv,Vc,Nat.reduceAdd,Nat.reduceEqDiff,Nat.reduceBEq,Nat.reduceLeDiff,reduceCtorEq,↓reduceIte];refine JK (fun n s=>∃k:Nat,k≤l.length∧n=l.length-k∧
  s=⟨[(0,.d (.str now)),(1,.d (.list 1 (l.map .str))),(5,.ms 46 k),(6,.d (.int .i64 k))],[(46,.row k 2 ((JAo now 0 (l.take k)).map JW))]⟩) ?_ ?_
 ·refine⟨_,_,(Wk.JEv 5 46 2 rfl rfl dC).trans (Wk.less ?_),0,Nat.zero_le _,rfl,rfl⟩;simp[put,go_sem,JAo]
 ·rintro n s ⟨k,hk,rfl,rfl⟩;by_cases hlt:k<l.length
  ·have hd:=dT hlt;have hx:nth (l.map .str) k=.str l[k]:=JU _ hlt;have c0:=(UB 1).call trivial;have c1:=(ZU now (Jo 1)).call trivial;have c2:=(Jd JBC).call trivial;have c3:=(Jd Ul).call trivial;have c4:=(UB ((k:Int).tmod 10)).call trivial;have c5:=(JA6 (stk k)).call trivial;have hle:(JAo now 0 (l.take k)).length≤68719476735:=by rw[JCI,List.length_take];omega
   simp only[prs,stk,List.flatMap_cons,List.flatMap_nil,List.cons_append,List.nil_append,List.append_nil,JD,Va,Vb]at c0 c1 c2 c3 c4 c5;simp only[go_sem,hx,hd,Vv,Vc,Vv,Vc,Nat.reduceAdd,Nat.reduceEqDiff,Nat.reduceBEq,Nat.reduceLeDiff,reduceCtorEq,↓reduceIte];refine wn c0 ?_;simp only[go_sem,Vv,Vc,Nat.reduceAdd,Nat.reduceEqDiff,Nat.reduceBEq,Nat.reduceLeDiff,reduceCtorEq,↓reduceIte];refine wn c1 ?_;simp only[go_sem,hx,Vv,Vc,Vv,Vc,Nat.reduceAdd,Nat.reduceEqDiff,Nat.reduceBEq,Nat.reduceLeDiff,reduceCtorEq,↓reduceIte];refine⟨oM,dC,?_⟩;cases hs:l[k]==[115,116,111,99,107]
   ·simp only[go_sem,hx,hs,Vv,Vc,Nat.reduceAdd,Nat.reduceEqDiff,Nat.reduceBEq,Nat.reduceLeDiff,reduceCtorEq,↓reduceIte];refine⟨oM,dC,sP,hle,l.length-(k+1),_,oM,Wk.less ?_,k+1,oM,rfl,rfl⟩;rw[JFc now l k hlt,Vw];simp only[go_sem,JE k oM,Va,Vb,JW,JPw,hs,Vu,Vv,Vc,Nat.reduceAdd,Nat.reduceEqDiff,Nat.reduceBEq,Nat.reduceLeDiff,reduceCtorEq,↓reduceIte]
   ·simp only[go_sem,hx,hs,Vv,Vc,Nat.reduceAdd,Nat.reduceEqDiff,Nat.reduceBEq,Nat.reduceLeDiff,reduceCtorEq,↓reduceIte];refine wn c2 ?_;simp only[go_sem,Vv,Vc,Nat.reduceAdd,Nat.reduceEqDiff,Nat.reduceBEq,Nat.reduceLeDiff,reduceCtorEq,↓reduceIte];refine wn c3 ?_;simp only[go_sem,Vv,Vc,Nat.reduceAdd,Nat.reduceEqDiff,Nat.reduceBEq,Nat.reduceLeDiff,reduceCtorEq,↓reduceIte];refine⟨dC,?_⟩;refine wn c4 ?_;simp only[go_sem,Vv,Vc,Nat.reduceAdd,Nat.reduceEqDiff,Nat.reduceBEq,Nat.reduceLeDiff,reduceCtorEq,↓reduceIte];refine wn c0 ?_;simp only[go_sem,Vv,Vc,Nat.reduceAdd,Nat.reduceEqDiff,Nat.reduceBEq,Nat.reduceLeDiff,reduceCtorEq,↓reduceIte];refine⟨sP,?_⟩;refine wn c5 ?_;refine zz24 ?_;refine⟨oM,dC,sP,hle,l.length-(k+1),_,oM,Wk.less ?_,k+1,oM,rfl,rfl⟩;rw[JFc now l k hlt,Vw];simp only[go_sem,JE k oM,Va,Vb,JW,JPw,hs,stk,Vv,Vc,Nat.reduceAdd,Nat.reduceEqDiff,Nat.reduceBEq,Nat.reduceLeDiff,reduceCtorEq,↓reduceIte]
  ·have hd:=dF hlt;obtain rfl:k=l.length:=oM;simp only[go_sem,hd,List.take_length,Vv,Vc,Nat.reduceAdd,Nat.reduceEqDiff,Nat.reduceBEq,Nat.reduceLeDiff,reduceCtorEq,↓reduceIte]
def toS(now:Str)(a:Int):Ste:=.mk [] 13 0 0 0 (if now==[111,114,100,101,114]&&a.tmod 3==1 then[97,103,97,105,110]else[111,117,116,95]++now) [] [] [] [] []
def UE(k a b:Int):Dat:=.agg [.int .u8 k,.int .u8 a,.int .u8 b]
theorem JGI(now:Str)(k a b:Int)(hn:now.length≤1000):PT 112 [.str now,UE k a b] (.d (JI (toS now a))):=by
 refine ok112.pc ?_;rw[JV];simp only[go_sem,JQ6,UE,toS,Ste.name,Ste.kind,Ste.number,Ste.time,Ste.limit,Ste.text,Ste.schema,Ste.exprs,Ste.rules,Ste.calls,Ste.branches,Vb,Vv,Vc,Nat.reduceAdd,Nat.reduceEqDiff,Nat.reduceBEq,Nat.reduceLeDiff,reduceCtorEq,↓reduceIte];refine⟨oM,Y4 (a.tmod 3==1) (fun _=>?_) ?_⟩
 ·simp only[go_sem,Vv,Vc,Nat.reduceAdd,Nat.reduceEqDiff,Nat.reduceBEq,Nat.reduceLeDiff,reduceCtorEq,↓reduceIte];intro h;cases h
 ·cases h1:now==[111,114,100,101,114]<;>cases h2:a.tmod 3==1<;>
   simp only[go_sem,h1,h2,Bool.and_true,Bool.and_false,Vt,Bool.false_and,Vu,Vv,Vc,Nat.reduceAdd,Nat.reduceEqDiff,Nat.reduceBEq,Nat.reduceLeDiff,reduceCtorEq,↓reduceIte]
end Go.Proofs
namespace Go.Proofs
open Go Av
@[instance_reducible] def JEe:Rls:={rl:=fun n=>n==5}
attribute [local instance 2000] JEe
theorem JL(n:Nat): @Rls.rl JEe n=(n==5):=rfl
theorem JM(n:Nat): @Rls.tr JEe n=false:=rfl
theorem JB(sz n:Nat): @Yx JEe sz n=(sz==5&&n==1):=by unfold Yx;rw[JL];show((sz==5&&n==1)||(false&&_))=_;rw[Bool.false_and,Bool.or_false]
abbrev JE3:Exp:=JO Ul
def Jg(now:Str)(a:Int):Exp:=US 8 (JO (msr now)) (Jo (a.tmod 110))
abbrev ZE:Str:=[111,114,100,101,114]
abbrev JDK:Str:=[98,105,108,108]
abbrev JRC:Str:=[108,105,110,101]
abbrev JBd:Str:=[99,111,117,110,116]
def JCK(now:Str)(a:Int):Ste:=.mk [] 1 0 0 0 [108,97,114,103,101] [] [Jg now a] [] [] []
def JN8(b:Int):Ste:=.mk [] 2 0 0 0 [] ZE [] [⟨sId,JO JBC⟩,⟨[97,109,111,117,110,116],US 12 (JO [98,111,100,121,46,97,109,111,117,110,116]) (Jo (b.tmod 4))⟩,⟨JCH,JE3⟩,⟨[105,116,101,109,115],JO [98,111,100,121,46,105,116,101,109,115]⟩] [] []
def JN9(now:Str)(b:Int):Ste:=.mk [] 2 0 0 0 [] JDK [] (bil now (Jo (b.tmod 200))) [] []
def JSG:Ste:=.mk [] 3 0 0 0 [98,111,100,121,46,105,116,101,109,115] JRC [] [⟨sId,JO JBC⟩,⟨JCH,JE3⟩,⟨[115,107,117],JO [105,116,101,109,46,115,107,117]⟩,⟨[113,116,121],JO [105,116,101,109,46,113,116,121]⟩] [] []
def JOA(now:Str)(a b:Int):Ste:=.mk [] 4 ((a.tdiv 2).tmod 4) (a.tmod 3*50) (1+b.tmod 4) [] JDK (if a.tmod 2==0 then[JE3,US 11 (JO JBd) (Jo (1+b.tmod 4))]else[JE3])
 [⟨sId,US 23 (JO [105,116,101,109,115,91,48,93,46,105,100]) (Jo 0)⟩,⟨JCH,JO [107,101,121]⟩,⟨[116,111,116,97,108],.mk 26 0 ([105,116,101,109,115,91,42,93,46]++(msr now).drop 5) [] []⟩,⟨JBd,JO JBd⟩] [] []
def JSH(a b:Int):Ste:=.mk [] 5 0 (a.tmod 3*50) (1+b.tmod 4) [] [] [JE3,JO JBC] [] [] []
def JSI(b:Int):Ste:=.mk [] 6 (1+b.tmod 4) 0 0 [] [] [JO JBC] [] [] []
def JSJ(a b:Int):Ste:=.mk [] 7 (1+a.tmod 3) 100 (1+b.tmod 4) [] [] [] [] [] []
def JSK(a b:Int):Ste:=.mk [] 8 0 (1+a.tmod 80) (1+b.tmod 4) [] [] [] [] [] []
def JSL(now:Str)(a b:Int):Ste:=.mk [] 9 0 (a.tmod 3*60) (1+b.tmod 4) [] JDK [] (bil now (JO [114,101,112,108,121,46,99,111,100,101])) (JAo now 0 [[112,97,121]]) []
def sgL(a:Int):List Str:=if a.tmod 4==0 then[[112,97,121]]else if a.tmod 4==1 then[[112,97,121],[115,116,111,99,107]]else if a.tmod 4==2 then[[115,116,111,99,107],[109,97,105,108]]else[[115,116,111,99,107],[112,97,121],[109,97,105,108]]
def JGJ(now:Str)(a b:Int):Ste:=.mk [] 10 0 (b.tmod 3*60) (1+b.tmod 4) [] JDK [] (bil now (Jo (sgL a).length)) (JAo now 0 (sgL a)) []
def UM(br:Ste)(k a b:Int)(now:Str):Ste×Str:=
 if k.tmod 13=0 then(JCK now a,now)
 else if k.tmod 13=1∨k.tmod 13=12 then(if now==ZE&&a.tmod 2==0 then(JN8 b,now)else(JN9 now b,JDK))
 else if k.tmod 13=2 then(if now==ZE then(JSG,JRC)else(br,now))
 else if k.tmod 13=3 then(JOA now a b,JDK)
 else if k.tmod 13=4 then(JSH a b,now)
 else if k.tmod 13=5 then(JSI b,now)
 else if k.tmod 13=6 then(JSJ a b,now)
 else if k.tmod 13=7 then(JSK a b,now)
 else if k.tmod 13=8 then(JSL now a b,JDK)
 else if k.tmod 13=9 then(JGJ now a b,JDK)
 else(br,now)
def BrOk(deep:Bool)(br:Ste)(k a b:Int)(now:Str):Prop:=match deep with
 |true=>PT 192 [UE k a b,.str now,Jf (Jg now a)] (.d (JI br))
 |false=>br=JCK now a
def JDP(t:Int):Prop:=∀(br:Ste) (k a b:Int) (now:Str) (deep:Bool),0≤a→a≤255→0≤b→b≤255→k.tmod 13=t→BrOk deep br k a b now→
 PT 110 [UE k a b,.str now,.bool deep] (.tup [.d (JI (UM br k a b now).1),.d (.str (UM br k a b now).2)])
theorem JPx(s:Str):5≤(msr s).length∧(msr s).length≤11:=by
 unfold msr;split
 ·decide
 ·split<;>decide
theorem UK(a n:Int)(h0:0≤a)(hn:0<n∧n≤256):0≤a.tmod n∧a.tmod n≤255∧a.tmod n<n:=by
 rw[Int.tmod_eq_emod_of_nonneg h0];have:=Int.emod_nonneg a (show n≠0 by omega);have:=Int.emod_lt_of_pos a hn.1;omega
theorem JIo(a n:Int)(h0:0≤a)(h1:a≤255)(hn:0<n):0≤a.tdiv n∧a.tdiv n≤255:=by
 rw[Int.tdiv_eq_ediv_of_nonneg h0];have:=Int.ediv_nonneg h0 (show 0≤n by omega);have:=Int.ediv_le_self n h0;omega
theorem JEf{P:Program}{f:Cee}{args args':List Av}{T:List (Nat×Option Av.Obj)}{v:Av}{ups:List (Nat×Av.Obj)}(h:JQ P f args' T v ups)(e:args.map Av.canon=args'):JQ P f args T v ups:=JQ.canon (e▸h)
theorem J4{n:Int}(h0: -100000≤n)(h1:n≤100000):IntKind.i64.wrap n=n:=wrap64 oM oM
theorem JA(n:Str)(k u t l:Int)(x c:Str)(e:List Exp)(r:List Rule)(a:List Kal)(b:List Brn):JI (.mk n k u t l x c e r a b)=.agg [.str n,.int .i64 k,.int .i64 u,.int .i64 t,.int .i64 l,.str x,.str c,.list 5 (e.map Jf),.list 6 (r.map UR),.list 2 (a.map JW),.list 2 (b.map Jz)]:=by
 rw[JV];rfl
end Go.Proofs
namespace Go.Proofs
open Go Av
attribute [local instance 2000] JEe
theorem JSM:JDP 0:=by
 intro br k a b now deep h0 h1 h2 h3 hk hbr;refine YZ.pc ?_;have c0:=(Jd Ul).call trivial;have c1:=(Uq now).call trivial;have c2:=(Jd (msr now)).call trivial;have c3:=(UB (a.tmod 110)).call trivial;have c4:=(Ut 8 (JO (msr now)) (Jo (a.tmod 110))).call trivial;have wa:IntKind.i64.wrap a=a:=J4 oM oM;have wb:IntKind.i64.wrap b=b:=J4 oM oM;obtain⟨b4,b4',b4''⟩:=UK b 4 h2 oM;have w4:IntKind.i64.wrap (1+b.tmod 4)=1+b.tmod 4:=J4 oM oM;simp only[Va,Vb]at c0 c1 c2 c3 c4;simp only[JD,JO,Jo,US,JX,JY,Jg,prs,List.flatMap_cons,List.flatMap_nil,List.cons_append,List.nil_append,List.append_nil,Va,Vb]at c0 c1 c2 c3 c4;unfold UM;rw[hk];simp only[go_sem,YP,UE,JA,Va,Vb,JD,wa,wb,hk,w4,JL,JM,JB,Int.reduceBEq,Vu,Vt,Bool.false_and,Bool.and_true,Bool.and_false,JD,JO,Jo,US,JX,JY,Jg,prs,List.flatMap_cons,List.flatMap_nil,List.cons_append,List.nil_append,List.append_nil,Va,Vb,JCK,JA,Vv,Vc,Nat.reduceAdd,Nat.reduceEqDiff,Nat.reduceBEq,Nat.reduceLeDiff,reduceCtorEq,↓reduceIte];refine wn c0 ?_;simp only[go_sem,JA,Va,Vb,JD,wa,wb,hk,w4,JL,JM,JB,Int.reduceBEq,Vu,Vt,Bool.false_and,Bool.and_true,Bool.and_false,Vv,Vc,Nat.reduceAdd,Nat.reduceEqDiff,Nat.reduceBEq,Nat.reduceLeDiff,reduceCtorEq,↓reduceIte];refine wn c0 ?_;simp only[go_sem,JA,Va,Vb,JD,wa,wb,hk,w4,JL,JM,JB,Int.reduceBEq,Vu,Vt,Bool.false_and,Bool.and_true,Bool.and_false,Vv,Vc,Nat.reduceAdd,Nat.reduceEqDiff,Nat.reduceBEq,Nat.reduceLeDiff,reduceCtorEq,↓reduceIte];refine⟨sP,?_⟩;refine wn c1 ?_;simp only[go_sem,JA,Va,Vb,JD,wa,wb,hk,w4,JL,JM,JB,Int.reduceBEq,Vu,Vt,Bool.false_and,Bool.and_true,Bool.and_false,Vv,Vc,Nat.reduceAdd,Nat.reduceEqDiff,Nat.reduceBEq,Nat.reduceLeDiff,reduceCtorEq,↓reduceIte];refine wn c2 ?_;simp only[go_sem,JA,Va,Vb,JD,wa,wb,hk,w4,JL,JM,JB,Int.reduceBEq,Vu,Vt,Bool.false_and,Bool.and_true,Bool.and_false,Vv,Vc,Nat.reduceAdd,Nat.reduceEqDiff,Nat.reduceBEq,Nat.reduceLeDiff,reduceCtorEq,↓reduceIte];refine⟨dC,?_⟩;refine wn c3 ?_;simp only[go_sem,JA,Va,Vb,JD,wa,wb,hk,w4,JL,JM,JB,Int.reduceBEq,Vu,Vt,Bool.false_and,Bool.and_true,Bool.and_false,Vv,Vc,Nat.reduceAdd,Nat.reduceEqDiff,Nat.reduceBEq,Nat.reduceLeDiff,reduceCtorEq,↓reduceIte];refine wn c4 ?_;simp only[go_sem,JA,Va,Vb,JD,wa,wb,hk,w4,JL,JM,JB,Int.reduceBEq,Vu,Vt,Bool.false_and,Bool.and_true,Bool.and_false,Int.reduceEq,or_true,or_false,true_or,false_or,not_false_eq_true,not_true_eq_false,ne_eq,true_and,JCK,JA,Va,Vb,Vv,Vc,Nat.reduceAdd,Nat.reduceEqDiff,Nat.reduceBEq,Nat.reduceLeDiff,reduceCtorEq,↓reduceIte];simp
theorem JSN:JDP 1:=by
 intro br k a b now deep h0 h1 h2 h3 hk hbr;refine YZ.pc ?_;have c0:=(Jd Ul).call trivial;have c1:=(Uq now).call trivial;have c2:=(Jd (msr now)).call trivial;have c3:=(UB (a.tmod 110)).call trivial;have c4:=(Ut 8 (JO (msr now)) (Jo (a.tmod 110))).call trivial;have wa:IntKind.i64.wrap a=a:=J4 oM oM;have wb:IntKind.i64.wrap b=b:=J4 oM oM;obtain⟨b4,b4',b4''⟩:=UK b 4 h2 oM;have w4:IntKind.i64.wrap (1+b.tmod 4)=1+b.tmod 4:=J4 oM oM;simp only[Va,Vb]at c0 c1 c2 c3 c4;have c5:=(Jd JBC).call trivial;have c6:=(Jd [98,111,100,121,46,97,109,111,117,110,116]).call trivial;have c7:=(UB (b.tmod 4)).call trivial;have c8:=(Ut 12 (JO [98,111,100,121,46,97,109,111,117,110,116]) (Jo (b.tmod 4))).call trivial;have c9:=(Jd [98,111,100,121,46,105,116,101,109,115]).call trivial;have cq10:=(UB (b.tmod 200)).call trivial;have cq11:=(ZU now (Jo (b.tmod 200))).call trivial;have cq12:=(JA6 [⟨sId,JO JBC⟩,⟨[97,109,111,117,110,116],US 12 (JO [98,111,100,121,46,97,109,111,117,110,116]) (Jo (b.tmod 4))⟩,⟨JCH,JE3⟩,⟨[105,116,101,109,115],JO [98,111,100,121,46,105,116,101,109,115]⟩]).call trivial;simp only[JD,JO,Jo,US,JX,JY,Jg,prs,List.flatMap_cons,List.flatMap_nil,List.cons_append,List.nil_append,List.append_nil,Va,Vb]at c0 c1 c2 c3 c4 c5 c6 c7 c8 c9 cq10 cq11 cq12;unfold UM;rw[hk];simp only[go_sem,YP,UE,JA,Va,Vb,JD,wa,wb,hk,w4,JL,JM,JB,Int.reduceBEq,Vu,Vt,Bool.false_and,Bool.and_true,Bool.and_false,JD,JO,Jo,US,JX,JY,Jg,prs,List.flatMap_cons,List.flatMap_nil,List.cons_append,List.nil_append,List.append_nil,Va,Vb,JN8,JN9,JA,Vv,Vc,Nat.reduceAdd,Nat.reduceEqDiff,Nat.reduceBEq,Nat.reduceLeDiff,reduceCtorEq,↓reduceIte];refine wn c0 ?_;simp only[go_sem,JA,Va,Vb,JD,wa,wb,hk,w4,JL,JM,JB,Int.reduceBEq,Vu,Vt,Bool.false_and,Bool.and_true,Bool.and_false,Vv,Vc,Nat.reduceAdd,Nat.reduceEqDiff,Nat.reduceBEq,Nat.reduceLeDiff,reduceCtorEq,↓reduceIte];refine wn c0 ?_;simp only[go_sem,JA,Va,Vb,JD,wa,wb,hk,w4,JL,JM,JB,Int.reduceBEq,Vu,Vt,Bool.false_and,Bool.and_true,Bool.and_false,Vv,Vc,Nat.reduceAdd,Nat.reduceEqDiff,Nat.reduceBEq,Nat.reduceLeDiff,reduceCtorEq,↓reduceIte];refine⟨sP,?_⟩;refine wn c1 ?_;simp only[go_sem,JA,Va,Vb,JD,wa,wb,hk,w4,JL,JM,JB,Int.reduceBEq,Vu,Vt,Bool.false_and,Bool.and_true,Bool.and_false,Vv,Vc,Nat.reduceAdd,Nat.reduceEqDiff,Nat.reduceBEq,Nat.reduceLeDiff,reduceCtorEq,↓reduceIte];refine wn c2 ?_;simp only[go_sem,JA,Va,Vb,JD,wa,wb,hk,w4,JL,JM,JB,Int.reduceBEq,Vu,Vt,Bool.false_and,Bool.and_true,Bool.and_false,Vv,Vc,Nat.reduceAdd,Nat.reduceEqDiff,Nat.reduceBEq,Nat.reduceLeDiff,reduceCtorEq,↓reduceIte];refine⟨dC,?_⟩;refine wn c3 ?_;simp only[go_sem,JA,Va,Vb,JD,wa,wb,hk,w4,JL,JM,JB,Int.reduceBEq,Vu,Vt,Bool.false_and,Bool.and_true,Bool.and_false,Vv,Vc,Nat.reduceAdd,Nat.reduceEqDiff,Nat.reduceBEq,Nat.reduceLeDiff,reduceCtorEq,↓reduceIte];refine wn c4 ?_;simp only[go_sem,JA,Va,Vb,JD,wa,wb,hk,w4,JL,JM,JB,Int.reduceBEq,Vu,Vt,Bool.false_and,Bool.and_true,Bool.and_false,Int.reduceEq,or_true,or_false,true_or,false_or,not_false_eq_true,not_true_eq_false,ne_eq,true_and,JN8,JN9,JA,Va,Vb,Vv,Vc,Nat.reduceAdd,Nat.reduceEqDiff,Nat.reduceBEq,Nat.reduceLeDiff,reduceCtorEq,↓reduceIte];refine sq (a.tmod 2==0) ?_ ?_
 ·simp only[go_sem,Vv,Vc,Nat.reduceAdd,Nat.reduceEqDiff,Nat.reduceBEq,Nat.reduceLeDiff,reduceCtorEq,↓reduceIte];intro h;cases h
 ·cases h4:(now==ZE&&a.tmod 2==0)
  ·simp only[go_sem,h4,JA,Va,Vb,JD,wa,wb,hk,w4,JL,JM,JB,Int.reduceBEq,Vu,Vt,Bool.false_and,Bool.and_true,Bool.and_false,Vv,Vc,Nat.reduceAdd,Nat.reduceEqDiff,Nat.reduceBEq,Nat.reduceLeDiff,reduceCtorEq,↓reduceIte];refine⟨dC,?_⟩;refine wn cq10 ?_;simp only[go_sem,JA,Va,Vb,JD,wa,wb,hk,w4,JL,JM,JB,Int.reduceBEq,Vu,Vt,Bool.false_and,Bool.and_true,Bool.and_false,Vv,Vc,Nat.reduceAdd,Nat.reduceEqDiff,Nat.reduceBEq,Nat.reduceLeDiff,reduceCtorEq,↓reduceIte];refine wn cq11 ?_;simp only[go_sem,JA,Va,Vb,JD,wa,wb,hk,w4,JL,JM,JB,Int.reduceBEq,Vu,Vt,Bool.false_and,Bool.and_true,Bool.and_false,Vv,Vc,Nat.reduceAdd,Nat.reduceEqDiff,Nat.reduceBEq,Nat.reduceLeDiff,reduceCtorEq,↓reduceIte]
  ·simp only[go_sem,h4,JA,Va,Vb,JD,wa,wb,hk,w4,JL,JM,JB,Int.reduceBEq,Vu,Vt,Bool.false_and,Bool.and_true,Bool.and_false,Vv,Vc,Nat.reduceAdd,Nat.reduceEqDiff,Nat.reduceBEq,Nat.reduceLeDiff,reduceCtorEq,↓reduceIte];refine JG rfl c5 trivial ?_;simp only[go_sem,JA,Va,Vb,JD,wa,wb,hk,w4,JL,JM,JB,Int.reduceBEq,Vu,Vt,Bool.false_and,Bool.and_true,Bool.and_false,Vv,Vc,Nat.reduceAdd,Nat.reduceEqDiff,Nat.reduceBEq,Nat.reduceLeDiff,reduceCtorEq,↓reduceIte];refine JG rfl c6 trivial ?_;simp only[go_sem,JA,Va,Vb,JD,wa,wb,hk,w4,JL,JM,JB,Int.reduceBEq,Vu,Vt,Bool.false_and,Bool.and_true,Bool.and_false,Vv,Vc,Nat.reduceAdd,Nat.reduceEqDiff,Nat.reduceBEq,Nat.reduceLeDiff,reduceCtorEq,↓reduceIte];refine⟨dC,?_⟩;refine JG rfl c7 trivial ?_;simp only[go_sem,JA,Va,Vb,JD,wa,wb,hk,w4,JL,JM,JB,Int.reduceBEq,Vu,Vt,Bool.false_and,Bool.and_true,Bool.and_false,Vv,Vc,Nat.reduceAdd,Nat.reduceEqDiff,Nat.reduceBEq,Nat.reduceLeDiff,reduceCtorEq,↓reduceIte];refine JG rfl c8 trivial ?_;simp only[go_sem,JA,Va,Vb,JD,wa,wb,hk,w4,JL,JM,JB,Int.reduceBEq,Vu,Vt,Bool.false_and,Bool.and_true,Bool.and_false,Vv,Vc,Nat.reduceAdd,Nat.reduceEqDiff,Nat.reduceBEq,Nat.reduceLeDiff,reduceCtorEq,↓reduceIte];refine JG rfl c9 trivial ?_;simp only[go_sem,JA,Va,Vb,JD,wa,wb,hk,w4,JL,JM,JB,Int.reduceBEq,Vu,Vt,Bool.false_and,Bool.and_true,Bool.and_false,Vv,Vc,Nat.reduceAdd,Nat.reduceEqDiff,Nat.reduceBEq,Nat.reduceLeDiff,reduceCtorEq,↓reduceIte];refine⟨sP,?_⟩;refine JG rfl cq12 trivial ?_;simp only[go_sem,JA,Va,Vb,JD,wa,wb,hk,w4,JL,JM,JB,Int.reduceBEq,Vu,Vt,Bool.false_and,Bool.and_true,Bool.and_false,Vv,Vc,Nat.reduceAdd,Nat.reduceEqDiff,Nat.reduceBEq,Nat.reduceLeDiff,reduceCtorEq,↓reduceIte];rfl
end Go.Proofs
namespace Go.Proofs
open Go Av
attribute [local instance 2000] JEe
theorem JSO:JDP 2:=by
 intro br k a b now deep h0 h1 h2 h3 hk hbr;refine YZ.pc ?_;have c0:=(Jd Ul).call trivial;have c1:=(Uq now).call trivial;have c2:=(Jd (msr now)).call trivial;have c3:=(UB (a.tmod 110)).call trivial;have c4:=(Ut 8 (JO (msr now)) (Jo (a.tmod 110))).call trivial;have wa:IntKind.i64.wrap a=a:=J4 oM oM;have wb:IntKind.i64.wrap b=b:=J4 oM oM;obtain⟨b4,b4',b4''⟩:=UK b 4 h2 oM;have w4:IntKind.i64.wrap (1+b.tmod 4)=1+b.tmod 4:=J4 oM oM;simp only[Va,Vb]at c0 c1 c2 c3 c4;have c5:=(Jd JBC).call trivial;have c6:=(Jd [105,116,101,109,46,115,107,117]).call trivial;have c7:=(Jd [105,116,101,109,46,113,116,121]).call trivial;have cq12:=(JA6 [⟨sId,JO JBC⟩,⟨JCH,JE3⟩,⟨[115,107,117],JO [105,116,101,109,46,115,107,117]⟩,⟨[113,116,121],JO [105,116,101,109,46,113,116,121]⟩]).call trivial;simp only[JD,JO,Jo,US,JX,JY,Jg,prs,List.flatMap_cons,List.flatMap_nil,List.cons_append,List.nil_append,List.append_nil,Va,Vb]at c0 c1 c2 c3 c4 c5 c6 c7 cq12;unfold UM;rw[hk];simp only[go_sem,YP,UE,JA,Va,Vb,JD,wa,wb,hk,w4,JL,JM,JB,Int.reduceBEq,Vu,Vt,Bool.false_and,Bool.and_true,Bool.and_false,JD,JO,Jo,US,JX,JY,Jg,prs,List.flatMap_cons,List.flatMap_nil,List.cons_append,List.nil_append,List.append_nil,Va,Vb,JSG,JA,Vv,Vc,Nat.reduceAdd,Nat.reduceEqDiff,Nat.reduceBEq,Nat.reduceLeDiff,reduceCtorEq,↓reduceIte];refine wn c0 ?_;simp only[go_sem,JA,Va,Vb,JD,wa,wb,hk,w4,JL,JM,JB,Int.reduceBEq,Vu,Vt,Bool.false_and,Bool.and_true,Bool.and_false,Vv,Vc,Nat.reduceAdd,Nat.reduceEqDiff,Nat.reduceBEq,Nat.reduceLeDiff,reduceCtorEq,↓reduceIte];refine wn c0 ?_;simp only[go_sem,JA,Va,Vb,JD,wa,wb,hk,w4,JL,JM,JB,Int.reduceBEq,Vu,Vt,Bool.false_and,Bool.and_true,Bool.and_false,Vv,Vc,Nat.reduceAdd,Nat.reduceEqDiff,Nat.reduceBEq,Nat.reduceLeDiff,reduceCtorEq,↓reduceIte];refine⟨sP,?_⟩;refine wn c1 ?_;simp only[go_sem,JA,Va,Vb,JD,wa,wb,hk,w4,JL,JM,JB,Int.reduceBEq,Vu,Vt,Bool.false_and,Bool.and_true,Bool.and_false,Vv,Vc,Nat.reduceAdd,Nat.reduceEqDiff,Nat.reduceBEq,Nat.reduceLeDiff,reduceCtorEq,↓reduceIte];refine wn c2 ?_;simp only[go_sem,JA,Va,Vb,JD,wa,wb,hk,w4,JL,JM,JB,Int.reduceBEq,Vu,Vt,Bool.false_and,Bool.and_true,Bool.and_false,Vv,Vc,Nat.reduceAdd,Nat.reduceEqDiff,Nat.reduceBEq,Nat.reduceLeDiff,reduceCtorEq,↓reduceIte];refine⟨dC,?_⟩;refine wn c3 ?_;simp only[go_sem,JA,Va,Vb,JD,wa,wb,hk,w4,JL,JM,JB,Int.reduceBEq,Vu,Vt,Bool.false_and,Bool.and_true,Bool.and_false,Vv,Vc,Nat.reduceAdd,Nat.reduceEqDiff,Nat.reduceBEq,Nat.reduceLeDiff,reduceCtorEq,↓reduceIte];refine wn c4 ?_;simp only[go_sem,JA,Va,Vb,JD,wa,wb,hk,w4,JL,JM,JB,Int.reduceBEq,Vu,Vt,Bool.false_and,Bool.and_true,Bool.and_false,Int.reduceEq,or_true,or_false,true_or,false_or,not_false_eq_true,not_true_eq_false,ne_eq,true_and,JSG,JA,Va,Vb,Vv,Vc,Nat.reduceAdd,Nat.reduceEqDiff,Nat.reduceBEq,Nat.reduceLeDiff,reduceCtorEq,↓reduceIte];cases h4:now==ZE
 ·simp only[go_sem,h4,JA,Va,Vb,JD,wa,wb,hk,w4,JL,JM,JB,Int.reduceBEq,Vu,Vt,Bool.false_and,Bool.and_true,Bool.and_false,Vv,Vc,Nat.reduceAdd,Nat.reduceEqDiff,Nat.reduceBEq,Nat.reduceLeDiff,reduceCtorEq,↓reduceIte];cases deep
  ·have hbr:br=JCK now a:=hbr;subst hbr;simp only[go_sem,JA,Va,Vb,JD,wa,wb,hk,w4,JL,JM,JB,Int.reduceBEq,Vu,Vt,Bool.false_and,Bool.and_true,Bool.and_false,JCK,Jg,JD,JO,Jo,US,JX,JY,Jg,prs,List.flatMap_cons,List.flatMap_nil,List.cons_append,List.nil_append,List.append_nil,Va,Vb,Vv,Vc,Nat.reduceAdd,Nat.reduceEqDiff,Nat.reduceBEq,Nat.reduceLeDiff,reduceCtorEq,↓reduceIte];simp
  ·have hb:=UD.call (show PT 192 [UE k a b,.str now,Jf (Jg now a)] (.d (JI br))from hbr) trivial;simp only[UE,JD,JO,Jo,US,JX,JY,Jg,prs,List.flatMap_cons,List.flatMap_nil,List.cons_append,List.nil_append,List.append_nil,Va,Vb,JV br]at hb;rw[JV br];simp only[go_sem,JA,Va,Vb,JD,wa,wb,hk,w4,JL,JM,JB,Int.reduceBEq,Vu,Vt,Bool.false_and,Bool.and_true,Bool.and_false,Vv,Vc,Nat.reduceAdd,Nat.reduceEqDiff,Nat.reduceBEq,Nat.reduceLeDiff,reduceCtorEq,↓reduceIte];refine wn hb ?_;simp only[go_sem,JA,Va,Vb,JD,wa,wb,hk,w4,JL,JM,JB,Int.reduceBEq,Vu,Vt,Bool.false_and,Bool.and_true,Bool.and_false,Vv,Vc,Nat.reduceAdd,Nat.reduceEqDiff,Nat.reduceBEq,Nat.reduceLeDiff,reduceCtorEq,↓reduceIte]
 ·simp only[go_sem,h4,JA,Va,Vb,JD,wa,wb,hk,w4,JL,JM,JB,Int.reduceBEq,Vu,Vt,Bool.false_and,Bool.and_true,Bool.and_false,Vv,Vc,Nat.reduceAdd,Nat.reduceEqDiff,Nat.reduceBEq,Nat.reduceLeDiff,reduceCtorEq,↓reduceIte];refine JG rfl c5 trivial ?_;simp only[go_sem,JA,Va,Vb,JD,wa,wb,hk,w4,JL,JM,JB,Int.reduceBEq,Vu,Vt,Bool.false_and,Bool.and_true,Bool.and_false,Vv,Vc,Nat.reduceAdd,Nat.reduceEqDiff,Nat.reduceBEq,Nat.reduceLeDiff,reduceCtorEq,↓reduceIte];refine JG rfl c6 trivial ?_;simp only[go_sem,JA,Va,Vb,JD,wa,wb,hk,w4,JL,JM,JB,Int.reduceBEq,Vu,Vt,Bool.false_and,Bool.and_true,Bool.and_false,Vv,Vc,Nat.reduceAdd,Nat.reduceEqDiff,Nat.reduceBEq,Nat.reduceLeDiff,reduceCtorEq,↓reduceIte];refine JG rfl c7 trivial ?_;simp only[go_sem,JA,Va,Vb,JD,wa,wb,hk,w4,JL,JM,JB,Int.reduceBEq,Vu,Vt,Bool.false_and,Bool.and_true,Bool.and_false,Vv,Vc,Nat.reduceAdd,Nat.reduceEqDiff,Nat.reduceBEq,Nat.reduceLeDiff,reduceCtorEq,↓reduceIte];refine⟨sP,?_⟩;refine JG rfl cq12 trivial ?_;simp only[go_sem,JA,Va,Vb,JD,wa,wb,hk,w4,JL,JM,JB,Int.reduceBEq,Vu,Vt,Bool.false_and,Bool.and_true,Bool.and_false,Vv,Vc,Nat.reduceAdd,Nat.reduceEqDiff,Nat.reduceBEq,Nat.reduceLeDiff,reduceCtorEq,↓reduceIte];rfl
end Go.Proofs
namespace Go.Proofs
open Go Av
attribute [local instance 2000] JEe
theorem JSP:JDP 4:=by
 intro br k a b now deep h0 h1 h2 h3 hk hbr;refine YZ.pc ?_;have c0:=(Jd Ul).call trivial;have c1:=(Uq now).call trivial;have c2:=(Jd (msr now)).call trivial;have c3:=(UB (a.tmod 110)).call trivial;have c4:=(Ut 8 (JO (msr now)) (Jo (a.tmod 110))).call trivial;have wa:IntKind.i64.wrap a=a:=J4 oM oM;have wb:IntKind.i64.wrap b=b:=J4 oM oM;obtain⟨b4,b4',b4''⟩:=UK b 4 h2 oM;have w4:IntKind.i64.wrap (1+b.tmod 4)=1+b.tmod 4:=J4 oM oM;simp only[Va,Vb]at c0 c1 c2 c3 c4;have c5:=(Jd JBC).call trivial;obtain⟨m1,m2,m3⟩:=UK a 3 h0 oM;have w5:IntKind.i64.wrap (a.tmod 3*50)=a.tmod 3*50:=J4 oM oM;simp only[JD,JO,Jo,US,JX,JY,Jg,prs,List.flatMap_cons,List.flatMap_nil,List.cons_append,List.nil_append,List.append_nil,Va,Vb]at c0 c1 c2 c3 c4 c5;unfold UM;rw[hk];simp only[go_sem,YP,UE,JA,Va,Vb,JD,wa,wb,hk,w4,JL,JM,JB,Int.reduceBEq,Vu,Vt,Bool.false_and,Bool.and_true,Bool.and_false,JD,JO,Jo,US,JX,JY,Jg,prs,List.flatMap_cons,List.flatMap_nil,List.cons_append,List.nil_append,List.append_nil,Va,Vb,JSH,JA,Vv,Vc,Nat.reduceAdd,Nat.reduceEqDiff,Nat.reduceBEq,Nat.reduceLeDiff,reduceCtorEq,↓reduceIte];refine wn c0 ?_;simp only[go_sem,JA,Va,Vb,JD,wa,wb,hk,w4,JL,JM,JB,Int.reduceBEq,Vu,Vt,Bool.false_and,Bool.and_true,Bool.and_false,Vv,Vc,Nat.reduceAdd,Nat.reduceEqDiff,Nat.reduceBEq,Nat.reduceLeDiff,reduceCtorEq,↓reduceIte];refine wn c0 ?_;simp only[go_sem,JA,Va,Vb,JD,wa,wb,hk,w4,JL,JM,JB,Int.reduceBEq,Vu,Vt,Bool.false_and,Bool.and_true,Bool.and_false,Vv,Vc,Nat.reduceAdd,Nat.reduceEqDiff,Nat.reduceBEq,Nat.reduceLeDiff,reduceCtorEq,↓reduceIte];refine⟨sP,?_⟩;refine wn c1 ?_;simp only[go_sem,JA,Va,Vb,JD,wa,wb,hk,w4,JL,JM,JB,Int.reduceBEq,Vu,Vt,Bool.false_and,Bool.and_true,Bool.and_false,Vv,Vc,Nat.reduceAdd,Nat.reduceEqDiff,Nat.reduceBEq,Nat.reduceLeDiff,reduceCtorEq,↓reduceIte];refine wn c2 ?_;simp only[go_sem,JA,Va,Vb,JD,wa,wb,hk,w4,JL,JM,JB,Int.reduceBEq,Vu,Vt,Bool.false_and,Bool.and_true,Bool.and_false,Vv,Vc,Nat.reduceAdd,Nat.reduceEqDiff,Nat.reduceBEq,Nat.reduceLeDiff,reduceCtorEq,↓reduceIte];refine⟨dC,?_⟩;refine wn c3 ?_;simp only[go_sem,JA,Va,Vb,JD,wa,wb,hk,w4,JL,JM,JB,Int.reduceBEq,Vu,Vt,Bool.false_and,Bool.and_true,Bool.and_false,Vv,Vc,Nat.reduceAdd,Nat.reduceEqDiff,Nat.reduceBEq,Nat.reduceLeDiff,reduceCtorEq,↓reduceIte];refine wn c4 ?_;simp only[go_sem,JA,Va,Vb,JD,wa,wb,hk,w4,JL,JM,JB,Int.reduceBEq,Vu,Vt,Bool.false_and,Bool.and_true,Bool.and_false,Int.reduceEq,or_true,or_false,true_or,false_or,not_false_eq_true,not_true_eq_false,ne_eq,true_and,JSH,JA,Va,Vb,Vv,Vc,Nat.reduceAdd,Nat.reduceEqDiff,Nat.reduceBEq,Nat.reduceLeDiff,reduceCtorEq,↓reduceIte];refine JG rfl c5 trivial ?_;simp only[go_sem,JA,Va,Vb,JD,wa,wb,hk,w4,JL,JM,JB,Int.reduceBEq,Vu,Vt,Bool.false_and,Bool.and_true,Bool.and_false,Vv,Vc,Nat.reduceAdd,Nat.reduceEqDiff,Nat.reduceBEq,Nat.reduceLeDiff,reduceCtorEq,↓reduceIte];refine⟨sP,dC,?_⟩;rw[w5];exact⟨rfl,rfl⟩
theorem JSQ:JDP 5:=by
 intro br k a b now deep h0 h1 h2 h3 hk hbr;refine YZ.pc ?_;have c0:=(Jd Ul).call trivial;have c1:=(Uq now).call trivial;have c2:=(Jd (msr now)).call trivial;have c3:=(UB (a.tmod 110)).call trivial;have c4:=(Ut 8 (JO (msr now)) (Jo (a.tmod 110))).call trivial;have wa:IntKind.i64.wrap a=a:=J4 oM oM;have wb:IntKind.i64.wrap b=b:=J4 oM oM;obtain⟨b4,b4',b4''⟩:=UK b 4 h2 oM;have w4:IntKind.i64.wrap (1+b.tmod 4)=1+b.tmod 4:=J4 oM oM;simp only[Va,Vb]at c0 c1 c2 c3 c4;have c5:=(Jd JBC).call trivial;simp only[JD,JO,Jo,US,JX,JY,Jg,prs,List.flatMap_cons,List.flatMap_nil,List.cons_append,List.nil_append,List.append_nil,Va,Vb]at c0 c1 c2 c3 c4 c5;unfold UM;rw[hk];simp only[go_sem,YP,UE,JA,Va,Vb,JD,wa,wb,hk,w4,JL,JM,JB,Int.reduceBEq,Vu,Vt,Bool.false_and,Bool.and_true,Bool.and_false,JD,JO,Jo,US,JX,JY,Jg,prs,List.flatMap_cons,List.flatMap_nil,List.cons_append,List.nil_append,List.append_nil,Va,Vb,JSI,JA,Vv,Vc,Nat.reduceAdd,Nat.reduceEqDiff,Nat.reduceBEq,Nat.reduceLeDiff,reduceCtorEq,↓reduceIte];refine wn c0 ?_;simp only[go_sem,JA,Va,Vb,JD,wa,wb,hk,w4,JL,JM,JB,Int.reduceBEq,Vu,Vt,Bool.false_and,Bool.and_true,Bool.and_false,Vv,Vc,Nat.reduceAdd,Nat.reduceEqDiff,Nat.reduceBEq,Nat.reduceLeDiff,reduceCtorEq,↓reduceIte];refine wn c0 ?_;simp only[go_sem,JA,Va,Vb,JD,wa,wb,hk,w4,JL,JM,JB,Int.reduceBEq,Vu,Vt,Bool.false_and,Bool.and_true,Bool.and_false,Vv,Vc,Nat.reduceAdd,Nat.reduceEqDiff,Nat.reduceBEq,Nat.reduceLeDiff,reduceCtorEq,↓reduceIte];refine⟨sP,?_⟩;refine wn c1 ?_;simp only[go_sem,JA,Va,Vb,JD,wa,wb,hk,w4,JL,JM,JB,Int.reduceBEq,Vu,Vt,Bool.false_and,Bool.and_true,Bool.and_false,Vv,Vc,Nat.reduceAdd,Nat.reduceEqDiff,Nat.reduceBEq,Nat.reduceLeDiff,reduceCtorEq,↓reduceIte];refine wn c2 ?_;simp only[go_sem,JA,Va,Vb,JD,wa,wb,hk,w4,JL,JM,JB,Int.reduceBEq,Vu,Vt,Bool.false_and,Bool.and_true,Bool.and_false,Vv,Vc,Nat.reduceAdd,Nat.reduceEqDiff,Nat.reduceBEq,Nat.reduceLeDiff,reduceCtorEq,↓reduceIte];refine⟨dC,?_⟩;refine wn c3 ?_;simp only[go_sem,JA,Va,Vb,JD,wa,wb,hk,w4,JL,JM,JB,Int.reduceBEq,Vu,Vt,Bool.false_and,Bool.and_true,Bool.and_false,Vv,Vc,Nat.reduceAdd,Nat.reduceEqDiff,Nat.reduceBEq,Nat.reduceLeDiff,reduceCtorEq,↓reduceIte];refine wn c4 ?_;simp only[go_sem,JA,Va,Vb,JD,wa,wb,hk,w4,JL,JM,JB,Int.reduceBEq,Vu,Vt,Bool.false_and,Bool.and_true,Bool.and_false,Int.reduceEq,or_true,or_false,true_or,false_or,not_false_eq_true,not_true_eq_false,ne_eq,true_and,JSI,JA,Va,Vb,Vv,Vc,Nat.reduceAdd,Nat.reduceEqDiff,Nat.reduceBEq,Nat.reduceLeDiff,reduceCtorEq,↓reduceIte];refine wn c5 ?_;simp only[go_sem,JA,Va,Vb,JD,wa,wb,hk,w4,JL,JM,JB,Int.reduceBEq,Vu,Vt,Bool.false_and,Bool.and_true,Bool.and_false,Vv,Vc,Nat.reduceAdd,Nat.reduceEqDiff,Nat.reduceBEq,Nat.reduceLeDiff,reduceCtorEq,↓reduceIte];refine⟨sP,?_⟩;rfl
theorem JSR:JDP 6:=by
 intro br k a b now deep h0 h1 h2 h3 hk hbr;refine YZ.pc ?_;have c0:=(Jd Ul).call trivial;have c1:=(Uq now).call trivial;have c2:=(Jd (msr now)).call trivial;have c3:=(UB (a.tmod 110)).call trivial;have c4:=(Ut 8 (JO (msr now)) (Jo (a.tmod 110))).call trivial;have wa:IntKind.i64.wrap a=a:=J4 oM oM;have wb:IntKind.i64.wrap b=b:=J4 oM oM;obtain⟨b4,b4',b4''⟩:=UK b 4 h2 oM;have w4:IntKind.i64.wrap (1+b.tmod 4)=1+b.tmod 4:=J4 oM oM;simp only[Va,Vb]at c0 c1 c2 c3 c4;obtain⟨m1,m2,m3⟩:=UK a 3 h0 oM;have w5:IntKind.i64.wrap (1+a.tmod 3)=1+a.tmod 3:=J4 oM oM;simp only[JD,JO,Jo,US,JX,JY,Jg,prs,List.flatMap_cons,List.flatMap_nil,List.cons_append,List.nil_append,List.append_nil,Va,Vb]at c0 c1 c2 c3 c4;unfold UM;rw[hk];simp only[go_sem,YP,UE,JA,Va,Vb,JD,wa,wb,hk,w4,JL,JM,JB,Int.reduceBEq,Vu,Vt,Bool.false_and,Bool.and_true,Bool.and_false,JD,JO,Jo,US,JX,JY,Jg,prs,List.flatMap_cons,List.flatMap_nil,List.cons_append,List.nil_append,List.append_nil,Va,Vb,JSJ,JA,Vv,Vc,Nat.reduceAdd,Nat.reduceEqDiff,Nat.reduceBEq,Nat.reduceLeDiff,reduceCtorEq,↓reduceIte];refine wn c0 ?_;simp only[go_sem,JA,Va,Vb,JD,wa,wb,hk,w4,JL,JM,JB,Int.reduceBEq,Vu,Vt,Bool.false_and,Bool.and_true,Bool.and_false,Vv,Vc,Nat.reduceAdd,Nat.reduceEqDiff,Nat.reduceBEq,Nat.reduceLeDiff,reduceCtorEq,↓reduceIte];refine wn c0 ?_;simp only[go_sem,JA,Va,Vb,JD,wa,wb,hk,w4,JL,JM,JB,Int.reduceBEq,Vu,Vt,Bool.false_and,Bool.and_true,Bool.and_false,Vv,Vc,Nat.reduceAdd,Nat.reduceEqDiff,Nat.reduceBEq,Nat.reduceLeDiff,reduceCtorEq,↓reduceIte];refine⟨sP,?_⟩;refine wn c1 ?_;simp only[go_sem,JA,Va,Vb,JD,wa,wb,hk,w4,JL,JM,JB,Int.reduceBEq,Vu,Vt,Bool.false_and,Bool.and_true,Bool.and_false,Vv,Vc,Nat.reduceAdd,Nat.reduceEqDiff,Nat.reduceBEq,Nat.reduceLeDiff,reduceCtorEq,↓reduceIte];refine wn c2 ?_;simp only[go_sem,JA,Va,Vb,JD,wa,wb,hk,w4,JL,JM,JB,Int.reduceBEq,Vu,Vt,Bool.false_and,Bool.and_true,Bool.and_false,Vv,Vc,Nat.reduceAdd,Nat.reduceEqDiff,Nat.reduceBEq,Nat.reduceLeDiff,reduceCtorEq,↓reduceIte];refine⟨dC,?_⟩;refine wn c3 ?_;simp only[go_sem,JA,Va,Vb,JD,wa,wb,hk,w4,JL,JM,JB,Int.reduceBEq,Vu,Vt,Bool.false_and,Bool.and_true,Bool.and_false,Vv,Vc,Nat.reduceAdd,Nat.reduceEqDiff,Nat.reduceBEq,Nat.reduceLeDiff,reduceCtorEq,↓reduceIte];refine wn c4 ?_;simp only[go_sem,JA,Va,Vb,JD,wa,wb,hk,w4,JL,JM,JB,Int.reduceBEq,Vu,Vt,Bool.false_and,Bool.and_true,Bool.and_false,Int.reduceEq,or_true,or_false,true_or,false_or,not_false_eq_true,not_true_eq_false,ne_eq,true_and,JSJ,JA,Va,Vb,Vv,Vc,Nat.reduceAdd,Nat.reduceEqDiff,Nat.reduceBEq,Nat.reduceLeDiff,reduceCtorEq,↓reduceIte];rw[w5]
theorem JSS:JDP 7:=by
 intro br k a b now deep h0 h1 h2 h3 hk hbr;refine YZ.pc ?_;have c0:=(Jd Ul).call trivial;have c1:=(Uq now).call trivial;have c2:=(Jd (msr now)).call trivial;have c3:=(UB (a.tmod 110)).call trivial;have c4:=(Ut 8 (JO (msr now)) (Jo (a.tmod 110))).call trivial;have wa:IntKind.i64.wrap a=a:=J4 oM oM;have wb:IntKind.i64.wrap b=b:=J4 oM oM;obtain⟨b4,b4',b4''⟩:=UK b 4 h2 oM;have w4:IntKind.i64.wrap (1+b.tmod 4)=1+b.tmod 4:=J4 oM oM;simp only[Va,Vb]at c0 c1 c2 c3 c4;obtain⟨m1,m2,m3⟩:=UK a 80 h0 oM;have w5:IntKind.i64.wrap (1+a.tmod 80)=1+a.tmod 80:=J4 oM oM;simp only[JD,JO,Jo,US,JX,JY,Jg,prs,List.flatMap_cons,List.flatMap_nil,List.cons_append,List.nil_append,List.append_nil,Va,Vb]at c0 c1 c2 c3 c4;unfold UM;rw[hk];simp only[go_sem,YP,UE,JA,Va,Vb,JD,wa,wb,hk,w4,JL,JM,JB,Int.reduceBEq,Vu,Vt,Bool.false_and,Bool.and_true,Bool.and_false,JD,JO,Jo,US,JX,JY,Jg,prs,List.flatMap_cons,List.flatMap_nil,List.cons_append,List.nil_append,List.append_nil,Va,Vb,JSK,JA,Vv,Vc,Nat.reduceAdd,Nat.reduceEqDiff,Nat.reduceBEq,Nat.reduceLeDiff,reduceCtorEq,↓reduceIte];refine wn c0 ?_;simp only[go_sem,JA,Va,Vb,JD,wa,wb,hk,w4,JL,JM,JB,Int.reduceBEq,Vu,Vt,Bool.false_and,Bool.and_true,Bool.and_false,Vv,Vc,Nat.reduceAdd,Nat.reduceEqDiff,Nat.reduceBEq,Nat.reduceLeDiff,reduceCtorEq,↓reduceIte];refine wn c0 ?_;simp only[go_sem,JA,Va,Vb,JD,wa,wb,hk,w4,JL,JM,JB,Int.reduceBEq,Vu,Vt,Bool.false_and,Bool.and_true,Bool.and_false,Vv,Vc,Nat.reduceAdd,Nat.reduceEqDiff,Nat.reduceBEq,Nat.reduceLeDiff,reduceCtorEq,↓reduceIte];refine⟨sP,?_⟩;refine wn c1 ?_;simp only[go_sem,JA,Va,Vb,JD,wa,wb,hk,w4,JL,JM,JB,Int.reduceBEq,Vu,Vt,Bool.false_and,Bool.and_true,Bool.and_false,Vv,Vc,Nat.reduceAdd,Nat.reduceEqDiff,Nat.reduceBEq,Nat.reduceLeDiff,reduceCtorEq,↓reduceIte];refine wn c2 ?_;simp only[go_sem,JA,Va,Vb,JD,wa,wb,hk,w4,JL,JM,JB,Int.reduceBEq,Vu,Vt,Bool.false_and,Bool.and_true,Bool.and_false,Vv,Vc,Nat.reduceAdd,Nat.reduceEqDiff,Nat.reduceBEq,Nat.reduceLeDiff,reduceCtorEq,↓reduceIte];refine⟨dC,?_⟩;refine wn c3 ?_;simp only[go_sem,JA,Va,Vb,JD,wa,wb,hk,w4,JL,JM,JB,Int.reduceBEq,Vu,Vt,Bool.false_and,Bool.and_true,Bool.and_false,Vv,Vc,Nat.reduceAdd,Nat.reduceEqDiff,Nat.reduceBEq,Nat.reduceLeDiff,reduceCtorEq,↓reduceIte];refine wn c4 ?_;simp only[go_sem,JA,Va,Vb,JD,wa,wb,hk,w4,JL,JM,JB,Int.reduceBEq,Vu,Vt,Bool.false_and,Bool.and_true,Bool.and_false,Int.reduceEq,or_true,or_false,true_or,false_or,not_false_eq_true,not_true_eq_false,ne_eq,true_and,JSK,JA,Va,Vb,Vv,Vc,Nat.reduceAdd,Nat.reduceEqDiff,Nat.reduceBEq,Nat.reduceLeDiff,reduceCtorEq,↓reduceIte];rw[w5]
end Go.Proofs
namespace Go.Proofs
open Go Av
attribute [local instance 2000] JEe
theorem JST:JDP 8:=by
 intro br k a b now deep h0 h1 h2 h3 hk hbr;refine YZ.pc ?_;have c0:=(Jd Ul).call trivial;have c1:=(Uq now).call trivial;have c2:=(Jd (msr now)).call trivial;have c3:=(UB (a.tmod 110)).call trivial;have c4:=(Ut 8 (JO (msr now)) (Jo (a.tmod 110))).call trivial;have wa:IntKind.i64.wrap a=a:=J4 oM oM;have wb:IntKind.i64.wrap b=b:=J4 oM oM;obtain⟨b4,b4',b4''⟩:=UK b 4 h2 oM;have w4:IntKind.i64.wrap (1+b.tmod 4)=1+b.tmod 4:=J4 oM oM;simp only[Va,Vb]at c0 c1 c2 c3 c4;obtain⟨m1,m2,m3⟩:=UK a 3 h0 oM;have w5:IntKind.i64.wrap (a.tmod 3*60)=a.tmod 3*60:=J4 oM oM;have c5:=(JCJ now [[112,97,121]]).call trivial;have c6:=(Jd [114,101,112,108,121,46,99,111,100,101]).call trivial;have c7:=(ZU now (JO [114,101,112,108,121,46,99,111,100,101])).call trivial;simp only[JD,JO,Jo,US,JX,JY,Jg,prs,List.flatMap_cons,List.flatMap_nil,List.cons_append,List.nil_append,List.append_nil,Va,Vb]at c0 c1 c2 c3 c4 c5 c6 c7;unfold UM;rw[hk];simp only[go_sem,YP,UE,JA,Va,Vb,JD,wa,wb,hk,w4,JL,JM,JB,Int.reduceBEq,Vu,Vt,Bool.false_and,Bool.and_true,Bool.and_false,JD,JO,Jo,US,JX,JY,Jg,prs,List.flatMap_cons,List.flatMap_nil,List.cons_append,List.nil_append,List.append_nil,Va,Vb,JSL,JA,Vv,Vc,Nat.reduceAdd,Nat.reduceEqDiff,Nat.reduceBEq,Nat.reduceLeDiff,reduceCtorEq,↓reduceIte];refine wn c0 ?_;simp only[go_sem,JA,Va,Vb,JD,wa,wb,hk,w4,JL,JM,JB,Int.reduceBEq,Vu,Vt,Bool.false_and,Bool.and_true,Bool.and_false,Vv,Vc,Nat.reduceAdd,Nat.reduceEqDiff,Nat.reduceBEq,Nat.reduceLeDiff,reduceCtorEq,↓reduceIte];refine wn c0 ?_;simp only[go_sem,JA,Va,Vb,JD,wa,wb,hk,w4,JL,JM,JB,Int.reduceBEq,Vu,Vt,Bool.false_and,Bool.and_true,Bool.and_false,Vv,Vc,Nat.reduceAdd,Nat.reduceEqDiff,Nat.reduceBEq,Nat.reduceLeDiff,reduceCtorEq,↓reduceIte];refine⟨sP,?_⟩;refine wn c1 ?_;simp only[go_sem,JA,Va,Vb,JD,wa,wb,hk,w4,JL,JM,JB,Int.reduceBEq,Vu,Vt,Bool.false_and,Bool.and_true,Bool.and_false,Vv,Vc,Nat.reduceAdd,Nat.reduceEqDiff,Nat.reduceBEq,Nat.reduceLeDiff,reduceCtorEq,↓reduceIte];refine wn c2 ?_;simp only[go_sem,JA,Va,Vb,JD,wa,wb,hk,w4,JL,JM,JB,Int.reduceBEq,Vu,Vt,Bool.false_and,Bool.and_true,Bool.and_false,Vv,Vc,Nat.reduceAdd,Nat.reduceEqDiff,Nat.reduceBEq,Nat.reduceLeDiff,reduceCtorEq,↓reduceIte];refine⟨dC,?_⟩;refine wn c3 ?_;simp only[go_sem,JA,Va,Vb,JD,wa,wb,hk,w4,JL,JM,JB,Int.reduceBEq,Vu,Vt,Bool.false_and,Bool.and_true,Bool.and_false,Vv,Vc,Nat.reduceAdd,Nat.reduceEqDiff,Nat.reduceBEq,Nat.reduceLeDiff,reduceCtorEq,↓reduceIte];refine wn c4 ?_;simp only[go_sem,JA,Va,Vb,JD,wa,wb,hk,w4,JL,JM,JB,Int.reduceBEq,Vu,Vt,Bool.false_and,Bool.and_true,Bool.and_false,Int.reduceEq,or_true,or_false,true_or,false_or,not_false_eq_true,not_true_eq_false,ne_eq,true_and,JSL,JA,Va,Vb,Vv,Vc,Nat.reduceAdd,Nat.reduceEqDiff,Nat.reduceBEq,Nat.reduceLeDiff,reduceCtorEq,↓reduceIte];refine⟨sP,?_⟩;refine wn c5 ?_;simp only[go_sem,JA,Va,Vb,JD,wa,wb,hk,w4,JL,JM,JB,Int.reduceBEq,Vu,Vt,Bool.false_and,Bool.and_true,Bool.and_false,Vv,Vc,Nat.reduceAdd,Nat.reduceEqDiff,Nat.reduceBEq,Nat.reduceLeDiff,reduceCtorEq,↓reduceIte];refine⟨dC,?_⟩;refine wn c6 ?_;simp only[go_sem,JA,Va,Vb,JD,wa,wb,hk,w4,JL,JM,JB,Int.reduceBEq,Vu,Vt,Bool.false_and,Bool.and_true,Bool.and_false,Vv,Vc,Nat.reduceAdd,Nat.reduceEqDiff,Nat.reduceBEq,Nat.reduceLeDiff,reduceCtorEq,↓reduceIte];refine wn c7 ?_;simp only[go_sem,JA,Va,Vb,JD,wa,wb,hk,w4,JL,JM,JB,Int.reduceBEq,Vu,Vt,Bool.false_and,Bool.and_true,Bool.and_false,Vv,Vc,Nat.reduceAdd,Nat.reduceEqDiff,Nat.reduceBEq,Nat.reduceLeDiff,reduceCtorEq,↓reduceIte];rw[w5]
theorem JPy:JDP 10:=by
 intro br k a b now deep h0 h1 h2 h3 hk hbr;refine YZ.pc ?_;have c0:=(Jd Ul).call trivial;have c1:=(Uq now).call trivial;have c2:=(Jd (msr now)).call trivial;have c3:=(UB (a.tmod 110)).call trivial;have c4:=(Ut 8 (JO (msr now)) (Jo (a.tmod 110))).call trivial;have wa:IntKind.i64.wrap a=a:=J4 oM oM;have wb:IntKind.i64.wrap b=b:=J4 oM oM;obtain⟨b4,b4',b4''⟩:=UK b 4 h2 oM;have w4:IntKind.i64.wrap (1+b.tmod 4)=1+b.tmod 4:=J4 oM oM;simp only[Va,Vb]at c0 c1 c2 c3 c4;simp only[JD,JO,Jo,US,JX,JY,Jg,prs,List.flatMap_cons,List.flatMap_nil,List.cons_append,List.nil_append,List.append_nil,Va,Vb]at c0 c1 c2 c3 c4;unfold UM;rw[hk];simp only[go_sem,YP,UE,JA,Va,Vb,JD,wa,wb,hk,w4,JL,JM,JB,Int.reduceBEq,Vu,Vt,Bool.false_and,Bool.and_true,Bool.and_false,JD,JO,Jo,US,JX,JY,Jg,prs,List.flatMap_cons,List.flatMap_nil,List.cons_append,List.nil_append,List.append_nil,Va,Vb,JA,Vv,Vc,Nat.reduceAdd,Nat.reduceEqDiff,Nat.reduceBEq,Nat.reduceLeDiff,reduceCtorEq,↓reduceIte];refine wn c0 ?_;simp only[go_sem,JA,Va,Vb,JD,wa,wb,hk,w4,JL,JM,JB,Int.reduceBEq,Vu,Vt,Bool.false_and,Bool.and_true,Bool.and_false,Vv,Vc,Nat.reduceAdd,Nat.reduceEqDiff,Nat.reduceBEq,Nat.reduceLeDiff,reduceCtorEq,↓reduceIte];refine wn c0 ?_;simp only[go_sem,JA,Va,Vb,JD,wa,wb,hk,w4,JL,JM,JB,Int.reduceBEq,Vu,Vt,Bool.false_and,Bool.and_true,Bool.and_false,Vv,Vc,Nat.reduceAdd,Nat.reduceEqDiff,Nat.reduceBEq,Nat.reduceLeDiff,reduceCtorEq,↓reduceIte];refine⟨sP,?_⟩;refine wn c1 ?_;simp only[go_sem,JA,Va,Vb,JD,wa,wb,hk,w4,JL,JM,JB,Int.reduceBEq,Vu,Vt,Bool.false_and,Bool.and_true,Bool.and_false,Vv,Vc,Nat.reduceAdd,Nat.reduceEqDiff,Nat.reduceBEq,Nat.reduceLeDiff,reduceCtorEq,↓reduceIte];refine wn c2 ?_;simp only[go_sem,JA,Va,Vb,JD,wa,wb,hk,w4,JL,JM,JB,Int.reduceBEq,Vu,Vt,Bool.false_and,Bool.and_true,Bool.and_false,Vv,Vc,Nat.reduceAdd,Nat.reduceEqDiff,Nat.reduceBEq,Nat.reduceLeDiff,reduceCtorEq,↓reduceIte];refine⟨dC,?_⟩;refine wn c3 ?_;simp only[go_sem,JA,Va,Vb,JD,wa,wb,hk,w4,JL,JM,JB,Int.reduceBEq,Vu,Vt,Bool.false_and,Bool.and_true,Bool.and_false,Vv,Vc,Nat.reduceAdd,Nat.reduceEqDiff,Nat.reduceBEq,Nat.reduceLeDiff,reduceCtorEq,↓reduceIte];refine wn c4 ?_;simp only[go_sem,JA,Va,Vb,JD,wa,wb,hk,w4,JL,JM,JB,Int.reduceBEq,Vu,Vt,Bool.false_and,Bool.and_true,Bool.and_false,Int.reduceEq,or_true,or_false,true_or,false_or,not_false_eq_true,not_true_eq_false,ne_eq,true_and,JA,Va,Vb,Vv,Vc,Nat.reduceAdd,Nat.reduceEqDiff,Nat.reduceBEq,Nat.reduceLeDiff,reduceCtorEq,↓reduceIte];cases deep
 ·have hbr:br=JCK now a:=hbr;subst hbr;simp only[go_sem,JA,Va,Vb,JD,wa,wb,hk,w4,JL,JM,JB,Int.reduceBEq,Vu,Vt,Bool.false_and,Bool.and_true,Bool.and_false,JCK,Jg,JD,JO,Jo,US,JX,JY,Jg,prs,List.flatMap_cons,List.flatMap_nil,List.cons_append,List.nil_append,List.append_nil,Va,Vb,Vv,Vc,Nat.reduceAdd,Nat.reduceEqDiff,Nat.reduceBEq,Nat.reduceLeDiff,reduceCtorEq,↓reduceIte];simp
 ·have hb:=UD.call (show PT 192 [UE k a b,.str now,Jf (Jg now a)] (.d (JI br))from hbr) trivial;simp only[UE,JD,JO,Jo,US,JX,JY,Jg,prs,List.flatMap_cons,List.flatMap_nil,List.cons_append,List.nil_append,List.append_nil,Va,Vb,JV br]at hb;rw[JV br];simp only[go_sem,JA,Va,Vb,JD,wa,wb,hk,w4,JL,JM,JB,Int.reduceBEq,Vu,Vt,Bool.false_and,Bool.and_true,Bool.and_false,Vv,Vc,Nat.reduceAdd,Nat.reduceEqDiff,Nat.reduceBEq,Nat.reduceLeDiff,reduceCtorEq,↓reduceIte];refine wn hb ?_;simp only[go_sem,JA,Va,Vb,JD,wa,wb,hk,w4,JL,JM,JB,Int.reduceBEq,Vu,Vt,Bool.false_and,Bool.and_true,Bool.and_false,Vv,Vc,Nat.reduceAdd,Nat.reduceEqDiff,Nat.reduceBEq,Nat.reduceLeDiff,reduceCtorEq,↓reduceIte]
end Go.Proofs
namespace Go.Proofs
open Go Av
attribute [local instance 2000] JEe
theorem JSU:JDP 3:=by
 intro br k a b now deep h0 h1 h2 h3 hk hbr;refine YZ.pc ?_;have c0:=(Jd Ul).call trivial;have c1:=(Uq now).call trivial;have c2:=(Jd (msr now)).call trivial;have c3:=(UB (a.tmod 110)).call trivial;have c4:=(Ut 8 (JO (msr now)) (Jo (a.tmod 110))).call trivial;have wa:IntKind.i64.wrap a=a:=J4 oM oM;have wb:IntKind.i64.wrap b=b:=J4 oM oM;obtain⟨b4,b4',b4''⟩:=UK b 4 h2 oM;have w4:IntKind.i64.wrap (1+b.tmod 4)=1+b.tmod 4:=J4 oM oM;simp only[Va,Vb]at c0 c1 c2 c3 c4;have c5:=(Jd JBd).call trivial;have c6:=(Jd [105,116,101,109,115,91,48,93,46,105,100]).call trivial;have c7:=(UB 0).call trivial;have c8:=(Ut 23 (JO [105,116,101,109,115,91,48,93,46,105,100]) (Jo 0)).call trivial;have c9:=(Jd [107,101,121]).call trivial;have cq10:=(UB (1+b.tmod 4)).call trivial;have cq11:=(Ut 11 (JO JBd) (Jo (1+b.tmod 4))).call trivial;have cq12:=(JA6 [⟨sId,US 23 (JO [105,116,101,109,115,91,48,93,46,105,100]) (Jo 0)⟩,⟨JCH,JO [107,101,121]⟩,⟨[116,111,116,97,108],.mk 26 0 ([105,116,101,109,115,91,42,93,46]++(msr now).drop 5) [] []⟩,⟨JBd,JO JBd⟩]).call trivial;obtain⟨ml,ml2⟩:=JPx now;obtain⟨m1,m2,m3⟩:=UK a 3 h0 oM;have w5:IntKind.i64.wrap (a.tmod 3*50)=a.tmod 3*50:=J4 oM oM;obtain⟨q1,q2⟩:=JIo a 2 h0 h1 oM;have w6:IntKind.i64.wrap (a.tdiv 2)=a.tdiv 2:=J4 oM oM;have hdr:List.take (((msr now).length:Int)-5).toNat (List.drop (Int.toNat 5) (msr now))=(msr now).drop 5:=by
  rw[show Int.toNat 5=5 from rfl];exact List.take_of_length_le sO
 simp only[JD,JO,Jo,US,JX,JY,Jg,prs,List.flatMap_cons,List.flatMap_nil,List.cons_append,List.nil_append,List.append_nil,Va,Vb]at c0 c1 c2 c3 c4 c5 c6 c7 c8 c9 cq10 cq11 cq12;unfold UM;rw[hk];simp only[go_sem,YP,UE,JA,Va,Vb,JD,wa,wb,hk,w4,JL,JM,JB,Int.reduceBEq,Vu,Vt,Bool.false_and,Bool.and_true,Bool.and_false,JD,JO,Jo,US,JX,JY,Jg,prs,List.flatMap_cons,List.flatMap_nil,List.cons_append,List.nil_append,List.append_nil,Va,Vb,JOA,JA,Vv,Vc,Nat.reduceAdd,Nat.reduceEqDiff,Nat.reduceBEq,Nat.reduceLeDiff,reduceCtorEq,↓reduceIte];refine wn c0 ?_;simp only[go_sem,JA,Va,Vb,JD,wa,wb,hk,w4,JL,JM,JB,Int.reduceBEq,Vu,Vt,Bool.false_and,Bool.and_true,Bool.and_false,Vv,Vc,Nat.reduceAdd,Nat.reduceEqDiff,Nat.reduceBEq,Nat.reduceLeDiff,reduceCtorEq,↓reduceIte];refine wn c0 ?_;simp only[go_sem,JA,Va,Vb,JD,wa,wb,hk,w4,JL,JM,JB,Int.reduceBEq,Vu,Vt,Bool.false_and,Bool.and_true,Bool.and_false,Vv,Vc,Nat.reduceAdd,Nat.reduceEqDiff,Nat.reduceBEq,Nat.reduceLeDiff,reduceCtorEq,↓reduceIte];refine⟨sP,?_⟩;refine wn c1 ?_;simp only[go_sem,JA,Va,Vb,JD,wa,wb,hk,w4,JL,JM,JB,Int.reduceBEq,Vu,Vt,Bool.false_and,Bool.and_true,Bool.and_false,Vv,Vc,Nat.reduceAdd,Nat.reduceEqDiff,Nat.reduceBEq,Nat.reduceLeDiff,reduceCtorEq,↓reduceIte];refine wn c2 ?_;simp only[go_sem,JA,Va,Vb,JD,wa,wb,hk,w4,JL,JM,JB,Int.reduceBEq,Vu,Vt,Bool.false_and,Bool.and_true,Bool.and_false,Vv,Vc,Nat.reduceAdd,Nat.reduceEqDiff,Nat.reduceBEq,Nat.reduceLeDiff,reduceCtorEq,↓reduceIte];refine⟨dC,?_⟩;refine wn c3 ?_;simp only[go_sem,JA,Va,Vb,JD,wa,wb,hk,w4,JL,JM,JB,Int.reduceBEq,Vu,Vt,Bool.false_and,Bool.and_true,Bool.and_false,Vv,Vc,Nat.reduceAdd,Nat.reduceEqDiff,Nat.reduceBEq,Nat.reduceLeDiff,reduceCtorEq,↓reduceIte];refine wn c4 ?_;simp only[go_sem,JA,Va,Vb,JD,wa,wb,hk,w4,JL,JM,JB,Int.reduceBEq,Vu,Vt,Bool.false_and,Bool.and_true,Bool.and_false,Int.reduceEq,or_true,or_false,true_or,false_or,not_false_eq_true,not_true_eq_false,ne_eq,true_and,JOA,JA,Va,Vb,Vv,Vc,Nat.reduceAdd,Nat.reduceEqDiff,Nat.reduceBEq,Nat.reduceLeDiff,reduceCtorEq,↓reduceIte];cases h4:a.tmod 2==0
 ·simp only[go_sem,h4,JA,Va,Vb,JD,wa,wb,hk,w4,JL,JM,JB,Int.reduceBEq,Vu,Vt,Bool.false_and,Bool.and_true,Bool.and_false,Vv,Vc,Nat.reduceAdd,Nat.reduceEqDiff,Nat.reduceBEq,Nat.reduceLeDiff,reduceCtorEq,↓reduceIte];refine wn c1 ?_;simp only[go_sem,JA,Va,Vb,JD,wa,wb,hk,w4,JL,JM,JB,Int.reduceBEq,Vu,Vt,Bool.false_and,Bool.and_true,Bool.and_false,Vv,Vc,Nat.reduceAdd,Nat.reduceEqDiff,Nat.reduceBEq,Nat.reduceLeDiff,reduceCtorEq,↓reduceIte];refine⟨⟨oM,oM,oM⟩,by rw[hdr];simp;omega,?_⟩;rw[hdr];refine wn c6 ?_;simp only[go_sem,JA,Va,Vb,JD,wa,wb,hk,w4,JL,JM,JB,Int.reduceBEq,Vu,Vt,Bool.false_and,Bool.and_true,Bool.and_false,List.cons_append,List.nil_append,Vv,Vc,Nat.reduceAdd,Nat.reduceEqDiff,Nat.reduceBEq,Nat.reduceLeDiff,reduceCtorEq,↓reduceIte];refine wn c7 ?_;simp only[go_sem,JA,Va,Vb,JD,wa,wb,hk,w4,JL,JM,JB,Int.reduceBEq,Vu,Vt,Bool.false_and,Bool.and_true,Bool.and_false,Vv,Vc,Nat.reduceAdd,Nat.reduceEqDiff,Nat.reduceBEq,Nat.reduceLeDiff,reduceCtorEq,↓reduceIte];refine wn c8 ?_;simp only[go_sem,JA,Va,Vb,JD,wa,wb,hk,w4,JL,JM,JB,Int.reduceBEq,Vu,Vt,Bool.false_and,Bool.and_true,Bool.and_false,Vv,Vc,Nat.reduceAdd,Nat.reduceEqDiff,Nat.reduceBEq,Nat.reduceLeDiff,reduceCtorEq,↓reduceIte];refine⟨dC,dC,dC,?_⟩;rw[w5,w6];refine JG rfl c9 trivial ?_;simp only[go_sem,JA,Va,Vb,JD,wa,wb,hk,w4,JL,JM,JB,Int.reduceBEq,Vu,Vt,Bool.false_and,Bool.and_true,Bool.and_false,Vv,Vc,Nat.reduceAdd,Nat.reduceEqDiff,Nat.reduceBEq,Nat.reduceLeDiff,reduceCtorEq,↓reduceIte];refine JG rfl c5 trivial ?_;simp only[go_sem,JA,Va,Vb,JD,wa,wb,hk,w4,JL,JM,JB,Int.reduceBEq,Vu,Vt,Bool.false_and,Bool.and_true,Bool.and_false,Vv,Vc,Nat.reduceAdd,Nat.reduceEqDiff,Nat.reduceBEq,Nat.reduceLeDiff,reduceCtorEq,↓reduceIte];refine⟨sP,?_⟩;refine JG rfl (JEf cq12 (by simp only[Va,Vb,Av.canon,Dat.canon,JH])) trivial ?_;simp only[go_sem,JA,Va,Vb,JD,wa,wb,hk,w4,JL,JM,JB,Int.reduceBEq,Vu,Vt,Bool.false_and,Bool.and_true,Bool.and_false,Vv,Vc,Nat.reduceAdd,Nat.reduceEqDiff,Nat.reduceBEq,Nat.reduceLeDiff,reduceCtorEq,↓reduceIte];exact⟨rfl,rfl⟩
 ·simp only[go_sem,h4,JA,Va,Vb,JD,wa,wb,hk,w4,JL,JM,JB,Int.reduceBEq,Vu,Vt,Bool.false_and,Bool.and_true,Bool.and_false,Vv,Vc,Nat.reduceAdd,Nat.reduceEqDiff,Nat.reduceBEq,Nat.reduceLeDiff,reduceCtorEq,↓reduceIte];refine wn c5 ?_;simp only[go_sem,JA,Va,Vb,JD,wa,wb,hk,w4,JL,JM,JB,Int.reduceBEq,Vu,Vt,Bool.false_and,Bool.and_true,Bool.and_false,Vv,Vc,Nat.reduceAdd,Nat.reduceEqDiff,Nat.reduceBEq,Nat.reduceLeDiff,reduceCtorEq,↓reduceIte];refine⟨dC,?_⟩;refine wn cq10 ?_;simp only[go_sem,JA,Va,Vb,JD,wa,wb,hk,w4,JL,JM,JB,Int.reduceBEq,Vu,Vt,Bool.false_and,Bool.and_true,Bool.and_false,Vv,Vc,Nat.reduceAdd,Nat.reduceEqDiff,Nat.reduceBEq,Nat.reduceLeDiff,reduceCtorEq,↓reduceIte];refine wn cq11 ?_;simp only[go_sem,JA,Va,Vb,JD,wa,wb,hk,w4,JL,JM,JB,Int.reduceBEq,Vu,Vt,Bool.false_and,Bool.and_true,Bool.and_false,Vv,Vc,Nat.reduceAdd,Nat.reduceEqDiff,Nat.reduceBEq,Nat.reduceLeDiff,reduceCtorEq,↓reduceIte];refine⟨sP,?_⟩;refine wn c1 ?_;simp only[go_sem,JA,Va,Vb,JD,wa,wb,hk,w4,JL,JM,JB,Int.reduceBEq,Vu,Vt,Bool.false_and,Bool.and_true,Bool.and_false,Vv,Vc,Nat.reduceAdd,Nat.reduceEqDiff,Nat.reduceBEq,Nat.reduceLeDiff,reduceCtorEq,↓reduceIte];refine⟨⟨oM,oM,oM⟩,by rw[hdr];simp;omega,?_⟩;rw[hdr];refine wn c6 ?_;simp only[go_sem,JA,Va,Vb,JD,wa,wb,hk,w4,JL,JM,JB,Int.reduceBEq,Vu,Vt,Bool.false_and,Bool.and_true,Bool.and_false,List.cons_append,List.nil_append,Vv,Vc,Nat.reduceAdd,Nat.reduceEqDiff,Nat.reduceBEq,Nat.reduceLeDiff,reduceCtorEq,↓reduceIte];refine wn c7 ?_;simp only[go_sem,JA,Va,Vb,JD,wa,wb,hk,w4,JL,JM,JB,Int.reduceBEq,Vu,Vt,Bool.false_and,Bool.and_true,Bool.and_false,Vv,Vc,Nat.reduceAdd,Nat.reduceEqDiff,Nat.reduceBEq,Nat.reduceLeDiff,reduceCtorEq,↓reduceIte];refine wn c8 ?_;simp only[go_sem,JA,Va,Vb,JD,wa,wb,hk,w4,JL,JM,JB,Int.reduceBEq,Vu,Vt,Bool.false_and,Bool.and_true,Bool.and_false,Vv,Vc,Nat.reduceAdd,Nat.reduceEqDiff,Nat.reduceBEq,Nat.reduceLeDiff,reduceCtorEq,↓reduceIte];refine⟨dC,dC,dC,?_⟩;rw[w5,w6];refine JG rfl c9 trivial ?_;simp only[go_sem,JA,Va,Vb,JD,wa,wb,hk,w4,JL,JM,JB,Int.reduceBEq,Vu,Vt,Bool.false_and,Bool.and_true,Bool.and_false,Vv,Vc,Nat.reduceAdd,Nat.reduceEqDiff,Nat.reduceBEq,Nat.reduceLeDiff,reduceCtorEq,↓reduceIte];refine JG rfl c5 trivial ?_;simp only[go_sem,JA,Va,Vb,JD,wa,wb,hk,w4,JL,JM,JB,Int.reduceBEq,Vu,Vt,Bool.false_and,Bool.and_true,Bool.and_false,Vv,Vc,Nat.reduceAdd,Nat.reduceEqDiff,Nat.reduceBEq,Nat.reduceLeDiff,reduceCtorEq,↓reduceIte];refine⟨sP,?_⟩;refine JG rfl (JEf cq12 (by simp only[Va,Vb,Av.canon,Dat.canon,JH])) trivial ?_;simp only[go_sem,JA,Va,Vb,JD,wa,wb,hk,w4,JL,JM,JB,Int.reduceBEq,Vu,Vt,Bool.false_and,Bool.and_true,Bool.and_false,Vv,Vc,Nat.reduceAdd,Nat.reduceEqDiff,Nat.reduceBEq,Nat.reduceLeDiff,reduceCtorEq,↓reduceIte];exact⟨rfl,rfl⟩
end Go.Proofs
namespace Go.Proofs
open Go Av
attribute [local instance 2000] JEe
theorem JOB(br:Ste)(k a b:Int)(now:Str)(deep:Bool)(h0:0≤a)(h1:a≤255)(h2:0≤b)(h3:b≤255)(e:a.tmod 4=0)(hk:k.tmod 13=9):
  PT 110 [UE k a b,.str now,.bool deep] (.tup [.d (JI (UM br k a b now).1),.d (.str (UM br k a b now).2)]):=by
 refine YZ.pc ?_;have c0:=(Jd Ul).call trivial;have c1:=(Uq now).call trivial;have c2:=(Jd (msr now)).call trivial;have c3:=(UB (a.tmod 110)).call trivial;have c4:=(Ut 8 (JO (msr now)) (Jo (a.tmod 110))).call trivial;have wa:IntKind.i64.wrap a=a:=J4 oM oM;have wb:IntKind.i64.wrap b=b:=J4 oM oM;obtain⟨b4,b4',b4''⟩:=UK b 4 h2 oM;have w4:IntKind.i64.wrap (1+b.tmod 4)=1+b.tmod 4:=J4 oM oM;simp only[Va,Vb]at c0 c1 c2 c3 c4;obtain⟨m1,m2,m3⟩:=UK b 3 h2 oM;have w5:IntKind.i64.wrap (b.tmod 3*60)=b.tmod 3*60:=J4 oM oM;have c5:=(JCJ now [[112,97,121]]).call trivial;have c6:=(UB ((1:Nat):Int)).call trivial;have c7:=(ZU now (Jo ((1:Nat):Int))).call trivial;simp only[JD,JO,Jo,US,JX,JY,Jg,prs,List.flatMap_cons,List.flatMap_nil,List.cons_append,List.nil_append,List.append_nil,Va,Vb]at c0 c1 c2 c3 c4 c5 c6 c7;unfold UM;rw[hk];simp only[go_sem,YP,UE,JA,Va,Vb,JD,wa,wb,hk,w4,JL,JM,JB,Int.reduceBEq,Vu,Vt,Bool.false_and,Bool.and_true,Bool.and_false,JD,JO,Jo,US,JX,JY,Jg,prs,List.flatMap_cons,List.flatMap_nil,List.cons_append,List.nil_append,List.append_nil,Va,Vb,JGJ,sgL,e,JA,Vv,Vc,Nat.reduceAdd,Nat.reduceEqDiff,Nat.reduceBEq,Nat.reduceLeDiff,reduceCtorEq,↓reduceIte];refine wn c0 ?_;simp only[go_sem,JA,Va,Vb,JD,wa,wb,hk,w4,JL,JM,JB,Int.reduceBEq,Vu,Vt,Bool.false_and,Bool.and_true,Bool.and_false,Vv,Vc,Nat.reduceAdd,Nat.reduceEqDiff,Nat.reduceBEq,Nat.reduceLeDiff,reduceCtorEq,↓reduceIte];refine wn c0 ?_;simp only[go_sem,JA,Va,Vb,JD,wa,wb,hk,w4,JL,JM,JB,Int.reduceBEq,Vu,Vt,Bool.false_and,Bool.and_true,Bool.and_false,Vv,Vc,Nat.reduceAdd,Nat.reduceEqDiff,Nat.reduceBEq,Nat.reduceLeDiff,reduceCtorEq,↓reduceIte];refine⟨sP,?_⟩;refine wn c1 ?_;simp only[go_sem,JA,Va,Vb,JD,wa,wb,hk,w4,JL,JM,JB,Int.reduceBEq,Vu,Vt,Bool.false_and,Bool.and_true,Bool.and_false,Vv,Vc,Nat.reduceAdd,Nat.reduceEqDiff,Nat.reduceBEq,Nat.reduceLeDiff,reduceCtorEq,↓reduceIte];refine wn c2 ?_;simp only[go_sem,JA,Va,Vb,JD,wa,wb,hk,w4,JL,JM,JB,Int.reduceBEq,Vu,Vt,Bool.false_and,Bool.and_true,Bool.and_false,Vv,Vc,Nat.reduceAdd,Nat.reduceEqDiff,Nat.reduceBEq,Nat.reduceLeDiff,reduceCtorEq,↓reduceIte];refine⟨dC,?_⟩;refine wn c3 ?_;simp only[go_sem,JA,Va,Vb,JD,wa,wb,hk,w4,JL,JM,JB,Int.reduceBEq,Vu,Vt,Bool.false_and,Bool.and_true,Bool.and_false,Vv,Vc,Nat.reduceAdd,Nat.reduceEqDiff,Nat.reduceBEq,Nat.reduceLeDiff,reduceCtorEq,↓reduceIte];refine wn c4 ?_;simp only[go_sem,JA,Va,Vb,JD,wa,wb,hk,w4,JL,JM,JB,Int.reduceBEq,Vu,Vt,Bool.false_and,Bool.and_true,Bool.and_false,Int.reduceEq,or_true,or_false,true_or,false_or,not_false_eq_true,not_true_eq_false,ne_eq,true_and,JGJ,sgL,e,JA,Va,Vb,Vv,Vc,Nat.reduceAdd,Nat.reduceEqDiff,Nat.reduceBEq,Nat.reduceLeDiff,reduceCtorEq,↓reduceIte];refine⟨sP,sP,sP,sP,sP,dC,dC,?_⟩;have hnn:nth [.list 1 [.str [112,97,121]],.list 1 [.str [112,97,121],.str [115,116,111,99,107]],.list 1 [.str [115,116,111,99,107],.str [109,97,105,108]],.list 1 [.str [115,116,111,99,107],.str [112,97,121],.str [109,97,105,108]]] (Int.toNat 0)=.list 1 [.str [112,97,121]]:=rfl;rw[hnn];simp only[go_sem,JA,Va,Vb,JD,wa,wb,hk,w4,JL,JM,JB,Int.reduceBEq,Vu,Vt,Bool.false_and,Bool.and_true,Bool.and_false,Vv,Vc,Nat.reduceAdd,Nat.reduceEqDiff,Nat.reduceBEq,Nat.reduceLeDiff,reduceCtorEq,↓reduceIte];refine wn c5 ?_;simp only[go_sem,JA,Va,Vb,JD,wa,wb,hk,w4,JL,JM,JB,Int.reduceBEq,Vu,Vt,Bool.false_and,Bool.and_true,Bool.and_false,Vv,Vc,Nat.reduceAdd,Nat.reduceEqDiff,Nat.reduceBEq,Nat.reduceLeDiff,reduceCtorEq,↓reduceIte];refine⟨dC,?_⟩;rw[w5];refine wn c6 ?_;simp only[go_sem,JA,Va,Vb,JD,wa,wb,hk,w4,JL,JM,JB,Int.reduceBEq,Vu,Vt,Bool.false_and,Bool.and_true,Bool.and_false,Vv,Vc,Nat.reduceAdd,Nat.reduceEqDiff,Nat.reduceBEq,Nat.reduceLeDiff,reduceCtorEq,↓reduceIte];refine wn c7 ?_;simp only[go_sem,JA,Va,Vb,JD,wa,wb,hk,w4,JL,JM,JB,Int.reduceBEq,Vu,Vt,Bool.false_and,Bool.and_true,Bool.and_false,Vv,Vc,Nat.reduceAdd,Nat.reduceEqDiff,Nat.reduceBEq,Nat.reduceLeDiff,reduceCtorEq,↓reduceIte]
theorem JOC(br:Ste)(k a b:Int)(now:Str)(deep:Bool)(h0:0≤a)(h1:a≤255)(h2:0≤b)(h3:b≤255)(e:a.tmod 4=1)(hk:k.tmod 13=9):
  PT 110 [UE k a b,.str now,.bool deep] (.tup [.d (JI (UM br k a b now).1),.d (.str (UM br k a b now).2)]):=by
 refine YZ.pc ?_;have c0:=(Jd Ul).call trivial;have c1:=(Uq now).call trivial;have c2:=(Jd (msr now)).call trivial;have c3:=(UB (a.tmod 110)).call trivial;have c4:=(Ut 8 (JO (msr now)) (Jo (a.tmod 110))).call trivial;have wa:IntKind.i64.wrap a=a:=J4 oM oM;have wb:IntKind.i64.wrap b=b:=J4 oM oM;obtain⟨b4,b4',b4''⟩:=UK b 4 h2 oM;have w4:IntKind.i64.wrap (1+b.tmod 4)=1+b.tmod 4:=J4 oM oM;simp only[Va,Vb]at c0 c1 c2 c3 c4;obtain⟨m1,m2,m3⟩:=UK b 3 h2 oM;have w5:IntKind.i64.wrap (b.tmod 3*60)=b.tmod 3*60:=J4 oM oM;have c5:=(JCJ now [[112,97,121],[115,116,111,99,107]]).call trivial;have c6:=(UB ((2:Nat):Int)).call trivial;have c7:=(ZU now (Jo ((2:Nat):Int))).call trivial;simp only[JD,JO,Jo,US,JX,JY,Jg,prs,List.flatMap_cons,List.flatMap_nil,List.cons_append,List.nil_append,List.append_nil,Va,Vb]at c0 c1 c2 c3 c4 c5 c6 c7;unfold UM;rw[hk];simp only[go_sem,YP,UE,JA,Va,Vb,JD,wa,wb,hk,w4,JL,JM,JB,Int.reduceBEq,Vu,Vt,Bool.false_and,Bool.and_true,Bool.and_false,JD,JO,Jo,US,JX,JY,Jg,prs,List.flatMap_cons,List.flatMap_nil,List.cons_append,List.nil_append,List.append_nil,Va,Vb,JGJ,sgL,e,JA,Vv,Vc,Nat.reduceAdd,Nat.reduceEqDiff,Nat.reduceBEq,Nat.reduceLeDiff,reduceCtorEq,↓reduceIte];refine wn c0 ?_;simp only[go_sem,JA,Va,Vb,JD,wa,wb,hk,w4,JL,JM,JB,Int.reduceBEq,Vu,Vt,Bool.false_and,Bool.and_true,Bool.and_false,Vv,Vc,Nat.reduceAdd,Nat.reduceEqDiff,Nat.reduceBEq,Nat.reduceLeDiff,reduceCtorEq,↓reduceIte];refine wn c0 ?_;simp only[go_sem,JA,Va,Vb,JD,wa,wb,hk,w4,JL,JM,JB,Int.reduceBEq,Vu,Vt,Bool.false_and,Bool.and_true,Bool.and_false,Vv,Vc,Nat.reduceAdd,Nat.reduceEqDiff,Nat.reduceBEq,Nat.reduceLeDiff,reduceCtorEq,↓reduceIte];refine⟨sP,?_⟩;refine wn c1 ?_;simp only[go_sem,JA,Va,Vb,JD,wa,wb,hk,w4,JL,JM,JB,Int.reduceBEq,Vu,Vt,Bool.false_and,Bool.and_true,Bool.and_false,Vv,Vc,Nat.reduceAdd,Nat.reduceEqDiff,Nat.reduceBEq,Nat.reduceLeDiff,reduceCtorEq,↓reduceIte];refine wn c2 ?_;simp only[go_sem,JA,Va,Vb,JD,wa,wb,hk,w4,JL,JM,JB,Int.reduceBEq,Vu,Vt,Bool.false_and,Bool.and_true,Bool.and_false,Vv,Vc,Nat.reduceAdd,Nat.reduceEqDiff,Nat.reduceBEq,Nat.reduceLeDiff,reduceCtorEq,↓reduceIte];refine⟨dC,?_⟩;refine wn c3 ?_;simp only[go_sem,JA,Va,Vb,JD,wa,wb,hk,w4,JL,JM,JB,Int.reduceBEq,Vu,Vt,Bool.false_and,Bool.and_true,Bool.and_false,Vv,Vc,Nat.reduceAdd,Nat.reduceEqDiff,Nat.reduceBEq,Nat.reduceLeDiff,reduceCtorEq,↓reduceIte];refine wn c4 ?_;simp only[go_sem,JA,Va,Vb,JD,wa,wb,hk,w4,JL,JM,JB,Int.reduceBEq,Vu,Vt,Bool.false_and,Bool.and_true,Bool.and_false,Int.reduceEq,or_true,or_false,true_or,false_or,not_false_eq_true,not_true_eq_false,ne_eq,true_and,JGJ,sgL,e,JA,Va,Vb,Vv,Vc,Nat.reduceAdd,Nat.reduceEqDiff,Nat.reduceBEq,Nat.reduceLeDiff,reduceCtorEq,↓reduceIte];refine⟨sP,sP,sP,sP,sP,dC,dC,?_⟩;have hnn:nth [.list 1 [.str [112,97,121]],.list 1 [.str [112,97,121],.str [115,116,111,99,107]],.list 1 [.str [115,116,111,99,107],.str [109,97,105,108]],.list 1 [.str [115,116,111,99,107],.str [112,97,121],.str [109,97,105,108]]] (Int.toNat 1)=.list 1 [.str [112,97,121],.str [115,116,111,99,107]]:=rfl;rw[hnn];simp only[go_sem,JA,Va,Vb,JD,wa,wb,hk,w4,JL,JM,JB,Int.reduceBEq,Vu,Vt,Bool.false_and,Bool.and_true,Bool.and_false,Vv,Vc,Nat.reduceAdd,Nat.reduceEqDiff,Nat.reduceBEq,Nat.reduceLeDiff,reduceCtorEq,↓reduceIte];refine wn c5 ?_;simp only[go_sem,JA,Va,Vb,JD,wa,wb,hk,w4,JL,JM,JB,Int.reduceBEq,Vu,Vt,Bool.false_and,Bool.and_true,Bool.and_false,Vv,Vc,Nat.reduceAdd,Nat.reduceEqDiff,Nat.reduceBEq,Nat.reduceLeDiff,reduceCtorEq,↓reduceIte];refine⟨dC,?_⟩;rw[w5];refine wn c6 ?_;simp only[go_sem,JA,Va,Vb,JD,wa,wb,hk,w4,JL,JM,JB,Int.reduceBEq,Vu,Vt,Bool.false_and,Bool.and_true,Bool.and_false,Vv,Vc,Nat.reduceAdd,Nat.reduceEqDiff,Nat.reduceBEq,Nat.reduceLeDiff,reduceCtorEq,↓reduceIte];refine wn c7 ?_;simp only[go_sem,JA,Va,Vb,JD,wa,wb,hk,w4,JL,JM,JB,Int.reduceBEq,Vu,Vt,Bool.false_and,Bool.and_true,Bool.and_false,Vv,Vc,Nat.reduceAdd,Nat.reduceEqDiff,Nat.reduceBEq,Nat.reduceLeDiff,reduceCtorEq,↓reduceIte]
theorem JOD(br:Ste)(k a b:Int)(now:Str)(deep:Bool)(h0:0≤a)(h1:a≤255)(h2:0≤b)(h3:b≤255)(e:a.tmod 4=2)(hk:k.tmod 13=9):
  PT 110 [UE k a b,.str now,.bool deep] (.tup [.d (JI (UM br k a b now).1),.d (.str (UM br k a b now).2)]):=by
 refine YZ.pc ?_;have c0:=(Jd Ul).call trivial;have c1:=(Uq now).call trivial;have c2:=(Jd (msr now)).call trivial;have c3:=(UB (a.tmod 110)).call trivial;have c4:=(Ut 8 (JO (msr now)) (Jo (a.tmod 110))).call trivial;have wa:IntKind.i64.wrap a=a:=J4 oM oM;have wb:IntKind.i64.wrap b=b:=J4 oM oM;obtain⟨b4,b4',b4''⟩:=UK b 4 h2 oM;have w4:IntKind.i64.wrap (1+b.tmod 4)=1+b.tmod 4:=J4 oM oM;simp only[Va,Vb]at c0 c1 c2 c3 c4;obtain⟨m1,m2,m3⟩:=UK b 3 h2 oM;have w5:IntKind.i64.wrap (b.tmod 3*60)=b.tmod 3*60:=J4 oM oM;have c5:=(JCJ now [[115,116,111,99,107],[109,97,105,108]]).call trivial;have c6:=(UB ((2:Nat):Int)).call trivial;have c7:=(ZU now (Jo ((2:Nat):Int))).call trivial;simp only[JD,JO,Jo,US,JX,JY,Jg,prs,List.flatMap_cons,List.flatMap_nil,List.cons_append,List.nil_append,List.append_nil,Va,Vb]at c0 c1 c2 c3 c4 c5 c6 c7;unfold UM;rw[hk];simp only[go_sem,YP,UE,JA,Va,Vb,JD,wa,wb,hk,w4,JL,JM,JB,Int.reduceBEq,Vu,Vt,Bool.false_and,Bool.and_true,Bool.and_false,JD,JO,Jo,US,JX,JY,Jg,prs,List.flatMap_cons,List.flatMap_nil,List.cons_append,List.nil_append,List.append_nil,Va,Vb,JGJ,sgL,e,JA,Vv,Vc,Nat.reduceAdd,Nat.reduceEqDiff,Nat.reduceBEq,Nat.reduceLeDiff,reduceCtorEq,↓reduceIte];refine wn c0 ?_;simp only[go_sem,JA,Va,Vb,JD,wa,wb,hk,w4,JL,JM,JB,Int.reduceBEq,Vu,Vt,Bool.false_and,Bool.and_true,Bool.and_false,Vv,Vc,Nat.reduceAdd,Nat.reduceEqDiff,Nat.reduceBEq,Nat.reduceLeDiff,reduceCtorEq,↓reduceIte];refine wn c0 ?_;simp only[go_sem,JA,Va,Vb,JD,wa,wb,hk,w4,JL,JM,JB,Int.reduceBEq,Vu,Vt,Bool.false_and,Bool.and_true,Bool.and_false,Vv,Vc,Nat.reduceAdd,Nat.reduceEqDiff,Nat.reduceBEq,Nat.reduceLeDiff,reduceCtorEq,↓reduceIte];refine⟨sP,?_⟩;refine wn c1 ?_;simp only[go_sem,JA,Va,Vb,JD,wa,wb,hk,w4,JL,JM,JB,Int.reduceBEq,Vu,Vt,Bool.false_and,Bool.and_true,Bool.and_false,Vv,Vc,Nat.reduceAdd,Nat.reduceEqDiff,Nat.reduceBEq,Nat.reduceLeDiff,reduceCtorEq,↓reduceIte];refine wn c2 ?_;simp only[go_sem,JA,Va,Vb,JD,wa,wb,hk,w4,JL,JM,JB,Int.reduceBEq,Vu,Vt,Bool.false_and,Bool.and_true,Bool.and_false,Vv,Vc,Nat.reduceAdd,Nat.reduceEqDiff,Nat.reduceBEq,Nat.reduceLeDiff,reduceCtorEq,↓reduceIte];refine⟨dC,?_⟩;refine wn c3 ?_;simp only[go_sem,JA,Va,Vb,JD,wa,wb,hk,w4,JL,JM,JB,Int.reduceBEq,Vu,Vt,Bool.false_and,Bool.and_true,Bool.and_false,Vv,Vc,Nat.reduceAdd,Nat.reduceEqDiff,Nat.reduceBEq,Nat.reduceLeDiff,reduceCtorEq,↓reduceIte];refine wn c4 ?_;simp only[go_sem,JA,Va,Vb,JD,wa,wb,hk,w4,JL,JM,JB,Int.reduceBEq,Vu,Vt,Bool.false_and,Bool.and_true,Bool.and_false,Int.reduceEq,or_true,or_false,true_or,false_or,not_false_eq_true,not_true_eq_false,ne_eq,true_and,JGJ,sgL,e,JA,Va,Vb,Vv,Vc,Nat.reduceAdd,Nat.reduceEqDiff,Nat.reduceBEq,Nat.reduceLeDiff,reduceCtorEq,↓reduceIte];refine⟨sP,sP,sP,sP,sP,dC,dC,?_⟩;have hnn:nth [.list 1 [.str [112,97,121]],.list 1 [.str [112,97,121],.str [115,116,111,99,107]],.list 1 [.str [115,116,111,99,107],.str [109,97,105,108]],.list 1 [.str [115,116,111,99,107],.str [112,97,121],.str [109,97,105,108]]] (Int.toNat 2)=.list 1 [.str [115,116,111,99,107],.str [109,97,105,108]]:=rfl;rw[hnn];simp only[go_sem,JA,Va,Vb,JD,wa,wb,hk,w4,JL,JM,JB,Int.reduceBEq,Vu,Vt,Bool.false_and,Bool.and_true,Bool.and_false,Vv,Vc,Nat.reduceAdd,Nat.reduceEqDiff,Nat.reduceBEq,Nat.reduceLeDiff,reduceCtorEq,↓reduceIte];refine wn c5 ?_;simp only[go_sem,JA,Va,Vb,JD,wa,wb,hk,w4,JL,JM,JB,Int.reduceBEq,Vu,Vt,Bool.false_and,Bool.and_true,Bool.and_false,Vv,Vc,Nat.reduceAdd,Nat.reduceEqDiff,Nat.reduceBEq,Nat.reduceLeDiff,reduceCtorEq,↓reduceIte];refine⟨dC,?_⟩;rw[w5];refine wn c6 ?_;simp only[go_sem,JA,Va,Vb,JD,wa,wb,hk,w4,JL,JM,JB,Int.reduceBEq,Vu,Vt,Bool.false_and,Bool.and_true,Bool.and_false,Vv,Vc,Nat.reduceAdd,Nat.reduceEqDiff,Nat.reduceBEq,Nat.reduceLeDiff,reduceCtorEq,↓reduceIte];refine wn c7 ?_;simp only[go_sem,JA,Va,Vb,JD,wa,wb,hk,w4,JL,JM,JB,Int.reduceBEq,Vu,Vt,Bool.false_and,Bool.and_true,Bool.and_false,Vv,Vc,Nat.reduceAdd,Nat.reduceEqDiff,Nat.reduceBEq,Nat.reduceLeDiff,reduceCtorEq,↓reduceIte]
theorem JOE(br:Ste)(k a b:Int)(now:Str)(deep:Bool)(h0:0≤a)(h1:a≤255)(h2:0≤b)(h3:b≤255)(e:a.tmod 4=3)(hk:k.tmod 13=9):
  PT 110 [UE k a b,.str now,.bool deep] (.tup [.d (JI (UM br k a b now).1),.d (.str (UM br k a b now).2)]):=by
 refine YZ.pc ?_;have c0:=(Jd Ul).call trivial;have c1:=(Uq now).call trivial;have c2:=(Jd (msr now)).call trivial;have c3:=(UB (a.tmod 110)).call trivial;have c4:=(Ut 8 (JO (msr now)) (Jo (a.tmod 110))).call trivial;have wa:IntKind.i64.wrap a=a:=J4 oM oM;have wb:IntKind.i64.wrap b=b:=J4 oM oM;obtain⟨b4,b4',b4''⟩:=UK b 4 h2 oM;have w4:IntKind.i64.wrap (1+b.tmod 4)=1+b.tmod 4:=J4 oM oM;simp only[Va,Vb]at c0 c1 c2 c3 c4;obtain⟨m1,m2,m3⟩:=UK b 3 h2 oM;have w5:IntKind.i64.wrap (b.tmod 3*60)=b.tmod 3*60:=J4 oM oM;have c5:=(JCJ now [[115,116,111,99,107],[112,97,121],[109,97,105,108]]).call trivial;have c6:=(UB ((3:Nat):Int)).call trivial;have c7:=(ZU now (Jo ((3:Nat):Int))).call trivial;simp only[JD,JO,Jo,US,JX,JY,Jg,prs,List.flatMap_cons,List.flatMap_nil,List.cons_append,List.nil_append,List.append_nil,Va,Vb]at c0 c1 c2 c3 c4 c5 c6 c7;unfold UM;rw[hk];simp only[go_sem,YP,UE,JA,Va,Vb,JD,wa,wb,hk,w4,JL,JM,JB,Int.reduceBEq,Vu,Vt,Bool.false_and,Bool.and_true,Bool.and_false,JD,JO,Jo,US,JX,JY,Jg,prs,List.flatMap_cons,List.flatMap_nil,List.cons_append,List.nil_append,List.append_nil,Va,Vb,JGJ,sgL,e,JA,Vv,Vc,Nat.reduceAdd,Nat.reduceEqDiff,Nat.reduceBEq,Nat.reduceLeDiff,reduceCtorEq,↓reduceIte];refine wn c0 ?_;simp only[go_sem,JA,Va,Vb,JD,wa,wb,hk,w4,JL,JM,JB,Int.reduceBEq,Vu,Vt,Bool.false_and,Bool.and_true,Bool.and_false,Vv,Vc,Nat.reduceAdd,Nat.reduceEqDiff,Nat.reduceBEq,Nat.reduceLeDiff,reduceCtorEq,↓reduceIte];refine wn c0 ?_;simp only[go_sem,JA,Va,Vb,JD,wa,wb,hk,w4,JL,JM,JB,Int.reduceBEq,Vu,Vt,Bool.false_and,Bool.and_true,Bool.and_false,Vv,Vc,Nat.reduceAdd,Nat.reduceEqDiff,Nat.reduceBEq,Nat.reduceLeDiff,reduceCtorEq,↓reduceIte];refine⟨sP,?_⟩;refine wn c1 ?_;simp only[go_sem,JA,Va,Vb,JD,wa,wb,hk,w4,JL,JM,JB,Int.reduceBEq,Vu,Vt,Bool.false_and,Bool.and_true,Bool.and_false,Vv,Vc,Nat.reduceAdd,Nat.reduceEqDiff,Nat.reduceBEq,Nat.reduceLeDiff,reduceCtorEq,↓reduceIte];refine wn c2 ?_;simp only[go_sem,JA,Va,Vb,JD,wa,wb,hk,w4,JL,JM,JB,Int.reduceBEq,Vu,Vt,Bool.false_and,Bool.and_true,Bool.and_false,Vv,Vc,Nat.reduceAdd,Nat.reduceEqDiff,Nat.reduceBEq,Nat.reduceLeDiff,reduceCtorEq,↓reduceIte];refine⟨dC,?_⟩;refine wn c3 ?_;simp only[go_sem,JA,Va,Vb,JD,wa,wb,hk,w4,JL,JM,JB,Int.reduceBEq,Vu,Vt,Bool.false_and,Bool.and_true,Bool.and_false,Vv,Vc,Nat.reduceAdd,Nat.reduceEqDiff,Nat.reduceBEq,Nat.reduceLeDiff,reduceCtorEq,↓reduceIte];refine wn c4 ?_;simp only[go_sem,JA,Va,Vb,JD,wa,wb,hk,w4,JL,JM,JB,Int.reduceBEq,Vu,Vt,Bool.false_and,Bool.and_true,Bool.and_false,Int.reduceEq,or_true,or_false,true_or,false_or,not_false_eq_true,not_true_eq_false,ne_eq,true_and,JGJ,sgL,e,JA,Va,Vb,Vv,Vc,Nat.reduceAdd,Nat.reduceEqDiff,Nat.reduceBEq,Nat.reduceLeDiff,reduceCtorEq,↓reduceIte];refine⟨sP,sP,sP,sP,sP,dC,dC,?_⟩;have hnn:nth [.list 1 [.str [112,97,121]],.list 1 [.str [112,97,121],.str [115,116,111,99,107]],.list 1 [.str [115,116,111,99,107],.str [109,97,105,108]],.list 1 [.str [115,116,111,99,107],.str [112,97,121],.str [109,97,105,108]]] (Int.toNat 3)=.list 1 [.str [115,116,111,99,107],.str [112,97,121],.str [109,97,105,108]]:=rfl;rw[hnn];simp only[go_sem,JA,Va,Vb,JD,wa,wb,hk,w4,JL,JM,JB,Int.reduceBEq,Vu,Vt,Bool.false_and,Bool.and_true,Bool.and_false,Vv,Vc,Nat.reduceAdd,Nat.reduceEqDiff,Nat.reduceBEq,Nat.reduceLeDiff,reduceCtorEq,↓reduceIte];refine wn c5 ?_;simp only[go_sem,JA,Va,Vb,JD,wa,wb,hk,w4,JL,JM,JB,Int.reduceBEq,Vu,Vt,Bool.false_and,Bool.and_true,Bool.and_false,Vv,Vc,Nat.reduceAdd,Nat.reduceEqDiff,Nat.reduceBEq,Nat.reduceLeDiff,reduceCtorEq,↓reduceIte];refine⟨dC,?_⟩;rw[w5];refine wn c6 ?_;simp only[go_sem,JA,Va,Vb,JD,wa,wb,hk,w4,JL,JM,JB,Int.reduceBEq,Vu,Vt,Bool.false_and,Bool.and_true,Bool.and_false,Vv,Vc,Nat.reduceAdd,Nat.reduceEqDiff,Nat.reduceBEq,Nat.reduceLeDiff,reduceCtorEq,↓reduceIte];refine wn c7 ?_;simp only[go_sem,JA,Va,Vb,JD,wa,wb,hk,w4,JL,JM,JB,Int.reduceBEq,Vu,Vt,Bool.false_and,Bool.and_true,Bool.and_false,Vv,Vc,Nat.reduceAdd,Nat.reduceEqDiff,Nat.reduceBEq,Nat.reduceLeDiff,reduceCtorEq,↓reduceIte]
end Go.Proofs
namespace Go.Proofs
open Go Av
attribute [local instance 2000] JEe
theorem JPz:JDP 12:=by
 intro br k a b now deep h0 h1 h2 h3 hk hbr;refine YZ.pc ?_;have c0:=(Jd Ul).call trivial;have c1:=(Uq now).call trivial;have c2:=(Jd (msr now)).call trivial;have c3:=(UB (a.tmod 110)).call trivial;have c4:=(Ut 8 (JO (msr now)) (Jo (a.tmod 110))).call trivial;have wa:IntKind.i64.wrap a=a:=J4 oM oM;have wb:IntKind.i64.wrap b=b:=J4 oM oM;obtain⟨b4,b4',b4''⟩:=UK b 4 h2 oM;have w4:IntKind.i64.wrap (1+b.tmod 4)=1+b.tmod 4:=J4 oM oM;simp only[Va,Vb]at c0 c1 c2 c3 c4;have c5:=(Jd JBC).call trivial;have c6:=(Jd [98,111,100,121,46,97,109,111,117,110,116]).call trivial;have c7:=(UB (b.tmod 4)).call trivial;have c8:=(Ut 12 (JO [98,111,100,121,46,97,109,111,117,110,116]) (Jo (b.tmod 4))).call trivial;have c9:=(Jd [98,111,100,121,46,105,116,101,109,115]).call trivial;have cq10:=(UB (b.tmod 200)).call trivial;have cq11:=(ZU now (Jo (b.tmod 200))).call trivial;have cq12:=(JA6 [⟨sId,JO JBC⟩,⟨[97,109,111,117,110,116],US 12 (JO [98,111,100,121,46,97,109,111,117,110,116]) (Jo (b.tmod 4))⟩,⟨JCH,JE3⟩,⟨[105,116,101,109,115],JO [98,111,100,121,46,105,116,101,109,115]⟩]).call trivial;simp only[JD,JO,Jo,US,JX,JY,Jg,prs,List.flatMap_cons,List.flatMap_nil,List.cons_append,List.nil_append,List.append_nil,Va,Vb]at c0 c1 c2 c3 c4 c5 c6 c7 c8 c9 cq10 cq11 cq12;unfold UM;rw[hk];simp only[go_sem,YP,UE,JA,Va,Vb,JD,wa,wb,hk,w4,JL,JM,JB,Int.reduceBEq,Vu,Vt,Bool.false_and,Bool.and_true,Bool.and_false,JD,JO,Jo,US,JX,JY,Jg,prs,List.flatMap_cons,List.flatMap_nil,List.cons_append,List.nil_append,List.append_nil,Va,Vb,JN8,JN9,JA,Vv,Vc,Nat.reduceAdd,Nat.reduceEqDiff,Nat.reduceBEq,Nat.reduceLeDiff,reduceCtorEq,↓reduceIte];refine wn c0 ?_;simp only[go_sem,JA,Va,Vb,JD,wa,wb,hk,w4,JL,JM,JB,Int.reduceBEq,Vu,Vt,Bool.false_and,Bool.and_true,Bool.and_false,Vv,Vc,Nat.reduceAdd,Nat.reduceEqDiff,Nat.reduceBEq,Nat.reduceLeDiff,reduceCtorEq,↓reduceIte];refine wn c0 ?_;simp only[go_sem,JA,Va,Vb,JD,wa,wb,hk,w4,JL,JM,JB,Int.reduceBEq,Vu,Vt,Bool.false_and,Bool.and_true,Bool.and_false,Vv,Vc,Nat.reduceAdd,Nat.reduceEqDiff,Nat.reduceBEq,Nat.reduceLeDiff,reduceCtorEq,↓reduceIte];refine⟨sP,?_⟩;refine wn c1 ?_;simp only[go_sem,JA,Va,Vb,JD,wa,wb,hk,w4,JL,JM,JB,Int.reduceBEq,Vu,Vt,Bool.false_and,Bool.and_true,Bool.and_false,Vv,Vc,Nat.reduceAdd,Nat.reduceEqDiff,Nat.reduceBEq,Nat.reduceLeDiff,reduceCtorEq,↓reduceIte];refine wn c2 ?_;simp only[go_sem,JA,Va,Vb,JD,wa,wb,hk,w4,JL,JM,JB,Int.reduceBEq,Vu,Vt,Bool.false_and,Bool.and_true,Bool.and_false,Vv,Vc,Nat.reduceAdd,Nat.reduceEqDiff,Nat.reduceBEq,Nat.reduceLeDiff,reduceCtorEq,↓reduceIte];refine⟨dC,?_⟩;refine wn c3 ?_;simp only[go_sem,JA,Va,Vb,JD,wa,wb,hk,w4,JL,JM,JB,Int.reduceBEq,Vu,Vt,Bool.false_and,Bool.and_true,Bool.and_false,Vv,Vc,Nat.reduceAdd,Nat.reduceEqDiff,Nat.reduceBEq,Nat.reduceLeDiff,reduceCtorEq,↓reduceIte];refine wn c4 ?_;simp only[go_sem,JA,Va,Vb,JD,wa,wb,hk,w4,JL,JM,JB,Int.reduceBEq,Vu,Vt,Bool.false_and,Bool.and_true,Bool.and_false,Int.reduceEq,or_true,or_false,true_or,false_or,not_false_eq_true,not_true_eq_false,ne_eq,true_and,JN8,JN9,JA,Va,Vb,Vv,Vc,Nat.reduceAdd,Nat.reduceEqDiff,Nat.reduceBEq,Nat.reduceLeDiff,reduceCtorEq,↓reduceIte];refine sq (a.tmod 2==0) ?_ ?_
 ·simp only[go_sem,Vv,Vc,Nat.reduceAdd,Nat.reduceEqDiff,Nat.reduceBEq,Nat.reduceLeDiff,reduceCtorEq,↓reduceIte];intro h;cases h
 ·cases h4:(now==ZE&&a.tmod 2==0)
  ·simp only[go_sem,h4,JA,Va,Vb,JD,wa,wb,hk,w4,JL,JM,JB,Int.reduceBEq,Vu,Vt,Bool.false_and,Bool.and_true,Bool.and_false,Vv,Vc,Nat.reduceAdd,Nat.reduceEqDiff,Nat.reduceBEq,Nat.reduceLeDiff,reduceCtorEq,↓reduceIte];refine⟨dC,?_⟩;refine wn cq10 ?_;simp only[go_sem,JA,Va,Vb,JD,wa,wb,hk,w4,JL,JM,JB,Int.reduceBEq,Vu,Vt,Bool.false_and,Bool.and_true,Bool.and_false,Vv,Vc,Nat.reduceAdd,Nat.reduceEqDiff,Nat.reduceBEq,Nat.reduceLeDiff,reduceCtorEq,↓reduceIte];refine wn cq11 ?_;simp only[go_sem,JA,Va,Vb,JD,wa,wb,hk,w4,JL,JM,JB,Int.reduceBEq,Vu,Vt,Bool.false_and,Bool.and_true,Bool.and_false,Vv,Vc,Nat.reduceAdd,Nat.reduceEqDiff,Nat.reduceBEq,Nat.reduceLeDiff,reduceCtorEq,↓reduceIte]
  ·simp only[go_sem,h4,JA,Va,Vb,JD,wa,wb,hk,w4,JL,JM,JB,Int.reduceBEq,Vu,Vt,Bool.false_and,Bool.and_true,Bool.and_false,Vv,Vc,Nat.reduceAdd,Nat.reduceEqDiff,Nat.reduceBEq,Nat.reduceLeDiff,reduceCtorEq,↓reduceIte];refine JG rfl c5 trivial ?_;simp only[go_sem,JA,Va,Vb,JD,wa,wb,hk,w4,JL,JM,JB,Int.reduceBEq,Vu,Vt,Bool.false_and,Bool.and_true,Bool.and_false,Vv,Vc,Nat.reduceAdd,Nat.reduceEqDiff,Nat.reduceBEq,Nat.reduceLeDiff,reduceCtorEq,↓reduceIte];refine JG rfl c6 trivial ?_;simp only[go_sem,JA,Va,Vb,JD,wa,wb,hk,w4,JL,JM,JB,Int.reduceBEq,Vu,Vt,Bool.false_and,Bool.and_true,Bool.and_false,Vv,Vc,Nat.reduceAdd,Nat.reduceEqDiff,Nat.reduceBEq,Nat.reduceLeDiff,reduceCtorEq,↓reduceIte];refine⟨dC,?_⟩;refine JG rfl c7 trivial ?_;simp only[go_sem,JA,Va,Vb,JD,wa,wb,hk,w4,JL,JM,JB,Int.reduceBEq,Vu,Vt,Bool.false_and,Bool.and_true,Bool.and_false,Vv,Vc,Nat.reduceAdd,Nat.reduceEqDiff,Nat.reduceBEq,Nat.reduceLeDiff,reduceCtorEq,↓reduceIte];refine JG rfl c8 trivial ?_;simp only[go_sem,JA,Va,Vb,JD,wa,wb,hk,w4,JL,JM,JB,Int.reduceBEq,Vu,Vt,Bool.false_and,Bool.and_true,Bool.and_false,Vv,Vc,Nat.reduceAdd,Nat.reduceEqDiff,Nat.reduceBEq,Nat.reduceLeDiff,reduceCtorEq,↓reduceIte];refine JG rfl c9 trivial ?_;simp only[go_sem,JA,Va,Vb,JD,wa,wb,hk,w4,JL,JM,JB,Int.reduceBEq,Vu,Vt,Bool.false_and,Bool.and_true,Bool.and_false,Vv,Vc,Nat.reduceAdd,Nat.reduceEqDiff,Nat.reduceBEq,Nat.reduceLeDiff,reduceCtorEq,↓reduceIte];refine⟨sP,?_⟩;refine JG rfl cq12 trivial ?_;simp only[go_sem,JA,Va,Vb,JD,wa,wb,hk,w4,JL,JM,JB,Int.reduceBEq,Vu,Vt,Bool.false_and,Bool.and_true,Bool.and_false,Vv,Vc,Nat.reduceAdd,Nat.reduceEqDiff,Nat.reduceBEq,Nat.reduceLeDiff,reduceCtorEq,↓reduceIte];rfl
theorem JP0:JDP 11:=by
 intro br k a b now deep h0 h1 h2 h3 hk hbr;refine YZ.pc ?_;have c0:=(Jd Ul).call trivial;have c1:=(Uq now).call trivial;have c2:=(Jd (msr now)).call trivial;have c3:=(UB (a.tmod 110)).call trivial;have c4:=(Ut 8 (JO (msr now)) (Jo (a.tmod 110))).call trivial;have wa:IntKind.i64.wrap a=a:=J4 oM oM;have wb:IntKind.i64.wrap b=b:=J4 oM oM;obtain⟨b4,b4',b4''⟩:=UK b 4 h2 oM;have w4:IntKind.i64.wrap (1+b.tmod 4)=1+b.tmod 4:=J4 oM oM;simp only[Va,Vb]at c0 c1 c2 c3 c4;simp only[JD,JO,Jo,US,JX,JY,Jg,prs,List.flatMap_cons,List.flatMap_nil,List.cons_append,List.nil_append,List.append_nil,Va,Vb]at c0 c1 c2 c3 c4;unfold UM;rw[hk];simp only[go_sem,YP,UE,JA,Va,Vb,JD,wa,wb,hk,w4,JL,JM,JB,Int.reduceBEq,Vu,Vt,Bool.false_and,Bool.and_true,Bool.and_false,JD,JO,Jo,US,JX,JY,Jg,prs,List.flatMap_cons,List.flatMap_nil,List.cons_append,List.nil_append,List.append_nil,Va,Vb,JA,Vv,Vc,Nat.reduceAdd,Nat.reduceEqDiff,Nat.reduceBEq,Nat.reduceLeDiff,reduceCtorEq,↓reduceIte];refine wn c0 ?_;simp only[go_sem,JA,Va,Vb,JD,wa,wb,hk,w4,JL,JM,JB,Int.reduceBEq,Vu,Vt,Bool.false_and,Bool.and_true,Bool.and_false,Vv,Vc,Nat.reduceAdd,Nat.reduceEqDiff,Nat.reduceBEq,Nat.reduceLeDiff,reduceCtorEq,↓reduceIte];refine wn c0 ?_;simp only[go_sem,JA,Va,Vb,JD,wa,wb,hk,w4,JL,JM,JB,Int.reduceBEq,Vu,Vt,Bool.false_and,Bool.and_true,Bool.and_false,Vv,Vc,Nat.reduceAdd,Nat.reduceEqDiff,Nat.reduceBEq,Nat.reduceLeDiff,reduceCtorEq,↓reduceIte];refine⟨sP,?_⟩;refine wn c1 ?_;simp only[go_sem,JA,Va,Vb,JD,wa,wb,hk,w4,JL,JM,JB,Int.reduceBEq,Vu,Vt,Bool.false_and,Bool.and_true,Bool.and_false,Vv,Vc,Nat.reduceAdd,Nat.reduceEqDiff,Nat.reduceBEq,Nat.reduceLeDiff,reduceCtorEq,↓reduceIte];refine wn c2 ?_;simp only[go_sem,JA,Va,Vb,JD,wa,wb,hk,w4,JL,JM,JB,Int.reduceBEq,Vu,Vt,Bool.false_and,Bool.and_true,Bool.and_false,Vv,Vc,Nat.reduceAdd,Nat.reduceEqDiff,Nat.reduceBEq,Nat.reduceLeDiff,reduceCtorEq,↓reduceIte];refine⟨dC,?_⟩;refine wn c3 ?_;simp only[go_sem,JA,Va,Vb,JD,wa,wb,hk,w4,JL,JM,JB,Int.reduceBEq,Vu,Vt,Bool.false_and,Bool.and_true,Bool.and_false,Vv,Vc,Nat.reduceAdd,Nat.reduceEqDiff,Nat.reduceBEq,Nat.reduceLeDiff,reduceCtorEq,↓reduceIte];refine wn c4 ?_;simp only[go_sem,JA,Va,Vb,JD,wa,wb,hk,w4,JL,JM,JB,Int.reduceBEq,Vu,Vt,Bool.false_and,Bool.and_true,Bool.and_false,Int.reduceEq,or_true,or_false,true_or,false_or,not_false_eq_true,not_true_eq_false,ne_eq,true_and,JA,Va,Vb,Vv,Vc,Nat.reduceAdd,Nat.reduceEqDiff,Nat.reduceBEq,Nat.reduceLeDiff,reduceCtorEq,↓reduceIte];cases deep
 ·have hbr:br=JCK now a:=hbr;subst hbr;simp only[go_sem,JA,Va,Vb,JD,wa,wb,hk,w4,JL,JM,JB,Int.reduceBEq,Vu,Vt,Bool.false_and,Bool.and_true,Bool.and_false,JCK,Jg,JD,JO,Jo,US,JX,JY,Jg,prs,List.flatMap_cons,List.flatMap_nil,List.cons_append,List.nil_append,List.append_nil,Va,Vb,Vv,Vc,Nat.reduceAdd,Nat.reduceEqDiff,Nat.reduceBEq,Nat.reduceLeDiff,reduceCtorEq,↓reduceIte];simp
 ·have hb:=UD.call (show PT 192 [UE k a b,.str now,Jf (Jg now a)] (.d (JI br))from hbr) trivial;simp only[UE,JD,JO,Jo,US,JX,JY,Jg,prs,List.flatMap_cons,List.flatMap_nil,List.cons_append,List.nil_append,List.append_nil,Va,Vb,JV br]at hb;rw[JV br];simp only[go_sem,JA,Va,Vb,JD,wa,wb,hk,w4,JL,JM,JB,Int.reduceBEq,Vu,Vt,Bool.false_and,Bool.and_true,Bool.and_false,Vv,Vc,Nat.reduceAdd,Nat.reduceEqDiff,Nat.reduceBEq,Nat.reduceLeDiff,reduceCtorEq,↓reduceIte];refine wn hb ?_;simp only[go_sem,JA,Va,Vb,JD,wa,wb,hk,w4,JL,JM,JB,Int.reduceBEq,Vu,Vt,Bool.false_and,Bool.and_true,Bool.and_false,Vv,Vc,Nat.reduceAdd,Nat.reduceEqDiff,Nat.reduceBEq,Nat.reduceLeDiff,reduceCtorEq,↓reduceIte]
end Go.Proofs
namespace Go.Proofs
open Go Av
theorem JSV(k:Int)(h:0≤k):k.tmod 13=0∨k.tmod 13=1∨k.tmod 13=2∨k.tmod 13=3∨k.tmod 13=4∨k.tmod 13=5∨k.tmod 13=6∨k.tmod 13=7∨k.tmod 13=8∨k.tmod 13=9∨k.tmod 13=10∨k.tmod 13=11∨k.tmod 13=12:=by
 rw[Int.tmod_eq_emod_of_nonneg h];omega
theorem JJv(br:Ste)(k a b:Int)(now:Str)(deep:Bool)(hk:0≤k)(h0:0≤a)(h1:a≤255)(h2:0≤b)(h3:b≤255)(hbr:BrOk deep br k a b now):
  PT 110 [UE k a b,.str now,.bool deep] (.tup [.d (JI (UM br k a b now).1),.d (.str (UM br k a b now).2)]):=by
 rcases JSV k hk with e|e|e|e|e|e|e|e|e|e|e|e|e
 ·exact JSM br k a b now deep h0 h1 h2 h3 e hbr
 ·exact JSN br k a b now deep h0 h1 h2 h3 e hbr
 ·exact JSO br k a b now deep h0 h1 h2 h3 e hbr
 ·exact JSU br k a b now deep h0 h1 h2 h3 e hbr
 ·exact JSP br k a b now deep h0 h1 h2 h3 e hbr
 ·exact JSQ br k a b now deep h0 h1 h2 h3 e hbr
 ·exact JSR br k a b now deep h0 h1 h2 h3 e hbr
 ·exact JSS br k a b now deep h0 h1 h2 h3 e hbr
 ·exact JST br k a b now deep h0 h1 h2 h3 e hbr
 ·have:a.tmod 4=0∨a.tmod 4=1∨a.tmod 4=2∨a.tmod 4=3:=by rw[Int.tmod_eq_emod_of_nonneg h0];omega
  rcases this with e2|e2|e2|e2
  ·exact JOB br k a b now deep h0 h1 h2 h3 e2 e
  ·exact JOC br k a b now deep h0 h1 h2 h3 e2 e
  ·exact JOD br k a b now deep h0 h1 h2 h3 e2 e
  ·exact JOE br k a b now deep h0 h1 h2 h3 e2 e
 ·exact JPy br k a b now deep h0 h1 h2 h3 e hbr
 ·exact JP0 br k a b now deep h0 h1 h2 h3 e hbr
 ·exact JPz br k a b now deep h0 h1 h2 h3 e hbr
end Go.Proofs
namespace Go.Proofs
open Go Av
open Av.Y
end Go.Proofs
namespace Go.Proofs
open Go Av
theorem JHh{G:Nat→Option Av.Obj}:∀cs:List Dat,JS G (cs.map .d)
 |[]=>trivial
 |_::r=>⟨trivial,JHh r⟩
theorem JIp(ρ:Nat→Nat):∀cs:List Dat,UN ρ (cs.map .d)=cs.map .d
 |[]=>rfl
 |_::r=>by simp only[Va,UN,Av.ren,JIp ρ r]
theorem Z9(i:Nat)(cs:List Dat):closed (get [(i,.box (cs.map .d))]):=by
 refine Jx ?_;simp only[Je,J2,JHh,and_true]
theorem Con.ro{P:Program}{f:Nat}{ds cs:List Dat}{r:Dat}(h:Con P f (.ref 1000 0::ds.map .d) [(1000,.box (cs.map .d))] (.d r) [])(i:Nat):
  JQ P f (.ref i 0::ds.map .d) [(i,some (.box (cs.map .d)))] (.d r) []:=by
 have h1:∀j,(get [(1000,Obj.box (cs.map .d))] j).isSome=true→j=1000:=by
  intro j hj;simp only[Av.get]at hj;split at hj
  ·rename_i e;exact e.symm
  ·cases hj
 have:=h.call (fun _=>i) (fun j hj=>by rw[h1 j hj];decide) (fun a b ha hb _=>by rw[h1 a ha,h1 b hb]) ?_ (Z9 _ _) [] sP (Z9 _ _) trivial
 ·have e:(ds.map Av.d).map (Av.ren fun _=>i)=ds.map Av.d:=by
   rw[List.map_map];exact List.map_congr_left fun x _=>by simp[Av.ren]
  simpa[Av.ren,Obj.ren,JIp,e]using this
 ·intro c hc;rcases VA.1 hc with rfl|hc
  ·rfl
  ·obtain⟨x,_,rfl⟩:=VC.1 hc;trivial
structure Part where
 kind:Int
 index:Int
 name:Str
def JSW(p:Part):Dat:=.agg [.int .i64 p.kind,.int .i64 p.index,.str p.name]
end Go.Proofs
namespace Go.Proofs
open Go.Shelf
def Tryz.JGk:Go.Shelf.Ren:=⟨fun|171=>195|243=>237|246=>267|283=>308|284=>309|285=>310|286=>311|129=>346|317=>345|318=>347|319=>348|320=>349|337=>395|338=>396|n=>n,fun|3=>3|9=>9|2=>2|4=>4|171=>375|0=>0|53=>376|37=>297|5=>5|173=>379|212=>413|51=>414|20=>20|213=>415|46=>348|232=>479|233=>480|n=>n,fun|17=>2|18=>6|19=>7|n=>n⟩
theorem Tryz.JO8:Go.Proofs.LaysM.n171 Tryz.prog Tryz.JGk:={
 mixed:=kR
 f129:=Tryz.func346.trans (congrArg some kR)
 f171:=Tryz.func195.trans (congrArg some kR)
 f243:=Tryz.func237.trans (congrArg some kR)
 f246:=Tryz.func267.trans (congrArg some kR)
 f283:=Tryz.func308.trans (congrArg some kR)
 f284:=Tryz.func309.trans (congrArg some kR)
 f285:=Tryz.func310.trans (congrArg some kR)
 f286:=Tryz.func311.trans (congrArg some kR)
 f317:=Tryz.func345.trans (congrArg some kR)
 f318:=Tryz.func347.trans (congrArg some kR)
 f319:=Tryz.func348.trans (congrArg some kR)
 f320:=Tryz.func349.trans (congrArg some kR)
 f337:=Tryz.func395.trans (congrArg some kR)
 f338:=Tryz.func396.trans (congrArg some kR)
 t0:=Tryz.underlying0
 a0:=Tryz.isAgg0
 z0:=Tryz.sizeOf0
 v0:=Tryz.zeroValue0
 t2:=Tryz.underlying2
 a2:=Tryz.isAgg2
 z2:=Tryz.sizeOf2
 v2:=Tryz.zeroValue2
 t3:=Tryz.underlying3
 a3:=Tryz.isAgg3
 z3:=Tryz.sizeOf3
 v3:=Tryz.zeroValue3
 t4:=Tryz.underlying4
 a4:=Tryz.isAgg4
 z4:=Tryz.sizeOf4
 v4:=Tryz.zeroValue4
 t5:=Tryz.underlying5
 a5:=Tryz.isAgg5
 z5:=Tryz.sizeOf5
 v5:=Tryz.zeroValue5
 t9:=Tryz.underlying9
 a9:=Tryz.isAgg9
 z9:=Tryz.sizeOf9
 v9:=Tryz.zeroValue9
 t20:=Tryz.underlying20
 a20:=Tryz.isAgg20
 z20:=Tryz.sizeOf20
 v20:=Tryz.zeroValue20
 t37:=Tryz.underlying297
 a37:=Tryz.isAgg297
 z37:=Tryz.sizeOf297
 v37:=Tryz.zeroValue297
 t46:=Tryz.underlying348
 a46:=Tryz.isAgg348
 z46:=Tryz.sizeOf348
 v46:=Tryz.zeroValue348
 t51:=Tryz.underlying414
 a51:=Tryz.isAgg414
 z51:=Tryz.sizeOf414
 v51:=Tryz.zeroValue414
 t53:=Tryz.underlying376
 a53:=Tryz.isAgg376
 z53:=Tryz.sizeOf376
 v53:=Tryz.zeroValue376
 t171:=Tryz.underlying375
 a171:=Tryz.isAgg375
 z171:=Tryz.sizeOf375
 v171:=Tryz.zeroValue375
 t173:=Tryz.underlying379
 a173:=Tryz.isAgg379
 z173:=Tryz.sizeOf379
 v173:=Tryz.zeroValue379
 t212:=Tryz.underlying413
 a212:=Tryz.isAgg413
 z212:=Tryz.sizeOf413
 v212:=Tryz.zeroValue413
 t213:=Tryz.underlying415
 a213:=Tryz.isAgg415
 z213:=Tryz.sizeOf415
 t232:=Tryz.underlying479
 a232:=Tryz.isAgg479
 z232:=Tryz.sizeOf479
 v232:=Tryz.zeroValue479
 t233:=Tryz.underlying480
 a233:=Tryz.isAgg480
 z233:=Tryz.sizeOf480
 v233:=Tryz.zeroValue480
 g17:=kR
 g18:=kR
 g19:=kR
 i0:=kR
 i2:=kR
 i3:=kR
 i4:=kR
 i5:=kR
 i9:=kR
 i20:=kR
 i37:=kR
 i46:=kR
 i51:=kR
 i53:=kR
 i171:=kR
 i173:=kR
 i212:=kR
 i232:=kR
 i233:=kR
 m17:=kR
 m18:=kR
 m19:=by kernel_rfl}
end Go.Proofs
namespace Go.Proofs
open Go Av Go.RowKit
theorem hasT{f:Nat}{fn:Func}(h:Tryz.prog.funcs[f]? =some fn)(h1:fn.body.isSome=true)(h2:(fn.name== "runtime.NumGoroutine")=false):Has Tryz.prog f:=⟨fn,h,h1,h2⟩
theorem JP1{vs:Array Value}(h:1=vs.size):∃x,vs=#[x]:=by
 refine⟨vs[0],?_⟩;apply Array.ext
 ·simp[←h]
 ·intro i h1 h2;have:i=0:=oM;subst this;rfl
theorem tabI{A:Nat→Prop}{w:World}(hg:∀g cs,Yv g=some cs→JBh A w g cs):Lib.TabIs Tryz.prog w "internal/strconv.uint64pow10" .u64 Lib.pow10Tab:=by
 obtain⟨h0,C,T,fr,h1,h2,h3,h4⟩:=hg 2 JGA rfl;have hn:Tryz.prog.globalNamed "internal/strconv.uint64pow10" =some 2:=kR;unfold Lib.TabIs World.var?;rw[hn];simp only[Option.bind_some,h1,Vd];have hlen:JGA.length=20:=by simp[JGA]
 apply Array.ext
 ·rw[←h2,hlen];simp[Lib.pow10Tab]
 ·intro i hi hi';have hi20:i<20:=by rw[←h2,hlen]at hi;exact hi
  have e1:JGA[i]? =some (.int .u64 ((10^i:Nat):Int)):=by simp[JGA,hi20]
  have:=h4 i _ C[i] e1 sP;generalize C[i]=v at this;cases this;simp[Lib.pow10Tab]
theorem call195(n:Int)(h0: -9223372036854775808≤n)(h1:n≤9223372036854775807):CT 195 [.d (.int .i64 n)] [] (.d (.str (Lib.itoa n))) []:=by
 refine JQ.JLa (ds:=[.int .i64 n]) (hasT Tryz.func195 kR kR) ?_;intro A w vs hg hl hv;obtain⟨x,rfl⟩:=JP1 hl;have hx:=hv 0 _ x rfl rfl;cases hx with
 |int=>
  refine(Any.strconv_Itoa Tryz.JO8 n h0 h1 w (tabI hg)).mono ?_;rintro e w' ⟨rfl,k,os,rfl⟩;refine⟨_,rfl,?_,fun β H=>.d _ _ (.str _ ?_)⟩
  ·refine⟨rfl,rfl,rfl,by simp[Sort.grow],fun i hi=>?_⟩;show((w.drewN k).heap++os)[i]? =_;rw[Array.getElem?_append_left (by show i<w.heap.size;omega)];rfl
  ·have:=Lib.itoa_length_le n h0 h1;omega
end Go.Proofs
namespace Go.Proofs
open Go Av
open Av.Y
end Go.Proofs
namespace Go.Proofs
open Go Av Go.RowKit
end Go.Proofs
namespace Go.Proofs
open Go Av
open Av.Y
end Go.Proofs
namespace Go.Proofs
open Go Av
open Av.Y
end Go.Proofs
namespace Go.Proofs
open Go Av
end Go.Proofs
namespace Go.Proofs
open Go Av
open Av.Y
end Go.Proofs
namespace Go.Proofs
open Go Av
end Go.Proofs
namespace Go.Proofs
open Go Av
open Av.Y
end Go.Proofs
namespace Go.Proofs
open Go Av
theorem Con.rl{P:Program}{f:Nat}{ds cs:List Dat}{r:Dat}(h:Con P f (ds.map .d++[.ref 1000 0]) [(1000,.box (cs.map .d))] (.d r) [])(i:Nat):
  JQ P f (ds.map .d++[.ref i 0]) [(i,some (.box (cs.map .d)))] (.d r) []:=by
 have h1:∀j,(get [(1000,Obj.box (cs.map .d))] j).isSome=true→j=1000:=by
  intro j hj;simp only[Av.get]at hj;split at hj
  ·rename_i e;exact e.symm
  ·cases hj
 have:=h.call (fun _=>i) (fun j hj=>by rw[h1 j hj];decide) (fun a b ha hb _=>by rw[h1 a ha,h1 b hb]) ?_ (Z9 _ _) [] sP (Z9 _ _) trivial
 ·have e:(ds.map Av.d).map (Av.ren fun _=>i)=ds.map Av.d:=by
   rw[List.map_map];exact List.map_congr_left fun x _=>by simp[Av.ren]
  simpa[Av.ren,Obj.ren,JIp,e]using this
 ·intro c hc;rcases List.mem_append.1 hc with hc|hc
  ·obtain⟨x,_,rfl⟩:=VC.1 hc;trivial
  ·rw[List.mem_singleton.1 hc];rfl
theorem JGK(l:List Part):JH (l.map JSW)=l.map JSW:=by
 rw[Jv,List.map_map];exact List.map_congr_left fun p _=>by simp[JSW,Dat.canon,JH]
attribute [go_sem] JGK
end Go.Proofs
namespace Go.Proofs
open Go Av
open Av.Y
end Go.Proofs
namespace Go.Proofs
open Go Av
mutual
def szV:Val→Nat
 |.mk _ _ _ _ l f=>1+JP2 l+JP3 f
def JP2:List Val→Nat
 |[]=>0
 |v::r=>szV v+JP2 r
def JP3:List Fld→Nat
 |[]=>0
 |.mk _ v::r=>szV v+JP3 r
end
theorem JSX(v:Val):szV v=1+JP2 v.list+JP3 v.fields:=by cases v;rfl
end Go.Proofs
namespace Go.Proofs
open Go Av
open Av.Y
def JRD:Ic:=q (.reg (oN 2 y6<|N))<|q (R (om 3 0<|oo 4 (.bld y6 [(0,1,i 4),(3,1,t 3)])<|oS 6 2 4<|N) [0,3,4])<|.ret
theorem ok235:FT 235 5 JRD [.cell 2 (some 6)]:=.o Tryz.func235
end Go.Proofs
namespace Go.Proofs
open Go Av
theorem JP4(s:Str):PT 235 [.str s] (.d (UF (.mk 4 0 0 s [] []))):=by
 refine ok235.pc ?_;simp only[go_sem,JRD,simprocAttr];rfl
def JSY:Ste:=.mk [] 14 0 0 0 [110,111] [] [] [] [] []
def JIq:Exp:=.mk 1 0 [] [.mk 4 0 0 [98] [] []] []
def eqB:Exp:=US 6 JE3 JIq
def pick(inn t:Ste)(j:Int):List Ste:=if j=0 then[inn]else if j=1 then[inn,t]else if j=2 then[JSY]else[]
def whn(c:Bool)(a b:Int)(small:Exp)(i:Nat):List Exp:=if c&&(decide ((i:Int)≤a.tmod 2)||b.tmod 5==0)then(if 0<i then[eqB]else[small])else[]
def brn(c:Bool)(a b:Int)(small:Exp)(inn t:Ste)(i:Nat):Brn:=.mk (whn c a b small i) (pick inn t ((b+i).tmod 4))
def JP5:Dat:=.agg [.str [],.int .i64 14,.int .i64 0,.int .i64 0,.int .i64 0,.str [110,111],.str [],.nil 5,.nil 6,.nil 2,.nil 2]
theorem JIr:JP5.canon=JI JSY:=rfl
def L4(inn t:Dat):List Dat:=[.list 11 [inn],.list 11 [inn,t],.list 11 [JP5],.nil 11]
theorem JOF(inn t:Dat):(L4 inn t).length=4:=rfl
def JGL(w:List Exp)(l:Dat):Dat:=.agg [if w.isEmpty then .nil 5 else .list 5 (w.map Jf),l]
theorem JOG(inn t:Ste)(j:Nat)(h:j<4):(nth (L4 (JI inn) (JI t)) j).canon=.list 11 ((pick inn t j).map JI):=by
 match j,h with
 |0,_=>simp[nth,L4,pick,Dat.canon,JH,ZT]
 |1,_=>simp[nth,L4,pick,Dat.canon,JH,ZT]
 |2,_=>simp[nth,L4,pick,Dat.canon,JH,JIr]
 |3,_=>simp[nth,L4,pick,Dat.canon,JH]
theorem JIs(w:List Exp)(inn t:Ste)(j:Nat)(h:j<4):(JGL w (nth (L4 (JI inn) (JI t)) j)).canon=Jz (.mk w (pick inn t j)):=by
 rw[Xv];cases w<;>simp only[JGL,List.isEmpty_nil,List.isEmpty_cons,if_true,if_false,Vu,Dat.canon,JH,J7,JOG inn t j h,Brn.cond,Brn.steps,Vb]
def JP6(k a b:Int)(now:Str):Ste:=(UM (JCK now (a.tdiv 2)) (4+b.tmod 4) (a.tdiv 2) (b.tdiv 3) now).1
def idx(b:Int)(i:Nat):Nat:=((b+i).tmod 4).toNat
def JIt(c:Bool)(a b:Int)(small:Exp)(inn t:Ste)(i:Nat):Dat:=JGL (whn c a b small i) (nth (L4 (JI inn) (JI t)) (idx b i))
theorem JIu(b:Int)(i:Nat)(h:0≤b):idx b i<4∧((idx b i:Nat):Int)=(b+i).tmod 4:=by
 unfold idx;rw[Int.tmod_eq_emod_of_nonneg oM];omega
theorem JIv(c:Bool)(a b:Int)(small:Exp)(inn t:Ste)(i:Nat)(h:0≤b):(JIt c a b small inn t i).canon=Jz (brn c a b small inn t i):=by
 obtain⟨h1,h2⟩:=JIu b i h;unfold JIt brn;rw[JIs _ _ _ _ h1,←h2]
theorem JDL(c:Bool)(a b:Int)(small:Exp)(inn t:Ste)(n:Nat)(h:0≤b):JH ((List.range n).map (JIt c a b small inn t))=((List.range n).map (brn c a b small inn t)).map Jz:=by
 rw[Jv,List.map_map,List.map_map];exact List.map_congr_left fun i _=>JIv c a b small inn t i h
theorem JHi(inn t:Dat)(j:Nat)(h:j<4):(nth (L4 inn t) j).cells=[nth (L4 inn t) j]∧(Av.d (nth (L4 inn t) j)).cells=some [.d (nth (L4 inn t) j)]:=by
 match j,h with
 |0,_=>exact⟨rfl,rfl⟩
 |1,_=>exact⟨rfl,rfl⟩
 |2,_=>exact⟨rfl,rfl⟩
 |3,_=>exact⟨rfl,rfl⟩
def bBr(k a b:Int)(now:Str):List Brn:=(List.range (2+(a.tmod 2).toNat)).map (brn (!(k.tmod 13==11)) a b (Jg now a) (JP6 k a b now) (toS now a))
def brS(k a b:Int)(now:Str):Ste:=.mk [] (if k.tmod 13==11 then 12 else 11) 0 0 0 [] [] [] [] [] (bBr k a b now)
theorem w8{n:Int}(h0:0≤n)(h1:n≤255):IntKind.u8.wrap n=n:=by
 simp only[IntKind.wrap,IntKind.signed,IntKind.bits];simp;omega
theorem JP7(k a b:Int)(now:Str)(hk:0≤k)(h0:0≤a)(h1:a≤255)(h2:0≤b)(h3:b≤255)(hn:now.length≤1000):
    UD Tryz.prog 192 [UE k a b,.str now,Jf (Jg now a)] (.d (JI (brS k a b now))):=by
  refine ok192.pcon (Nat.le_of_ble_eq_true rfl) trivial ?_
  obtain⟨p1,p2,p3⟩:=UK b 4 h2 (by omega)
  obtain⟨q1,q2⟩:=JIo a 2 h0 h1 (by omega)
  obtain⟨r1,r2⟩:=JIo b 3 h2 h3 (by omega)
  obtain⟨a1,a2,a3⟩:=UK a 2 h0 (by omega)
  have e1:IntKind.u8.wrap (4+b.tmod 4)=4+b.tmod 4:=w8 (by omega) (by omega)
  have e2:IntKind.u8.wrap (a.tdiv 2)=a.tdiv 2:=w8 (by omega) (by omega)
  have e3:IntKind.u8.wrap (b.tdiv 3)=b.tdiv 3:=w8 (by omega) (by omega)
  have e4:IntKind.i64.wrap a=a:=J4 (by omega) (by omega)
  have e5:IntKind.i64.wrap b=b:=J4 (by omega) (by omega)
  have c0:=(JJv (JCK now (a.tdiv 2)) (4+b.tmod 4) (a.tdiv 2) (b.tdiv 3) now false (by omega) q1 q2 r1 r2 rfl).call (by simp[U6])
  have c1:=(JGI now k a b hn).call trivial
  have c2:=(Jd Ul).call trivial
  have c3:=(JP4 [98]).call trivial
  have c4:=(Ut 6 JE3 JIq).call trivial
  unfold brS bBr JP6
  generalize hm:UM (JCK now (a.tdiv 2)) (4+b.tmod 4) (a.tdiv 2) (b.tdiv 3) now=M at*
  obtain⟨inn,nx⟩:=M
  generalize hT:toS now a=T at*
  generalize hS:Jg now a=S at*
  rw[JA]
  simp only[UE,Va,Vb]at c0 c1
  simp only[JIq,US,JO,JX,JY,Va,Vb]at c2 c3 c4
  rw[JV inn]at c0
  rw[JV T]at c1
  simp only[go_sem,JQi,UE,Jy S,Vv,Vc,Nat.reduceAdd,Nat.reduceEqDiff,Nat.reduceBEq,Nat.reduceLeDiff,reduceCtorEq,↓reduceIte]
  cases hc:k.tmod 13==11
  · simp only[go_sem,hc,e1,e2,e3,Vu,Vv,Vc,Nat.reduceAdd,Nat.reduceEqDiff,Nat.reduceBEq,Nat.reduceLeDiff,reduceCtorEq,↓reduceIte]
    refine⟨by decide,by decide,by decide,by decide,?_⟩
    refine JT rfl c0 trivial ?_
    simp only[go_sem,Vv,Vc,Nat.reduceAdd,Nat.reduceEqDiff,Nat.reduceBEq,Nat.reduceLeDiff,reduceCtorEq,↓reduceIte]
    refine⟨by simp,?_⟩
    refine JG rfl c1 trivial ?_
    simp only[go_sem,Vv,Vc,Nat.reduceAdd,Nat.reduceEqDiff,Nat.reduceBEq,Nat.reduceLeDiff,reduceCtorEq,↓reduceIte]
    refine⟨by simp,by simp,by simp,rfl,?_⟩
    rw[←JV inn,←JV T]
    refine JK (fun n s=>∃i:Nat,i≤2+(a.tmod 2).toNat∧n=2+(a.tmod 2).toNat-i∧
      s=⟨[(3,.ref 3 0),(5,.ref 5 0),(6,.ref 6 0),(7,.ref 7 0),(10,.d (.list 1 (L4 (JI inn) (JI T)))),(11,.d (.int .i64 i))],
        [(3,.box [.d (.int .u8 k),.d (.int .u8 a),.d (.int .u8 b)]),(5,.box [.d (.int .i64 S.op),.d (.int .i64 S.int),.d (.str S.text),.d (.list 6 (S.value.map UF)),.d (.list 5 (S.args.map Jf))]),
         (6,.box [.d (.str []),.d (.int .i64 0),.d (.int .i64 0),.d (.int .i64 0),.d (.int .i64 0),.d (.str []),.d (.str []),.d (.nil 5),.d (.nil 6),.d (.nil 2),.d (.nil 2)]),
         (7,.box [.d (.str []),.d (.int .i64 11),.d (.int .i64 0),.d (.int .i64 0),.d (.int .i64 0),.d (.str []),.d (.str []),.d (.nil 5),.d (.nil 6),.d (.nil 2),.ms 97 i]),
         (97,.row i 2 ((List.range i).map (JIt true a b S inn T)))]⟩) ?_ ?_
    · refine⟨_,_,(Wk.JCY 7 10 97 2 _ rfl rfl rfl (by decide)).trans (Wk.less ?_),0,Nat.zero_le _,rfl,rfl⟩
      simp[put,go_sem,L4,JP5]
      trace_state
    · rintro n s ⟨i,hi,rfl,rfl⟩
      have hin:(a.tmod 2).toNat≤1:=by omega
      obtain⟨x1,x2⟩:=JIu b i h2
      have f1:IntKind.i64.wrap (1+a.tmod 2)=1+a.tmod 2:=J4 (by omega) (by omega)
      have f2:IntKind.i64.wrap (b+(i:Int))=b+i:=J4 (by omega) (by omega)
      by_cases hlt:i<2+(a.tmod 2).toNat
      · have hd:decide ((i:Int)≤1+a.tmod 2)=true:=by simp;omega
        obtain⟨hc1,hc2⟩:=JHi (JI inn) (JI T) _ x1
        have hraw:JIt true a b S inn T i=JGL (whn true a b S i) (nth (L4 (JI inn) (JI T)) (idx b i)):=rfl
        obtain⟨D,hD⟩:∃D,nth (L4 (JI inn) (JI T)) (idx b i)=D:=⟨_,rfl⟩
        rw[hD]at hc1 hc2 hraw
        simp only[Dat.cells]at hc1
        simp only[Av.cells]at hc2
        simp only[go_sem,hd,e4,e5,f1,f2,←x2,JOF,hD,hc1,hc2,Vv,Vc,Nat.reduceAdd,Nat.reduceEqDiff,Nat.reduceBEq,Nat.reduceLeDiff,reduceCtorEq,↓reduceIte]
        refine⟨by decide,by decide,by omega,by decide,?_⟩
        refine⟨by decide,Y4 (b.tmod 5==0) (fun _=>?_) ?_⟩
        · simp only[go_sem,Vv,Vc,Nat.reduceAdd,Nat.reduceEqDiff,Nat.reduceBEq,Nat.reduceLeDiff,reduceCtorEq,↓reduceIte]
          intro h;cases h
        · cases hw:(decide ((i:Int)≤a.tmod 2)||b.tmod 5==0)
          · simp only[go_sem,hw,Vu,Vv,Vc,Nat.reduceAdd,Nat.reduceEqDiff,Nat.reduceBEq,Nat.reduceLeDiff,reduceCtorEq,↓reduceIte]
            refine⟨by simp,by simp;omega,2+(a.tmod 2).toNat-(i+1),_,by omega,Wk.less ?_,i+1,by omega,rfl,rfl⟩
            rw[List.range_succ,Vw]
            simp only[go_sem,JE i (by omega),Va,Vb,hraw,JGL,whn,hw,eqB,US,JIq,JO,JX,JY,Jy S,List.isEmpty_nil,List.isEmpty_cons,Vt,Bool.false_and,Vu,List.length_range,Vv,Vc,Nat.reduceAdd,Nat.reduceEqDiff,Nat.reduceBEq,Nat.reduceLeDiff,reduceCtorEq,↓reduceIte]
          · simp only[go_sem,hw,Jy S,Vv,Vc,Nat.reduceAdd,Nat.reduceEqDiff,Nat.reduceBEq,Nat.reduceLeDiff,reduceCtorEq,↓reduceIte]
            cases hz:decide ((i:Int)>0)
            · have hz':(0<i)=False:=by simp at hz;simp;omega
              simp only[go_sem,hz,Jy S,Vu,Vv,Vc,Nat.reduceAdd,Nat.reduceEqDiff,Nat.reduceBEq,Nat.reduceLeDiff,reduceCtorEq,↓reduceIte]
              refine⟨by simp,by simp,by simp;omega,2+(a.tmod 2).toNat-(i+1),_,by omega,Wk.less ?_,i+1,by omega,rfl,rfl⟩
              rw[List.range_succ,Vw]
              simp only[go_sem,JE i (by omega),Va,Vb,hraw,JGL,whn,hw,hz',eqB,US,JIq,JO,JX,JY,Jy S,List.isEmpty_nil,List.isEmpty_cons,Vt,Bool.false_and,Vu,List.length_range,Vv,Vc,Nat.reduceAdd,Nat.reduceEqDiff,Nat.reduceBEq,Nat.reduceLeDiff,reduceCtorEq,↓reduceIte]
            · have hz':(0<i)=True:=by simp at hz;simp;omega
              simp only[go_sem,hz,Jy S,Vv,Vc,Nat.reduceAdd,Nat.reduceEqDiff,Nat.reduceBEq,Nat.reduceLeDiff,reduceCtorEq,↓reduceIte]
              refine⟨by simp,?_⟩
              refine JT rfl c2 trivial ?_
              simp only[go_sem,Vv,Vc,Nat.reduceAdd,Nat.reduceEqDiff,Nat.reduceBEq,Nat.reduceLeDiff,reduceCtorEq,↓reduceIte]
              refine JT rfl c3 trivial ?_
              simp only[go_sem,Vv,Vc,Nat.reduceAdd,Nat.reduceEqDiff,Nat.reduceBEq,Nat.reduceLeDiff,reduceCtorEq,↓reduceIte]
              refine⟨by simp,?_⟩
              refine JT rfl (JEf c4 (by simp only[Va,Vb,Av.canon,Dat.canon,JH])) trivial ?_
              simp only[go_sem,Vv,Vc,Nat.reduceAdd,Nat.reduceEqDiff,Nat.reduceBEq,Nat.reduceLeDiff,reduceCtorEq,↓reduceIte]
              refine⟨by simp,by simp,by simp;omega,2+(a.tmod 2).toNat-(i+1),_,by omega,Wk.less ?_,i+1,by omega,rfl,rfl⟩
              rw[List.range_succ,Vw]
              simp only[go_sem,JE i (by omega),Va,Vb,hraw,JGL,whn,hw,hz',eqB,US,JIq,JO,JX,JY,Jy S,List.isEmpty_nil,List.isEmpty_cons,Vt,Bool.false_and,Vu,List.length_range,Vv,Vc,Nat.reduceAdd,Nat.reduceEqDiff,Nat.reduceBEq,Nat.reduceLeDiff,reduceCtorEq,↓reduceIte]
      · have hd:decide ((i:Int)≤1+a.tmod 2)=false:=by simp;omega
        obtain rfl:i=2+(a.tmod 2).toNat:=by omega
        simp only[go_sem,hd,e4,e5,f1,f2,Vv,Vc,Nat.reduceAdd,Nat.reduceEqDiff,Nat.reduceBEq,Nat.reduceLeDiff,reduceCtorEq,↓reduceIte]
        refine⟨by decide,?_⟩
        rw[JDL _ _ _ _ _ _ _ h2]
        rfl
  · simp only[go_sem,hc,e1,e2,e3,Vv,Vc,Nat.reduceAdd,Nat.reduceEqDiff,Nat.reduceBEq,Nat.reduceLeDiff,reduceCtorEq,↓reduceIte]
    refine⟨by decide,by decide,by decide,by decide,?_⟩
    refine JT rfl c0 trivial ?_
    simp only[go_sem,Vv,Vc,Nat.reduceAdd,Nat.reduceEqDiff,Nat.reduceBEq,Nat.reduceLeDiff,reduceCtorEq,↓reduceIte]
    refine⟨by simp,?_⟩
    refine JG rfl c1 trivial ?_
    simp only[go_sem,Vv,Vc,Nat.reduceAdd,Nat.reduceEqDiff,Nat.reduceBEq,Nat.reduceLeDiff,reduceCtorEq,↓reduceIte]
    refine⟨by simp,by simp,by simp,rfl,?_⟩
    rw[←JV inn,←JV T]
    refine JK (fun n s=>∃i:Nat,i≤2+(a.tmod 2).toNat∧n=2+(a.tmod 2).toNat-i∧
      s=⟨[(3,.ref 3 0),(5,.ref 5 0),(6,.ref 6 0),(7,.ref 7 0),(10,.d (.list 1 (L4 (JI inn) (JI T)))),(11,.d (.int .i64 i))],
        [(3,.box [.d (.int .u8 k),.d (.int .u8 a),.d (.int .u8 b)]),(5,.box [.d (.int .i64 S.op),.d (.int .i64 S.int),.d (.str S.text),.d (.list 6 (S.value.map UF)),.d (.list 5 (S.args.map Jf))]),
         (6,.box [.d (.str []),.d (.int .i64 0),.d (.int .i64 0),.d (.int .i64 0),.d (.int .i64 0),.d (.str []),.d (.str []),.d (.nil 5),.d (.nil 6),.d (.nil 2),.d (.nil 2)]),
         (7,.box [.d (.str []),.d (.int .i64 12),.d (.int .i64 0),.d (.int .i64 0),.d (.int .i64 0),.d (.str []),.d (.str []),.d (.nil 5),.d (.nil 6),.d (.nil 2),.ms 97 i]),
         (97,.row i 2 ((List.range i).map (JIt false a b S inn T)))]⟩) ?_ ?_
    · refine⟨_,_,(Wk.JCY 7 10 97 2 _ rfl rfl rfl (by decide)).trans (Wk.less ?_),0,Nat.zero_le _,rfl,rfl⟩
      simp[put,go_sem,L4,JP5]
      trace_state
    · rintro n s ⟨i,hi,rfl,rfl⟩
      have hin:(a.tmod 2).toNat≤1:=by omega
      obtain⟨x1,x2⟩:=JIu b i h2
      have f1:IntKind.i64.wrap (1+a.tmod 2)=1+a.tmod 2:=J4 (by omega) (by omega)
      have f2:IntKind.i64.wrap (b+(i:Int))=b+i:=J4 (by omega) (by omega)
      by_cases hlt:i<2+(a.tmod 2).toNat
      · have hd:decide ((i:Int)≤1+a.tmod 2)=true:=by simp;omega
        obtain⟨hc1,hc2⟩:=JHi (JI inn) (JI T) _ x1
        have hraw:JIt false a b S inn T i=JGL (whn false a b S i) (nth (L4 (JI inn) (JI T)) (idx b i)):=rfl
        obtain⟨D,hD⟩:∃D,nth (L4 (JI inn) (JI T)) (idx b i)=D:=⟨_,rfl⟩
        rw[hD]at hc1 hc2 hraw
        simp only[Dat.cells]at hc1
        simp only[Av.cells]at hc2
        simp only[go_sem,hd,e4,e5,f1,f2,←x2,JOF,hD,hc1,hc2,Vv,Vc,Nat.reduceAdd,Nat.reduceEqDiff,Nat.reduceBEq,Nat.reduceLeDiff,reduceCtorEq,↓reduceIte]
        refine⟨by decide,by decide,by omega,by decide,?_⟩
        simp only[go_sem,Int.reduceBEq,Vu,Vv,Vc,Nat.reduceAdd,Nat.reduceEqDiff,Nat.reduceBEq,Nat.reduceLeDiff,reduceCtorEq,↓reduceIte]
        refine⟨by simp,by simp;omega,2+(a.tmod 2).toNat-(i+1),_,by omega,Wk.less ?_,i+1,by omega,rfl,rfl⟩
        rw[List.range_succ,Vw]
        simp only[go_sem,JE i (by omega),Va,Vb,hraw,JGL,whn,eqB,US,JIq,JO,JX,JY,Jy S,List.isEmpty_nil,List.isEmpty_cons,Vt,Bool.false_and,Vu,List.length_range,Vv,Vc,Nat.reduceAdd,Nat.reduceEqDiff,Nat.reduceBEq,Nat.reduceLeDiff,reduceCtorEq,↓reduceIte]
      · have hd:decide ((i:Int)≤1+a.tmod 2)=false:=by simp;omega
        obtain rfl:i=2+(a.tmod 2).toNat:=by omega
        simp only[go_sem,hd,e4,e5,f1,f2,Vv,Vc,Nat.reduceAdd,Nat.reduceEqDiff,Nat.reduceBEq,Nat.reduceLeDiff,reduceCtorEq,↓reduceIte]
        refine⟨by decide,?_⟩
        rw[JDL _ _ _ _ _ _ _ h2]
        rfl
end Go.Proofs
namespace Go.Proofs
open Go Av
open Av.Y
def JRE:Ic:=q (R (ox 1 0<|ow 2 false<|N) [0,2])<|q (q (R (of 3 1 1<|ol 4 3<|N) [3])<|D (.block 0<|q (q (R (oi 6 .eql 4 13<|om 5 6<|N) [6])<|I 5 S (R (oi 7 .eql 4 14<|om 5 7<|N) [7]))<|D (I 5 (q (R (ow 2 true<|N) [1,4,5])<|.ret) (q (q (R (oi 9 .eql 4 11<|om 8 9<|N) [5,9])<|D (I 8 S (R (oi 10 .eql 4 12<|om 8 10<|N) [4,10])) [4])<|D (I 8 (q (R (of 11 1 10<|ol 12 11<|oh 13 12<|oi 14 .gtr 13 0<|om 15 14<|.sc 15 true (of 16 1 10<|ol 17 16<|cl 18 193 [t 17,.k (.fn (.func 194) [] [])]<|og 19 18<|N) (t 19) 20 (om 2 20<|N)) [1,8,11,12,13,14,15,20])<|.ret) S) [1,8])) []) [7,10,11])<|q (.reg (ow 2 false<|N))<|.ret
theorem JRF:FT 111 21 JRE [.tmp 2]:=.o Tryz.func111
def JRG:Ic:=q (R (ox 1 0<|ow 2 false<|N) [0,2])<|q (R (of 3 1 1<|ol 4 3<|cl 5 75 [t 4]<|og 6 5<|om 2 6<|N) [1,3,4,5,6])<|.ret
theorem ok194:FT 194 7 JRG [.tmp 2]:=.o Tryz.func194
def ir75:Ic:=q (R (ow 2 false<|N) [2])<|q (R (om 3 0<|oh 4 3<|oi 5 .gtr 4 0<|om 6 5<|.sc 6 true (om 7 0<|om 8 0<|oh 9 8<|oi 10 .sub 9 1<|oa true 11 11 7 10<|oL 12 11 11<|cl 13 111 [t 12]<|N) (t 13) 14 (om 2 14<|N)) [0,3,4,5,6,14])<|.ret
theorem ok75:FT 75 15 ir75 [.tmp 2]:=.o Tryz.func75
def ir67:Ic:=q (R (ok 2 (.k (.str []))<|N) [2])<|q (.reg (ok 3 (.k (.str []))<|N))<|q (q (R (om 6 0<|oh 7 6<|oz 8 0<|N) [0])<|D (.block 0<|.loop (q (.reg (ot 9 .lss 8 7<|N))<|q (D (I 9 S (E 0)) [9])<|q (D (.block 1<|q (R (oa false 10 1 6 8<|ol 11 10<|om 5 11<|N) [10,11])<|q (R (om 12 5<|om 13 3<|ot 14 .sne 12 13<|N) [12,13])<|D (I 14 (q (R (om 15 5<|om 2 15<|N) [3,6,7,8,5,14,15])<|.ret) S) [5,14]) [])<|R (oi 16 .add 8 1<|om 8 16<|N) [16])) [6,7,8,9,10,11,5])<|q (R (om 17 3<|om 2 17<|N) [3,17])<|.ret
theorem ok67:FT 67 18 ir67 [.tmp 2]:=.o Tryz.func67
def ir68:Ic:=q (R (ok 4 (.k (.str []))<|N) [4])<|q (R (om 5 0<|oo 6 (.bls 1 [t 5])<|om 7 1<|oo 8 (.app 1 (t 6) (t 7))<|cl 9 119 [t 8,.k (.str [95])]<|ob 10 .cat (.k (.str [115])) (t 9)<|om 4 10<|N) [0,1,5,6,7,8,9,10])<|.ret
theorem ok68:FT 68 11 ir68 [.tmp 4]:=.o Tryz.func68
def JRH:Ic:=q (R (ok 4 (.k (.str []))<|N) [4])<|q (.reg (ok 5 (.k (.nil 1))<|N))<|q (q (R (om 8 0<|oh 9 8<|oz 10 0<|N) [0])<|D (.block 0<|.loop (q (.reg (ot 11 .lss 10 9<|N))<|q (D (I 11 S (E 0)) [11])<|q (D (.block 1<|q (R (oa false 12 1 8 10<|ol 13 12<|om 7 13<|N) [12,13])<|R (om 14 5<|om 15 7<|cl 16 195 [t 15]<|oo 17 (.bls 1 [t 16])<|oo 18 (.app 1 (t 14) (t 17))<|om 5 18<|N) [7,14,15,16,17,18]) [])<|R (oi 19 .add 10 1<|om 10 19<|N) [19])) [8,9,10,11,7])<|q (R (om 20 5<|om 21 1<|cl 22 196 [t 20,t 21]<|om 4 22<|N) [1,5,20,21,22])<|.ret
theorem JRI:FT 119 23 JRH [.tmp 4]:=.o Tryz.func119
end Go.Proofs
namespace Go.Proofs
open Go Av
mutual
def JAp:Ste→Bool
 |.mk _ k _ _ _ _ _ _ _ _ b=>(k==13||k==14)||((k==11||k==12)&&(decide (0<b.length)&&JFd b))
def JFd:List Brn→Bool
 |[]=>true
 |b::r=>JDQ b&&JFd r
def JDQ:Brn→Bool
 |.mk _ s=>Ug s
def Ug:List Ste→Bool
 |[]=>false
 |[x]=>JAp x
 |_::y::r=>Ug (y::r)
end
theorem JOH(s:Ste):JAp s=((s.kind==13||s.kind==14)||((s.kind==11||s.kind==12)&&(decide (0<s.branches.length)&&JFd s.branches))):=by cases s;simp only[JAp,Ste.kind,Ste.branches];try rfl
theorem JP8(b:Brn):JDQ b=Ug b.steps:=by cases b;simp only[JDQ,Brn.steps]
theorem JHj:∀l:List Brn,JFd l= !(l.any fun b=> !JDQ b)
 |[]=>rfl
 |b::r=>by simp only[JFd,List.any_cons,JHj r];cases JDQ b<;>simp
theorem JEg:∀(l:List Ste) (h:0<l.length),Ug l=JAp (l[l.length-1]'oM)
 |[x],_=>by simp[Ug]
 |_::y::r,_=>by
  rw[Ug,JEg (y::r) sP];simp
theorem JOI(l:List Ste)(h:∀x∈l,PT 111 [JI x] (.d (.bool (JAp x)))):PT 75 [.list 11 (l.map JI)] (.d (.bool (Ug l))):=by
 refine UD.Ju ok75.has fun hfit=>?_
 have hl:l.length≤68719476736:=by have:=(hfit _ (Vh)).1;simpa using this
 refine ok75.pc ?_;simp only[go_sem,ir75,Vc,simprocAttr];refine Y4 (Ug l) (fun hp=>?_) ?_
 ·have hpos:0<l.length:=by have:=of_decide_eq_true hp;omega
  have hlt:l.length-1<l.length:=oM;have hx:=Zk hlt;have hc:=(h l[l.length-1] (Vk _)).call trivial;have hw:IntKind.i64.wrap ((l.length:Int)-1)=((l.length-1:Nat):Int):=by rw[wrap64 oM oM];omega
  rw[←JEg l hpos]at hc;rw[JV]at hc;simp only[go_sem,hw,hx,Vv,Vc,simprocAttr];refine⟨oM,wn hc ?_⟩;exact zz trivial
 ·have e:(decide ((l.length:Int)>0)&&Ug l)=Ug l:=by
   cases l with
   |nil=>simp[Ug]
   |cons x r=>simp<;>omega
  simp only[go_sem,e,simprocAttr]
theorem JP9(b:Brn)(h:PT 75 [.list 11 (b.steps.map JI)] (.d (.bool (Ug b.steps)))):PT 194 [Jz b] (.d (.bool (!JDQ b))):=by
 refine ok194.pc ?_;have hc:=h.call trivial;rw[Xv,JP8];simp only[go_sem,JRG,simprocAttr];refine wc hc trivial
theorem JQA(s:Ste)(h:∀b∈s.branches,PT 194 [Jz b] (.d (.bool (!JDQ b)))):PT 111 [JI s] (.d (.bool (JAp s))):=by
 refine UD.Ju JRF.has fun hfit=>?_
 have hl:s.branches.length≤68719476736:=by
  have:=hfit _ (Vh);rw[JV]at this;simp only[fits,XW,Vc]at this;omega
 refine JRF.pc ?_;have hc:=(JPs (cs:=[]) s.branches h hl).call trivial;have e:=JHj s.branches;generalize hE:JAp s=E;rw[JOH]at hE;rw[JV];simp only[go_sem,JRE,Vc,simprocAttr];generalize(s.kind==13)=k13 at*;generalize(s.kind==14)=k14 at*;generalize(s.kind==11)=k11 at*;generalize(s.kind==12)=k12 at*;have fin:∀(b:Bool),(b=true→JFd s.branches=true∧0<s.branches.length)→True:=fun _ _=>trivial
 have rest:k13=false→k14=false→(k11||k12)=true→(decide ((s.branches.length:Int)>0)&& !(s.branches.any fun b=> !JDQ b))=E:=by
  intro a b c;rw[←hE,a,b,←e];simp only[Bool.or_self,Bool.false_or,c,Vt];congr 1;exact decide_eq_decide.2 oM
 cases k13 with
 |true=>simp at hE;subst hE;simp only[go_sem,simprocAttr]
 |false=>
  cases k14 with
  |true=>simp at hE;subst hE;simp only[go_sem,simprocAttr]
  |false=>
   cases k11 with
   |true=>
    have rest:=rest rfl rfl rfl;refine zz ?_;refine sq (!(s.branches.any fun b=> !JDQ b)) ?_ ?_
    ·refine zz ?_;refine wc hc trivial
    ·simp only[go_sem,rest,simprocAttr]
   |false=>
    cases k12 with
    |true=>
     have rest:=rest rfl rfl rfl;refine zz ?_;refine sq (!(s.branches.any fun b=> !JDQ b)) ?_ ?_
     ·refine zz ?_;refine wc hc trivial
     ·simp only[go_sem,rest,simprocAttr]
    |false=>simp at hE;subst hE;simp only[go_sem,simprocAttr]
mutual
theorem JSZ:∀(s:Ste),PT 111 [JI s] (.d (.bool (JAp s)))
 |.mk n k u t l x c e r a b=>JQA _ (JRK b)
theorem JRJ:∀(l:List Ste),∀x∈l,PT 111 [JI x] (.d (.bool (JAp x)))
 |[],x,h=>by cases h
 |v::r,x,h=>by
  by_cases e:x=v
  ·rw[e];exact JSZ v
  ·exact JRJ r x ((VA.1 h).resolve_left e)
theorem p194:∀(b:Brn),PT 194 [Jz b] (.d (.bool (!JDQ b)))
 |.mk w s=>JP9 _ (JOI s (JRJ s))
theorem JRK:∀(l:List Brn),∀x∈l,PT 194 [Jz x] (.d (.bool (!JDQ x)))
 |[],x,h=>by cases h
 |v::r,x,h=>by
  by_cases e:x=v
  ·rw[e];exact p194 v
  ·exact JRK r x ((VA.1 h).resolve_left e)
end
theorem p75(l:List Ste):PT 75 [.list 11 (l.map JI)] (.d (.bool (Ug l))):=JOI l fun x _=>JSZ x
mutual
def JSa:Ste→Int→Int
 |.mk _ _ _ _ _ _ _ _ _ _ b,n=>JLN b n
def ZF:List Ste→Int→Int
 |[],n=>n
 |x::y,n=>ZF y (JSa x n)
def cnB:Brn→Int→Int
 |.mk _ l,n=>IntKind.i64.wrap (n+ZF l l.length)
def JLN:List Brn→Int→Int
 |[],n=>n
 |x::y,n=>JLN y (cnB x n)
end
theorem JSb(x:Ste)(n:Int):JSa x n=JLN x.branches n:=by cases x;simp only[JSa,Ste.branches]
theorem JSc(x:Brn)(n:Int):cnB x n=IntKind.i64.wrap (n+ZF x.steps x.steps.length):=by cases x;simp only[cnB,Brn.steps]
def JLO(l:List Ste):Prop:=PT 109 [.list 11 (l.map JI)] (.d (.int .i64 (ZF l l.length)))
theorem JJw(l:List Ste)(h:∀x∈l,∀b∈x.branches,JLO b.steps):JLO l:=by
 refine UD.Ju JQk.has fun hfit=>?_
 have hl:l.length≤68719476736:=by have:=(hfit (.list 11 (l.map JI)) sP).1;simpa using this
 have hfs:∀x∈l,x.branches.length≤68719476736:=by
  intro x hxm;have:=Un.1 (hfit (.list 11 (l.map JI)) sP).2 _ (VC.2 ⟨x,hxm,rfl⟩);rw[JV]at this;simp only[fits,XW,Vc]at this;omega
 clear hfit;refine JQk.pc ?_;generalize hR:ZF l l.length=R;simp only[go_sem,JQj,Vv,Vc,Nat.reduceAdd,Nat.reduceEqDiff,Nat.reduceBEq,Nat.reduceLeDiff,reduceCtorEq,↓reduceIte];refine JK (fun n s=>∃(k:Nat) (z:Int) (y:Int),k≤l.length∧n=l.length-k∧ZF (l.drop k) z=R∧
  s=⟨[(0,.d (.list 11 (l.map JI))),(3,.d (.int .i64 z)),(4,.d (.int .i64 k))],[]⟩) ?_ ?_
 ·refine⟨_,_,Wk.less ?_,0,l.length,0,Nat.zero_le _,rfl,by simpa using hR,rfl⟩;simp[go_sem]
 ·rintro n s ⟨k,z,y,hk,rfl,hinv,rfl⟩;by_cases hlt:k<l.length
  ·have hd:=dT hlt;have hn:=Zk hlt;have hbr:=hfs _ (Vk hlt);have hV:=h _ (Vk hlt);rw[Vq hlt,ZF,JSb]at hinv;generalize l[k]=x at*;simp only[go_sem,hd,Vv,Vc,Nat.reduceAdd,Nat.reduceEqDiff,Nat.reduceBEq,Nat.reduceLeDiff,reduceCtorEq,↓reduceIte];refine JK (fun n s=>∃(j:Nat) (q:Int),j≤x.branches.length∧n=x.branches.length-j∧ZF (l.drop (k+1)) (JLN (x.branches.drop j) q)=R∧
    s=⟨[(0,.d (.list 11 (l.map JI))),(3,.d (.int .i64 q)),(4,.d (.int .i64 k)),(5,.d (.int .i64 j))],[]⟩) ?_ ?_
   ·refine⟨_,_,Wk.less ?_,0,z,Nat.zero_le _,rfl,by simpa using hinv,rfl⟩;simp[go_sem]
   ·rintro n s ⟨j,q,hj,rfl,hinv2,rfl⟩;by_cases hjl:j<x.branches.length
    ·have hdj:decide ((j:Int)<(x.branches.length:Int))=true:=sO;have hnb:=YS hjl;have hc:=(hV _ (Vk hjl)).call trivial;rw[Vq hjl,JLN,JSc]at hinv2;generalize x.branches[j]=b at*;simp only[Va,Vb]at hc;simp only[go_sem,hn,hnb,hdj,Vv,Vc,Nat.reduceAdd,Nat.reduceEqDiff,Nat.reduceBEq,Nat.reduceLeDiff,reduceCtorEq,↓reduceIte];refine⟨oM,dC,oM,dC,oM,dC,?_⟩;refine wn hc ?_;simp only[go_sem,Vv,Vc,Nat.reduceAdd,Nat.reduceEqDiff,Nat.reduceBEq,Nat.reduceLeDiff,reduceCtorEq,↓reduceIte];refine⟨x.branches.length-(j+1),_,oM,Wk.less ?_,j+1,_,oM,rfl,hinv2,rfl⟩;simp only[go_sem,JE j oM,Vv,Vc,Nat.reduceAdd,Nat.reduceEqDiff,Nat.reduceBEq,Nat.reduceLeDiff,reduceCtorEq,↓reduceIte]
    ·have hdj:decide ((j:Int)<(x.branches.length:Int))=false:=sO;obtain rfl:j=x.branches.length:=oM;rw[List.drop_length,JLN]at hinv2;simp only[go_sem,hn,hdj,Vv,Vc,Nat.reduceAdd,Nat.reduceEqDiff,Nat.reduceBEq,Nat.reduceLeDiff,reduceCtorEq,↓reduceIte];refine⟨oM,dC,l.length-(k+1),_,oM,Wk.less ?_,k+1,q,0,oM,rfl,hinv2,rfl⟩;simp only[go_sem,JE k oM,Vv,Vc,Nat.reduceAdd,Nat.reduceEqDiff,Nat.reduceBEq,Nat.reduceLeDiff,reduceCtorEq,↓reduceIte]
  ·have hd:=dF hlt;obtain rfl:k=l.length:=oM;rw[List.drop_length,ZF]at hinv;subst hinv;simp only[go_sem,hd,Vv,Vc,Nat.reduceAdd,Nat.reduceEqDiff,Nat.reduceBEq,Nat.reduceLeDiff,reduceCtorEq,↓reduceIte]
mutual
theorem JOJ:∀(l:List Ste),∀x∈l,∀b∈x.branches,JLO b.steps
 |[],x,h,_,_=>by cases h
 |v::q,x,h,b,hb=>by
  by_cases e:x=v
  ·rw[e]at hb;exact v157S v b hb
  ·exact JOJ q x ((VA.1 h).resolve_left e) b hb
theorem v157S:∀(x:Ste),∀b∈x.branches,JLO b.steps
 |.mk n k u t l x c e ru a bs=>JOK bs
theorem JOK:∀(l:List Brn),∀b∈l,JLO b.steps
 |[],b,h=>by cases h
 |v::q,b,h=>by
  by_cases e:b=v
  ·rw[e];exact v157B v
  ·exact JOK q b ((VA.1 h).resolve_left e)
theorem v157B:∀(b:Brn),JLO b.steps
 |.mk w s=>JJw s (JOJ s)
end
theorem JQB(l:List Ste):PT 109 [.list 11 (l.map JI)] (.d (.int .i64 (ZF l l.length))):=JJw l (JOJ l)
structure S3 where
 k:Int
 a:Int
 b:Int
def JAq(x:S3):Dat:=UE x.k x.a x.b
def JEh(x:S3):Prop:=0≤x.k∧x.k≤255∧0≤x.a∧x.a≤255∧0≤x.b∧x.b≤255
def mdS(x:S3)(now:Str):Ste×Str:=UM (brS x.k x.a x.b now) x.k x.a x.b now
theorem JLP(br:Ste)(k a b:Int)(now:Str)(h:now.length≤1000):(UM br k a b now).2.length≤1000:=by
 unfold UM
 repeat' split
 all_goals first|exact h|exact(show 4≤1000 by decide)
theorem JOL(x:S3)(now:Str)(h:JEh x)(hn:now.length≤1000):PT 110 [JAq x,.str now,.bool true] (.tup [.d (JI (mdS x now).1),.d (.str (mdS x now).2)]):=
 JJv _ _ _ _ _ _ h.1 h.2.2.1 h.2.2.2.1 h.2.2.2.2.1 h.2.2.2.2.2 (JP7 x.k x.a x.b now h.1 h.2.2.1 h.2.2.2.1 h.2.2.2.2.1 h.2.2.2.2.2 hn)
def rtR:List S3→Nat→List Ste→Str→S3→List Ste
 |[],_,out,now,last=>out++[toS now last.a]
 |x::r,i,out,now,last=>if(decide ((i:Int)<6)&&decide (ZF out out.length<16))then(if JAp (mdS x now).1 then out++[(mdS x now).1]else rtR r (i+1) (out++[(mdS x now).1]) (mdS x now).2 x)else out++[toS now last.a]
theorem JOM{xs:List S3}{k:Nat}(h:k<xs.length):nth (xs.map JAq) k=.agg [.int .u8 xs[k].k,.int .u8 xs[k].a,.int .u8 xs[k].b]:=JU JAq h
theorem JSd(l:List S3)(h:∀x∈l,JEh x):PT 61 [.list 3 (l.map JAq)] (.d (.list 11 ((rtR l 0 [] ZE ⟨0,0,0⟩).map JI))):=by
 refine UD.Ju ok61.has fun hfit=>?_
 have hl:l.length≤68719476736:=by have:=(hfit (.list 3 (l.map JAq)) sP).1;simpa using this
 clear hfit;refine ok61.pc ?_;generalize hR:rtR l 0 [] ZE ⟨0,0,0⟩=R;simp only[go_sem,ir61,Vv,Vc,simprocAttr];refine JK (fun n s=>∃(k:Nat) (out:List Ste) (now:Str) (z:S3),k≤l.length∧n=l.length-k∧rtR (l.drop k) k out now z=R∧out.length=k∧now.length≤1000∧k≤6∧
  s=⟨[(0,.d (.list 3 (l.map JAq))),(3,.ms 37 k),(4,.d (.str now)),(5,.ref 5 0),(6,.d (.int .i64 k))],[(5,.box [.d (.int .u8 z.k),.d (.int .u8 z.a),.d (.int .u8 z.b)]),(37,.row k 11 (out.map JI))]⟩) ?_ ?_
 ·refine⟨_,_,(Wk.JEv 3 37 11 rfl rfl dC).trans (Wk.less ?_),0,[],ZE,⟨0,0,0⟩,Nat.zero_le _,rfl,by simpa using hR,rfl,dC,oM,rfl⟩;simp[put,go_sem]
 ·rintro n s ⟨k,out,now,z,hk,rfl,hinv,ho,hnow,hk6,rfl⟩;by_cases hlt:k<l.length
  ·have hd:=dT hlt;have hn:=JOM hlt;have hok:=h _ (Vk hlt);rw[Vq hlt,rtR]at hinv;generalize hX:l[k]=x at*;have cM:=(JOL x now hok hnow).call (by simp[U6]);have cE:=(JSZ (mdS x now).1).call trivial;have cT:=(JGI now z.k z.a z.b hnow).call trivial;have hcl:JH (out.map JI++[JI (toS now z.a)])=out.map JI++[JI (toS now z.a)]:=by
    have:=Xl (out++[toS now z.a]);rwa[Vw]at this
   rw[JV (toS now z.a)]at hcl;have hcn:PT 109 ([Dat.list 11 (out.map JI)].map Dat.canon) (.d (.int .i64 (ZF out out.length))):=by
    simpa only[Va,Vb,Dat.canon,Xl]using JQB out
   have cB:CT 109 [.ms 37 k] [(37,some (.row k 11 (out.map JI)))] (.d (.int .i64 (ZF out out.length))) []:=
    hcn.borrow rfl (p:=k=k∧True) (u:=[(37,.frz k 11 (out.map JI))]) (fun H hH=>by simp only[Jk,U9,Uj,hH (37,_) (Vh),List.append_nil]) ⟨rfl,trivial⟩
   have hnx:=JLP (brS x.k x.a x.b now) x.k x.a x.b now hnow;rw[show UM (brS x.k x.a x.b now) x.k x.a x.b now=mdS x now from rfl]at hnx;generalize hM:mdS x now=M at*;obtain⟨s,nx⟩:=M;simp only[JAq,UE,Va,Vb]at cM cE cT;rw[JV s]at cM cE;rw[JV (toS now z.a)]at cT;simp only[go_sem,hd,Vv,Vc,simprocAttr];refine sq (decide (ZF out out.length<16)) ?_ ?_
   ·simp only[go_sem,Vv,Vc,simprocAttr];refine wn cB ?_;simp only[go_sem,Vv,Vc,simprocAttr]
   ·cases hq:(decide ((k:Int)<6)&&decide (ZF out out.length<16))
    ·simp only[go_sem,hq,Vu,Vv,Vc,simprocAttr];refine wn cT ?_;simp only[go_sem,Vv,Vc,simprocAttr];refine⟨sP,oM,?_⟩;simp only[hq,Vu,if_false]at hinv;rw[hcl,←hinv,Vw,Va,Vb,←JV]
    ·simp only[go_sem,hq,hn,Vv,Vc,simprocAttr];refine⟨oM,?_⟩;refine wn cM ?_;simp only[go_sem,hn,Vv,Vc,simprocAttr];refine⟨sP,oM,oM,rfl,?_⟩;refine wn cE ?_;simp only[go_sem,Vv,Vc,simprocAttr];simp only[Vi,decide_eq_true_eq]at hq;simp only[hq.1,hq.2,if_true,decide_true,Bool.and_true]at hinv;cases he:JAp s
     ·simp only[go_sem,he,Vu,Vv,Vc,simprocAttr];simp only[he,Vu,if_false]at hinv;refine⟨l.length-(k+1),_,oM,Wk.less ?_,k+1,out++[s],nx,x,oM,rfl,hinv,by simp[ho],hnx,oM,rfl⟩;rw[Vw];simp only[go_sem,JE k oM,Va,Vb,JV s,Vv,Vc,simprocAttr]
     ·simp only[go_sem,he,Vv,Vc,simprocAttr];simp only[he,if_true]at hinv;have hcs:JH (out.map JI++[JI s])=out.map JI++[JI s]:=by
       have:=Xl (out++[s]);rwa[Vw]at this
      rw[←JV,hcs,←hinv,Vw,Va,Vb]
  ·have hd:=dF hlt;obtain rfl:k=l.length:=oM;have cT:=(JGI now z.k z.a z.b hnow).call trivial;rw[List.drop_length,rtR]at hinv;subst hinv;rw[Vw];simp only[UE,Va,Vb]at cT⊢;have hcl:JH (out.map JI++[JI (toS now z.a)])=out.map JI++[JI (toS now z.a)]:=by
    have:=Xl (out++[toS now z.a]);rwa[Vw]at this
   rw[JV (toS now z.a)]at cT hcl⊢;simp only[go_sem,hd,Vv,Vc,simprocAttr];refine wn cT ?_;simp only[go_sem,Vv,Vc,simprocAttr];exact⟨sP,oM,by rw[hcl]⟩
end Go.Proofs
namespace Av
open Go
variable [Glb]
variable {xs:List Dat}{k:Nat}{x:Dat}
def Pos:Dat→List (Nat×Nat)→Nat→Nat→Prop
 |.own _ xs,[],k,c=>∃cs,xs[k]? =some (.agg cs)∧c<cs.length
 |.own _ xs,(k',c')::p,k,c=>∃cs y,xs[k']? =some (.agg cs)∧cs[c']? =some y∧Pos y p k c
 |_,_,_,_=>False
theorem getD_some(h:xs[k]? =some x):xs.getD k .opq=x:=by simp[List.getD,h]
theorem YE{y:Dat}(h:xs[k]? =some x):(xs.set k y)[k]? =some y:=by
 have:=(VB.1 h).1;rw[List.getElem?_set_self this]
theorem ZY(h:xs[k]? =some x):xs.set k x=xs:=by
 obtain⟨h1,rfl⟩:=VB.1 h;exact List.set_getElem_self h1
theorem JHk(sz:Nat)(xs:List Dat)(p:List (Nat×Nat))(k c:Nat)(y:Dat): .own sz (JCZ (setAt (.own sz xs) p k c y))=setAt (.own sz xs) p k c y:=by
 cases p with
 |nil=>rfl
 |cons a p=>obtain⟨k',c'⟩:=a;rfl
theorem Xc:∀{p:List (Nat×Nat)} {x:Dat} {k c:Nat},Pos x p k c→∀(R:Dat) (q:List (Nat×Nat)),nodeAt (setAt x p k c R) (p++(k,c)::q)=nodeAt R q
 |[],.own sz xs,k,c,h,R,q=>by
  obtain⟨cs,h1,h2⟩:=h;simp only[List.nil_append,setAt,getD_some h1,Uu,nodeAt,cellAt,YE h1,Option.bind_some,Dat.cells];rw[List.getElem?_set_self h2]
 |(k',c')::p,.own sz xs,k,c,h,R,q=>by
  obtain⟨cs,y,h1,h2,h3⟩:=h;have hc:=(VB.1 h2).1;simp only[List.cons_append,setAt,getD_some h1,Uu,nodeAt,cellAt,YE h1,Option.bind_some,Dat.cells];rw[List.getElem?_set_self hc];simp only[getD_some h2];exact Xc h3 R q
theorem JCu:∀{p:List (Nat×Nat)} {x:Dat} {k c:Nat},Pos x p k c→∀(R:Dat) (q:List (Nat×Nat)) (j o:Nat) (y:Dat),setAt (setAt x p k c R) (p++(k,c)::q) j o y=setAt x p k c (setAt R q j o y)
 |[],.own sz xs,k,c,h,R,q,j,o,y=>by
  obtain⟨cs,h1,h2⟩:=h;simp only[List.nil_append,setAt,getD_some h1,Uu,getD_some (YE h1),Dat.cells];rw[getD_some (YE (Vl h2)),List.set_set,List.set_set]
 |(k',c')::p,.own sz xs,k,c,h,R,q,j,o,y=>by
  obtain⟨cs,z,h1,h2,h3⟩:=h;simp only[List.cons_append,setAt,getD_some h1,Uu,getD_some (YE h1),Dat.cells,getD_some h2];rw[getD_some (YE h2),List.set_set,List.set_set,JCu h3]
theorem JJx:∀{p:List (Nat×Nat)} {x:Dat} {k c:Nat},Pos x p k c→∀(R:Dat) (q:List (Nat×Nat)) (j o:Nat),Pos R q j o→Pos (setAt x p k c R) (p++(k,c)::q) j o
 |[],.own sz xs,k,c,h,R,q,j,o,hq=>by
  obtain⟨cs,h1,h2⟩:=h;simp only[List.nil_append,setAt,getD_some h1,Uu];exact⟨cs.set c R,R,YE h1,YE (Vl h2),hq⟩
 |(k',c')::p,.own sz xs,k,c,h,R,q,j,o,hq=>by
  obtain⟨cs,z,h1,h2,h3⟩:=h;simp only[List.cons_append,setAt,getD_some h1,Uu,getD_some h2,Dat.cells];exact⟨cs.set c' (setAt z p k c R),_,YE h1,YE h2,JJx h3 R q j o hq⟩
theorem JEi:∀{p:List (Nat×Nat)} {x:Dat} {k c:Nat},Pos x p k c→∀{R:Dat},nodeAt x (p++[(k,c)])=some R→setAt x p k c R=x
 |[],.own sz xs,k,c,h,R,hR=>by
  obtain⟨cs,h1,h2⟩:=h;simp only[List.nil_append,nodeAt,cellAt,h1,Option.bind_some,Dat.cells,Vl h2]at hR;have e:cs[c]=R:=by
   generalize cs[c]=y at hR;cases y<;>simp[nodeAt]at hR<;>exact hR
  simp only[setAt,getD_some h1,Uu];rw[←e,List.set_getElem_self,ZY h1]
 |(k',c')::p,.own sz xs,k,c,h,R,hR=>by
  obtain⟨cs,z,h1,h2,h3⟩:=h;simp only[List.cons_append,nodeAt,cellAt,h1,Option.bind_some,Dat.cells,h2]at hR;simp only[setAt,getD_some h1,Uu,Dat.cells,getD_some h2];rw[JEi h3 hR,ZY h2,ZY h1]
section
variable [Rls]
theorem Con.JO9{P:Program}{f:Nat}{ds:List Dat}{x a1 b1 s1:Nat}{X:List Dat}{v:Av}(h:Con P f (ds.map .d) [] v [(x,.tre a1 b1 s1 X)])
  (hv:inT (JC (get []) [(x,.tre a1 b1 s1 X)]) v)(i:Nat):JQ P f (ds.map .d) [(i,none)] (v.ren fun _=>i) [(i,.tre a1 b1 s1 X)]:=by
 have hput:∀n,(JC (get []) [(x,Obj.tre a1 b1 s1 X)] n).isSome=true→n=x:=by
  intro n;simp only[JC,upd,get];by_cases h2:n=x
  ·subst h2;simp
  ·simp[h2]
 have:=Con.call h (fun _=>i) (by intro n h;cases h) (by
   intro m n hm hn e;rw[hput m hm,hput n hn]) (by intro c hc;obtain⟨d,_,rfl⟩:=VC.1 hc;trivial) (by intro n o h;cases h) [x] (by
   intro e he;simp only[VA,List.not_mem_nil,or_false]at he;subst he;exact .inr sP) (by
   intro n o hn;simp only[JC,upd,get]at hn;split at hn
   ·cases hn;trivial
   ·cases hn) hv
 have e0:(ds.map Av.d).map (Av.ren fun _=>i)=ds.map .d:=by simp[Av.ren]
 simp only[e0,Va,Vb,Obj.ren,List.nil_append]at this;exact this
theorem Con.JKM{P:Program}{f:Nat}{ds:List Dat}{y:Dat}(h:Con P f (ds.map .d) [] (.d y) []):JQ P f (ds.map .d) [] (.d y) []:=by
 have:=Con.call h (fun i=>i) (by intro n h;cases h) (by intro m n hm;cases hm) (by intro c hc;obtain⟨d,_,rfl⟩:=VC.1 hc;trivial) (by intro n o h;cases h) [] (by intro e he;cases he) (by intro n o hn;cases hn) trivial;have e0:(ds.map Av.d).map (Av.ren fun i=>i)=ds.map .d:=by simp[Av.ren]
 simp only[e0,Vb,List.append_nil]at this;exact this
end
end Av
namespace Go.Proofs
open Go Av
open Av.Y
end Go.Proofs
namespace Go.Proofs
open Go Av
open Av.Y
end Go.Proofs
namespace Go.Proofs
open Go Av
open Av.Y
def ir84:Ic:=q (R (ok 2 (.k (.nil 1))<|N) [2])<|q (q (R (om 3 0<|oo 4 (.nilq false false (t 3))<|N) [3])<|D (I 4 (q (R (ok 2 (.k (.nil 1))<|N) [0,4])<|.ret) S) [4])<|q (R (oo 5 (.bls 1 [])<|om 6 0<|oo 7 (.app 1 (t 5) (t 6))<|om 2 7<|N) [0,5,6,7])<|.ret
theorem ok84:FT 84 8 ir84 [.tmp 2]:=.o Tryz.func84
def JSe:Ic:=q (R (ox 3 1<|N) [1])<|q (.reg (oN 4 [.nil 1]<|N))<|q (.reg (oN 5 [.nilFn]<|N))<|q (R (oo 6 (.fnv (.func 118) [] [t 4,t 3,t 5])<|os 5 6<|N) [3,4,6])<|R (ol 7 5<|om 8 0<|.call (some 9) (.dyn (t 7)) [t 8] N) [0,5,7,8,9]
theorem ok65:FT 65 10 JSe []:=.o Tryz.func65
def JJy:Ic:=q (R (om 7 0<|oh 8 7<|oz 9 0<|N) [7])<|D (.block 0<|.loop (q (.reg (ot 10 .lss 9 8<|N))<|q (D (I 10 S (E 0)) [10])<|q (D (.block 1<|q (R (om 11 9<|om 5 11<|N) [11])<|q (R (ol 12 1<|om 13 5<|oo 14 (.bls 1 [t 13])<|oo 15 (.app 1 (t 12) (t 14))<|os 1 15<|N) [12,13,14,15])<|q (R (ol 16 2<|ol 17 1<|om 18 0<|om 19 5<|oa true 20 11 18 19<|.call (some 21) (.dyn (t 16)) [t 17,t 20] N) [16,17,18,19,20,21])<|q (q (R (om 22 0<|om 23 5<|oa true 24 11 22 23<|of 25 24 10<|ol 26 25<|oh 27 26<|oz 28 0<|N) [22,23,24,25,26])<|D (.block 2<|.loop (q (.reg (ot 29 .lss 28 27<|N))<|q (D (I 29 S (E 2)) [29])<|q (D (.block 3<|q (R (om 30 28<|om 6 30<|N) [30])<|q (R (ol 31 1<|om 32 6<|oo 33 (.bls 1 [t 32])<|oo 34 (.app 1 (t 31) (t 33))<|os 1 34<|N) [31,32,33,34])<|q (R (ol 35 3<|om 36 0<|om 37 5<|oa true 38 11 36 37<|of 39 38 10<|ol 40 39<|om 41 6<|oa true 42 2 40 41<|of 43 42 1<|ol 44 43<|.call (some 45) (.dyn (t 35)) [t 44] N) [6,35,36,37,38,39,40,41,42,43,44,45])<|R (ol 46 1<|ol 47 1<|oh 48 47<|oi 49 .sub 48 1<|oo 50 (.slc 1 (t 46) none (some (t 49)) none)<|os 1 50<|N) [46,47,48,49,50]) [])<|R (oi 51 .add 28 1<|om 28 51<|N) [51])) [5,27,28,29,6])<|R (ol 52 1<|ol 53 1<|oh 54 53<|oi 55 .sub 54 1<|oo 56 (.slc 1 (t 52) none (some (t 55)) none)<|os 1 56<|N) [52,53,54,55,56]) [])<|R (oi 57 .add 9 1<|om 9 57<|N) [57])) [0,8,9,10,11,5,6]
theorem JHl:FT 118 58 JJy []:=.o Tryz.func118
def JRL:Ic:=D (.regd [(0,3),(1,3),(3,6),(0,7),(1,7),(0,9)] (ol 6 2<|ol 7 3<|om 8 0<|cl 9 84 [t 8]<|om 10 1<|oc 11 10<|oL 12 11 11<|cl 13 64 [t 12]<|oo 14 (.bld [.int .i64 0,.nil 1,.str [],.int .i64 0,.int .i64 0,.int .i64 0,.int .i64 0,.str [],.str [],.nil 5,.nil 6,.nil 2,.nil 2] [(0,1,t 7),(1,1,t 9),(2,11,t 13)])<|oo 15 (.bls 13 [t 14])<|oo 16 (.app 13 (t 6) (t 15))<|os 2 16<|N)) [0,1,6,7,8,9,10,11,12,13,14,15,16]
theorem ok122:FT 122 17 JRL []:=.o Tryz.func122
def ir73:Ic:=q (R (ox 2 0<|ox 3 1<|ok 4 (.k (.nil 13))<|N) [0,1,4])<|q (.reg (oN 5 [.nil 13]<|N))<|q (R (of 6 2 4<|ol 7 6<|ol 8 3<|oa true 9 3 7 8<|of 10 9 2<|ol 11 10<|oo 12 (.fnv (.func 122) [] [t 5,t 3])<|cl 13 65 [t 11,t 12]<|N) [2,3,6,7,8,9,10,11,12,13])<|q (R (ol 14 5<|om 4 14<|N) [5,14])<|.ret
theorem ok73:FT 73 15 ir73 [.tmp 4]:=.o Tryz.func73
def ir39:Ic:=q (R (ox 1 0<|ok 2 (.k (.nil 13))<|N) [0,2])<|q (.reg (ok 3 (.k (.nil 13))<|N))<|q (q (R (of 5 1 4<|ol 6 5<|oh 7 6<|oz 8 0<|N) [5,6])<|D (.block 0<|.loop (q (.reg (ot 9 .lss 8 7<|N))<|q (D (I 9 S (E 0)) [9])<|q (D (.block 1<|q (R (om 10 8<|om 4 10<|N) [10])<|R (om 11 3<|oL 12 5 1<|om 13 4<|cl 14 73 [t 12,t 13]<|oo 15 (.app 13 (t 11) (t 14))<|om 3 15<|N) [4,11,12,13,14,15]) [])<|R (oi 16 .add 8 1<|om 8 16<|N) [16])) [1,7,8,9,10,4,11])<|q (R (om 17 3<|om 2 17<|N) [3,17])<|.ret
theorem ok39:FT 39 18 ir39 [.tmp 2]:=.o Tryz.func39
end Go.Proofs
namespace Go.Proofs
open Go Av
def Yj(l:List Exp):Dat:=match l with|[]=>.nil 5|_=>.list 5 (l.map Jf)
theorem JON{g:Nat}(l:List Exp)(hg:∀x∈l,UD Tryz.prog g [Jf x] (.d (Jf x))):UD Tryz.prog 113 [.list 5 (l.map Jf),.fn (.func g) [] []] (.d (Yj l)):=by
  refine UD.Ju JHb.has fun hfit=>?_
  have hl:l.length≤68719476736:=by have:=(hfit _ (Vh)).1;simpa using this
  clear hfit
  by_cases hne:l=[]
  · subst hne
    refine JHb.con (k:=none) (Nat.le_of_ble_eq_true rfl) (by intro i o h;cases h) trivial ?_
    simp only[go_sem,JJr,Vb,Vm,Vv,Vc,Nat.reduceAdd,Nat.reduceEqDiff,Nat.reduceBEq,Nat.reduceLeDiff,reduceCtorEq,↓reduceIte]
    refine JK (fun n s=>s=⟨[(1,.d (.fn (.func g) [] [])),(5,.d (.nil 5)),(8,.d (.list 5 [])),(9,.d (.int .i64 0)),(10,.d (.int .i64 0))],[]⟩) ?_ ?_
    · exact⟨0,_,Wk.refl _,rfl⟩
    · rintro n s rfl
      simp only[go_sem,Int.lt_irrefl,decide_false,Vu,Yj,Vv,Vc,Nat.reduceAdd,Nat.reduceEqDiff,Nat.reduceBEq,Nat.reduceLeDiff,reduceCtorEq,↓reduceIte]
  · refine JHb.con (k:=none) (Nat.le_of_ble_eq_true rfl) (by intro i o h;cases h) trivial ?_
    have hr:Yj l=.list 5 (l.map Jf):=by cases l with|nil=>exact absurd rfl hne|cons a b=>rfl
    rw[hr]
    simp only[go_sem,JJr,Vv,Vc,Nat.reduceAdd,Nat.reduceEqDiff,Nat.reduceBEq,Nat.reduceLeDiff,reduceCtorEq,↓reduceIte]
    refine JK (fun n s=>∃k:Nat,k≤l.length∧n=l.length-k∧
      s=⟨[(1,.d (.fn (.func g) [] [])),(5,.ms 19 k),(8,.d (.list 5 (l.map Jf))),(9,.d (.int .i64 l.length)),(10,.d (.int .i64 k))],[(19,.row k 5 ((l.take k).map Jf))]⟩) ?_ ?_
    · refine⟨_,_,(Wk.JEv 5 19 5 rfl rfl (by decide)).trans (Wk.less ?_),0,Nat.zero_le _,rfl,rfl⟩
      simp[put,go_sem]
    · rintro n s ⟨k,hk,rfl,rfl⟩
      by_cases hlt:k<l.length
      · have hx:=JU Jf hlt
        have hd:decide ((k:Int)<(l.length:Int))=true:=by simp;omega
        have hc:=(hg l[k] (Vk _)).call trivial
        simp only[Jy,Va,Vb]at hc hx
        simp only[go_sem,hx,hd,Vv,Vc,Nat.reduceAdd,Nat.reduceEqDiff,Nat.reduceBEq,Nat.reduceLeDiff,reduceCtorEq,↓reduceIte]
        refine⟨by omega,JT rfl hc trivial ?_⟩
        simp only[go_sem,Vv,Vc,Nat.reduceAdd,Nat.reduceEqDiff,Nat.reduceBEq,Nat.reduceLeDiff,reduceCtorEq,↓reduceIte]
        refine⟨by simp,by simp;omega,l.length-(k+1),_,by omega,Wk.less ?_,k+1,by omega,rfl,rfl⟩
        rw[List.take_succ_eq_append_getElem hlt,Vw]
        simp only[go_sem,JE k (by omega),Va,Vb,Jy,Vv,Vc,Nat.reduceAdd,Nat.reduceEqDiff,Nat.reduceBEq,Nat.reduceLeDiff,reduceCtorEq,↓reduceIte]
      · have hd:decide ((k:Int)<(l.length:Int))=false:=by simp;omega
        obtain rfl:k=l.length:=by omega
        simp only[go_sem,hd,List.take_length,Vv,Vc,Nat.reduceAdd,Nat.reduceEqDiff,Nat.reduceBEq,Nat.reduceLeDiff,reduceCtorEq,↓reduceIte]
def JEj(s:Ste):Dat:=.agg [.str s.name,.int .i64 s.kind,.int .i64 s.number,.int .i64 s.time,.int .i64 s.limit,.str s.text,.str s.schema,Yj s.exprs,.list 6 (s.rules.map UR),.list 2 (s.calls.map JW),.list 2 (s.branches.map Jz)]
theorem q106(s:Ste):UD Tryz.prog 64 [JI s] (.d (JEj s)):=by
  refine JPq.con (k:=none) (Nat.le_of_ble_eq_true rfl) (by intro i o h;cases h) trivial ?_
  have h1:=(JON s.exprs fun x _=>p90 x).call trivial
  have h2:=(p91 s.rules).call trivial
  have h3:=(JGH s.calls fun x _=>JSC x).call trivial
  have h4:=(JJt s.branches fun x hx=>JN7 s.branches x hx).call trivial
  simp only[JD,Va,Vb]at h2
  have hcell:Dat.cells (Yj s.exprs)=[Yj s.exprs]∧Av.cells (.d (Yj s.exprs))=some [.d (Yj s.exprs)]:=by cases s.exprs<;>exact⟨rfl,rfl⟩
  obtain⟨g1,g2⟩:=hcell
  simp only[Dat.cells]at g1
  simp only[Av.cells]at g2
  unfold JEj
  generalize Yj s.exprs=E at*
  rw[JV]
  simp only[go_sem,JN4,Vv,Vc,Nat.reduceAdd,Nat.reduceEqDiff,Nat.reduceBEq,Nat.reduceLeDiff,reduceCtorEq,↓reduceIte]
  refine JT rfl h1 trivial ?_
  simp only[go_sem,g1,g2,Vv,Vc,Nat.reduceAdd,Nat.reduceEqDiff,Nat.reduceBEq,Nat.reduceLeDiff,reduceCtorEq,↓reduceIte]
  refine JT rfl h2 trivial ?_
  simp only[go_sem,Vv,Vc,Nat.reduceAdd,Nat.reduceEqDiff,Nat.reduceBEq,Nat.reduceLeDiff,reduceCtorEq,↓reduceIte]
  refine JT rfl h3 trivial ?_
  simp only[go_sem,Vv,Vc,Nat.reduceAdd,Nat.reduceEqDiff,Nat.reduceBEq,Nat.reduceLeDiff,reduceCtorEq,↓reduceIte]
  refine JT rfl h4 trivial ?_
  simp only[go_sem,Vv,Vc,Nat.reduceAdd,Nat.reduceEqDiff,Nat.reduceBEq,Nat.reduceLeDiff,reduceCtorEq,↓reduceIte]
def XT(x:Wlk):Dat:=.agg [.int .i64 x.route,.list 1 (x.place.map (.int .i64)),.str x.step.name,.int .i64 x.step.kind,.int .i64 x.step.number,.int .i64 x.step.time,.int .i64 x.step.limit,.str x.step.text,.str x.step.schema,Yj x.step.exprs,.list 6 (x.step.rules.map UR),.list 2 (x.step.calls.map JW),.list 2 (x.step.branches.map Jz)]
end Go.Proofs
namespace Av
open Go
variable [Glb][Rls]
section
variable {β:JN}{A:Nat→Prop}{w:World}{H:Heap}{D:Nat→Prop}
theorem Stp.boxSee(hc:Core β A w H){b:Nat}{cs cs':List Av}(hb:H b=some (.box cs))(hl:cs'.length=cs.length)
  (h:∀(i:Nat) c c' u,cs[i]? =some c→cs'[i]? =some c'→VRep β A w H c u→VRep β A w H c' u):Stp β A w H β A w (upd H b (some (.box cs'))):=by
 obtain⟨bb,C,T,e1,e2,e3,e4,e5⟩:=hc.objs b _ hb;have hset:w.setRow bb C=w:=Xh e2;have hst2:=Stp.JCv (cs':=cs') (C':=C) hc hb e1 e2 oM e4 (fun hall i c' v hc' hv'=>by
  have hlt:i<cs.length:=by have:=(VB.1 hc').1;omega
  exact hall _ _ (h i _ c' v (Vl hlt) hc' (e5 i _ v (Vl hlt) hv')))
 rw[hset]at hst2;exact hst2
end
theorem JQC{α:Type}{cs:List α}{j:Nat}{x y:α}(hj:cs[j]? =some x){i:Nat}{c c':α}(h1:cs[i]? =some c)(h2:(cs.set j y)[i]? =some c'):(i=j∧c=x∧c'=y)∨c'=c:=by
 rw[List.getElem?_set]at h2;split at h2
 ·rename_i e;subst e;split at h2
  ·cases h2;rw[hj]at h1;cases h1;exact .inl ⟨rfl,rfl,rfl⟩
  ·cases h2
 ·rw[h1]at h2;cases h2;exact .inr rfl
theorem Wk.JLc{D:Nat→Prop}{st:St}(b j i ver sz:Nat)(xs:List Dat)(cs:List Av)(hb:get st.hp b=some (.box cs))(hj:cs[j]? =some (.ms i ver))(hi:get st.hp i=some (.row ver sz xs)):
  Wk D st ⟨st.tm,put st.hp b (.box (cs.set j (.sub i ver 0 xs.length)))⟩:=by
 refine Wk.JBe fun β A w a hc htr=>?_
 have hst:=Stp.boxSee (cs':=cs.set j (.sub i ver 0 xs.length)) hc hb sP (fun n c c' u h1 h2 hv=>by
  rcases JQC hj h1 h2 with⟨_,rfl,rfl⟩|rfl
  ·exact hv.JFl hi
  ·exact hv)
 have e:get (put st.hp b (.box (cs.set j (.sub i ver 0 xs.length))))=upd (get st.hp) b (some (.box (cs.set j (.sub i ver 0 xs.length)))):=by
  funext m;rw[J9];unfold upd;split<;>rfl
 refine⟨β,A,?_,?_⟩
 ·rw[e];exact hst
 ·rw[e];intro t v hv;obtain⟨u,q1,q2⟩:=htr t v hv;exact⟨u,q1,hst.vals _ _ q2⟩
end Av
namespace Go.Proofs
open Go Av
variable {d:Nat}
theorem con84(v:Nat)(a:Dat)(r:List Dat)(ha:a.canon=a)(hr:JH r=r)(hl:r.length<68719476736)(h1:∀x∈a::r,x.cells.length=1):
  KT 84 [.ms 1000 v] [(1000,.row v 1 (a::r))] (.d (.list 1 (a::r))) []:=by
 refine ok84.con (k:=some false) (Nat.le_of_ble_eq_true rfl) (Jx (by simp[Je,J2])) trivial ?_;simp only[go_sem,ir84,Nat.reduceAdd,Nat.reduceEqDiff,Nat.reduceBEq,Nat.reduceLeDiff,reduceCtorEq,↓reduceIte];exact⟨sP,⟨dC,oM,fun y hy=>h1 y hy⟩,by rw[ha,hr]⟩
theorem call84(i v:Nat)(a:Int)(p:List Int)(hl:p.length<68719476736):CT (.fn 84) [.ms i v] [(i,some (.row v 1 (.int .i64 a::p.map (.int .i64))))] (.d (.list 1 (.int .i64 a::p.map (.int .i64)))) []:=by
 have h:=con84 v (.int .i64 a) (p.map (.int .i64)) (by simp[Dat.canon]) (U7 p) (sX hl) (fun x hx=>by
  rcases VA.1 hx with rfl|hx
  ·rfl
  ·obtain⟨n,_,rfl⟩:=VC.1 hx;rfl)
 have:=h.call (fun _=>i) (fun j hj=>by simp only[Av.get]at hj;split at hj;omega;cases hj) (fun a b ha hb _=>by
   simp only[JC,Av.get]at ha hb;split at ha
   ·split at hb
    ·omega
    ·cases hb
   ·cases ha) (by intro c hc;simp only[List.mem_singleton]at hc;subst hc;simp[JR,Av.get]) (Jx (by simp[Je,J2])) [] sP (Jm (by simp[Ux,put,Je,J2])) trivial
 simp[Av.ren,Obj.ren]at this;exact this
theorem JSf(v w:Nat)(r a:Int)(p:List Int)(s:Ste)(outs:List Wlk)(hl:p.length<68719476736)(hw:outs.length<68719476736):
  KT 122 [.ms 1006 v,.d (.ptr (JI s).cells),.ref 1004 0,.ref 1005 0] [(1004,.box [.ms 1007 w]),(1005,.box [.d (.int .i64 r)]),(1006,.row v 1 (.int .i64 a::p.map (.int .i64))),(1007,.row w 13 (outs.map XT))] (.tup [])
   [(1004,.box [.ms 1007 (w+1)]),(1007,.row (w+1) 13 ((outs++[Wlk.mk r (a::p) s]).map XT))]:=by
 refine ok122.con (k:=some false) (Nat.le_of_ble_eq_true rfl) (Jm (by simp[Ux,put,Je,J2,JS,JR,Av.get])) trivial ?_;have h1:=call84 1006 v a p hl;have h2:=(q106 s).call trivial;rw[JV]at h2⊢;simp only[JEj]at h2;simp only[go_sem,JRL,simprocAttr];refine JG rfl h1 ⟨rfl,trivial⟩ ?_;refine zz ?_;refine JG rfl h2 trivial ?_;simp only[go_sem,Vw,XT,simprocAttr];exact⟨sP,sO,rfl⟩
abbrev PO:=Nat×List Int×List Wlk
mutual
def JE4(r:Int):Ste→Int→Nat→PO→PO
 |.mk n k u t l x c e ru a b,i,d,s=>Xw r b 0 (d+1) (s.1+1,s.2.1.take d++[i],s.2.2++[Wlk.mk r (s.2.1.take d++[i]) (.mk n k u t l x c e ru a b)])
def UX(r:Int):List Ste→Int→Nat→PO→PO
 |[],_,_,s=>s
 |x::y,i,d,s=>UX r y (i+1) d (JE4 r x i d s)
def JE5(r:Int):Brn→Int→Nat→PO→PO
 |.mk w l,b,d,s=>UX r l 0 (d+1) (s.1+1,s.2.1.take d++[b],s.2.2)
def Xw(r:Int):List Brn→Int→Nat→PO→PO
 |[],_,_,s=>s
 |x::y,i,d,s=>Xw r y (i+1) d (JE5 r x i d s)
end
theorem JJz(r:Int)(x:Ste)(i:Int)(d:Nat)(s:PO):JE4 r x i d s=Xw r x.branches 0 (d+1) (s.1+1,s.2.1.take d++[i],s.2.2++[Wlk.mk r (s.2.1.take d++[i]) x]):=by
 cases x;simp only[JE4,Ste.branches]
theorem JJ0(r:Int)(x:Brn)(i:Int)(d:Nat)(s:PO):JE5 r x i d s=UX r x.steps 0 (d+1) (s.1+1,s.2.1.take d++[i],s.2.2):=by
 cases x;simp only[JE5,Brn.steps]
def ZG(d:Nat)(s t:PO):Prop:=d≤t.2.1.length∧t.2.1.take d=s.2.1.take d
theorem ZG.refl{s:PO}(h:d≤s.2.1.length):ZG d s s:=⟨h,rfl⟩
theorem ZG.trans{s t u:PO}(h1:ZG d s t)(h2:ZG d t u):ZG d s u:=⟨h2.1,h2.2.trans h1.2⟩
theorem ZG.less{s t:PO}{i:Int}{v:Nat}{o:List Wlk}(hd:d≤s.2.1.length)(h:ZG (d+1) (v,s.2.1.take d++[i],o) t):ZG d s t:=by
 obtain⟨h1,h2⟩:=h;refine⟨oM,?_⟩;have h3:=congrArg (List.take d) h2;rw[List.take_take,List.take_take]at h3;have e:min d (d+1)=d:=oM;rw[e]at h3;simp only[]at h3;rw[h3,List.take_append_of_le_length sO,List.take_take,Nat.min_self]
mutual
theorem JFe(r:Int):∀(x:Ste) (i:Int) (d:Nat) (s:PO),d≤s.2.1.length→ZG d s (JE4 r x i d s)
 |.mk n k u t l x c e ru a b,i,d,s,h=>by
  rw[JE4];exact ZG.less h (JEk r b 0 (d+1) _ sO)
theorem JAA(r:Int):∀(x:List Ste) (i:Int) (d:Nat) (s:PO),d≤s.2.1.length→ZG d s (UX r x i d s)
 |[],_,_,s,h=>.refl h
 |x::y,i,d,s,h=>(JFe r x i d s h).trans (JAA r y (i+1) d _ (JFe r x i d s h).1)
theorem JFf(r:Int):∀(x:Brn) (i:Int) (d:Nat) (s:PO),d≤s.2.1.length→ZG d s (JE5 r x i d s)
 |.mk w l,i,d,s,h=>by
  rw[JE5];exact ZG.less h (JAA r l 0 (d+1) _ sO)
theorem JEk(r:Int):∀(x:List Brn) (i:Int) (d:Nat) (s:PO),d≤s.2.1.length→ZG d s (Xw r x i d s)
 |[],_,_,s,h=>.refl h
 |x::y,i,d,s,h=>(JFf r x i d s h).trans (JEk r y (i+1) d _ (JFf r x i d s h).1)
end
mutual
theorem JOO(r:Int):∀(x:Ste) (i:Int) (d:Nat) (s:PO),(JE4 r x i d s).2.2.length≤s.2.2.length+szS x
 |.mk n k u t l x c e ru a b,i,d,s=>by
  rw[JE4,szS];have:=JFg r b 0 (d+1) (s.1+1,s.2.1.take d++[i],s.2.2++[Wlk.mk r (s.2.1.take d++[i]) (.mk n k u t l x c e ru a b)]);simp only[Vg,Vf,Vm]at this;omega
theorem JA7(r:Int):∀(x:List Ste) (i:Int) (d:Nat) (s:PO),(UX r x i d s).2.2.length≤s.2.2.length+J3 x
 |[],_,_,s=>by simp[UX]
 |x::y,i,d,s=>by
  rw[UX,J3];have h1:=JOO r x i d s;have h2:=JA7 r y (i+1) d (JE4 r x i d s);omega
theorem JOP(r:Int):∀(x:Brn) (i:Int) (d:Nat) (s:PO),(JE5 r x i d s).2.2.length≤s.2.2.length+szB x
 |.mk w l,i,d,s=>by
  rw[JE5,szB];have:=JA7 r l 0 (d+1) (s.1+1,s.2.1.take d++[i],s.2.2);simp only[]at this;omega
theorem JFg(r:Int):∀(x:List Brn) (i:Int) (d:Nat) (s:PO),(Xw r x i d s).2.2.length≤s.2.2.length+XN x
 |[],_,_,s=>by simp[Xw]
 |x::y,i,d,s=>by
  rw[Xw,XN];have h1:=JOP r x i d s;have h2:=JFg r y (i+1) d (JE5 r x i d s);omega
end
abbrev TV8(r:Int)(c:Av)(v:Nat)(xs:List Int)(o:List Wlk):List (Nat×Av.Obj):=[(1001,.box [c]),(1002,.box [.clo (.func 122) [] [.ref 1004 0,.ref 1005 0]]),(1003,.box [.clo (.func 118) [] [.ref 1001 0,.ref 1002 0,.ref 1003 0]]),
 (1004,.box [.ms 1007 o.length]),(1005,.box [.d (.int .i64 r)]),(1006,.row v 1 (xs.map (.int .i64))),(1007,.row o.length 13 (o.map XT))]
end Go.Proofs
namespace Go.Proofs
open Go Av
theorem YA(ds:List Dat):UN (fun i=>i) (ds.map .d)=ds.map .d:=by
 induction ds with
 |nil=>rfl
 |cons x r ih=>simp[UN,Av.ren,ih]
theorem JGM(r:Int)(v v':Nat)(xs xs':List Int)(o o':List Wlk)(c:Av)(n:Nat)(hc:c=.ms 1006 n∨∃k,c=.sub 1006 n 0 k):closed (JC (get (TV8 r (.ms 1006 v) v xs o)) (TV8 r c v' xs' o')):=by
 refine Jm ?_;rcases hc with rfl|⟨k,rfl⟩<;>simp[TV8,Ux,put,Je,J2,JS,JR,Ub,Av.get]
theorem JJ1{r:Int}{c:Av}{v:Nat}{xs:List Int}{o:List Wlk}{i:Nat}(h:(get (TV8 r c v xs o) i).isSome=true):1000≤i:=by
 simp only[TV8,Av.get]at h
 repeat' split at h
 all_goals first|(cases h;done)|omega
theorem XO(n:Nat)(h:0<n)(h2:n<9000000000000000000):IntKind.i64.wrap ((n:Int)-1)=((n-1:Nat):Int):=by
 rw[wrap64 oM oM];omega
theorem call122(v:Nat)(r:Int)(xs:List Int)(hx:0<xs.length)(s:Ste)(o:List Wlk)(c:Av)(hl:xs.length<68719476736)(hw:o.length<68719476736):
  CT (.fn 122) [.ms 1006 v,.d (.ptr (JI s).cells),.ref 1004 0,.ref 1005 0] [(1004,some (.box [.ms 1007 o.length])),(1005,some (.box [.d (.int .i64 r)])),(1006,some (.row v 1 (xs.map (.int .i64)))),(1007,some (.row o.length 13 (o.map XT)))] (.tup [])
   [(1004,.box [.ms 1007 (o.length+1)]),(1007,.row (o.length+1) 13 ((o++[Wlk.mk r xs s]).map XT))]:=by
 match xs,hx with
 |a::p,_=>
  have:=(JSf v o.length r a p s o (by simp at hl;omega) hw).call (fun i=>i) (fun i hi=>by
   simp only[Av.get]at hi
   repeat' split at hi
   all_goals first|(cases hi;done)|omega) (fun i j _ _ h=>h) (by simp[JR,Av.get]) (Jx (by simp[Je,J2,JS,JR,Av.get])) [] (by simp[Av.get]) (Jm (by simp[Ux,put,Je,J2,JS,JR,Av.get])) trivial
  simp only[Va,Vb,Obj.ren,Av.ren,UN,YA,List.append_nil]at this⊢;exact this
def JHm(r:Int)(l:List Ste):Prop:=∀(v:Nat) (xs:List Int) (o:List Wlk),xs.length+2*J3 l≤10000000000→o.length+J3 l≤10000000000→
 KT 118 [.d (.list 11 (l.map JI)),.ref 1001 0,.ref 1002 0,.ref 1003 0] (TV8 r (.ms 1006 v) v xs o) (.tup [])
  (TV8 r (.sub 1006 (UX r l 0 xs.length (v,xs,o)).1 0 xs.length) (UX r l 0 xs.length (v,xs,o)).1 (UX r l 0 xs.length (v,xs,o)).2.1 (UX r l 0 xs.length (v,xs,o)).2.2)
theorem call118{r:Int}{l:List Ste}(h:JHm r l)(v:Nat)(xs:List Int)(o:List Wlk)(h1:xs.length+2*J3 l≤10000000000)(h2:o.length+J3 l≤10000000000):
  CT (.fn 118) [.d (.list 11 (l.map JI)),.ref 1001 0,.ref 1002 0,.ref 1003 0] ((TV8 r (.ms 1006 v) v xs o).map fun x=>(x.1,some x.2)) (.tup [])
  (TV8 r (.sub 1006 (UX r l 0 xs.length (v,xs,o)).1 0 xs.length) (UX r l 0 xs.length (v,xs,o)).1 (UX r l 0 xs.length (v,xs,o)).2.1 (UX r l 0 xs.length (v,xs,o)).2.2):=by
 have:=(h v xs o h1 h2).call (fun i=>i) (fun i hi=>JJ1 hi) (fun i j _ _ h=>h) (by simp[JR,Av.get]) (Jx (by simp[Je,J2,JS,JR,Ub,Av.get])) [] (by simp[Av.get]) (JGM r v _ xs _ o _ _ _ (.inr ⟨_,rfl⟩)) trivial;simp only[TV8,Va,Vb,Obj.ren,Av.ren,UN,YA,List.append_nil]at this⊢;exact this
set_option maxHeartbeats 2000000 in
theorem JJ2(r:Int)(l:List Ste)(h:∀x∈l,∀b∈x.branches,JHm r b.steps):JHm r l:=by
 intro v xs o hx ho;refine Con.Ju JHl.has fun hfit=>?_
 have hl:l.length≤68719476736:=by have:=(hfit (.list 11 (l.map JI)) sP).1;simpa using this
 have hfs:∀x∈l,x.branches.length≤68719476736:=by
  intro x hxm;have:=Un.1 (hfit (.list 11 (l.map JI)) sP).2 _ (VC.2 ⟨x,hxm,rfl⟩);rw[JV]at this;simp only[fits,XW,Vc]at this;omega
 clear hfit;generalize hR:UX r l 0 xs.length (v,xs,o)=R;refine JHl.con (k:=some false) (Nat.le_of_ble_eq_true rfl) (JGM r v _ xs _ o _ _ _ (.inr ⟨_,rfl⟩)) trivial ?_;generalize hd:xs.length=d at*;simp only[TV8,go_sem,JJy,Vc,Nat.reduceAdd,Nat.reduceEqDiff,Nat.reduceBEq,Nat.reduceLeDiff,reduceCtorEq,↓reduceIte];refine JK (fun n st=>∃(k:Nat) (S:PO),k≤l.length∧n=l.length-k∧UX r (l.drop k) k d S=R∧d≤S.2.1.length∧S.2.2.length+J3 (l.drop k)≤10000000000∧
  st=⟨[(0,.d (.list 11 (l.map JI))),(1,.ref 1001 0),(2,.ref 1002 0),(3,.ref 1003 0),(8,.d (.int .i64 l.length)),(9,.d (.int .i64 k))],TV8 r (.sub 1006 S.1 0 d) S.1 S.2.1 S.2.2⟩) ?_ ?_
 ·refine⟨_,_,(Wk.JLc 1001 0 1006 v 1 (xs.map (.int .i64)) [.ms 1006 v] rfl rfl rfl).trans (Wk.less ?_),0,(v,xs,o),Nat.zero_le _,rfl,by simpa using hR,by simp[hd],by simpa using ho,rfl⟩;simp[go_sem,TV8,hd]
 ·rintro n st ⟨k,S,hk,rfl,hinv,hS,hb,rfl⟩;by_cases hlt:k<l.length
  ·have hn:=Zk hlt;have hdk:decide ((k:Int)<(l.length:Int))=true:=sO;have hbr:=hfs _ (Vk hlt);have hV:=h _ (Vk hlt);rw[Vq hlt,J3,JEZ]at hb;rw[Vq hlt,UX,JJz]at hinv;have hszd:szS l[k]≤J3 l:=JEa (Vk hlt);rw[JEZ]at hszd;have hdl:d+2*XN l[k].branches+2≤10000000000:=oM;generalize hX:l[k]=x at*;have hc:=call122 (S.1+1) r (S.2.1.take d++[(k:Int)]) sP x S.2.2 (.any) sO oM;rw[JV]at hc;simp only[Vw,List.map_take,Va,Vb]at hc;simp only[TV8,go_sem,hn,hdk,Vv,Vc,Nat.reduceAdd,Nat.reduceEqDiff,Nat.reduceBEq,Nat.reduceLeDiff,reduceCtorEq,↓reduceIte];refine⟨sP,⟨oM,oM⟩,⟨oM,oM⟩,JT rfl hc ⟨rfl,rfl,rfl,rfl,trivial⟩ ?_⟩;simp only[go_sem,hn,Vv,Vc,Nat.reduceAdd,Nat.reduceEqDiff,Nat.reduceBEq,Nat.reduceLeDiff,reduceCtorEq,↓reduceIte];refine⟨oM,dC,?_⟩;clear hc;generalize hbs:x.branches=bs at*;generalize hRB:Xw r bs 0 (d+1) _=RB at hinv;refine JK (fun n st=>∃(b:Nat) (T:PO),b≤bs.length∧n=bs.length-b∧Xw r (bs.drop b) b (d+1) T=RB∧d+1≤T.2.1.length∧T.2.2.length+XN (bs.drop b)+J3 (l.drop (k+1))≤10000000000∧
    st=⟨[(0,.d (.list 11 (l.map JI))),(1,.ref 1001 0),(2,.ref 1002 0),(3,.ref 1003 0),(8,.d (.int .i64 l.length)),(9,.d (.int .i64 k)),(5,.d (.int .i64 k)),(27,.d (.int .i64 bs.length)),(28,.d (.int .i64 b))],TV8 r (.sub 1006 T.1 0 (d+1)) T.1 T.2.1 T.2.2⟩) ?_ ?_
   ·refine⟨_,_,(Wk.JLc 1001 0 1006 (S.1+1) 1 _ [.ms 1006 (S.1+1)] rfl rfl rfl).trans (Wk.less ?_),0,(S.1+1,S.2.1.take d++[(k:Int)],S.2.2++[Wlk.mk r (S.2.1.take d++[(k:Int)]) x]),Nat.zero_le _,rfl,by simpa using hRB,sO,sO,rfl⟩;simp[go_sem,TV8];omega
   ·rintro n st ⟨b,T,hbk,rfl,hinv2,hT,hb2,rfl⟩;by_cases hbl:b<bs.length
    ·have hbn:=YS hbl;have hdb:decide ((b:Int)<(bs.length:Int))=true:=sO;have hVb:=hV _ (Vk hbl);have hszb:szB bs[b]≤XN bs:=JEb (Vk hbl);rw[Vq hbl,XN,JAm]at hb2;rw[Vq hbl,Xw,JJ0]at hinv2;rw[JAm]at hszb;generalize bs[b]=br at*;have hlen:(T.2.1.take (d+1)++[(b:Int)]).length=d+1+1:=sO;have hc2:=call118 hVb (T.1+1) (T.2.1.take (d+1)++[(b:Int)]) T.2.2 (by rw[hlen];omega) oM;rw[hlen]at hc2;have hU1:=JA7 r br.steps 0 (d+1+1) (T.1+1,T.2.1.take (d+1)++[(b:Int)],T.2.2);have hU2:=(JAA r br.steps 0 (d+1+1) (T.1+1,T.2.1.take (d+1)++[(b:Int)],T.2.2) (by show _≤List.length _;rw[hlen];omega)).1;generalize hU:UX r br.steps 0 (d+1+1) (T.1+1,T.2.1.take (d+1)++[(b:Int)],T.2.2)=U at*;simp only[TV8,Vw,List.map_take,Va,Vb]at hc2;simp only[TV8,go_sem,hn,hbn,hdb,hbs,Vv,Vc,Nat.reduceAdd,Nat.reduceEqDiff,Nat.reduceBEq,Nat.reduceLeDiff,reduceCtorEq,↓reduceIte];refine⟨sP,⟨oM,oM⟩,⟨oM,oM⟩,dC,⟨oM,oM⟩,dC,JT rfl hc2 ⟨rfl,rfl,rfl,rfl,rfl,rfl,rfl,trivial⟩ ?_⟩;have e2:min (d+1+1) U.2.1.length=d+1+1:=oM;have e3:IntKind.i64.wrap (((d+1+1:Nat):Int)-1)=((d+1:Nat):Int):=XO (d+2) oM oM;simp only[go_sem,List.length_take,Vc,List.drop_zero,e2,e3,Nat.reduceAdd,Nat.reduceEqDiff,Nat.reduceBEq,Nat.reduceLeDiff,reduceCtorEq,↓reduceIte];have e4:(((d+1:Nat):Int)-0).toNat=d+1:=oM;have e5:Int.toNat 0=0:=rfl;refine⟨⟨oM,oM,oM⟩,bs.length-(b+1),_,oM,Wk.less ?_,b+1,U,oM,rfl,by simpa using hinv2,oM,by simp only at hU1;omega,rfl⟩;simp only[go_sem,e4,e5,JE b oM,Nat.reduceAdd,Nat.reduceEqDiff,Nat.reduceBEq,Nat.reduceLeDiff,reduceCtorEq,↓reduceIte]
    ·have hdb:decide ((b:Int)<(bs.length:Int))=false:=sO;obtain rfl:b=bs.length:=oM;rw[List.drop_length,Xw]at hinv2;subst hinv2;rw[List.drop_length,XN]at hb2;have e2:min (d+1) T.2.1.length=d+1:=oM;have e3:IntKind.i64.wrap (((d+1:Nat):Int)-1)=((d:Nat):Int):=XO (d+1) oM oM;have e4:((d:Int)-0).toNat=d:=oM;have e5:Int.toNat 0=0:=rfl;simp only[TV8,go_sem,hdb,List.length_take,Vc,List.drop_zero,e2,e3,Nat.reduceAdd,Nat.reduceEqDiff,Nat.reduceBEq,Nat.reduceLeDiff,reduceCtorEq,↓reduceIte];refine⟨⟨oM,oM,oM⟩,l.length-(k+1),_,oM,Wk.less ?_,k+1,T,oM,rfl,by simpa using hinv,oM,oM,rfl⟩;simp only[go_sem,TV8,e4,e5,JE k oM,Nat.reduceAdd,Nat.reduceEqDiff,Nat.reduceBEq,Nat.reduceLeDiff,reduceCtorEq,↓reduceIte]
  ·have hdk:decide ((k:Int)<(l.length:Int))=false:=sO;obtain rfl:k=l.length:=oM;rw[List.drop_length,UX]at hinv;subst hinv;simp only[TV8,go_sem,hdk,Nat.reduceAdd,Nat.reduceEqDiff,Nat.reduceBEq,Nat.reduceLeDiff,reduceCtorEq,↓reduceIte]
mutual
theorem JOQ(r:Int):∀(l:List Ste),∀x∈l,∀b∈x.branches,JHm r b.steps
 |[],x,h,_,_=>by cases h
 |v::q,x,h,b,hb=>by
  by_cases e:x=v
  ·rw[e]at hb;exact v340S r v b hb
  ·exact JOQ r q x ((VA.1 h).resolve_left e) b hb
theorem v340S(r:Int):∀(x:Ste),∀b∈x.branches,JHm r b.steps
 |.mk n k u t l x c e ru a bs=>JOR r bs
theorem JOR(r:Int):∀(l:List Brn),∀b∈l,JHm r b.steps
 |[],b,h=>by cases h
 |v::q,b,h=>by
  by_cases e:b=v
  ·rw[e];exact v340B r v
  ·exact JOR r q b ((VA.1 h).resolve_left e)
theorem v340B(r:Int):∀(b:Brn),JHm r b.steps
 |.mk w s=>JJ2 r s (JOQ r s)
end
theorem w340(r:Int)(l:List Ste):JHm r l:=JJ2 r l (JOQ r l)
theorem JQ.JLb{P:Program}{f:Cee}{args:List Av}{T T':List (Nat×Option Av.Obj)}{v:Av}{ups:List (Nat×Av.Obj)}(h:JQ P f args T v ups)(hs:∀e∈T,e∈T'):JQ P f args T' v ups:=
 fun β A w H vs hT hc hv=>h β A w H vs (fun e he=>hT e (hs e he)) hc hv
def wk1(r:Int)(l:List Ste):List Wlk:=(UX r l 0 0 (0,[],[])).2.2
abbrev JE6(i:Nat):Nat:=if i=1001 then 4 else if i=1002 then 3 else if i=1003 then 5 else if i=1006 then 6 else i
theorem JHn{r:Int}{c:Av}{v:Nat}{xs:List Int}{o:List Wlk}{c':Av}{v':Nat}{xs':List Int}{o':List Wlk}{i:Nat}(h:(JC (get (TV8 r c v xs o)) (TV8 r c' v' xs' o') i).isSome=true):i=1001∨i=1002∨i=1003∨i=1004∨i=1005∨i=1006∨i=1007:=by
 refine Decidable.byContradiction fun hn=>?_
 simp only[not_or]at hn;obtain⟨a1,a2,a3,a4,a5,a6,a7⟩:=hn;simp[TV8,JC,upd,Av.get,a1,a2,a3,a4,a5,a6,a7,Ne.symm a1,Ne.symm a2,Ne.symm a3,Ne.symm a4,Ne.symm a5,Ne.symm a6,Ne.symm a7]at h
theorem JOS{i j:Nat}(hi:i=1001∨i=1002∨i=1003∨i=1004∨i=1005∨i=1006∨i=1007)(hj:j=1001∨j=1002∨j=1003∨j=1004∨j=1005∨j=1006∨j=1007)(h:JE6 i=JE6 j):i=j:=by
 rcases hi with rfl|rfl|rfl|rfl|rfl|rfl|rfl<;>rcases hj with rfl|rfl|rfl|rfl|rfl|rfl|rfl<;>first|rfl|(revert h;decide)
theorem JOT(r:Int)(l:List Ste)(hl:J3 l≤1000000000):
  ∃(v:Nat) (xs:List Int),CT (.fn 118) [.d (.list 11 (l.map JI)),.ref 4 0,.ref 3 0,.ref 5 0]
   [(4,some (.box [.d (.nil 1)])),(6,none),(3,some (.box [.clo (.func 122) [] [.ref 1004 0,.ref 1005 0]])),(5,some (.box [.clo (.func 118) [] [.ref 4 0,.ref 3 0,.ref 5 0]])),(1004,some (.box [.ms 1007 0])),(1005,some (.box [.d (.int .i64 r)])),(1007,some (.row 0 13 []))] (.tup [])
   [(4,.box [.sub 6 v 0 0]),(3,.box [.clo (.func 122) [] [.ref 1004 0,.ref 1005 0]]),(5,.box [.clo (.func 118) [] [.ref 4 0,.ref 3 0,.ref 5 0]]),(1004,.box [.ms 1007 (wk1 r l).length]),(1005,.box [.d (.int .i64 r)]),(6,.row v 1 (xs.map (.int .i64))),(1007,.row (wk1 r l).length 13 ((wk1 r l).map XT))]:=by
 have hw:=w340 r l 0 [] [] sO sO;simp only[Vm]at hw;unfold wk1;generalize UX r l 0 0 (0,[],[])=R at hw⊢;refine⟨R.1,R.2.1,?_⟩;have h:=hw.call JE6 (fun i hi=>JJ1 hi) (fun i j hi hj=>JOS (JHn hi) (JHn hj)) (by simp[JR,Av.get]) (Jx (by simp[Je,J2,JS,JR,Ub,Av.get])) [] (by simp[Av.get]) (JGM r 0 _ [] _ [] _ _ _ (.inr ⟨_,rfl⟩)) trivial;simp only[TV8,Va,Vb,Vm,Obj.ren,Av.ren,UN,JE6,YA,List.append_nil,Nat.reduceEqDiff,↓reduceIte]at h;refine JQ.JLb (JQ.JJH (j:=0) (JQ.JLb h ?_) ?_ dC rfl dC rfl rfl) (fun e he=>he)
 ·simp
 ·simp
abbrev TU(r:Int)(o:List Wlk):List (Nat×Av.Obj):=[(1004,.box [.ms 1007 o.length]),(1005,.box [.d (.int .i64 r)]),(1007,.row o.length 13 (o.map XT))]
theorem con65(r:Int)(l:List Ste)(hl:J3 l≤1000000000):
  KT 65 [.d (.list 11 (l.map JI)),.clo (.func 122) [] [.ref 1004 0,.ref 1005 0]] (TU r []) (.tup []) (TU r (wk1 r l)):=by
 refine ok65.con (k:=some false) (Nat.le_of_ble_eq_true rfl) (Jm (by simp[TU,Ux,put,Je,J2,JS,JR,Av.get])) trivial ?_;obtain⟨v,xs,hc⟩:=JOT r l hl;simp only[TU,go_sem,JSe,simprocAttr];refine JT rfl hc ⟨rfl,rfl,rfl,rfl,rfl,rfl,rfl,trivial⟩ ?_;exact zz trivial
theorem call65(r:Int)(l:List Ste)(hl:J3 l≤1000000000):
  CT (.fn 65) [.d (.list 11 (l.map JI)),.clo (.func 122) [] [.ref 5 0,.ref 3 0]] [(5,some (.box [.d (.nil 13)])),(7,none),(3,some (.box [.d (.int .i64 r)]))] (.tup [])
   [(5,.box [.ms 7 (wk1 r l).length]),(3,.box [.d (.int .i64 r)]),(7,.row (wk1 r l).length 13 ((wk1 r l).map XT))]:=by
 have hd:∀o i,(JC (get (TU r [])) (TU r o) i).isSome=true→i=1004∨i=1005∨i=1007:=by
  intro o i h;refine Decidable.byContradiction fun hn=>?_
  simp only[not_or]at hn;obtain⟨a1,a2,a3⟩:=hn;simp[TU,JC,upd,Av.get,a1,a2,a3,Ne.symm a1,Ne.symm a2,Ne.symm a3]at h
 have h:=(con65 r l hl).call (fun i=>if i=1004 then 5 else if i=1005 then 3 else if i=1007 then 7 else i) (fun i hi=>by
   simp only[TU,Av.get]at hi
   repeat' split at hi
   all_goals first|(cases hi;done)|omega) (fun i j hi hj h=>by
   rcases hd _ i hi with rfl|rfl|rfl<;>rcases hd _ j hj with rfl|rfl|rfl<;>first|rfl|(revert h;decide)) (by simp[JR,JS,Av.get]) (Jx (by simp[Je,J2,JS,JR,Ub,Av.get])) [] (by simp[Av.get])
   (Jm (by simp[TU,Ux,put,Je,J2,JS,JR,Av.get])) trivial
 simp only[TU,Va,Vb,Vm,Obj.ren,Av.ren,UN,YA,List.append_nil,Nat.reduceEqDiff,↓reduceIte]at h;refine JQ.JJH (j:=0) (JQ.JLb h ?_) ?_ dC rfl dC rfl rfl
 ·simp
 ·simp
theorem JSg(p:Prg)(r:Nat)(hr:r<p.routes.length)(hl:J3 p.routes[r].steps≤1000000000):UD Tryz.prog 73 [UA p,.int .i64 r] (.d (.list 13 ((wk1 r p.routes[r].steps).map XT))):=by
  refine ok73.con (k:=none) (Nat.le_of_ble_eq_true rfl) (by intro i o h;cases h) trivial ?_
  have hc:=call65 r p.routes[r].steps hl
  have hx:=JU Ue hr
  simp only[Ue]at hx
  generalize wk1 (r:Int) p.routes[r].steps=o at*
  simp only[go_sem,ir73,UA,hx,Vv,Vc,Nat.reduceAdd,Nat.reduceEqDiff,Nat.reduceBEq,Nat.reduceLeDiff,reduceCtorEq,↓reduceIte]
  refine⟨⟨by omega,by omega⟩,by decide,JT rfl hc ⟨rfl,rfl,rfl,trivial⟩ ?_⟩
  simp only[go_sem,Nat.reduceAdd,Nat.reduceEqDiff,Nat.reduceBEq,Nat.reduceLeDiff,reduceCtorEq,↓reduceIte]
def wkN(l:List Rou)(k:Nat):List Wlk:=(List.range k).flatMap fun i=>match l[i]? with|some x=>wk1 i x.steps|none=>[]
theorem JEl{l:List Rou}{k:Nat}(h:k<l.length):wkN l (k+1)=wkN l k++wk1 k l[k].steps:=by
 unfold wkN;rw[List.range_succ,List.flatMap_append];simp[Vl h]
def XK:List Rou→Nat
 |[]=>0
 |x::r=>J3 x.steps+XK r
theorem JHo:∀{l:List Rou} {x:Rou},x∈l→J3 x.steps≤XK l
 |v::r,s,h=>by
  rcases VA.1 h with rfl|h
  ·simp only[XK];omega
  ·have:=JHo h;simp only[XK];omega
theorem JDd(l:List Rou):∀k:Nat,k≤l.length→(wkN l k).length≤XK (l.take k)
 |0,_=>by simp[wkN]
 |k+1,h=>by
  rw[JEl oM,Vg,List.take_succ_eq_append_getElem oM];have h1:=JDd l k oM;have h2:(wk1 k l[k].steps).length≤J3 l[k].steps:=by
   have:=JA7 k l[k].steps 0 0 (0,[],[]);simpa[wk1]using this
  have h3:∀(a b:List Rou),XK (a++b)=XK a+XK b:=by
   intro a b
   induction a with
   |nil=>simp[XK]
   |cons x r ih=>simp only[List.cons_append,XK,ih];omega
  rw[h3];simp only[XK];omega
theorem Zl:∀(l:List Rou) (k:Nat),XK (l.take k)≤XK l
 |[],k=>by simp
 |x::r,0=>by simp[XK]
 |x::r,k+1=>by
  have:=Zl r k;simp only[List.take_succ_cons,XK];omega
theorem JSh(p:Prg)(hl:XK p.routes≤1000000000):UD Tryz.prog 39 [UA p] (.d (.list 13 ((wkN p.routes p.routes.length).map XT))):=by
  refine UD.Ju ok39.has fun hfit=>?_
  have hn:p.routes.length≤68719476736:=by
    have:=hfit _ (Vh)
    simp only[UA,fits,XW,Vc]at this
    omega
  clear hfit
  refine ok39.con (k:=none) (Nat.le_of_ble_eq_true rfl) (by intro i o h;cases h) trivial ?_
  simp only[go_sem,ir39,UA,Vc,Nat.reduceAdd,Nat.reduceEqDiff,Nat.reduceBEq,Nat.reduceLeDiff,reduceCtorEq,↓reduceIte]
  refine JK (fun n st=>∃k:Nat,k≤p.routes.length∧n=p.routes.length-k∧
    st=⟨[(1,.ref 1 0),(3,.ms 15 k),(7,.d (.int .i64 p.routes.length)),(8,.d (.int .i64 k))],
      [(1,.box [.d (.int .i64 p.version),.d (.list 9 (p.schemas.map Uc)),.d (.list 7 (p.endpoints.map J8)),.d (.list 4 (p.services.map Uk)),.d (.list 3 (p.routes.map Ue))]),(15,.row k 13 ((wkN p.routes k).map XT))]⟩) ?_ ?_
  · refine⟨_,_,(Wk.JEv 3 15 13 rfl rfl (by decide)).trans (Wk.less ?_),0,Nat.zero_le _,rfl,rfl⟩
    simp[put,go_sem,wkN]
  · rintro n st ⟨k,hk,rfl,rfl⟩
    by_cases hlt:k<p.routes.length
    · have hd:decide ((k:Int)<(p.routes.length:Int))=true:=by simp;omega
      have hsz:J3 p.routes[k].steps≤XK p.routes:=JHo (Vk hlt)
      have hc:=(JSg p k hlt (by omega)).call trivial
      have hln:=JDd p.routes (k+1) (by omega)
      have htk:=Zl p.routes (k+1)
      rw[JEl hlt,Vg]at hln
      simp only[UA]at hc
      simp only[go_sem,hd,Nat.reduceAdd,Nat.reduceEqDiff,Nat.reduceBEq,Nat.reduceLeDiff,reduceCtorEq,↓reduceIte]
      refine JT rfl hc trivial ?_
      simp only[go_sem,Nat.reduceAdd,Nat.reduceEqDiff,Nat.reduceBEq,Nat.reduceLeDiff,reduceCtorEq,↓reduceIte]
      refine⟨by simp;omega,p.routes.length-(k+1),_,by omega,Wk.less ?_,k+1,by omega,rfl,rfl⟩
      rw[JEl hlt,Vw]
      simp only[go_sem,JE k (by omega),Nat.reduceAdd,Nat.reduceEqDiff,Nat.reduceBEq,Nat.reduceLeDiff,reduceCtorEq,↓reduceIte]
    · have hd:decide ((k:Int)<(p.routes.length:Int))=false:=by simp;omega
      obtain rfl:k=p.routes.length:=by omega
      simp only[go_sem,hd,Nat.reduceAdd,Nat.reduceEqDiff,Nat.reduceBEq,Nat.reduceLeDiff,reduceCtorEq,↓reduceIte]
end Go.Proofs
namespace Go.Proofs
open Go Av
open Av.Y
end Go.Proofs
namespace Go.Proofs
open Go Av
open Av.Y
end Go.Proofs
namespace Go.Proofs
open Go Av
end Go.Proofs
namespace Go.Proofs
open Go Av
open Av.Y
end Go.Proofs
namespace Go.Proofs
open Go Av
end Go.Proofs
namespace Go.Proofs
open Go Av Go.RowKit
end Go.Proofs
namespace Go.Proofs
open Go.Shelf
end Go.Proofs
namespace Go.Proofs
open Go Av
open Av.Y
end Go.Proofs
namespace Go.Proofs
open Go Av Go.RowKit
end Go.Proofs
namespace Go.Proofs
open Go Av
theorem JGN{o1 o2:Av.Obj}{i:Nat}(h:(get [(1000,o1),(1001,o2)] i).isSome=true):i=1000∨i=1001:=by
 simp only[Av.get]at h;split at h
 ·rename_i e;exact .inl e.symm
 ·split at h
  ·rename_i e;exact .inr e.symm
  ·cases h
theorem Con.two{P:Program}{f:Nat}{args:List Av}{o1 o2:Av.Obj}{r:Dat}(h:Con P f args [(1000,o1),(1001,o2)] (.d r) [])(i j:Nat)(hij:i≠j)
  (hargs:∀c∈args,inT (get [(1000,o1),(1001,o2)]) c)(hcl:closed (get [(1000,o1),(1001,o2)])):
  JQ P f (args.map (Av.ren fun n=>if n=1000 then i else j)) [(i,some (o1.ren fun n=>if n=1000 then i else j)),(j,some (o2.ren fun n=>if n=1000 then i else j))] (.d r) []:=by
 have:=h.call (fun n=>if n=1000 then i else j) (fun k hk=>by rcases JGN hk with rfl|rfl<;>decide) (fun a b ha hb e=>?_) hargs hcl [] sP hcl trivial
 ·simpa[Av.ren]using this
 ·rcases JGN ha with rfl|rfl<;>rcases JGN hb with rfl|rfl
  ·rfl
  ·simp at e;exact absurd e hij
  ·simp at e;exact absurd e.symm hij
  ·rfl
end Go.Proofs
namespace Go.Proofs
open Go.Shelf
end Go.Proofs
namespace Go.Proofs
open Go Av
end Go.Proofs
namespace Go.Proofs
open Go Av Go.RowKit
end Go.Proofs
namespace Go.Proofs
open Go Av
end Go.Proofs
namespace Go.Proofs
open Go Av Go.RowKit Go.Shelf
end Go.Proofs
namespace Av
open Go
end Av
namespace Go.Proofs
open Go Av Go.RowKit Go.Shelf
theorem JHp{α:Type}{l:List α}{m j:Nat}{v:α}(h:(l.take m)[j]? =some v):l[j]? =some v:=by
 rw[List.getElem?_take]at h;split at h
 ·exact h
 ·cases h
end Go.Proofs
namespace Go.Proofs
open Go Av Go.RowKit Go.Shelf
variable {A:Nat→Prop}{w:World}{F:List Dat}{V:List Value}
def Pt(A:Nat→Prop)(w:World)(F:List Dat)(V:List Value):Prop:=F.length=V.length∧∀(j:Nat) c v,F[j]? =some c→V[j]? =some v→Rep A w c v∧v.oneCell'=true
theorem Pt.app{F':List Dat}{V':List Value}(h:Pt A w F V)(h':Pt A w F' V'):Pt A w (F++F') (V++V'):=by
 refine⟨by rw[Vg,Vg,h.1,h'.1],fun j c v hc hv=>?_⟩;by_cases hj:j<F.length
 ·rw[Vz hj]at hc;rw[Vz (by rw[←h.1];exact hj)]at hv;exact h.2 j c v hc hv
 ·rw[Vy oM]at hc;rw[Vy (by rw[←h.1];omega),←h.1]at hv;exact h'.2 _ c v hc hv
theorem Pt.take(h:Pt A w F V)(k:Nat):Pt A w (F.take k) (V.take k):=
 ⟨by simp[h.1],fun j c v hc hv=>h.2 j c v (JHp hc) (JHp hv)⟩
theorem Pt.drop(h:Pt A w F V)(k:Nat):Pt A w (F.drop k) (V.drop k):=
 ⟨by simp[h.1],fun j c v hc hv=>by
  rw[List.getElem?_drop]at hc hv;exact h.2 _ c v hc hv⟩
theorem Pt.one{R:List Value}(h:Pt A w F V)(j:Nat)(v:Value)(hj:j<F.length)(hv:((V++R).toArray)[j]? =some v):v.oneCell'=true:=by
 rw[List.getElem?_toArray,Vz (by rw[←h.1];exact hj)]at hv;exact(h.2 j _ v (Vl hj) hv).2
theorem Pt.rep{R:List Value}(h:Pt A w F V)(j:Nat)(c:Dat)(v:Value)(hc:F[j]? =some c)(hv:((V++R).toArray)[j]? =some v):Rep A w c v:=by
 have hj:j<F.length:=(VB.1 hc).1;rw[List.getElem?_toArray,Vz (by rw[←h.1];exact hj)]at hv;exact(h.2 j c v hc hv).1
end Go.Proofs
namespace Go.Proofs
open Go Av
open Av.Y
end Go.Proofs
namespace Go.Proofs
open Go Av
end Go.Proofs
namespace Go.Proofs
open Go.Shelf
end Go.Proofs
namespace Go.Proofs
open Go Av Go.RowKit
end Go.Proofs
namespace Go.Proofs
open Go Av
def JGn(a b:Int):Typ:=.mk 2 a b 0 [] [] []
def recG(k:Nat)(p:Str×Typ):TFl:=.mk ((k:Int)+1) p.1 1 p.2 []
def JRM:Nat→List (Str×Typ)→List TFl
 |_,[]=>[]
 |k,p::r=>recG k p::JRM (k+1) r
def recT(l:List (Str×Typ)):Typ:=.mk 9 0 0 0 [] [] (JRM 0 l)
@[instance_reducible] def rls0:Rls:={rl:=fun _=>false}
def sBody:Str:=[98,111,100,121]
def JSi:Str:=[114,101,112,108,121]
def JMQ(b x:Typ):Typ:=recT [(sBody,b),(JSi,x)]
end Go.Proofs
namespace Go.Proofs
open Go Av
open Av.Y
end Go.Proofs
namespace Go.Proofs
open Go Av
structure Lim where
 name:Str
 low:Int
 high:Int
 bounds:Bool
 scale:Bool
 text:Bool
 list:Bool
 fields:Bool
theorem JQ.datA{P:Program}[Glb]{f:Nat}{vs:List Av}{hp u:List (Nat×Av.Obj)}{ds:List Dat}{v:Av}{p:Prop}(hd:Jk (Av.get hp) vs=some (p,ds,u))(hp0:p)(h:JQ P (.fn f) (ds.map .d) [] v []):
  JQ P (.fn f) vs ((vs.flatMap JAM).map fun i=>(i,Av.get hp i)) v u:=by
 intro β A w H us hT hc hvs;have heq:Jk H vs=some (p,ds,u):=by
  rw[←hd];refine YJ fun x hx=>?_
  exact hT (x,Av.get hp x) (VC.2 ⟨x,hx,rfl⟩)
 obtain⟨A1,s1,l1,r1,m1⟩:=U5 hc heq hp0 (us:=us.toList) (sX hvs.1) (fun k c u h1 h2=>hvs.2 k c u h1 (sX h2));refine(h β A1 w (JC H u) us (by intro e he;cases he) s1.core ⟨by simpa using l1,fun k c u h1 h2=>?_⟩).mono ?_
 ·rw[Vo]at h1;cases e:ds[k]? with
  |none=>simp[e]at h1
  |some x=>
   simp only[e,Vj,Vd]at h1;subst h1;exact .d _ _ (r1 k x u e (sX h2))
 ·rintro v' w' ⟨β',A',q1,q2⟩;exact⟨β',A',s1.trans q1,q2⟩
@[instance_reducible] def rls7:Rls:={rl:=fun n=>n==1||n==7}
@[instance_reducible] def rls8:Rls:={rl:=fun n=>n==8}
def orS(a b:Str):Str:=if a==[]then b else a
theorem JSj(a b:Str):PT 67 [.list 1 [.str a,.str b]] (.d (.str (orS a b))):=by
 refine ok67.pc ?_;simp only[go_sem,ir67,Nat.reduceAdd,Nat.reduceEqDiff,Nat.reduceBEq,Nat.reduceLeDiff,reduceCtorEq,↓reduceIte];refine JK (fun r st=>∃k:Nat,k≤2∧r=2-k∧(0<k→a=[])∧(1<k→b=[])∧
  st=⟨[(3,.d (.str [])),(6,.d (.list 1 [.str a,.str b])),(7,.d (.int .i64 2)),(8,.d (.int .i64 k))],[]⟩) ?_ ?_
 ·refine⟨_,_,Wk.less ?_,0,oM,rfl,oM,oM,rfl⟩;simp[go_sem]
 ·rintro r st ⟨k,hk,rfl,h0,h1,rfl⟩;obtain rfl|rfl|rfl:k=0∨k=1∨k=2:=oM
  ·have e0:((0:Nat):Int)=0:=rfl;have e1:decide ((0:Int)<2)=true:=rfl;have e2:(0:Int).toNat=0:=rfl;have e3:nth [Dat.str a,Dat.str b] 0=.str a:=rfl;simp only[go_sem,e0,e1,e2,e3,Nat.reduceAdd,Nat.reduceEqDiff,Nat.reduceBEq,Nat.reduceLeDiff,reduceCtorEq,↓reduceIte];refine⟨dC,dC,fun h=>?_,fun h=>?_⟩
   ·have:(a==[])=false:=sX h;simp only[go_sem,orS,this,Nat.reduceAdd,Nat.reduceEqDiff,Nat.reduceBEq,Nat.reduceLeDiff,reduceCtorEq,↓reduceIte]
   ·have:a=[]:=sX h;refine⟨1,_,oM,Wk.less ?_,1,oM,rfl,fun _=>this,oM,rfl⟩;simp[go_sem];decide
  ·have e0:((1:Nat):Int)=1:=rfl;have e1:decide ((1:Int)<2)=true:=rfl;have e2:(1:Int).toNat=1:=rfl;have e3:nth [Dat.str a,Dat.str b] 1=.str b:=rfl;obtain rfl:=h0 oM;simp only[go_sem,e0,e1,e2,e3,Nat.reduceAdd,Nat.reduceEqDiff,Nat.reduceBEq,Nat.reduceLeDiff,reduceCtorEq,↓reduceIte];refine⟨dC,dC,fun h=>?_,fun h=>?_⟩
   ·simp[orS]
   ·have hb:b=[]:=sX h;refine⟨0,_,oM,Wk.less ?_,2,oM,rfl,fun _=>hb,rfl⟩;simp[go_sem];decide
  ·have e0:((2:Nat):Int)=2:=rfl;have e1:decide ((2:Int)<2)=false:=rfl;have e2:(2:Int).toNat=2:=rfl;obtain rfl:=h0 oM;obtain rfl:=h1 oM;simp only[go_sem,e0,e1,Nat.reduceAdd,Nat.reduceEqDiff,Nat.reduceBEq,Nat.reduceLeDiff,reduceCtorEq,↓reduceIte];simp[orS]
def CL(f:Nat)(caps:List Dat)(φ:List Dat→List Dat):Prop:=∀x0 x1 x2 x3 x4 x5 x6 x7 x8 x9 x10:Dat,
 KT f (.ref 1000 0::caps.map .d) [(1000,.box ([x0,x1,x2,x3,x4,x5,x6,x7,x8,x9,x10].map .d))] (.tup []) [(1000,.box ((φ [x0,x1,x2,x3,x4,x5,x6,x7,x8,x9,x10]).map .d))]
theorem CL.gen{f:Nat}{caps:List Dat}{φ:List Dat→List Dat}(h:CL f caps φ){xs:List Dat}(hx:xs.length=11):
  KT f (.ref 1000 0::caps.map .d) [(1000,.box (xs.map .d))] (.tup []) [(1000,.box ((φ xs).map .d))]:=by
 match xs,hx with
 |[x0,x1,x2,x3,x4,x5,x6,x7,x8,x9,x10],_=>exact h x0 x1 x2 x3 x4 x5 x6 x7 x8 x9 x10
end Go.Proofs
namespace Go.Proofs
open Go Av
open Av.Y
end Go.Proofs
namespace Go.Proofs
open Go Av
mutual
def szT:Typ→Nat
 |.mk _ _ _ _ _ e f=>1+szTs e+szGs f
def szTs:List Typ→Nat
 |[]=>0
 |v::r=>szT v+szTs r
def szGs:List TFl→Nat
 |[]=>0
 |.mk _ _ _ t _::r=>szT t+szGs r
end
end Go.Proofs
namespace Go.Proofs
open Go Av
open Av.Y
end Go.Proofs
namespace Go.Proofs
open Go Av
abbrev TF(b:Bool):List (Nat×Av.Obj):=[(1000,.box [.clo (.func 0) [] [.ref 1001 0],.d (.bool (!b))]),(1001,.box [.d (.bool b)])]
theorem JOU(b c:Bool):closed (JC (Av.get (TF b)) (TF c)):=by
 refine Jm ?_;simp[TF,Ux,put,Je,J2,JS,JR,Av.get]
theorem JOV(b:Bool):closed (Av.get (TF b)):=by
 refine Jx ?_;simp[TF,Je,J2,JS,JR,Av.get]
theorem JIw{b:Bool}{i:Nat}(h:(Av.get (TF b) i).isSome=true):i=1000∨i=1001:=by
 simp only[TF,Av.get]at h
 repeat' split at h
 all_goals first|(cases h;done)|skip
 all_goals rename_i e
 all_goals first|omega|skip
theorem JSk(b c:Bool):Ux (TF b) (TF c)=TF c:=by simp[TF,Ux,put]
theorem JQD(b c:Bool):JC (Av.get (TF b)) (TF c)=Av.get (TF c):=by rw[←Uz,JSk]
abbrev FCon(f:Nat)(ds:List Dat)(b c:Bool):Prop:=KT f (.ref 1000 0::ds.map .d) (TF b) (.tup []) (TF c)
theorem FCon.at{f:Nat}{ds:List Dat}{b c:Bool}(h:FCon f ds b c)(i j:Nat)(hij:i≠j):
  CT f (.ref i 0::ds.map .d) [(i,some (.box [.clo (.func 0) [] [.ref j 0],.d (.bool (!b))])),(j,some (.box [.d (.bool b)]))] (.tup []) [(i,.box [.clo (.func 0) [] [.ref j 0],.d (.bool (!c))]),(j,.box [.d (.bool c)])]:=by
 have:=Con.call h (fun m=>if m=1000 then i else j) (fun m hm=>by rcases JIw hm with rfl|rfl<;>omega)
  (fun a b' ha hb e=>by
   rw[JQD]at ha hb;rcases JIw ha with rfl|rfl<;>rcases JIw hb with rfl|rfl
   ·rfl
   ·simp at e;exact absurd e hij
   ·simp at e;exact absurd e.symm hij
   ·rfl)
  (by
   intro c hc;rcases VA.1 hc with rfl|hc
   ·simp[inT,TF,Av.get,JR]
   ·obtain⟨x,_,rfl⟩:=VC.1 hc;trivial) (JOV b) [] (by simp[TF,Av.get]) (JOU b c) trivial
 have e:(ds.map Av.d).map (Av.ren fun m=>if m=1000 then i else j)=ds.map Av.d:=by
  rw[List.map_map];exact List.map_congr_left fun x _=>by simp[Av.ren]
 simp only[TF,Va,Vb,Obj.ren,Av.ren,UN,List.append_nil,e,simprocAttr]at this;exact this
def inB(t:Typ)(n:Int):Bool:= !(decide (n<t.min)||decide (n>t.max))
def JRN(w:Val):Prop:=w.list=[]∧w.fields=[]
mutual
def nmV:Val→Prop
 |.mk _ _ _ _ l f=>JSl l∧JSm f
def JSl:List Val→Prop
 |[]=>True
 |v::r=>nmV v∧JSl r
def JSm:List Fld→Prop
 |[]=>True
 |.mk n v::r=>n.length≤4096∧nmV v∧JSm r
end
theorem JSn(v:Val):nmV v↔JSl v.list∧JSm v.fields:=by cases v;rfl
theorem JQE{v:Val}(h1:v.list=[]∧v.fields=[]):nmV v:=by
 rw[JSn,h1.1,h1.2];exact⟨trivial,trivial⟩
theorem JQF{w:Val}(h:JRN w):szV w≤1000000:=by
 rw[JSX,h.1,h.2];simp[JP2,JP3]
def JRO(B:Nat)(v:Val):Prop:=szV v≤1000000∧v.text.length≤B∧nmV v
theorem JRO.flat{B:Nat}{v:Val}(h:JRN v)(ht:v.text=[]):JRO B v:=⟨JQF h,by rw[ht];exact Nat.zero_le _,JQE h⟩
end Go.Proofs
namespace Go.Proofs
open Go Av
open Av.Y
end Go.Proofs
namespace Go.Proofs
open Go Av
theorem JIx(a b:Str)(r:List Str)(sep:Str):Lib.join (a::b::r) sep=a++(sep++Lib.join (b::r) sep):=by
 simp[Lib.join,List.intercalate,List.intersperse]
theorem join_one(a:Str)(sep:Str):Lib.join [a] sep=a:=by simp[Lib.join,List.intercalate]
theorem JHq(sep:Str)(M:Nat):∀ss:List Str,(∀s∈ss,s.length≤M)→(Lib.join ss sep).length≤ss.length*(M+sep.length)
 |[],_=>by simp[Lib.join,List.intercalate]
 |[a],h=>by
  rw[join_one];have:=h a (List.mem_singleton.2 rfl);simp only[List.length_singleton];omega
 |a::b::r,h=>by
  rw[JIx];have h1:=h a Vh;have h2:=JHq sep M (b::r) (fun s hs=>h s (Vn _ hs));simp only[Vg,Vf]at h2⊢;rw[Nat.add_mul (r.length+1) 1];omega
def ZV(l:List Int):List Str:=l.map Lib.itoa
def JJ3(l:List Int):Prop:=∀n∈l,-9223372036854775808≤n∧n≤9223372036854775807
theorem JFh{l:List Int}(h:JJ3 l)(sep:Str)(hs:sep.length≤1):(Lib.join (ZV l) sep).length≤l.length*22:=by
 have:=JHq sep 21 (ZV l) (fun s hs=>by
  obtain⟨n,hn,rfl⟩:=VC.1 hs;exact Lib.itoa_length_le n (h n hn).1 (h n hn).2)
 have e:(ZV l).length=l.length:=by simp[ZV]
 rw[e]at this;refine Nat.le_trans this (Nat.mul_le_mul_left _ oM)
theorem JFi{l:List Int}(h:fits (.list 1 (l.map (.int .i64)))):JJ3 l:=by
 intro n hn;have:=Un.1 h.2 (.int .i64 n) (VC.2 ⟨n,hn,rfl⟩);have e1:IntKind.i64.min= -9223372036854775808:=dC;have e2:IntKind.i64.max=9223372036854775807:=dC;simpa only[fits,e1,e2]using this
theorem fits_int{n:Int}(h:fits (.int .i64 n)): -9223372036854775808≤n∧n≤9223372036854775807:=by
 have e1:IntKind.i64.min= -9223372036854775808:=dC;have e2:IntKind.i64.max=9223372036854775807:=dC;simpa only[fits,e1,e2]using h
theorem JQG(l:List Int)(hne:l≠[])(hl:l.length≤1000000000)(sep:Str)(hs:sep.length≤1):PT 119 [.list 1 (l.map (.int .i64)),.str sep] (.d (.str (Lib.join (ZV l) sep))):=by
 refine UD.Ju JRI.has fun hfit=>?_
 have hok:JJ3 l:=JFi (hfit _ (Vh));clear hfit;refine JRI.pc ?_;have hj:=JJp (ZV l) sep (by simpa[ZV]using hne) (by have:=JFh hok sep hs;omega);simp only[go_sem,JRH,Vc,simprocAttr];refine JK (fun n s=>∃k:Nat,k≤l.length∧n=l.length-k∧
  s=⟨[(1,.d (.str sep)),(5,.ms 18 k),(8,.d (.list 1 (l.map (.int .i64)))),(9,.d (.int .i64 l.length)),(10,.d (.int .i64 k))],[(18,.row k 1 ((ZV (l.take k)).map .str))]⟩) ?_ ?_
 ·refine⟨_,_,(Wk.JEv 5 18 1 rfl rfl dC).trans (Wk.less ?_),0,Nat.zero_le _,rfl,rfl⟩;simp[put,go_sem,ZV]
 ·rintro n s ⟨k,hk,rfl,rfl⟩;by_cases hlt:k<l.length
  ·have hx:=JU (fun n=>Dat.int .i64 n) hlt;have hd:=dT hlt;have hc:=call195 l[k] (hok _ (Vk hlt)).1 (hok _ (Vk hlt)).2;refine zz6 ?_;refine⟨oM,dC,wn hc ?_⟩;refine zz ?_;refine⟨sP,by simp[ZV];omega,l.length-(k+1),_,oM,Wk.less ?_,k+1,oM,rfl,rfl⟩;rw[List.take_succ_eq_append_getElem hlt];simp only[go_sem,ZV,JE k oM,Vw,Va,Vb,simprocAttr]
  ·have hd:=dF hlt;obtain rfl:k=l.length:=oM;have hc2:=JQ.datA (hp:=[(18,.row l.length 1 ((ZV (l.take l.length)).map .str))]) (vs:=[.ms 18 l.length,.d (.str sep)]) rfl ⟨rfl,trivial,trivial⟩ (by rw[List.take_length];exact hj);refine zz5 ?_;refine wc hc2 trivial
def JCL(r:Int)(l:List Int):Str:=115::Lib.join (ZV (r::l)) [95]
theorem JSo(r:Int)(l:List Int)(hl:l.length≤500000000):PT 68 [.int .i64 r,.list 1 (l.map (.int .i64))] (.d (.str (JCL r l))):=by
 refine UD.Ju ok68.has fun hfit=>?_
 have hb:(Lib.join (ZV (r::l)) [95]).length≤68719476735:=by
  have h0:JJ3 (r::l):=fun n hn=>by
   rcases VA.1 hn with rfl|hn
   ·exact fits_int (hfit _ (Vh))
   ·exact JFi (hfit (.list 1 (l.map (.int .i64))) sP) n hn
  have:=JFh h0 [95] dC;simp only[Vf]at this;omega
 refine ok68.pc ?_;have hc:=(JQG (r::l) sP sO [95] dC).call trivial;have hc2:=JQ.datA (hp:=[(6,.row 1 1 (.int .i64 r::l.map (.int .i64)))]) (vs:=[.ms 6 1,.d (.str [95])]) rfl ⟨rfl,trivial,trivial⟩ hc;simp only[go_sem,ir68,simprocAttr];refine⟨sP,sO,wn hc2 ?_⟩;simp only[go_sem,JCL,hb,simprocAttr]
mutual
def owS:Ste→Dat
 |.mk n k u t l x c e r a b=>.agg [.str n,.int .i64 k,.int .i64 u,.int .i64 t,.int .i64 l,.str x,.str c,.list 5 (e.map Jf),.list 6 (r.map UR),.list 2 (a.map JW),match b with|[]=>.nil 2|y::q=>.own 2 (owB y::JGP q)]
def JGO:List Ste→List Dat
 |[]=>[]
 |v::r=>owS v::JGO r
def owB:Brn→Dat
 |.mk w s=>.agg [.list 5 (w.map Jf),match s with|[]=>.nil 11|y::q=>.own 11 (owS y::JGO q)]
def JGP:List Brn→List Dat
 |[]=>[]
 |v::r=>owB v::JGP r
end
theorem JEm:∀l:List Ste,JGO l=l.map owS
 |[]=>by simp[JGO]
 |v::r=>by simp[JGO,JEm r]
theorem JHr:∀l:List Brn,JGP l=l.map owB
 |[]=>by simp[JGP]
 |v::r=>by simp[JGP,JHr r]
def JDR(l:List Ste):Dat:=match l with|[]=>.nil 11|_=>.own 11 (l.map owS)
def JOW(l:List Brn):Dat:=match l with|[]=>.nil 2|_=>.own 2 (l.map owB)
theorem Xd(s:Ste):owS s=.agg [.str s.name,.int .i64 s.kind,.int .i64 s.number,.int .i64 s.time,.int .i64 s.limit,.str s.text,.str s.schema,.list 5 (s.exprs.map Jf),.list 6 (s.rules.map UR),.list 2 (s.calls.map JW),JOW s.branches]:=by
 obtain⟨n,k,u,t,l,x,c,e,r,a,b⟩:=s;cases b<;>simp[owS,JOW,JHr,Ste.name,Ste.kind,Ste.number,Ste.time,Ste.limit,Ste.text,Ste.schema,Ste.exprs,Ste.rules,Ste.calls,Ste.branches]
theorem JAB(b:Brn):owB b=.agg [.list 5 (b.cond.map Jf),JDR b.steps]:=by
 obtain⟨w,s⟩:=b;cases s<;>simp[owB,JDR,JEm,Brn.cond,Brn.steps]
theorem JA8(x:Dat)(r:List Dat):Dat.dat.datL (x::r)=x.dat::Dat.dat.datL r:=by rw[XG,XG];rfl
mutual
theorem JQH:∀s:Ste,(owS s).dat.canon=JI s
 |.mk n k u t l x c e r a b=>by
  have hb:=JHs b;cases b with
  |nil=>simp only[owS,Dat.dat,Dat.dat.datL,Dat.canon,JH,JI,Zj,J7,UO,XJ]
  |cons y q=>
   simp only[JGP,XG]at hb;simp only[owS,Dat.dat,XG,Dat.dat.datL,Dat.canon,JH,JI,J7,UO,XJ,Va]at hb⊢;rw[←hb]
theorem JEn:∀l:List Ste,JH (Dat.dat.datL (JGO l))=X9 l
 |[]=>by simp[JGO,X9,Dat.dat.datL,JH]
 |v::r=>by simp only[JGO,X9,JA8,JH,JQH v,JEn r]
theorem JQI:∀b:Brn,(owB b).dat.canon=Jz b
 |.mk w s=>by
  have hb:=JEn s;cases s with
  |nil=>simp only[owB,Dat.dat,Dat.dat.datL,Dat.canon,JH,Jz,X9,J7]
  |cons y q=>
   simp only[JGO,XG]at hb;simp only[owB,Dat.dat,XG,Dat.dat.datL,Dat.canon,JH,Jz,J7,Va]at hb⊢;rw[←hb]
theorem JHs:∀l:List Brn,JH (Dat.dat.datL (JGP l))=Zj l
 |[]=>by simp[JGP,Zj,Dat.dat.datL,JH]
 |v::r=>by simp only[JGP,Zj,JA8,JH,JQI v,JHs r]
end
mutual
def nmS(r:Int)(pl:List Int):Ste→Ste
 |.mk n k u t l x c e ru a b=>.mk (orS n (JCL r pl)) k u t l x c e ru a (JCM r pl 0 b)
def Yk(r:Int)(pl:List Int):Int→List Ste→List Ste
 |_,[]=>[]
 |i,v::q=>nmS r (pl++[i]) v::Yk r pl (i+1) q
def nmB(r:Int)(pl:List Int):Brn→Brn
 |.mk w s=>.mk w (Yk r pl 0 s)
def JCM(r:Int)(pl:List Int):Int→List Brn→List Brn
 |_,[]=>[]
 |i,v::q=>nmB r (pl++[i]) v::JCM r pl (i+1) q
end
end Go.Proofs
namespace Go.Proofs
open Go Av
open Av.Y
def ir66:Ic:=D (.regd [(4,7)] (om 5 1<|om 6 1<|oc 7 6<|of 8 7 0<|ol 9 8<|ol 10 2<|om 11 0<|cl 12 68 [t 10,t 11]<|oo 13 (.bls 1 [t 9,t 12])<|cl 14 67 [t 13]<|oc 15 5<|of 16 15 0<|os 16 14<|N)) [0,1,5,6,7,8,9,10,11,12,13,14,15,16]
theorem ok66:FT 66 17 ir66 []:=.o Tryz.func66
def ir62:Ic:=q (R (ok 2 (.k (.nil 3))<|N) [2])<|q (q (R (om 3 0<|oo 4 (.nilq false false (t 3))<|N) [3])<|D (I 4 (q (R (ok 2 (.k (.nil 3))<|N) [0,4])<|.ret) S) [4])<|q (R (oo 5 (.bls 3 [])<|om 6 0<|oo 7 (.app 3 (t 5) (t 6))<|om 2 7<|N) [0,5,6,7])<|.ret
theorem ok62:FT 62 8 ir62 [.tmp 2]:=.o Tryz.func62
def ir36:Ic:=q (R (ox 1 0<|oN 2 [.int .i64 0,.nil 9,.nil 7,.nil 4,.nil 3]<|N) [0])<|q (R (of 4 1 4<|ol 5 4<|cl 6 62 [t 5]<|of 7 1 4<|os 7 6<|N) [4,5,6,7])<|q (q (R (of 8 1 4<|ol 9 8<|oh 10 9<|oz 11 0<|N) [8,9])<|D (.block 0<|.loop (q (.reg (ot 12 .lss 11 10<|N))<|q (D (I 12 S (E 0)) [12])<|q (D (.block 1<|q (R (om 13 11<|oN 3 [.int .i64 0]<|os 3 13<|N) [13])<|q (D (.regd [(1,9),(2,9)] (of 14 1 4<|ol 15 14<|ol 16 3<|of 17 1 4<|ol 18 17<|ol 19 3<|oa true 20 3 18 19<|of 21 20 2<|ol 22 21<|cl 23 63 [t 22,.k (.fn (.func 64) [] [])]<|oa true 24 3 15 16<|of 25 24 2<|os 25 23<|N)) [14,15,16,17,18,19,20,21,22,23,24,25])<|R (of 26 1 4<|ol 27 26<|ol 28 3<|oa true 29 3 27 28<|of 30 29 2<|ol 31 30<|oo 32 (.fnv (.func 66) [] [t 3])<|cl 33 65 [t 31,t 32]<|N) [3,26,27,28,29,30,31,32,33]) [])<|R (oi 34 .add 11 1<|om 11 34<|N) [34])) [10,11,12,3])<|q (R (oL 35 5 1<|oS 5 2 35<|N) [1,35])<|.ret
theorem ok36:FT 36 36 ir36 [.cell 2 (some 5)]:=.o Tryz.func36
end Go.Proofs
namespace Go.Proofs
open Go Av
theorem con66(v tv ts:Nat)(q:List (Nat×Nat))(j:Nat)(r:Int)(a:Int)(pl:List Int)(X X' L:List Dat)(s:Ste)(hpl:pl.length≤400000000)
  (h1:nodeAt (.own 3 X) q=some (.own 11 L))(hj:j<L.length)(hs:nth L j=owS s)(h2:setAt (.own 3 X) q j 0 (.str (orS s.name (JCL r (a::pl))))=.own 3 X'):
  KT 66 [.ms 1006 v,.tr 1008 ⟨tv,ts,q,some (j,0)⟩,.ref 1005 0] [(1005,.box [.d (.int .i64 r)]),(1006,.row v 1 ((a::pl).map (.int .i64))),(1008,.tre tv ts 3 X)] (.tup []) [(1008,.tre tv ts 3 X')]:=by
 refine ok66.con (k:=some false) (Nat.le_of_ble_eq_true rfl) (Jm (by simp[Ux,put,Je,J2,JS,JR,Av.get])) trivial ?_;rw[Xd]at hs;have cA:CT 68 [.d (.int .i64 r),.ms 1006 v] [(1006,some (.row v 1 ((a::pl).map (.int .i64))))] (.d (.str (JCL r (a::pl)))) []:=by
  refine UD.borrow (ds:=[.int .i64 r,.list 1 ((a::pl).map (.int .i64))]) ?_ rfl (p:=True∧v=v∧True) (u:=[(1006,.frz v 1 ((a::pl).map (.int .i64)))]) (fun H hH=>by simp only[Jk,U9,Uj,hH (1006,_) (Vh),List.append_nil,JC];rfl) ⟨trivial,rfl,trivial⟩;simpa only[Va,Vb,Dat.canon,JH,U7]using JSo r (a::pl) sO
 have cO:=(JSj s.name (JCL r (a::pl))).call trivial;simp only[go_sem,ir66,h1,hs,Vv,Vc,Nat.reduceAdd,Nat.reduceEqDiff,Nat.reduceBEq,Nat.reduceLeDiff,reduceCtorEq,↓reduceIte];refine⟨⟨hj,dC⟩,?_⟩;refine JG rfl cA ⟨rfl,trivial⟩ ?_;simp only[go_sem,Vv,Vc,Nat.reduceAdd,Nat.reduceEqDiff,Nat.reduceBEq,Nat.reduceLeDiff,reduceCtorEq,↓reduceIte];refine⟨sP,?_⟩;refine JG rfl cO trivial ?_;simp only[go_sem,h1,hs,h2,Vv,Vc,Nat.reduceAdd,Nat.reduceEqDiff,Nat.reduceBEq,Nat.reduceLeDiff,reduceCtorEq,↓reduceIte];exact⟨hj,rfl,rfl⟩
theorem call66(v tv ts:Nat)(q:List (Nat×Nat))(j:Nat)(r:Int)(pl:List Int)(X X' L:List Dat)(s:Ste)(hpl:pl.length≤400000000)(hp0:0<pl.length)
  (h1:nodeAt (.own 3 X) q=some (.own 11 L))(hj:j<L.length)(hs:nth L j=owS s)(h2:setAt (.own 3 X) q j 0 (.str (orS s.name (JCL r pl)))=.own 3 X'):
  CT (.fn 66) [.ms 1006 v,.tr 1008 ⟨tv,ts,q,some (j,0)⟩,.ref 1005 0] [(1005,some (.box [.d (.int .i64 r)])),(1006,some (.row v 1 (pl.map (.int .i64)))),(1008,some (.tre tv ts 3 X))] (.tup []) [(1008,.tre tv ts 3 X')]:=by
 match pl,hp0,h2 with
 |a::p,_,h2=>
  have:=(con66 v tv ts q j r a p X X' L s (by simp at hpl;omega) h1 hj hs h2).call (fun i=>i) (fun i hi=>by
   simp only[Av.get]at hi
   repeat' split at hi
   all_goals first|(cases hi;done)|omega) (fun i j _ _ h=>h) (by simp[JR,Av.get]) (Jx (by simp[Je,J2,JS,JR,Av.get])) [] (by simp[Av.get]) (Jm (by simp[Ux,put,Je,J2,JS,JR,Av.get])) trivial
  simp only[Va,Vb,Obj.ren,Av.ren,UN,YA,List.append_nil]at this⊢;exact this
end Go.Proofs
