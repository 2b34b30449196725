/- Part Q of a proof. -/
import Derived.Test.YtjcljkgafcdbgaaGreatDoorFrC
import Derived.Test.YtjcljkgafcdbgaaGreatDoorFrA
import Derived.Test.YtjcljkgafcdbgaaGreatDoorProg
import Derived.Test.YtjcljkgafcdbgaaGreatDoorFrN
import Derived.Sort.Grow
import Derived.Sort.EncStr
import Derived.Lib.SlicesCompact
import Derived.ChangeAt
import Derived.RowKit
set_option linter.unusedVariables false
set_option linter.unusedSimpArgs false
set_option linter.unusedSectionVars false
set_option linter.constructorNameAsVariable false
set_option linter.unnecessarySimpa false
set_option maxRecDepth 10000
namespace Av
open Go
variable [Glb]
abbrev Str:=List UInt8
mutual
inductive Val where
 |mk (kind int scale:Int) (text:Str) (list:List Val) (fields:List Fld)
inductive Fld where
 |mk (name:Str) (value:Val)
end
namespace Val
def kind:Val→Int|.mk k _ _ _ _ _=>k
def int:Val→Int|.mk _ i _ _ _ _=>i
def scale:Val→Int|.mk _ _ s _ _ _=>s
def text:Val→Str|.mk _ _ _ t _ _=>t
def list:Val→List Val|.mk _ _ _ _ l _=>l
def fields:Val→List Fld|.mk _ _ _ _ _ f=>f
end Val
namespace Fld
def name:Fld→Str|.mk n _=>n
def value:Fld→Val|.mk _ v=>v
end Fld
mutual
def JQ:Val→Dat
 |.mk k i s t l f=>.agg [.int .i64 k,.int .i64 i,.int .i64 s,.str t,.list 6 (JB9 l),.list 7 (JCA f)]
def JB9:List Val→List Dat
 |[]=>[]
 |v::r=>JQ v::JB9 r
def Xf:Fld→Dat
 |.mk n v=>.agg (.str n::(JQ v).cells)
def JCA:List Fld→List Dat
 |[]=>[]
 |v::r=>Xf v::JCA r
end
theorem JCf:∀l:List Val,JB9 l=l.map JQ
 |[]=>by simp[JB9]
 |v::r=>by simp[JB9,JCf r]
theorem JCg:∀l:List Fld,JCA l=l.map Xf
 |[]=>by simp[JCA]
 |v::r=>by simp[JCA,JCg r]
theorem JG(v:Val):JQ v=.agg [.int .i64 v.kind,.int .i64 v.int,.int .i64 v.scale,.str v.text,.list 6 (v.list.map JQ),.list 7 (v.fields.map Xf)]:=by
 cases v;simp[JQ,JCf,JCg,Val.kind,Val.int,Val.scale,Val.text,Val.list,Val.fields]
theorem Zk(f:Fld):Xf f=.agg [.str f.name,.int .i64 f.value.kind,.int .i64 f.value.int,.int .i64 f.value.scale,.str f.value.text,.list 6 (f.value.list.map JQ),.list 7 (f.value.fields.map Xf)]:=by
 cases f;simp[Xf,JG,Fld.name,Fld.value,Dat.cells]
theorem Xm{xs:List Val}{k:Nat}(h:k<xs.length):nth (xs.map JQ) k=.agg [.int .i64 xs[k].kind,.int .i64 xs[k].int,.int .i64 xs[k].scale,.str xs[k].text,.list 6 (xs[k].list.map JQ),.list 7 (xs[k].fields.map Xf)]:=by
 rw[U3 (sX h),List.getElem_map,JG]
theorem Yq{xs:List Fld}{k:Nat}(h:k<xs.length):nth (xs.map Xf) k=.agg [.str xs[k].name,.int .i64 xs[k].value.kind,.int .i64 xs[k].value.int,.int .i64 xs[k].value.scale,.str xs[k].value.text,.list 6 (xs[k].value.list.map JQ),.list 7 (xs[k].value.fields.map Xf)]:=by
 rw[U3 (sX h),List.getElem_map,Zk]
inductive Exp where
 |mk (op int:Int) (text:Str) (value:List Val) (args:List Exp)
namespace Exp
def op:Exp→Int|.mk o _ _ _ _=>o
def int:Exp→Int|.mk _ i _ _ _=>i
def text:Exp→Str|.mk _ _ t _ _=>t
def value:Exp→List Val|.mk _ _ _ v _=>v
def args:Exp→List Exp|.mk _ _ _ _ a=>a
end Exp
mutual
def Jd:Exp→Dat
 |.mk o i t v a=>.agg [.int .i64 o,.int .i64 i,.str t,.list 6 (v.map JQ),.list 5 (JCB a)]
def JCB:List Exp→List Dat
 |[]=>[]
 |v::r=>Jd v::JCB r
end
theorem JCh:∀l:List Exp,JCB l=l.map Jd
 |[]=>by simp[JCB]
 |v::r=>by simp[JCB,JCh r]
theorem Ul(e:Exp):Jd e=.agg [.int .i64 e.op,.int .i64 e.int,.str e.text,.list 6 (e.value.map JQ),.list 5 (e.args.map Jd)]:=by
 cases e;simp[Jd,JCh,Exp.op,Exp.int,Exp.text,Exp.value,Exp.args]
structure Rule where
 target:Str
 expr:Exp
def Uf(r:Rule):Dat:=.agg [.str r.target,.int .i64 r.expr.op,.int .i64 r.expr.int,.str r.expr.text,.list 6 (r.expr.value.map JQ),.list 5 (r.expr.args.map Jd)]
mutual
theorem JBT:∀v:Val,(JQ v).canon=JQ v
 |.mk k i s t l f=>by simp only[JQ,Dat.canon,JK,JAF l,JAG f]
theorem JAF:∀l:List Val,JK (JB9 l)=JB9 l
 |[]=>by simp[JB9,JK]
 |v::r=>by simp only[JB9,JK,JBT v,JAF r]
theorem JET:∀f:Fld,(Xf f).canon=Xf f
 |.mk n v=>by
  have:=JBT v;cases v with
  |mk k i s t l f=>
   simp only[JQ,Dat.canon,JK,Dat.agg.injEq,List.cons.injEq,true_and,and_true,Dat.list.injEq]at this;simp only[Xf,JQ,Dat.cells,Dat.canon,JK,this]
theorem JAG:∀l:List Fld,JK (JCA l)=JCA l
 |[]=>by simp[JCA,JK]
 |v::r=>by simp only[JCA,JK,JET v,JAG r]
end
theorem Y3(l:List Val):JK (l.map JQ)=l.map JQ:=by rw[←JCf,JAF]
theorem JIF(l:List Fld):JK (l.map Xf)=l.map Xf:=by rw[←JCg,JAG]
mutual
theorem JBU:∀e:Exp,(Jd e).canon=Jd e
 |.mk o i t v a=>by simp only[Jd,Dat.canon,JK,Y3,JAH a]
theorem JAH:∀l:List Exp,JK (JCB l)=JCB l
 |[]=>by simp[JCB,JK]
 |v::r=>by simp only[JCB,JK,JBU v,JAH r]
end
theorem Xb(l:List Exp):JK (l.map Jd)=l.map Jd:=by rw[←JCh,JAH]
theorem JEU(r:Rule):(Uf r).canon=Uf r:=by simp only[Uf,Dat.canon,JK,Y3,Xb]
theorem Xn(l:List Rule):JK (l.map Uf)=l.map Uf:=by
 rw[Ub,List.map_map];exact List.map_congr_left fun r _=>JEU r
attribute [go_sem] JBT JET JBU JEU Y3 JIF Xb Xn
end Av
namespace Av
open Go
variable [Glb]
mutual
inductive Typ where
 |mk (kind min max scale:Int) (words:List Str) (elem:List Typ) (fields:List TFl)
inductive TFl where
 |mk (number:Int) (name:Str) (need:Int) (type:Typ) (dflt:List Val)
end
namespace Typ
def kind:Typ→Int|.mk k _ _ _ _ _ _=>k
def min:Typ→Int|.mk _ a _ _ _ _ _=>a
def max:Typ→Int|.mk _ _ b _ _ _ _=>b
def scale:Typ→Int|.mk _ _ _ s _ _ _=>s
def words:Typ→List Str|.mk _ _ _ _ w _ _=>w
def elem:Typ→List Typ|.mk _ _ _ _ _ e _=>e
def fields:Typ→List TFl|.mk _ _ _ _ _ _ f=>f
end Typ
namespace TFl
def number:TFl→Int|.mk n _ _ _ _=>n
def name:TFl→Str|.mk _ n _ _ _=>n
def need:TFl→Int|.mk _ _ n _ _=>n
def type:TFl→Typ|.mk _ _ _ t _=>t
def dflt:TFl→List Val|.mk _ _ _ _ d=>d
end TFl
mutual
def Jp:Typ→Dat
 |.mk k a b s w e f=>.agg [.int .i64 k,.int .i64 a,.int .i64 b,.int .i64 s,.list 1 (w.map .str),.list 7 (JCC e),.list 11 (JCD f)]
def JCC:List Typ→List Dat
 |[]=>[]
 |v::r=>Jp v::JCC r
def UE:TFl→Dat
 |.mk n m d t v=>.agg ([.int .i64 n,.str m,.int .i64 d]++((Jp t).cells++[.list 6 (v.map JQ)]))
def JCD:List TFl→List Dat
 |[]=>[]
 |v::r=>UE v::JCD r
end
theorem JCi:∀l:List Typ,JCC l=l.map Jp
 |[]=>by simp[JCC]
 |v::r=>by simp[JCC,JCi r]
theorem JCj:∀l:List TFl,JCD l=l.map UE
 |[]=>by simp[JCD]
 |v::r=>by simp[JCD,JCj r]
theorem JZ(t:Typ):Jp t=.agg [.int .i64 t.kind,.int .i64 t.min,.int .i64 t.max,.int .i64 t.scale,.list 1 (t.words.map .str),.list 7 (t.elem.map Jp),.list 11 (t.fields.map UE)]:=by
 cases t;simp[Jp,JCi,JCj,Typ.kind,Typ.min,Typ.max,Typ.scale,Typ.words,Typ.elem,Typ.fields]
theorem Ud(f:TFl):UE f=.agg [.int .i64 f.number,.str f.name,.int .i64 f.need,.int .i64 f.type.kind,.int .i64 f.type.min,.int .i64 f.type.max,.int .i64 f.type.scale,
  .list 1 (f.type.words.map .str),.list 7 (f.type.elem.map Jp),.list 11 (f.type.fields.map UE),.list 6 (f.dflt.map JQ)]:=by
 cases f;simp[UE,JZ,TFl.number,TFl.name,TFl.need,TFl.type,TFl.dflt,Dat.cells]
theorem JAI{xs:List Typ}{k:Nat}(h:k<xs.length):nth (xs.map Jp) k=.agg [.int .i64 xs[k].kind,.int .i64 xs[k].min,.int .i64 xs[k].max,.int .i64 xs[k].scale,.list 1 (xs[k].words.map .str),.list 7 (xs[k].elem.map Jp),.list 11 (xs[k].fields.map UE)]:=by
 rw[U3 (sX h),List.getElem_map,JZ]
theorem U7{xs:List TFl}{k:Nat}(h:k<xs.length):nth (xs.map UE) k=.agg [.int .i64 xs[k].number,.str xs[k].name,.int .i64 xs[k].need,.int .i64 xs[k].type.kind,.int .i64 xs[k].type.min,.int .i64 xs[k].type.max,.int .i64 xs[k].type.scale,
  .list 1 (xs[k].type.words.map .str),.list 7 (xs[k].type.elem.map Jp),.list 11 (xs[k].type.fields.map UE),.list 6 (xs[k].dflt.map JQ)]:=by
 rw[U3 (sX h),List.getElem_map,Ud]
theorem JAJ(l:List Str):JK (l.map .str)=l.map .str:=by
 rw[Ub,List.map_map];exact List.map_congr_left fun p _=>by simp[Dat.canon]
mutual
theorem JBV:∀t:Typ,(Jp t).canon=Jp t
 |.mk k a b s w e f=>by simp only[Jp,Dat.canon,JK,JAJ,JAK e,JAL f]
theorem JAK:∀l:List Typ,JK (JCC l)=JCC l
 |[]=>by simp[JCC,JK]
 |v::r=>by simp only[JCC,JK,JBV v,JAK r]
theorem JEV:∀f:TFl,(UE f).canon=UE f
 |.mk n m d t v=>by
  have:=JBV t;cases t with
  |mk k a b s w e f=>
   simp only[Jp,Dat.canon,JK,Dat.agg.injEq,List.cons.injEq,true_and,and_true,Dat.list.injEq]at this;simp only[UE,Jp,Dat.cells,List.cons_append,List.nil_append,Dat.canon,JK,Y3,this]
theorem JAL:∀l:List TFl,JK (JCD l)=JCD l
 |[]=>by simp[JCD,JK]
 |v::r=>by simp only[JCD,JK,JEV v,JAL r]
end
theorem JDF(l:List Typ):JK (l.map Jp)=l.map Jp:=by rw[←JCi,JAK]
theorem JDG(l:List TFl):JK (l.map UE)=l.map UE:=by rw[←JCj,JAL]
attribute [go_sem] JAJ JBV JEV JDF JDG
end Av
namespace Av
open Go
variable [Glb]
variable {k:Nat}
structure Kal where
 service:Str
 rules:List Rule
def Jm(c:Kal):Dat:=.agg [.str c.service,.list 6 (c.rules.map Uf)]
mutual
inductive Ste where
 |mk (name:Str) (kind number time limit:Int) (text schema:Str) (exprs:List Exp) (rules:List Rule) (calls:List Kal) (branches:List Brn)
inductive Brn where
 |mk (cond:List Exp) (steps:List Ste)
end
namespace Ste
def name:Ste→Str|.mk n _ _ _ _ _ _ _ _ _ _=>n
def kind:Ste→Int|.mk _ n _ _ _ _ _ _ _ _ _=>n
def number:Ste→Int|.mk _ _ n _ _ _ _ _ _ _ _=>n
def time:Ste→Int|.mk _ _ _ n _ _ _ _ _ _ _=>n
def limit:Ste→Int|.mk _ _ _ _ n _ _ _ _ _ _=>n
def text:Ste→Str|.mk _ _ _ _ _ n _ _ _ _ _=>n
def schema:Ste→Str|.mk _ _ _ _ _ _ n _ _ _ _=>n
def exprs:Ste→List Exp|.mk _ _ _ _ _ _ _ n _ _ _=>n
def rules:Ste→List Rule|.mk _ _ _ _ _ _ _ _ n _ _=>n
def calls:Ste→List Kal|.mk _ _ _ _ _ _ _ _ _ n _=>n
def branches:Ste→List Brn|.mk _ _ _ _ _ _ _ _ _ _ n=>n
end Ste
namespace Brn
def cond:Brn→List Exp|.mk w _=>w
def steps:Brn→List Ste|.mk _ s=>s
end Brn
mutual
def JL:Ste→Dat
 |.mk n k u t l x c e r a b=>.agg [.str n,.int .i64 k,.int .i64 u,.int .i64 t,.int .i64 l,.str x,.str c,.list 5 (e.map Jd),.list 6 (r.map Uf),.list 2 (a.map Jm),.list 2 (JCE b)]
def Zl:List Ste→List Dat
 |[]=>[]
 |v::r=>JL v::Zl r
def Jw:Brn→Dat
 |.mk w s=>.agg [.list 5 (w.map Jd),.list 11 (Zl s)]
def JCE:List Brn→List Dat
 |[]=>[]
 |v::r=>Jw v::JCE r
end
theorem JBW:∀l:List Ste,Zl l=l.map JL
 |[]=>by simp[Zl]
 |v::r=>by simp[Zl,JBW r]
theorem JCk:∀l:List Brn,JCE l=l.map Jw
 |[]=>by simp[JCE]
 |v::r=>by simp[JCE,JCk r]
theorem JE(s:Ste):JL s=.agg [.str s.name,.int .i64 s.kind,.int .i64 s.number,.int .i64 s.time,.int .i64 s.limit,.str s.text,.str s.schema,.list 5 (s.exprs.map Jd),.list 6 (s.rules.map Uf),.list 2 (s.calls.map Jm),.list 2 (s.branches.map Jw)]:=by
 cases s;simp[JL,JCk,Ste.name,Ste.kind,Ste.number,Ste.time,Ste.limit,Ste.text,Ste.schema,Ste.exprs,Ste.rules,Ste.calls,Ste.branches]
theorem Y4(b:Brn):Jw b=.agg [.list 5 (b.cond.map Jd),.list 11 (b.steps.map JL)]:=by
 cases b;simp[Jw,JBW,Brn.cond,Brn.steps]
structure Sch where
 name:Str
 version:Int
 type:Typ
def Uk(c:Sch):Dat:=.agg [.str c.name,.int .i64 c.version,.int .i64 c.type.kind,.int .i64 c.type.min,.int .i64 c.type.max,.int .i64 c.type.scale,.list 1 (c.type.words.map .str),.list 7 (c.type.elem.map Jp),.list 11 (c.type.fields.map UE)]
structure Epd where
 name:Str
 kind:Int
 schema:Str
 version:Int
 fkind:Int
 sep:Int
 widths:List Int
def UW(x:Epd):Dat:=.agg [.str x.name,.int .i64 x.kind,.str x.schema,.int .i64 x.version,.int .i64 x.fkind,.int .i64 x.sep,.list 1 (x.widths.map (.int .i64))]
structure Svc where
 name:Str
 request:Str
 reply:Str
 undo:Bool
def XM(x:Svc):Dat:=.agg [.str x.name,.str x.request,.str x.reply,.bool x.undo]
structure Rou where
 name:Str
 src:Str
 steps:List Ste
def U8(x:Rou):Dat:=.agg [.str x.name,.str x.src,.list 11 (x.steps.map JL)]
structure Prg where
 version:Int
 schemas:List Sch
 endpoints:List Epd
 services:List Svc
 routes:List Rou
def Jb(p:Prg):Dat:=.agg [.int .i64 p.version,.list 9 (p.schemas.map Uk),.list 7 (p.endpoints.map UW),.list 4 (p.services.map XM),.list 3 (p.routes.map U8)]
structure Prb where
 code:Int
 route:Str
 place:List Int
 name:Str
def Z3(x:Prb):Dat:=.agg [.int .i64 x.code,.str x.route,.list 1 (x.place.map (.int .i64)),.str x.name]
structure Wlk where
 route:Int
 place:List Int
 step:Ste
def Uc(x:Wlk):Dat:=.agg [.int .i64 x.route,.list 1 (x.place.map (.int .i64)),.str x.step.name,.int .i64 x.step.kind,.int .i64 x.step.number,.int .i64 x.step.time,.int .i64 x.step.limit,.str x.step.text,.str x.step.schema,.list 5 (x.step.exprs.map Jd),.list 6 (x.step.rules.map Uf),.list 2 (x.step.calls.map Jm),.list 2 (x.step.branches.map Jw)]
theorem JAl{xs:List Ste}(h:k<xs.length):nth (xs.map JL) k=.agg [.str xs[k].name,.int .i64 xs[k].kind,.int .i64 xs[k].number,.int .i64 xs[k].time,.int .i64 xs[k].limit,.str xs[k].text,.str xs[k].schema,.list 5 (xs[k].exprs.map Jd),.list 6 (xs[k].rules.map Uf),.list 2 (xs[k].calls.map Jm),.list 2 (xs[k].branches.map Jw)]:=by
 rw[U3 (sX h),List.getElem_map,JE]
theorem JEW{xs:List Brn}(h:k<xs.length):nth (xs.map Jw) k=.agg [.list 5 (xs[k].cond.map Jd),.list 11 (xs[k].steps.map JL)]:=by
 rw[U3 (sX h),List.getElem_map,Y4]
theorem J0{α:Type}(f:α→Dat){xs:List α}(h:k<xs.length):nth (xs.map f) k=f xs[k]:=by
 rw[U3 (sX h),List.getElem_map]
theorem Xc(l:List Int):JK (l.map (.int .i64))=l.map (.int .i64):=by
 rw[Ub,List.map_map];exact List.map_congr_left fun p _=>by simp[Dat.canon]
theorem JDH(c:Kal):(Jm c).canon=Jm c:=by simp only[Jm,Dat.canon,JK,Xn]
theorem JAM(l:List Kal):JK (l.map Jm)=l.map Jm:=by
 rw[Ub,List.map_map];exact List.map_congr_left fun r _=>JDH r
mutual
theorem JDI:∀s:Ste,(JL s).canon=JL s
 |.mk n k u t l x c e r a b=>by simp only[JL,Dat.canon,JK,Xb,Xn,JAM,JAN b]
theorem Zm:∀l:List Ste,JK (Zl l)=Zl l
 |[]=>by simp[Zl,JK]
 |v::r=>by simp only[Zl,JK,JDI v,Zm r]
theorem JEX:∀b:Brn,(Jw b).canon=Jw b
 |.mk w s=>by simp only[Jw,Dat.canon,JK,Xb,Zm s]
theorem JAN:∀l:List Brn,JK (JCE l)=JCE l
 |[]=>by simp[JCE,JK]
 |v::r=>by simp only[JCE,JK,JEX v,JAN r]
end
theorem Y5(l:List Ste):JK (l.map JL)=l.map JL:=by rw[←JBW,Zm]
theorem JDJ(l:List Brn):JK (l.map Jw)=l.map Jw:=by rw[←JCk,JAN]
theorem JBX(c:Sch):(Uk c).canon=Uk c:=by simp only[Uk,Dat.canon,JK,JAJ,JDF,JDG]
theorem JDK(c:Epd):(UW c).canon=UW c:=by simp only[UW,Dat.canon,JK,Xc]
theorem JEY(c:Svc):(XM c).canon=XM c:=by simp only[XM,Dat.canon,JK]
theorem JEZ(c:Rou):(U8 c).canon=U8 c:=by simp only[U8,Dat.canon,JK,Y5]
theorem JEa(c:Prb):(Z3 c).canon=Z3 c:=by simp only[Z3,Dat.canon,JK,Xc]
theorem JDL(c:Wlk):(Uc c).canon=Uc c:=by simp only[Uc,Dat.canon,JK,Xc,Xb,Xn,JAM,JDJ]
theorem Yf{α:Type}(f:α→Dat)(h:∀a,(f a).canon=f a)(l:List α):JK (l.map f)=l.map f:=by
 rw[Ub,List.map_map];exact List.map_congr_left fun r _=>h r
theorem JDM(l:List Sch):JK (l.map Uk)=l.map Uk:=Yf _ JBX l
theorem JDN(l:List Epd):JK (l.map UW)=l.map UW:=Yf _ JDK l
theorem JDO(l:List Svc):JK (l.map XM)=l.map XM:=Yf _ JEY l
theorem JDP(l:List Rou):JK (l.map U8)=l.map U8:=Yf _ JEZ l
theorem JDQ(l:List Prb):JK (l.map Z3)=l.map Z3:=Yf _ JEa l
theorem JIG(l:List Wlk):JK (l.map Uc)=l.map Uc:=Yf _ JDL l
theorem JIH(p:Prg):(Jb p).canon=Jb p:=by simp only[Jb,Dat.canon,JK,JDM,JDN,JDO,JDP]
attribute [go_sem] Xc JDH JAM JDI JEX Y5 JDJ JBX JDK JEY JEZ JEa JDL JDM JDN JDO JDP JDQ JIG JIH
mutual
def szS:Ste→Nat
 |.mk _ _ _ _ _ _ _ _ _ _ b=>1+Zn b
def XN:List Ste→Nat
 |[]=>0
 |v::r=>szS v+XN r
def szB:Brn→Nat
 |.mk _ s=>1+XN s
def Zn:List Brn→Nat
 |[]=>0
 |v::r=>szB v+Zn r
end
theorem JJp(s:Ste):szS s=1+Zn s.branches:=by cases s;simp[szS,Ste.branches]
theorem JJq(b:Brn):szB b=1+XN b.steps:=by cases b;simp[szB,Brn.steps]
theorem JEb:∀{l:List Ste} {s:Ste},s∈l→szS s≤XN l
 |v::r,s,h=>by
  rcases VA.1 h with rfl|h
  ·simp only[XN];omega
  ·have:=JEb h;simp only[XN];omega
theorem JEc:∀{l:List Brn} {s:Brn},s∈l→szB s≤Zn l
 |v::r,s,h=>by
  rcases VA.1 h with rfl|h
  ·simp only[Zn];omega
  ·have:=JEc h;simp only[Zn];omega
end Av
namespace Go.Proofs
open Go Av
open Av.Y
def ir3:Ic:=q (R (ox 2 0<|ow 4 false<|N) [0,4])<|q (q (R (cl 15 4 []<|og 16 15<|om 17 16<|.sc 17 false (oL 18 1 2<|cl 19 5 [t 18]<|og 20 19<|N) (t 20) 21 N) [15,16,17])<|D (I 21 (q (R (cl 22 4 []<|om 4 22<|N) [1,2,21,22])<|.ret) S) [21])<|q (R (oL 23 1 2<|cl 24 6 [t 23]<|oN 5 [.int .i64 0,.nil 9,.nil 7,.nil 4,.nil 3]<|oS 5 5 24<|N) [2,23,24])<|q (q (R (om 25 1<|ob 26 .rem (t 25) (.k (.int .u8 2))<|ob 27 .eql (t 26) (.k (.int .u8 0))<|N) [1,25,26])<|I 27 (R (of 28 5 4<|ol 29 28<|oo 30 (.ixa true 3 (t 29) (i 0))<|of 31 30 1<|on (.sto none (t 31) (.k (.str [110,111,119,104,101,114,101])))<|N) [27,28,29,30,31]) (R (of 32 5 2<|ol 33 32<|oo 34 (.ixa true 7 (t 33) (i 1))<|of 35 34 2<|on (.sto none (t 35) (.k (.str [111,116,104,101,114])))<|N) [27,32,33,34,35]))<|q (R (oL 37 5 5<|oo 38 (.bls 1 [i 0])<|cl 39 7 [t 37,i 0,t 38]<|om 36 39<|oe 40 36 0<|oe 41 36 1<|oe 42 36 2<|om 6 40<|om 7 41<|om 8 42<|N) [37,38,39,36,40,41,42,6,7])<|q (R (oL 44 5 5<|oo 45 (.bls 1 [i 0])<|cl 46 8 [t 44,i 0,t 45]<|om 43 46<|oe 47 43 0<|oe 48 43 1<|oN 9 y6<|oS 6 9 47<|om 10 48<|N) [44,45,46,43,47,48])<|q (R (oL 50 5 5<|oo 51 (.bld y6 [])<|cl 52 9 [t 50,i 0,t 51]<|om 49 52<|oe 53 49 0<|oe 54 49 1<|om 11 53<|om 12 54<|N) [50,51,52,49,53,54,11])<|q (R (oL 56 5 5<|oo 57 (.bls 1 [i 0])<|cl 58 10 [t 56,i 0,t 57]<|om 55 58<|oe 59 55 0<|oe 60 55 1<|om 13 59<|om 14 60<|N) [56,57,58,55,59,60,13])<|q (R (oL 61 5 5<|cl 62 11 [t 61]<|oh 63 62<|oi 64 .eql 63 0<|om 65 64<|.sc 65 true (oL 66 5 5<|cl 67 12 [t 66]<|oh 68 67<|oi 69 .eql 68 0<|N) (t 69) 70 (om 71 70<|.sc 71 true (om 72 8<|oi 73 .eql 72 25<|N) (t 73) 74 (om 75 74<|.sc 75 true (om 76 12<|oi 77 .eql 76 25<|N) (t 77) 78 (om 79 78<|.sc 79 true (om 80 14<|oi 81 .eql 80 25<|N) (t 81) 82 (om 83 82<|.sc 83 true (om 84 10<|og 85 84<|N) (t 85) 86 (om 87 86<|.sc 87 true (oL 88 6 9<|cl 89 13 [t 88]<|N) (t 89) 90 (om 4 90<|N))))))) [5,8,9,10,12,14,61,62,63,64,65,70,71,74,75,78,79,82,83,86,87,90])<|.ret
theorem ok3:FT 3 91 ir3 [.tmp 4]:=.o Tryz.func3
def ir5:Ic:=q (R (ox 1 0<|ow 2 false<|N) [0,2])<|q (R (of 3 1 0<|ol 4 3<|cl 5 16 [t 4,i 4]<|om 2 5<|N) [1,3,4,5])<|.ret
theorem ok5:FT 5 6 ir5 [.tmp 2]:=.o Tryz.func5
def ir6:Ic:=q (R (ox 1 0<|oN 2 [.int .i64 0,.nil 9,.nil 7,.nil 4,.nil 3]<|N) [0])<|q (R (of 5 1 0<|ol 6 5<|cl 7 17 [t 6,i 0]<|om 3 7<|N) [1,5,6,7])<|q (q (R (om 8 3<|cl 9 18 [t 8]<|og 10 9<|N) [8,9])<|D (I 10 (R (om 11 3<|oo 12 (.bld [.str [],.int .i64 0,.int .i64 0,.int .i64 0,.int .i64 0,.str [],.str [],.nil 5,.nil 6,.nil 2,.nil 2] [(1,1,i 13),(5,1,.k (.str [111,117,116]))])<|oo 13 (.bls 11 [t 12])<|oo 14 (.app 11 (t 11) (t 13))<|om 3 14<|N) [10,11,12,13,14]) S) [10])<|q (R (oo 15 (.bld [.int .i64 0,.int .i64 0,.nil 1] [(0,1,i 1)])<|oN 4 [.int .i64 0,.int .i64 0,.nil 1]<|oS 3 4 15<|N) [15])<|q (D (.regd [(0,3),(2,3),(0,5),(2,5),(0,7),(2,7),(0,9),(2,9),(0,12),(2,12),(3,12),(5,12),(7,12),(9,12)] (cl 16 19 []<|oo 17 (.bld [.str [],.int .i64 0,.int .i64 0,.int .i64 0,.int .i64 0,.int .i64 0,.nil 1,.nil 7,.nil 11] [(0,1,.k (.str [111,114,100,101,114])),(1,1,i 1),(2,7,t 16)])<|oo 18 (.bls 9 [t 17])<|oL 19 3 4<|oo 20 (.bld [.str [],.int .i64 0,.str [],.int .i64 0,.int .i64 0,.int .i64 0,.nil 1] [(0,1,.k (.str [105,110])),(1,1,i 1),(2,1,.k (.str [111,114,100,101,114])),(3,1,i 1),(4,3,t 19)])<|oL 21 3 4<|oo 22 (.bld [.str [],.int .i64 0,.str [],.int .i64 0,.int .i64 0,.int .i64 0,.nil 1] [(0,1,.k (.str [111,117,116])),(1,1,i 2),(2,1,.k (.str [111,114,100,101,114])),(3,1,i 1),(4,3,t 21)])<|oL 23 3 4<|oo 24 (.bld [.str [],.int .i64 0,.str [],.int .i64 0,.int .i64 0,.int .i64 0,.nil 1] [(0,1,.k (.str [113])),(1,1,i 3),(2,1,.k (.str [111,114,100,101,114])),(3,1,i 1),(4,3,t 23)])<|oo 25 (.bls 7 [t 20,t 22,t 24])<|om 26 3<|oo 27 (.bld [.str [],.str [],.nil 11] [(0,1,.k (.str [109,97,105,110])),(1,1,.k (.str [105,110])),(2,1,t 26)])<|oo 28 (.bls 3 [t 27])<|oo 29 (.bld [.int .i64 0,.nil 9,.nil 7,.nil 4,.nil 3] [(0,1,i 1),(1,1,t 18),(2,1,t 25),(4,1,t 28)])<|oS 5 2 29<|N)) [3,4,16,17,18,19,20,21,22,23,24,25,26,27,28,29])<|.ret
theorem ok6:FT 6 30 ir6 [.cell 2 (some 5)]:=.o Tryz.func6
def ir7:Ic:=q (R (ox 3 0<|ok 6 (.k (.nil 6))<|ow 7 false<|oz 8 0<|N) [0,6,7,8])<|q (R (oL 14 5 3<|om 15 1<|om 16 2<|cl 17 20 [t 14,t 15,t 16]<|om 13 17<|oe 18 13 0<|oe 19 13 1<|oN 9 [.nil 6,.bool false]<|oS 2 9 18<|om 8 19<|N) [1,2,3,14,15,16,17,13,18,19])<|q (.reg (ok 10 (.k (.nil 6))<|N))<|q (q (R (of 20 9 0<|ol 21 20<|oh 22 21<|oz 23 0<|N) [20])<|D (.block 0<|.loop (q (.reg (ot 24 .lss 23 22<|N))<|q (D (I 24 S (E 0)) [24])<|q (D (.block 1<|q (R (oa true 25 6 21 23<|oL 26 6 25<|oN 12 [.int .i64 0,.int .i64 0,.str [],.nil 6,.nil 5,.int .i64 0]<|oS 6 12 26<|N) [25,26])<|D (.regd [(3,5)] (om 27 10<|of 28 12 0<|oL 29 5 28<|cl 30 21 [t 29]<|of 31 12 5<|ol 32 31<|oo 33 (.bld [.int .i64 0,.int .i64 0,.str [],.nil 6,.nil 5,.int .i64 0] [(0,5,t 30),(5,1,t 32)])<|oo 34 (.bls 6 [t 33])<|oo 35 (.app 6 (t 27) (t 34))<|om 10 35<|N)) [12,27,28,29,30,31,32,33,34,35]) [])<|R (oi 36 .add 23 1<|om 23 36<|N) [36])) [21,22,23,24])<|q (R (om 37 10<|of 38 9 1<|ol 39 38<|om 40 8<|om 6 37<|om 7 39<|om 8 40<|N) [9,10,37,38,39,40])<|.ret
theorem ok7:FT 7 41 ir7 [.tmp 6,.tmp 7,.tmp 8]:=.o Tryz.func7
def ir8:Ic:=q (R (ox 3 0<|oN 6 y6<|ow 7 false<|N) [0,7])<|q (R (oL 14 5 3<|om 15 1<|om 16 2<|cl 17 20 [t 14,t 15,t 16]<|om 13 17<|oe 18 13 0<|oe 19 13 1<|oN 8 [.nil 6,.bool false]<|oS 2 8 18<|om 9 19<|N) [14,15,16,17,13,18,19])<|q (q (R (om 20 9<|oi 21 .neq 20 0<|om 22 21<|.sc 22 false (of 23 8 1<|ol 24 23<|og 25 24<|N) (t 25) 26 N) [9,20,21,22])<|D (I 26 (q (R (oo 27 (.bld y6 [])<|oS 6 6 27<|ow 7 false<|N) [1,2,3,8,26,27])<|.ret) S) [26])<|q (R (oL 28 5 3<|om 29 1<|om 30 2<|cl 31 22 [t 28,t 29,t 30]<|om 10 31<|N) [1,2,28,29,30,31])<|q (q (R (om 32 10<|oi 33 .lss 32 0<|N) [32])<|D (I 33 (q (R (oo 34 (.bld y6 [])<|oS 6 6 34<|ow 7 false<|N) [3,8,10,33,34])<|.ret) S) [33])<|q (D (.regd [(6,8),(1,14),(3,14),(5,14),(6,14),(8,14),(9,14)] (of 36 3 1<|ol 37 36<|om 38 10<|oa true 39 9 37 38<|of 40 39 2<|oL 41 7 40<|cl 42 24 [t 41]<|of 43 8 0<|ol 44 43<|cl 45 23 [t 42,t 44]<|om 35 45<|oe 46 35 0<|oe 47 35 1<|oe 48 35 2<|oN 12 y6<|om 11 46<|oS 6 12 47<|om 9 48<|N)) [3,8,10,36,37,38,39,40,41,42,43,44,45,35,46,47,48])<|q (q (R (om 49 9<|oi 50 .neq 49 0<|om 51 50<|.sc 51 false (om 52 11<|oi 53 .neq 52 1<|N) (t 53) 54 N) [11,9,49,50,51])<|D (I 54 (q (R (oo 55 (.bld y6 [])<|oS 6 6 55<|ow 7 false<|N) [12,54,55])<|.ret) S) [54])<|q (R (oL 56 6 12<|cl 57 25 [t 56,.k (.str [98,111,100,121])]<|oe 58 57 0<|oe 59 57 1<|oS 6 6 58<|om 7 59<|N) [12,56,57,58,59])<|.ret
theorem ok8:FT 8 60 ir8 [.cell 6 (some 6),.tmp 7]:=.o Tryz.func8
def ir9:Ic:=q (R (ox 3 0<|ox 5 2<|ok 6 (.k (.nil 1))<|oz 7 0<|N) [0,2,6,7])<|q (q (R (oL 13 5 3<|cl 14 26 [t 13]<|og 15 14<|N) [13,14])<|D (I 15 (q (R (ok 6 (.k (.nil 1))<|oz 7 25<|N) [1,3,5,15])<|.ret) S) [15])<|q (q (R (om 16 1<|oi 17 .lss 16 0<|om 18 17<|.sc 18 false (om 19 1<|of 20 3 4<|ol 21 20<|oh 22 21<|ot 23 .geq 19 22<|N) (t 23) 24 N) [16,17,18])<|D (I 24 (q (R (ok 6 (.k (.nil 1))<|oz 7 8<|N) [1,3,5,24])<|.ret) S) [24])<|q (R (oL 26 5 3<|of 27 3 4<|ol 28 27<|om 29 1<|oa true 30 3 28 29<|of 31 30 1<|ol 32 31<|cl 33 27 [t 26,t 32]<|om 25 33<|oe 34 25 0<|oe 35 25 1<|om 8 34<|om 9 35<|N) [26,27,28,29,30,31,32,33,25,34,35,9])<|q (R (oL 37 5 3<|of 38 3 2<|ol 39 38<|om 40 8<|oa true 41 7 39 40<|of 42 41 2<|ol 43 42<|of 44 3 2<|ol 45 44<|om 46 8<|oa true 47 7 45 46<|of 48 47 3<|ol 49 48<|cl 50 28 [t 37,t 43,t 49]<|om 36 50<|oe 51 36 0<|oe 52 36 1<|om 10 51<|om 11 52<|N) [8,37,38,39,40,41,42,43,44,45,46,47,48,49,50,36,51,52,11])<|q (q (R (of 53 3 1<|ol 54 53<|om 55 10<|oa true 56 9 54 55<|of 57 56 2<|oL 58 7 57<|oL 59 6 5<|cl 60 29 [t 58,t 59]<|og 61 60<|N) [10,53,54,55,56,57,58,59,60])<|D (I 61 (q (R (ok 6 (.k (.nil 1))<|oz 7 18<|N) [1,3,5,61])<|.ret) S) [61])<|q (R (oL 62 6 5<|oo 63 (.bld y7 [(0,1,.k (.str [98,111,100,121])),(1,6,t 62)])<|oo 64 (.bls 7 [t 63])<|cl 65 30 [t 64]<|oo 66 (.bld [.int .i64 0,.int .i64 0,.int .i64 0,.str [],.nil 6,.nil 7,.nil 1] [(0,6,t 65)])<|ox 67 66<|om 12 67<|N) [5,62,63,64,65,66,67])<|q (R (om 68 12<|of 69 3 4<|ol 70 69<|om 71 1<|oa true 72 3 70 71<|of 73 72 2<|ol 74 73<|cl 75 31 [t 68,t 74,.k (.nil 1),i 0,.k (.fn (.func 32) [] [])]<|N) [1,3,68,69,70,71,72,73,74,75])<|q (R (om 76 12<|oc 77 76<|of 78 77 6<|ol 79 78<|om 6 79<|oz 7 0<|N) [12,76,77,78,79])<|.ret
theorem ok9:FT 9 80 ir9 [.tmp 6,.tmp 7]:=.o Tryz.func9
def ir10:Ic:=q (R (ox 3 0<|ok 6 (.k (.nil 1))<|oz 7 0<|N) [0,6,7])<|q (q (R (oL 14 5 3<|cl 15 26 [t 14]<|og 16 15<|N) [14,15])<|D (I 16 (q (R (ok 6 (.k (.nil 1))<|oz 7 25<|N) [1,2,3,16])<|.ret) S) [16])<|q (R (oL 18 5 3<|om 19 1<|om 20 2<|cl 21 33 [t 18,t 19,t 20]<|om 17 21<|oe 22 17 0<|oe 23 17 1<|oN 8 [.str [],.int .i64 0,.int .i64 0,.int .i64 0,.int .i64 0,.str [],.str [],.nil 5,.nil 6,.nil 2,.nil 2]<|oS 11 8 22<|om 9 23<|N) [18,19,20,21,17,22,23])<|q (q (R (om 24 9<|oi 25 .neq 24 0<|N) [9,24])<|D (I 25 (q (R (ok 6 (.k (.nil 1))<|oz 7 8<|N) [1,2,3,8,25])<|.ret) S) [25])<|q (.reg (oN 10 [.nil 1]<|N))<|q (R (oo 26 (.fnv (.func 34) [] [t 10])<|om 11 26<|N) [26])<|q (q (R (of 27 8 1<|ol 28 27<|oi 29 .eql 28 11<|om 30 29<|.sc 30 false (of 31 8 1<|ol 32 31<|oi 33 .eql 32 12<|N) (t 33) 34 N) [27,28,29,30])<|D (I 34 (q (q (R (of 35 8 10<|ol 36 35<|oh 37 36<|oz 38 0<|N) [8,34,35])<|D (.block 0<|.loop (q (.reg (ot 39 .lss 38 37<|N))<|q (D (I 39 S (E 0)) [39])<|q (D (.block 1<|q (R (om 40 38<|oa true 41 2 36 38<|oL 42 2 41<|oN 13 [.nil 5,.nil 11]<|om 12 40<|oS 2 13 42<|N) [40,41,42])<|q (R (of 43 13 1<|ol 44 43<|oh 45 44<|oi 46 .gtr 45 0<|N) [13,43,44,45])<|I 46 (R (om 47 11<|om 48 2<|cl 49 38 [t 48]<|om 50 12<|oo 51 (.bls 1 [t 50,i 0])<|oo 52 (.app 1 (t 49) (t 51))<|.call (some 53) (.dyn (t 47)) [t 52] N) [12,46,47,48,49,50,51,52,53]) (R (om 54 11<|oL 55 5 3<|om 56 1<|om 57 2<|cl 58 39 [t 55,t 56,t 57]<|.call (some 59) (.dyn (t 54)) [t 58] N) [12,46,54,55,56,57,58,59])) [])<|R (oi 60 .add 38 1<|om 38 60<|N) [60])) [1,2,3,11,36,37,38,39])<|q (R (ol 61 10<|om 6 61<|oz 7 0<|N) [10,61])<|.ret) S) [34])<|q (q (R (oL 62 11 8<|cl 63 40 [t 62]<|og 64 63<|N) [8,62,63])<|D (I 64 (R (om 65 11<|oL 66 5 3<|om 67 1<|om 68 2<|cl 69 39 [t 66,t 67,t 68]<|.call (some 70) (.dyn (t 65)) [t 69] N) [1,2,3,11,64,65,66,67,68,69,70]) S) [1,2,3,11,64])<|q (R (ol 71 10<|om 6 71<|oz 7 0<|N) [10,71])<|.ret
theorem ok10:FT 10 72 ir10 [.tmp 6,.tmp 7]:=.o Tryz.func10
def ir11:Ic:=q (R (ox 1 0<|ok 2 (.k (.nil 4))<|N) [0,2])<|q (q (R (oL 8 5 1<|cl 9 26 [t 8]<|og 10 9<|N) [8,9])<|D (I 10 (q (R (ok 2 (.k (.nil 4))<|N) [1,10])<|.ret) S) [10])<|q (.reg (ok 3 (.k (.nil 4))<|N))<|q (R (oo 11 .mkm<|oz 4 (-1)<|om 5 11<|N) [11])<|q (q (R (oL 12 5 1<|cl 13 41 [t 12]<|oh 14 13<|oz 15 0<|N) [12])<|D (.block 0<|.loop (q (.reg (ot 16 .lss 15 14<|N))<|q (D (I 16 S (E 0)) [16])<|q (D (.block 1<|q (R (oa true 17 13 13 15<|oL 18 13 17<|oN 7 [.int .i64 0,.nil 1,.str [],.int .i64 0,.int .i64 0,.int .i64 0,.int .i64 0,.str [],.str [],.nil 5,.nil 6,.nil 2,.nil 2]<|oS 13 7 18<|N) [17,18])<|q (q (R (of 19 7 0<|ol 20 19<|om 21 4<|ot 22 .neq 20 21<|N) [19,20,21])<|D (I 22 (D (.regd [(1,5)] (of 23 7 0<|ol 24 23<|oL 25 5 1<|of 26 7 0<|ol 27 26<|cl 28 42 [t 25,t 27]<|om 4 24<|om 5 28<|N)) [22,23,24,25,26,27,28]) S) [22])<|q (R (om 29 5<|of 30 7 1<|ol 31 30<|cl 32 43 [t 31]<|oo 33 (.lkp .s (.agg [.nil 6,.bool false]) (t 29) (t 32) false)<|oo 34 (.fld none (t 33) 1)<|og 35 34<|om 36 35<|.sc 36 true (om 37 3<|oh 38 37<|oi 39 .lss 38 200<|N) (t 39) 40 N) [29,30,31,32,33,34,35,36])<|D (I 40 (R (om 41 3<|of 42 1 4<|ol 43 42<|om 44 4<|oa true 45 3 43 44<|of 46 45 0<|ol 47 46<|of 48 7 1<|ol 49 48<|oo 50 (.bld [.int .i64 0,.str [],.nil 1,.str []] [(0,1,i 13),(1,1,t 47),(2,1,t 49)])<|oo 51 (.bls 4 [t 50])<|oo 52 (.app 4 (t 41) (t 51))<|om 3 52<|N) [7,40,41,42,43,44,45,46,47,48,49,50,51,52]) S) [7,40]) [])<|R (oi 53 .add 15 1<|om 15 53<|N) [53])) [1,4,5,13,14,15,16,7])<|q (R (om 54 3<|om 2 54<|N) [3,54])<|.ret
theorem ok11:FT 11 55 ir11 [.tmp 2]:=.o Tryz.func11
def ir12:Ic:=q (R (ox 1 0<|ok 2 (.k (.nil 4))<|N) [0,2])<|q (q (R (oL 6 5 1<|cl 7 26 [t 6]<|og 8 7<|N) [6,7])<|D (I 8 (q (R (ok 2 (.k (.nil 4))<|N) [1,8])<|.ret) S) [8])<|q (.reg (ok 3 (.k (.nil 4))<|N))<|q (q (R (oL 9 5 1<|cl 10 41 [t 9]<|oh 11 10<|oz 12 0<|N) [9])<|D (.block 0<|.loop (q (.reg (ot 13 .lss 12 11<|N))<|q (D (I 13 S (E 0)) [13])<|q (D (.block 1<|q (R (oa true 14 13 10 12<|oL 15 13 14<|oN 5 [.int .i64 0,.nil 1,.str [],.int .i64 0,.int .i64 0,.int .i64 0,.int .i64 0,.str [],.str [],.nil 5,.nil 6,.nil 2,.nil 2]<|oS 13 5 15<|N) [14,15])<|q (D (.regd [(8,10)] (of 16 5 2<|of 17 16 1<|ol 18 17<|oi 19 .eql 18 13<|om 20 19<|.sc 20 true (oL 21 5 1<|of 22 5 0<|ol 23 22<|cl 24 42 [t 21,t 23]<|of 25 5 1<|ol 26 25<|cl 27 43 [t 26]<|oo 28 (.lkp .s (.agg [.nil 6,.bool false]) (t 24) (t 27) false)<|oo 29 (.fld none (t 28) 1)<|N) (t 29) 30 N)) [16,17,18,19,20])<|D (I 30 (R (om 31 3<|of 32 1 4<|ol 33 32<|of 34 5 0<|ol 35 34<|oa true 36 3 33 35<|of 37 36 1<|ol 38 37<|of 39 5 2<|of 40 39 5<|ol 41 40<|of 42 5 0<|ol 43 42<|of 44 5 1<|ol 45 44<|oo 46 (.bld [.str [],.str [],.int .i64 0,.nil 1] [(0,1,t 38),(1,1,t 41),(2,1,t 43),(3,1,t 45)])<|oo 47 (.bls 4 [t 46])<|oo 48 (.app 4 (t 31) (t 47))<|om 3 48<|N) [5,30,31,32,33,34,35,36,37,38,39,40,41,42,43,44,45,46,47,48]) S) [5,30]) [])<|R (oi 49 .add 12 1<|om 12 49<|N) [49])) [1,10,11,12,13,5])<|q (R (om 50 3<|om 2 50<|N) [3,50])<|.ret
theorem ok12:FT 12 51 ir12 [.tmp 2]:=.o Tryz.func12
def ir16:Ic:=q (R (ow 4 false<|N) [4])<|q (q (R (om 7 0<|oh 8 7<|oi 9 .gtr 8 12<|om 10 9<|.sc 10 false (om 11 1<|oi 12 .eql 11 0<|om 13 12<|.sc 13 true (om 14 0<|oh 15 14<|oi 16 .gtr 15 0<|N) (t 16) 17 N) (t 17) 18 N) [7,8,9,10])<|D (I 18 (q (R (ow 4 false<|N) [0,1,18])<|.ret) S) [18])<|q (q (.reg (oz 5 0<|N))<|D (.block 0<|.loop (q (q (R (om 19 5<|om 20 0<|oh 21 20<|ot 22 .lss 19 21<|N) [19,20,21])<|D (I 22 S (E 0)) [22])<|q (D (.block 1<|q (q (R (om 25 0<|om 26 5<|oa true 27 5 25 26<|of 28 27 4<|ol 29 28<|oh 30 29<|oi 31 .gtr 30 6<|N) [25,26,27,28,29,30])<|D (I 31 (q (R (ow 4 false<|N) [0,1,5,31])<|.ret) S) [31])<|q (.reg (oz 6 0<|N))<|D (.block 2<|.loop (q (q (R (om 32 6<|om 33 0<|om 34 5<|oa true 35 5 33 34<|of 36 35 4<|ol 37 36<|oh 38 37<|ot 39 .lss 32 38<|N) [32,33,34,35,36,37,38])<|D (I 39 S (E 2)) [39])<|q (D (.block 3<|q (R (om 42 0<|om 43 5<|oa true 44 5 42 43<|of 45 44 4<|ol 46 45<|om 47 6<|oa false 48 1 46 47<|ol 49 48<|om 50 1<|oi 51 .sub 50 1<|cl 52 16 [t 49,t 51]<|og 53 52<|N) [42,43,44,45,46,47,48,49,50,51,52])<|D (I 53 (q (R (ow 4 false<|N) [0,1,5,6,53])<|.ret) S) [53]) [])<|R (om 40 6<|oi 41 .add 40 1<|om 6 41<|N) [40,41])) [6,39]) [])<|R (om 23 5<|oi 24 .add 23 1<|om 5 24<|N) [23,24])) [0,1,5,22,6])<|q (.reg (ow 4 true<|N))<|.ret
theorem ok16:FT 16 54 ir16 [.tmp 4]:=.o Tryz.func16
def ir19:Ic:=q (.reg (oN 0 yT<|N))<|q (R (oo 1 (.bld yT [(0,1,i 2),(2,1,i 9)])<|oo 2 (.bld yG [(0,1,i 1),(1,1,.k (.str [110])),(2,1,i 1),(3,7,t 1)])<|oo 3 (.bls 1 [.k (.str [97]),.k (.str [98]),.k (.str [99])])<|oo 4 (.bld yT [(0,1,i 4),(4,1,t 3)])<|oo 5 (.bld yG [(0,1,i 2),(1,1,.k (.str [119])),(2,1,i 1),(3,7,t 4)])<|oo 6 (.bld yT [(0,1,i 2),(2,1,i 9)])<|oo 7 (.bld yG [(0,1,i 3),(1,1,.k (.str [111])),(2,1,i 2),(3,7,t 6)])<|oo 8 (.bls 11 [t 2,t 5,t 7])<|oo 9 (.bld yT [(0,1,i 9),(6,1,t 8)])<|oS 7 0 9<|N) [1,2,3,4,5,6,7,8,9])<|.ret
theorem ok19:FT 19 10 ir19 [.cell 0 (some 7)]:=.o Tryz.func19
def ir20:Ic:=q (R (ox 3 0<|oN 6 [.nil 6,.bool false]<|oz 7 0<|N) [0,7])<|q (q (R (oL 10 5 3<|cl 11 26 [t 10]<|og 12 11<|N) [10,11])<|D (I 12 (q (R (oo 13 (.bld [.nil 6,.bool false] [])<|oS 2 6 13<|oz 7 25<|N) [1,2,3,12,13])<|.ret) S) [12])<|q (q (R (oL 15 5 3<|om 16 1<|om 17 2<|cl 18 33 [t 15,t 16,t 17]<|om 14 18<|oe 19 14 0<|oe 20 14 1<|oN 8 [.str [],.int .i64 0,.int .i64 0,.int .i64 0,.int .i64 0,.str [],.str [],.nil 5,.nil 6,.nil 2,.nil 2]<|oS 11 8 19<|om 9 20<|N) [15,16,17,18,14,19,20,8])<|q (R (om 21 9<|oi 22 .neq 21 0<|N) [9,21])<|D (I 22 (q (R (oo 23 (.bld [.nil 6,.bool false] [])<|oS 2 6 23<|oz 7 8<|N) [1,2,3,22,23])<|.ret) S) [22])<|q (R (oL 24 5 3<|om 25 1<|cl 26 42 [t 24,t 25]<|om 27 2<|cl 28 43 [t 27]<|oo 29 (.lkp .s (.agg [.nil 6,.bool false]) (t 26) (t 28) false)<|oS 2 6 29<|oz 7 0<|N) [1,2,3,24,25,26,27,28,29])<|.ret
theorem ok20:FT 20 30 ir20 [.cell 6 (some 2),.tmp 7]:=.o Tryz.func20
def ir26:Ic:=q (R (ox 1 0<|ow 2 false<|N) [0,2])<|q (R (oL 3 5 1<|cl 4 55 [t 3]<|oh 5 4<|oi 6 .eql 5 0<|om 7 6<|.sc 7 true (oL 8 5 1<|cl 9 56 [t 8]<|oh 10 9<|oi 11 .eql 10 0<|N) (t 11) 12 (om 2 12<|N)) [1,3,4,5,6,7,12])<|.ret
theorem ok26:FT 26 13 ir26 [.tmp 2]:=.o Tryz.func26
def ir45:Ic:=q (R (ox 1 0<|oN 2 [.int .i64 0,.int .i64 0,.str [],.nil 6,.nil 5]<|N) [0])<|q (R (of 8 1 3<|ol 9 8<|ob 10 .rem (t 9) (.k (.int .u8 10))<|oo 11 (.cvi .i64 (t 10))<|om 3 11<|N) [8,9,10,11])<|q (R (of 12 1 2<|ol 13 12<|ob 14 .rem (t 13) (.k (.int .u8 6))<|oo 15 (.cvi .i64 (t 14))<|ob 16 .add (i 6) (t 15)<|om 4 16<|N) [12,13,14,15,16])<|q (R (om 17 4<|cl 18 46 [.k (.str [98,111,100,121,46,110])]<|om 19 3<|cl 20 48 [t 19]<|oo 21 (.bls 5 [t 18,t 20])<|oo 22 (.bld [.int .i64 0,.int .i64 0,.str [],.nil 6,.nil 5] [(0,1,t 17),(4,1,t 21)])<|oN 5 [.int .i64 0,.int .i64 0,.str [],.nil 6,.nil 5]<|oS 5 5 22<|N) [17,18,19,20,21,22])<|q (D (.regd [(1,5),(1,7),(1,8),(1,10),(5,10),(7,10),(8,10)] (of 23 1 2<|ol 24 23<|ob 25 .rem (t 24) (.k (.int .u8 2))<|oo 26 (.cvi .i64 (t 25))<|ob 27 .add (i 6) (t 26)<|cl 28 46 [.k (.str [98,111,100,121,46,119])]<|om 29 3<|cl 30 47 [t 29]<|oo 31 (.bls 5 [t 28,t 30])<|oo 32 (.bld [.int .i64 0,.int .i64 0,.str [],.nil 6,.nil 5] [(0,1,t 27),(4,1,t 31)])<|oN 6 [.int .i64 0,.int .i64 0,.str [],.nil 6,.nil 5]<|oS 5 6 32<|N)) [23,24,25,26,27,28,29,30,31,32])<|q (R (om 33 4<|cl 34 46 [.k (.str [98,111,100,121,46,111])]<|om 35 3<|cl 36 48 [t 35]<|oo 37 (.bls 5 [t 34,t 36])<|oo 38 (.bld [.int .i64 0,.int .i64 0,.str [],.nil 6,.nil 5] [(0,1,t 33),(4,1,t 37)])<|oN 7 [.int .i64 0,.int .i64 0,.str [],.nil 6,.nil 5]<|oS 5 7 38<|N) [4,33,34,35,36,37,38])<|q (q (R (of 39 1 1<|ol 40 39<|ob 41 .rem (t 40) (.k (.int .u8 9))<|N) [39,40])<|D (.block 0<|q (q (R (ob 43 .eql (t 41) (.k (.int .u8 0))<|om 42 43<|N) [43])<|I 42 S (q (R (ob 44 .eql (t 41) (.k (.int .u8 1))<|om 42 44<|N) [44])<|I 42 S (R (ob 45 .eql (t 41) (.k (.int .u8 2))<|om 42 45<|N) [45])))<|I 42 (q (R (oL 46 5 5<|oS 5 2 46<|N) [1,3,5,6,7,41,42,46])<|.ret) (q (R (ob 48 .eql (t 41) (.k (.int .u8 3))<|om 47 48<|N) [42,48])<|I 47 (q (R (oL 49 5 6<|oS 5 2 49<|N) [1,3,5,6,7,41,47,49])<|.ret) (q (R (ob 51 .eql (t 41) (.k (.int .u8 4))<|om 50 51<|N) [47,51])<|I 50 (q (R (oL 52 5 7<|oS 5 2 52<|N) [1,3,5,6,7,41,50,52])<|.ret) (q (R (ob 54 .eql (t 41) (.k (.int .u8 5))<|om 53 54<|N) [7,50,54])<|I 53 (q (R (oo 55 (.bld [.int .i64 0,.int .i64 0,.str [],.nil 6,.nil 5] [(0,1,i 22),(2,1,.k (.str [98,111,100,121,46,111]))])<|oS 5 2 55<|N) [1,3,5,6,41,53,55])<|.ret) (q (R (ob 57 .eql (t 41) (.k (.int .u8 6))<|om 56 57<|N) [53,57])<|I 56 (q (R (oL 58 5 5<|oo 59 (.bls 5 [t 58])<|oo 60 (.bld [.int .i64 0,.int .i64 0,.str [],.nil 6,.nil 5] [(0,1,i 3),(4,1,t 59)])<|oS 5 2 60<|N) [1,3,5,6,41,56,58,59,60])<|.ret) (q (R (ob 62 .eql (t 41) (.k (.int .u8 7))<|om 61 62<|N) [41,56,62])<|D (I 61 (q (R (of 63 1 2<|ol 64 63<|ob 65 .quo (t 64) (.k (.int .u8 6))<|ob 66 .rem (t 65) (.k (.int .u8 2))<|oo 67 (.cvi .i64 (t 66))<|ob 68 .add (i 4) (t 67)<|oL 69 5 5<|oL 70 5 6<|oo 71 (.bls 5 [t 69,t 70])<|oo 72 (.bld [.int .i64 0,.int .i64 0,.str [],.nil 6,.nil 5] [(0,1,t 68),(4,1,t 71)])<|oS 5 2 72<|N) [1,3,5,6,61,63,64,65,66,67,68,69,70,71,72])<|.ret) S) [1,5,6,61])))))) [])<|q (R (cl 73 46 [.k (.str [98,111,100,121,46,110])]<|cl 74 48 [i 1]<|oo 75 (.bls 5 [t 73,t 74])<|oo 76 (.bld [.int .i64 0,.int .i64 0,.str [],.nil 6,.nil 5] [(0,1,i 12),(4,1,t 75)])<|om 77 3<|cl 78 48 [t 77]<|oo 79 (.bls 5 [t 76,t 78])<|oo 80 (.bld [.int .i64 0,.int .i64 0,.str [],.nil 6,.nil 5] [(0,1,i 8),(4,1,t 79)])<|oS 5 2 80<|N) [3,73,74,75,76,77,78,79,80])<|.ret
theorem ok45:FT 45 81 ir45 [.cell 2 (some 5)]:=.o Tryz.func45
def ir46:Ic:=q (.reg (oN 2 [.int .i64 0,.int .i64 0,.str [],.nil 6,.nil 5]<|N))<|q (R (om 3 0<|oo 4 (.bld [.int .i64 0,.int .i64 0,.str [],.nil 6,.nil 5] [(0,1,i 2),(2,1,t 3)])<|oS 5 2 4<|N) [0,3,4])<|.ret
theorem ok46:FT 46 5 ir46 [.cell 2 (some 5)]:=.o Tryz.func46
def ir47:Ic:=q (.reg (oN 2 [.int .i64 0,.int .i64 0,.str [],.nil 6,.nil 5]<|N))<|q (R (oo 3 (.bls 1 [.k (.str [97]),.k (.str [98]),.k (.str [99]),.k (.str [100])])<|om 4 0<|oi 5 .rem 4 4<|oa false 6 1 3 5<|ol 7 6<|oo 8 (.bld y6 [(0,1,i 4),(3,1,t 7)])<|oo 9 (.bls 6 [t 8])<|oo 10 (.bld [.int .i64 0,.int .i64 0,.str [],.nil 6,.nil 5] [(0,1,i 1),(3,1,t 9)])<|oS 5 2 10<|N) [0,3,4,5,6,7,8,9,10])<|.ret
theorem ok47:FT 47 11 ir47 [.cell 2 (some 5)]:=.o Tryz.func47
def ir48:Ic:=q (.reg (oN 2 [.int .i64 0,.int .i64 0,.str [],.nil 6,.nil 5]<|N))<|q (R (om 3 0<|oo 4 (.bld y6 [(0,1,i 2),(1,1,t 3)])<|oo 5 (.bls 6 [t 4])<|oo 6 (.bld [.int .i64 0,.int .i64 0,.str [],.nil 6,.nil 5] [(0,1,i 1),(3,1,t 5)])<|oS 5 2 6<|N) [0,3,4,5,6])<|.ret
theorem ok48:FT 48 7 ir48 [.cell 2 (some 5)]:=.o Tryz.func48
end Go.Proofs
namespace Av
open Go
variable [Glb][Rls]
variable {P:Program}
theorem JDn:∀(s:Ss) (K:St→Log→Prop) (st:St) (lg:Log),UZ P s K st lg→∃st' lg',K st' lg'∧UZ P s (fun s l=>s=st'∧l=lg') st lg
 |.nil,K,st,lg,h=>⟨st,lg,h,rfl,rfl⟩
 |.op d o r,K,st,lg,h=>by
  simp only[UZ]at h⊢;split at h
  ·obtain⟨a,b,h1,h2⟩:=JDn r K _ _ h.2;exact⟨a,b,h1,h.1,h2⟩
  ·exact h.elim
 |.call d f args r,K,st,lg,h=>by
  simp only[UZ]at h⊢;split at h
  ·obtain⟨T,v,ups,hp,h1,h2,h3,h4⟩:=h;obtain⟨a,b,g1,g2⟩:=JDn r K _ _ h4;exact⟨a,b,g1,T,v,ups,hp,h1,h2,h3,g2⟩
  ·exact h.elim
 |.sc c b body y d r,K,st,lg,h=>by
  simp only[UZ]at h⊢;split at h
  ·obtain⟨yv,hp,l,h1,h2,h3,h4⟩:=h;obtain⟨a,b,g1,g2⟩:=JDn r K _ _ h4;exact⟨a,b,g1,yv,hp,l,h1,h2,h3,g2⟩
  ·exact h.elim
def noR:Ic→Bool
 |.dn a _=>noR a
 |.seq a b=>noR a&&noR b
 |.ite _ a b=>noR a&&noR b
 |.block _ b=>noR b
 |.loop b=>noR b
 |.scp b=>noR b
 |.rng .. =>false
 |_=>true
theorem Zo{D:Nat→Prop}{α:Type}:∀(ic:Ic) (R:α→Exit→St→Prop) (st:St),noR ic=true→wpc P D ic (fun e s=>∃x,R x e s) st→∃x,wpc P D ic (R x) st
 |.skip,R,st,nr,h=>h
 |.reg s,R,st,nr,h=>by
  obtain⟨s',⟨x,hx⟩,h2⟩:=JBO s _ st h;exact⟨x,ZO (by rintro _ rfl;exact hx) s st h2⟩
 |.regd un s,R,st,nr,h=>by
  obtain⟨s',l',⟨h1,x,hx⟩,h2⟩:=JDn s _ st [] h;exact⟨x,UN (by rintro _ _ ⟨rfl,rfl⟩;exact⟨h1,hx⟩) s st [] h2⟩
 |.dn a ts,R,st,nr,h=>by
  obtain⟨x,hx⟩:=Zo (α:=α) a (fun x e s=>match e with|.normal=>R x .normal ⟨Un s.tm ts,s.hp⟩|e=>R x e s) st nr (Jc a st (fun e s h=>by cases e<;>exact h) h);exact⟨x,Jc a st (fun e s h=>by cases e<;>exact h) hx⟩
 |.seq a b,R,st,nr,h=>by
  simp only[noR,Vi]at nr;obtain⟨x,hx⟩:=Zo (α:=α) a (fun x e s=>match e with|.normal=>wpc P D b (R x) s|e=>R x e s) st nr.1 (Jc a st (fun e s h=>by
   cases e with
   |normal=>exact Zo b R s nr.2 h
   |_=>exact h) h)
  exact⟨x,Jc a st (fun e s h=>by cases e<;>exact h) hx⟩
 |.ite c a b,R,st,nr,h=>by
  simp only[noR,Vi]at nr;rw[JGh]at h;simp only[JGh];split at h
  ·rename_i v hv;cases v with
   |true=>obtain⟨x,hx⟩:=Zo a R st nr.1 (h.1 rfl);exact⟨x,fun _=>hx,fun e=>by cases e⟩
   |false=>obtain⟨x,hx⟩:=Zo b R st nr.2 (h.2 rfl);exact⟨x,fun e=>(by cases e),fun _=>hx⟩
  ·exact h.elim
 |.block id b,R,st,nr,h=>by
  obtain⟨x,hx⟩:=Zo (α:=α) b (fun x e s=>match e with|.exit id'=>if id'=id then R x .normal s else R x (.exit id') s|e=>R x e s) st nr (Jc b st (fun e s h=>by
   cases e with
   |exit id'=>
    simp only at h⊢;split at h
    ·rename_i q;simp only[q,if_true];exact h
    ·rename_i q;simp only[q,if_false];exact h
   |_=>exact h) h)
  exact⟨x,Jc b st (fun e s h=>by cases e<;>exact h) hx⟩
 |.loop b,R,st,nr,h=>by
  obtain⟨I,⟨n,s,hw,hi⟩,hI⟩:=h;have nr:noR b=true:=nr;have main:∀n s,I n s→∃x,∃J:Nat→St→Prop,(∃n0 s0,n0≤n∧Wk D s s0∧J n0 s0)∧∀n s,J n s→wpc P D b (fun e s'=>match e with|.normal=>∃m s'',m<n∧Wk D s' s''∧J m s''|e=>R x e s') s:=by
   intro n
   induction n using Nat.strongRecOn with
   |_ n ih=>
    intro s hs;obtain⟨x,hx⟩:=Zo (α:=α) b (fun x e s'=>match e with
     |.normal=>∃J:Nat→St→Prop,(∃n0 s0,n0<n∧Wk D s' s0∧J n0 s0)∧∀n s,J n s→wpc P D b (fun e s'=>match e with|.normal=>∃m s'',m<n∧Wk D s' s''∧J m s''|e=>R x e s') s
     |e=>R x e s') s nr (Jc b s (fun e s' h=>by
      cases e with
      |normal=>
       obtain⟨m,s'',hm,hw,hi⟩:=h;obtain⟨x,J,⟨n0,s0,h1,h2,h3⟩,h4⟩:=ih m hm s'' hi;exact⟨x,J,⟨n0,s0,oM,hw.trans h2,h3⟩,h4⟩
      |_=>exact h) (hI n s hs))
    refine⟨x,fun k t=>(k=n∧t=s)∨(k<n∧∃J:Nat→St→Prop,J k t∧∀n s,J n s→wpc P D b (fun e s'=>match e with|.normal=>∃m s'',m<n∧Wk D s' s''∧J m s''|e=>R x e s') s),
     ⟨n,s,Nat.le_refl _,Wk.refl _,.inl ⟨rfl,rfl⟩⟩,?_⟩
    rintro k t (⟨rfl,rfl⟩|⟨hk,J,hJ,hV⟩)
    ·refine Jc b t (fun e s' h=>?_) hx;cases e with
     |normal=>
      obtain⟨J,⟨n0,s0,h1,h2,h3⟩,h4⟩:=h;exact⟨n0,s0,h1,h2,.inr ⟨h1,J,h3,h4⟩⟩
     |_=>exact h
    ·refine Jc b t (fun e s' h=>?_) (hV k t hJ);cases e with
     |normal=>
      obtain⟨m,s'',h1,h2,h3⟩:=h;exact⟨m,s'',h1,h2,.inr ⟨oM,J,h3,hV⟩⟩
     |_=>exact h
  obtain⟨x,J,⟨n0,s0,h1,h2,h3⟩,h4⟩:=main n s hi;exact⟨x,J,⟨n0,s0,hw.trans h2,h3⟩,h4⟩
 |.exit id,R,st,nr,h=>h
 |.lab,R,st,nr,h=>h
 |.scp a,R,st,nr,h=>by
  obtain⟨x,hx⟩:=Zo (α:=α) a (fun x e s=>match e with|.goto _=>False|e=>R x e s) st nr (Jc a st (fun e s h=>by
   cases e with
   |goto l=>exact h.elim
   |_=>exact h) h)
  exact⟨x,Jc a st (fun e s h=>by cases e<;>exact h) hx⟩
 |.ret,R,st,nr,h=>h
 |.bad,_,_,_,h=>h.elim
 |.rng f N lid ps c1 c2 asg body,R,st,nr,h=>by cases nr
def XK{α:Type}(k:Option Bool)(ris:List RI)(T:List (Nat×Obj))(v:α→Av)(ups:α→List (Nat×Obj))(good:α→Prop)(e:Exit)(s:St):Prop:=∃x,good x∧JEJ k ris T (v x) (ups x) e s
attribute [go_sem] XK
theorem FnOk.cex{f N:Nat}{ic:Ic}{ris:List RI}(h:FnOk P f N ic ris){k:Option Bool}{α:Type}{args:List Av}{T:List (Nat×Obj)}(v:α→Av)(ups:α→List (Nat×Obj))(good:α→Prop)(hn:args.length≤N)
  (hc:∀x,good x→closed (JA (get T) (ups x)))(hv:∀x,good x→inT (JA (get T) (ups x)) (v x))
  (hw:wpc P D0 ic (XK k ris T v ups good) ⟨enum 0 args,T⟩)(nr:noR ic=true:=by rfl):∃x,good x∧Con P f args T (v x) (ups x):=by
 obtain⟨⟨x,hg⟩,hx⟩:=Zo (α:={x//good x}) ic (fun x e s=>JEJ k ris T (v x.1) (ups x.1) e s) _ nr (Jc ic _ (fun e s ⟨x,h1,h2⟩=>⟨⟨x,h1⟩,h2⟩) hw);exact⟨x,hg,h.con hn (hc x hg) (hv x hg) hx⟩
theorem FnOk.pex{f N:Nat}{ic:Ic}{ris:List RI}(h:FnOk P f N ic ris){α:Type}{args:List Dat}(v:α→Av)(good:α→Prop)(hn:args.length≤N)(hv:∀x,good x→JFM (get []) (v x))
  (hw:wpc P D0 ic (XK (some false) ris [] v (fun _=>[]) good) ⟨enum 0 (args.map .d),[]⟩)(nr:noR ic=true:=by rfl):∃x,good x∧Jz P f args (v x):=
 h.cex v (fun _=>[]) good (sX hn) (fun _ _=>by intro i o h;cases h) hv hw nr
end Av
namespace Av
open Go
variable {P:Program}{f:Nat}
mutual
def fits:Dat→Prop
 |.str s=>s.length≤68719476736
 |.int k n=>k.min≤n∧n≤k.max
 |.list _ xs=>xs.length≤68719476736∧Ue xs
 |.agg cs=>Ue cs
 |.ptr cs=>Ue cs
 |.iface _ d=>fits d
 |_=>True
def Ue:List Dat→Prop
 |[]=>True
 |x::r=>fits x∧Ue r
end
theorem UC:∀{l:List Dat},Ue l↔∀x∈l,fits x
 |[]=>by simp[Ue]
 |x::r=>by simp[Ue,UC (l:=r)]
theorem JJr{x:Dat}(h:∀c∈x.cells,fits c):fits x:=by
 cases x with
 |agg cs=>simp only[fits];exact UC.2 h
 |_=>exact h _ (by simp[Dat.cells])
theorem Rep.fits{A:Nat→Prop}{w:World}{x:Dat}{v:Value}(h:Rep A w x v):Av.fits x:=by
 induction h with
 |str s h=>exact h
 |int k n h=>exact h
 |emp sz a cap=>simp[Av.fits,Ue]
 |list sz xs b o n cap vs hn hAb hl hc h1 hsz hh hvl hv ih=>
  refine⟨hc,UC.2 fun x hx=>JJr fun c hc'=>?_⟩;have hm:c∈flat xs:=List.mem_flatMap.2 ⟨x,hx,hc'⟩;obtain⟨i,hi,rfl⟩:=List.getElem_of_mem hm;exact ih i _ _ (Vl hi) (Vl oM)
 |agg cs arr hl h1 hv ih=>
  simp only[Av.fits];refine UC.2 fun c hc=>?_
  obtain⟨i,hi,rfl⟩:=List.getElem_of_mem hc;exact ih i _ _ (Vl hi) (Array.getElem?_eq_getElem oM)
 |ptr cs b o vs hAb h1 hh hvl hv ih=>
  simp only[Av.fits];refine UC.2 fun c hc=>?_
  obtain⟨i,hi,rfl⟩:=List.getElem_of_mem hc;exact ih i _ _ (Vl hi) (Vl oM)
 |iface t x v h ih=>exact ih
 |_=>trivial
variable [Glb][Rls]
theorem Jz.Ja{ds:List Dat}{v:Av}(hh:Has P f)(h:(∀d∈ds,fits d)→Jz P f ds v):Jz P f ds v:=by
 refine⟨hh,fun β A w vs hc hvs=>(h fun d hd=>?_).2 β A w vs hc hvs⟩;obtain⟨i,hi,rfl⟩:=List.getElem_of_mem hd;have hl:ds.length=vs.size:=sX hvs.1;have:=hvs.2 i (.d ds[i]) vs[i] (by simp[hi]) sP;exact this.JU.fits
theorem Con.Ja{args:List Av}{T:List (Nat×Obj)}{v:Av}{ups:List (Nat×Obj)}(hh:Has P f)(h:(∀d,.d d∈args→fits d)→Con P f args T v ups):Con P f args T v ups:=by
 refine⟨hh,fun β A w vs hc hvs=>(h fun d hd=>?_).2 β A w vs hc hvs⟩;obtain⟨i,hi,e⟩:=List.getElem_of_mem hd;have:=hvs.2 i (.d d) (vs[i]'(by have:=hvs.1;omega)) (by rw[←e];simp) sP;exact this.JU.fits
theorem FnOk.has{N:Nat}{ic:Ic}{ris:List RI}(h:FnOk P f N ic ris):Has P f:=by
 obtain⟨fn,code,h1,h2,h3,_⟩:=h.ex;exact⟨fn,h1,by rw[h2];rfl,h3⟩
end Av
namespace Av
open Go Go.Sort Go.Proofs
variable [Glb][Rls]
theorem ZS(l:List (List UInt8)):flat (l.map .str)=l.map .str:=by
 induction l with
 |nil=>rfl
 |cons x r ih=>simp only[flat,Va,List.flatMap_cons,Dat.cells,List.singleton_append,List.cons.injEq,true_and];exact ih
section
variable {β:JM}{A:Nat→Prop}{w:World}{H:Heap}
theorem JII{vs:Array Value}(h:1=vs.size):∃x,vs=#[x]:=by
 refine⟨vs[0],?_⟩;apply Array.ext
 ·simp[←h]
 ·intro i h1 h2;have:i=0:=oM;subst this;rfl
end
theorem XC:∀(ups:List (Nat×Obj)) (H:Heap) (m:Nat),¬(get ups m).isSome=true→JA H ups m=H m
 |[],H,m,_=>rfl
 |(i,o)::r,H,m,h=>by
  simp only[get]at h;split at h
  ·exact absurd rfl h
  ·rename_i hne;simp only[JA];rw[XC r _ m h,JN _ _ (Ne.symm hne)]
theorem Zp:∀(ups:List (Nat×Obj)) (H H':Heap) (m:Nat),(get ups m).isSome=true→JA H ups m=JA H' ups m
 |[],H,H',m,h=>by cases h
 |(i,o)::r,H,H',m,h=>by
  simp only[JA];by_cases hr:(get r m).isSome=true
  ·exact Zp r _ _ m hr
  ·rw[XC r _ m hr,XC r _ m hr];simp only[get]at h;split at h
   ·rename_i e;subst e;rw[JB,JB]
   ·exact absurd h hr
theorem Stp.JKO{β:JM}{A:Nat→Prop}{w:World}{H:Heap}(hc:Core β A w H){b j k sz:Nat}{cs:List Av}(hb:H b=some (.box cs))(hj:cs[j]? =some (.d (.nil sz)))(hk:H k=none)(hsz:0<sz):
  ∃β',Stp β A w H β' A w (upd (upd H k (some (.row 0 sz []))) b (some (.box (cs.set j (.ms k 0))))):=by
 have hne:b≠k:=fun e=>by subst e;rw[hk]at hb;cases hb
 have hst:=Stp.Yu (β:=β) hc hk hsz;have hb1:upd H k (some (.row 0 sz [])) b=some (.box cs):=by rw[JN _ _ hne];exact hb
 obtain⟨bb,C,T,e1,e2,e3,e4,e5⟩:=hst.core.objs b _ hb1;have hset:w.setRow bb C=w:=Y0 e2;have hst2:=Stp.JHP (cs':=cs.set j (.ms k 0)) (C':=C) hst.core hb1 e1 e2 (sX e3) e4 (fun hall i c v hc' hv'=>by
  rw[List.getElem?_set]at hc';split at hc'
  ·rename_i e;subst e;split at hc'
   ·cases hc';obtain⟨bb0,C0,T0,q1,q2,q3,q4,q5⟩:=hc.objs b _ hb;have hbb:bb0=bb:=by
     rw[JN _ _ hne]at e1;rw[q1]at e1;exact Option.some.inj (BK.mk.inj e1).1
    subst hbb;rw[e2]at q2;cases q2;have hr:=(q5 j _ v hj hv').JU;exact hall _ _ (VRep.Yu hr)
   ·cases hc'
  ·exact hall _ _ (e5 i c v hc' hv'))
 rw[hset]at hst2;exact⟨_,hst.trans hst2⟩
theorem JC.JKP{P:Program}{f:Cee}{args:List Av}{v:Av}{ups:List (Nat×Obj)}{T:List (Nat×Option Obj)}{i k sz j:Nat}{cs:List Av}
  (h:JC P f args ((i,some (.box (cs.set j (.ms k 0))))::(k,some (.row 0 sz []))::T) v ups)(hT:∀e∈T,e.1≠i∧e.1≠k)(hik:i≠k)(hj:cs[j]? =some (.d (.nil sz)))(hsz:0<sz)
  (hui:(get ups i).isSome=true)(huk:(get ups k).isSome=true):JC P f args ((i,some (.box cs))::(k,none)::T) v ups:=by
 intro β A w H vs hT' hc hvs;have hi:H i=some (.box cs):=hT' (i,some (.box cs)) Vh;have hk:H k=none:=hT' (k,none) (Vn _ Vh);have hst:=Stp.JKO hc hi hj hk hsz;obtain⟨β2,hst⟩:=hst;have hput:JA (upd (upd H k (some (.row 0 sz []))) i (some (.box (cs.set j (.ms k 0))))) ups=JA H ups:=by
  funext m;by_cases hm:(get ups m).isSome=true
  ·exact Zp ups _ _ m hm
  ·have hmi:m≠i:=fun e=>hm (e▸hui)
   have hmk:m≠k:=fun e=>hm (e▸huk)
   rw[XC ups _ m hm,XC ups _ m hm,JN _ _ hmi,JN _ _ hmk]
 have:=h β2 A w _ vs (fun e he=>?_) hst.core ⟨hvs.1,fun n c u h1 h2=>hst.vals c u (hvs.2 n c u h1 h2)⟩
 ·rw[hput]at this;cases f with
  |fn g=>
   rcases this with⟨a1,a2⟩|⟨u,w',a1,β',A',a2,a3⟩
   ·refine .inl ⟨a1,a2.mono ?_⟩;rintro e w' ⟨u,rfl,β',A',b1,b2⟩;exact⟨u,rfl,β',A',hst.trans b1,b2⟩
   ·exact .inr ⟨u,w',a1,β',A',hst.trans a2,a3⟩
  |yld=>
   obtain⟨l,rest,a1,fn,tmps,asg,body,a2,a3⟩:=this;refine⟨l,rest,a1,fn,tmps,asg,body,a2,a3.mono ?_⟩;rintro e w' ⟨u,rfl,β',A',b1,b2⟩;exact⟨u,rfl,β',A',hst.trans b1,b2⟩
 ·simp only[VA]at he;rcases he with rfl|rfl|he
  ·exact JB _ _ _
  ·rw[JN _ _ (Ne.symm hik)];exact JB _ _ _
  ·obtain⟨q1,q2⟩:=hT e he;rw[JN _ _ q1,JN _ _ q2];exact hT' e (Vn _ (Vn _ he))
end Av
namespace Av
open Go
variable [Glb][Rls]
variable {f:Nat}
variable {P:Program}{st:St}
theorem JKw{x b:Bool}{body:Ss}{y:Opd}{d:Nat}{r:Ss}{K:St→Prop}(h1:x=b→wps P body (fun st'=>∃yv,val (get st'.tm) y=some (.d (.bool yv))∧st'.hp=st.hp) st)
  (h2:∀z:Bool,wps P r K ⟨put (Un st.tm body.J1) d (.d (.bool z)),st.hp⟩):scQ P x b body y d r K st:=by
 by_cases h:x=b
 ·obtain⟨s',⟨yv,h3,h4⟩,h5⟩:=JBO body _ st (h1 h);exact J9 yv (fun _=>ZO (by rintro _ rfl;exact⟨h3,h4⟩) body st h5) (h2 _)
 ·exact J9 false (fun e=>absurd e h) (h2 _)
theorem U9{x:Bool}{A B:Prop}(h1:x=true→A)(h2:x=false→B):JJi x A B:=⟨h1,h2⟩
noncomputable def PA{P:Program}{f:Nat}{α:Type}{args:List Dat}{v:α→Av}{good:α→Prop}(h:∃x,good x∧Jz P f args (v x)):α:=Classical.choose h
theorem JGu{P:Program}{α:Type}{args:List Dat}{v:α→Av}{good:α→Prop}(h:∃x,good x∧Jz P f args (v x)):Jz P f args (v (PA h)):=(Classical.choose_spec h).2
theorem FnOk.pexF{N:Nat}{ic:Ic}{ris:List RI}(h:FnOk P f N ic ris){α:Type}{args:List Dat}(v:α→Av)(good:α→Prop)(x0:α)(g0:good x0)(hn:args.length≤N)(hv:∀x,good x→JFM (get []) (v x))
  (hw:(∀d∈args,fits d)→wpc P D0 ic (XK (some false) ris [] v (fun _=>[]) good) ⟨enum 0 (args.map .d),[]⟩)(nr:noR ic=true:=by rfl):∃x,good x∧Jz P f args (v x):=by
 by_cases hf:∀d∈args,fits d
 ·exact h.pex v good hn hv (hw hf) nr
 ·exact⟨x0,g0,Jz.Ja h.has fun h=>absurd h hf⟩
theorem FnOk.cexF{N:Nat}{ic:Ic}{ris:List RI}(h:FnOk P f N ic ris){k:Option Bool}{α:Type}{args:List Av}{T:List (Nat×Obj)}(v:α→Av)(ups:α→List (Nat×Obj))(good:α→Prop)(x0:α)(g0:good x0)(hn:args.length≤N)
  (hc:∀x,good x→closed (JA (get T) (ups x)))(hv:∀x,good x→inT (JA (get T) (ups x)) (v x))
  (hw:(∀d,.d d∈args→fits d)→wpc P D0 ic (XK k ris T v ups good) ⟨enum 0 args,T⟩)(nr:noR ic=true:=by rfl):∃x,good x∧Con P f args T (v x) (ups x):=by
 by_cases hf:∀d,.d d∈args→fits d
 ·exact h.cex v ups good hn hc hv (hw hf) nr
 ·exact⟨x0,g0,Con.Ja h.has fun h=>absurd h hf⟩
end Av
namespace Go.Proofs
open Go Av
open Av.Y
def ir49:Ic:=q (R (ox 1 0<|oN 2 y6<|N) [0])<|q (R (oL 8 6 1<|oN 3 y6<|oS 6 3 8<|N) [8])<|q (R (of 9 3 4<|on (.sto none (t 9) (.k (.nil 6)))<|of 10 3 5<|on (.sto none (t 10) (.k (.nil 7)))<|N) [9,10])<|q (q (R (of 11 1 4<|ol 12 11<|oh 13 12<|oz 14 0<|N) [11])<|D (.block 0<|.loop (q (.reg (ot 15 .lss 14 13<|N))<|q (D (I 15 S (E 0)) [15])<|q (D (.block 1<|q (R (oa true 16 6 12 14<|oL 17 6 16<|oN 5 y6<|oS 6 5 17<|N) [16,17])<|D (.regd [(1,3),(1,4)] (of 18 3 4<|ol 19 18<|oL 20 6 5<|cl 21 49 [t 20]<|oo 22 (.bls 6 [t 21])<|oo 23 (.app 6 (t 19) (t 22))<|of 24 3 4<|os 24 23<|N)) [5,18,19,20,21,22,23,24]) [])<|R (oi 25 .add 14 1<|om 14 25<|N) [25])) [12,13,14,15,5])<|q (q (R (of 26 1 5<|ol 27 26<|oh 28 27<|oz 29 0<|N) [1,26])<|D (.block 2<|.loop (q (.reg (ot 30 .lss 29 28<|N))<|q (D (I 30 S (E 2)) [30])<|q (D (.block 3<|q (R (oa true 31 7 27 29<|oL 32 7 31<|oN 7 y7<|oS 7 7 32<|N) [31,32])<|D (.regd [(1,6),(3,6),(1,8)] (of 33 3 5<|ol 34 33<|of 35 7 0<|ol 36 35<|of 37 7 1<|oL 38 6 37<|cl 39 49 [t 38]<|oo 40 (.bld y7 [(0,1,t 36),(1,6,t 39)])<|oo 41 (.bls 7 [t 40])<|oo 42 (.app 7 (t 34) (t 41))<|of 43 3 5<|os 43 42<|N)) [7,33,34,35,36,37,38,39,40,41,42,43]) [])<|R (oi 44 .add 29 1<|om 29 44<|N) [44])) [27,28,29,30,7])<|q (R (oL 45 6 3<|oS 6 2 45<|N) [3,45])<|.ret
theorem ok49:FT 49 46 ir49 [.cell 2 (some 6)]:=.o Tryz.func49
end Go.Proofs
namespace Go.Proofs
open Go Av
theorem JKx{P:Program}{f:Nat}{fn:Func}{e:Array Value→Sem Value}(hf:P.funcs[f]? =some fn)(hname:(fn.name== "runtime.NumGoroutine")=false)(hb:fn.body.isNone=true)
  (hn:(Extern.findNext fn).isNone=true)(he:Extern.find fn=some e){vs:Array Value}{w w':World}{u:Value}(hr:(e vs).run P w=.ok u w'):(callFunc f vs).run P w=.ok (.value u) w':=by
 have hn':Extern.findNext fn=none:=sX hn;have hb':fn.body=none:=sX hb;have hname':fn.name≠ "runtime.NumGoroutine" :=sX hname;simp[callFunc,hf,hname',hb',hn',he,hr]
def JMM(a b:Str):Int:=Extern.BytealgCompare.cmp ⟨a.toArray⟩ ⟨b.toArray⟩
theorem JJs(a b:Str):JMM a b= -1∨JMM a b=0∨JMM a b=1:=by
 unfold JMM Extern.BytealgCompare.cmp;split
 ·split<;>simp
 ·split
  ·simp
  ·split<;>simp
theorem ext218(a b:Str):CT 218 [.d (.str a),.d (.str b)] [] (.d (.int .i64 (JMM a b))) []:=by
 intro β A w H vs _ hc hvs;refine .inr ⟨.int .i64 (JMM a b),w,?_,β,A,Stp.refl hc,.d _ _ (.int _ _ ?_)⟩
 ·obtain⟨hl,hv⟩:=hvs;have h2:vs.size=2:=sX hl.symm;obtain⟨x,y,rfl⟩:∃x y,vs=#[x,y]:=by
   refine⟨vs[0],vs[1],?_⟩;apply Array.ext
   ·simp[h2]
   ·intro i h1 h2';have:i=0∨i=1:=oM;rcases this with rfl|rfl<;>rfl
  have hx:=(hv 0 _ x rfl rfl).JU;have hy:=(hv 1 _ y rfl rfl).JU;cases hx;cases hy;refine JKx (e:=Extern.BytealgCompare.compare) Tryz.func218 kR kR kR kR ?_;rfl
 ·rcases JJs a b with h|h|h<;>rw[h]<;>decide
mutual
def okV:Val→Prop
 |.mk _ _ _ _ l f=>l.length≤68719476736∧f.length≤68719476736∧JFS l∧JFT f
def JFS:List Val→Prop
 |[]=>True
 |v::r=>okV v∧JFS r
def okF:Fld→Prop
 |.mk _ v=>okV v
def JFT:List Fld→Prop
 |[]=>True
 |v::r=>okF v∧JFT r
end
mutual
inductive Itm where
 |mk (k f o n:Int) (b:List Bit)
inductive Bit where
 |mk (l:List Itm)
end
mutual
def J6:Itm→Dat
 |.mk k f o n b=>.agg [.int .u8 k,.int .u8 f,.int .u8 o,.int .u8 n,.list 1 (JCF b)]
def JEd:List Itm→List Dat
 |[]=>[]
 |v::r=>J6 v::JEd r
def Xy:Bit→Dat
 |.mk l=>.list 5 (JEd l)
def JCF:List Bit→List Dat
 |[]=>[]
 |v::r=>Xy v::JCF r
end
theorem JEe:∀l:List Itm,JEd l=l.map J6
 |[]=>by simp[JEd]
 |v::r=>by simp[JEd,JEe r]
theorem JDR:∀l:List Bit,JCF l=l.map Xy
 |[]=>by simp[JCF]
 |v::r=>by simp[JCF,JDR r]
def Bit.l:Bit→List Itm|.mk l=>l
theorem JAm(b:Bit):Xy b=.list 5 (b.l.map J6):=by cases b;simp[Xy,JEe,Bit.l]
theorem YF(k f o n:Int)(b:List Bit):J6 (.mk k f o n b)=.agg [.int .u8 k,.int .u8 f,.int .u8 o,.int .u8 n,.list 1 (b.map Xy)]:=by simp[J6,JDR]
def pathE(s:Str):Exp:=.mk 2 0 s [] []
theorem JEf(s:Str):PT 46 [.str s] (.d (Jd (pathE s))):=by
 refine ok46.pc ?_;rw[pathE,Ul];simp only[go_sem,ir46,Exp.op,Exp.int,Exp.text,Exp.value,Exp.args,Vb,Vv,Vc,simprocAttr]
def numE(n:Int):Exp:=.mk 1 0 [] [.mk 2 n 0 [] [] []] []
theorem JJt(n:Int):PT 48 [.int .i64 n] (.d (Jd (numE n))):=by
 refine ok48.pc ?_;rw[numE,Ul];simp only[Exp.op,Exp.int,Exp.text,Exp.value,Exp.args,Vb,Va];rw[JG];simp only[Val.kind,Val.int,Val.scale,Val.text,Val.list,Val.fields,Vb];simp only[go_sem,ir48,Vv,Vc,simprocAttr];intro x hx;rw[List.mem_singleton.1 hx];rfl
theorem JEg(n m:Int)(h0:0≤n)(hm:0<m):0≤n.tmod m∧n.tmod m<m:=by
 rw[Int.tmod_eq_emod_of_nonneg h0];exact⟨Int.emod_nonneg _ oM,Int.emod_lt_of_pos _ oM⟩
theorem e_val(s:Str):∃x:Exp,Av.d (.agg [.int .i64 1,.int .i64 0,.str [],.list 6 [.agg [.int .i64 4,.int .i64 0,.int .i64 0,.str s,.list 6 [],.list 7 []]],.list 5 []])=.d (Jd x):=
 ⟨.mk 1 0 [] [.mk 4 0 0 s [] []] [],by rw[Ul];simp only[Exp.op,Exp.int,Exp.text,Exp.value,Exp.args,Vb,Va,JG,Val.kind,Val.int,Val.scale,Val.text,Val.list,Val.fields]⟩
theorem ex47(n:Int)(h0:0≤n):∃x:Exp,True∧PT 47 [.int .i64 n] (.d (Jd x)):=by
 refine ok47.pex (fun x:Exp=>.d (Jd x)) (fun x:Exp=>True) (Nat.le_of_ble_eq_true rfl) (fun _ _=>by simp[JFM,JV,JR]) ?_;obtain⟨h1,h2⟩:=JEg n 4 h0 dC;have hk:(n.tmod 4).toNat=0∨(n.tmod 4).toNat=1∨(n.tmod 4).toNat=2∨(n.tmod 4).toNat=3:=oM;obtain⟨s,hs⟩:∃s,nth [Dat.str [97],Dat.str [98],Dat.str [99],Dat.str [100]] (n.tmod 4).toNat=Dat.str s:=by
  rcases hk with h|h|h|h<;>rw[h]<;>exact⟨_,rfl⟩
 simp only[go_sem,ir47,hs,Vv,Vc,Nat.reduceAdd,Nat.reduceEqDiff,Nat.reduceBEq,Nat.reduceLeDiff,reduceCtorEq,↓reduceIte];refine⟨by simp[Dat.cells],dC,⟨oM,oM⟩,?_⟩;exact⟨dC,fun x hx=>by rw[List.mem_singleton.1 hx];rfl,e_val s⟩
theorem JS4(op:Int)(s:Str)(l:List Exp):Jd (.mk op 0 s [] l)=.agg [.int .i64 op,.int .i64 0,.str s,.list 6 [],.list 5 (l.map Jd)]:=by
 rw[Ul];simp only[Exp.op,Exp.int,Exp.text,Exp.value,Exp.args,Vb]
theorem e_agg(op:Int)(s:Str)(l:List Exp):∃x:Exp,Av.d (.agg [.int .i64 op,.int .i64 0,.str s,.list 6 [],.list 5 (l.map Jd)])=.d (Jd x):=⟨.mk op 0 s [] l,by rw[JS4]⟩
theorem cE1(a:Exp):∀x∈[Jd a],x.cells.length=5:=by
 intro x hx;rw[List.mem_singleton.1 hx,Ul];rfl
theorem cE2(a b:Exp):∀x∈[Jd a,Jd b],x.cells.length=5:=by
 intro x hx;simp only[VA,List.not_mem_nil,or_false]at hx;rcases hx with rfl|rfl<;>rw[Ul]<;>rfl
theorem cA1(a b c d e:Dat):∀x∈[Dat.agg [a,b,c,d,e]],x.cells.length=5:=by
 intro x hx;rw[List.mem_singleton.1 hx];rfl
theorem cA2(a b c d e a' b' c' d' e':Dat):∀x∈[Dat.agg [a,b,c,d,e],Dat.agg [a',b',c',d',e']],x.cells.length=5:=by
 intro x hx;simp only[VA,List.not_mem_nil,or_false]at hx;rcases hx with rfl|rfl<;>rfl
theorem cA3(a b c d e:Dat)(y:Exp):∀x∈[Dat.agg [a,b,c,d,e],Jd y],x.cells.length=5:=by
 intro x hx;simp only[VA,List.not_mem_nil,or_false]at hx;rcases hx with rfl|rfl
 ·rfl
 ·rw[Ul];rfl
theorem e_in1(op o1:Int)(a b:Exp):∃x:Exp,Av.d (.agg [.int .i64 op,.int .i64 0,.str [],.list 6 [],.list 5 [.agg [.int .i64 o1,.int .i64 0,.str [],.list 6 [],.list 5 [Jd a,Jd b]]]])=.d (Jd x):=
 ⟨.mk op 0 [] [] [.mk o1 0 [] [] [a,b]],by simp only[JS4,Va,Vb]⟩
theorem e_in2(op o1 o2:Int)(a b c d:Exp):∃x:Exp,Av.d (.agg [.int .i64 op,.int .i64 0,.str [],.list 6 [],.list 5 [.agg [.int .i64 o1,.int .i64 0,.str [],.list 6 [],.list 5 [Jd a,Jd b]],.agg [.int .i64 o2,.int .i64 0,.str [],.list 6 [],.list 5 [Jd c,Jd d]]]])=.d (Jd x):=
 ⟨.mk op 0 [] [] [.mk o1 0 [] [] [a,b],.mk o2 0 [] [] [c,d]],by simp only[JS4,Va,Vb]⟩
theorem e_in3(op o1:Int)(a b c:Exp):∃x:Exp,Av.d (.agg [.int .i64 op,.int .i64 0,.str [],.list 6 [],.list 5 [.agg [.int .i64 o1,.int .i64 0,.str [],.list 6 [],.list 5 [Jd a,Jd b]],Jd c]])=.d (Jd x):=
 ⟨.mk op 0 [] [] [.mk o1 0 [] [] [a,b],c],by simp only[JS4,Va,Vb]⟩
theorem c47(n:Int)(h0:0≤n):CT 47 [.d (.int .i64 n)] [] (.d (Jd (PA (ex47 n h0)))) []:=(JGu (ex47 n h0)).call trivial
theorem fits8{k f o n:Int}{b:List Bit}(h:fits (J6 (.mk k f o n b))):(0≤k∧k<256)∧(0≤f∧f<256)∧(0≤o∧o<256)∧(0≤n∧n<256):=by
 rw[YF]at h;simp[fits,Ue,IntKind.min,IntKind.max,IntKind.signed,IntKind.bits]at h;omega
theorem ex45(k f o n:Int)(b:List Bit):∃x:Exp,True∧PT 45 [J6 (.mk k f o n b)] (.d (Jd x)):=by
 refine ok45.pexF (fun x:Exp=>.d (Jd x)) (fun x:Exp=>True) (.mk 0 0 [] [] []) trivial (Nat.le_of_ble_eq_true rfl) (fun _ _=>by simp[JFM,JV,JR]) fun hfit=>?_
 obtain⟨hk,hf,ho,hn⟩:=fits8 (hfit (J6 (.mk k f o n b)) sP);have h10:=JEg n 10 hn.1 dC;have o6:=JEg o 6 ho.1 dC;have o2:=JEg o 2 ho.1 dC;have c1:=(JEf [98,111,100,121,46,110]).call trivial;have c2:=(JJt (n.tmod 10)).call trivial;have c3:=(JEf [98,111,100,121,46,119]).call trivial;have c4:=c47 (n.tmod 10) h10.1;have c5:=(JEf [98,111,100,121,46,111]).call trivial;have c6:=(JJt 1).call trivial;have w10:IntKind.i64.wrap (n.tmod 10)=n.tmod 10:=wrap64 oM oM;rw[YF];simp only[go_sem,ir45,w10,Vv,Vc,Nat.reduceAdd,Nat.reduceEqDiff,Nat.reduceBEq,Nat.reduceLeDiff,reduceCtorEq,↓reduceIte];refine⟨dC,dC,?_⟩;refine wn c1 ?_;simp only[go_sem,Vv,Vc,Nat.reduceAdd,Nat.reduceEqDiff,Nat.reduceBEq,Nat.reduceLeDiff,reduceCtorEq,↓reduceIte];refine wn c2 ?_;simp only[go_sem,Vv,Vc,Nat.reduceAdd,Nat.reduceEqDiff,Nat.reduceBEq,Nat.reduceLeDiff,reduceCtorEq,↓reduceIte];refine⟨cE2 _ _,dC,?_⟩;refine JP rfl c3 trivial ?_;simp only[go_sem,Vv,Vc,Nat.reduceAdd,Nat.reduceEqDiff,Nat.reduceBEq,Nat.reduceLeDiff,reduceCtorEq,↓reduceIte];refine JP rfl c4 trivial ?_;simp only[go_sem,Vv,Vc,Nat.reduceAdd,Nat.reduceEqDiff,Nat.reduceBEq,Nat.reduceLeDiff,reduceCtorEq,↓reduceIte];refine⟨cE2 _ _,?_⟩;refine⟨by first|rfl|decide,?_⟩;refine wn c5 ?_;simp only[go_sem,Vv,Vc,Nat.reduceAdd,Nat.reduceEqDiff,Nat.reduceBEq,Nat.reduceLeDiff,reduceCtorEq,↓reduceIte];refine wn c2 ?_;simp only[go_sem,Vv,Vc,Nat.reduceAdd,Nat.reduceEqDiff,Nat.reduceBEq,Nat.reduceLeDiff,reduceCtorEq,↓reduceIte];refine⟨cE2 _ _,dC,?_⟩
 repeat' (refine U9 (fun _=>?_) (fun _=>?_))
 all_goals try exact e_agg _ _ [_,_]
 all_goals try exact e_agg _ _ []
 all_goals try exact⟨cA1 _ _ _ _ _,e_in1 _ _ _ _⟩
 all_goals try exact⟨dC,dC,cA2 _ _ _ _ _ _ _ _ _ _,e_in2 _ _ _ _ _ _ _⟩
 all_goals
  refine wn c1 ?_;simp only[go_sem,Vv,Vc,Nat.reduceAdd,Nat.reduceEqDiff,Nat.reduceBEq,Nat.reduceLeDiff,reduceCtorEq,↓reduceIte];refine wn c6 ?_;simp only[go_sem,Vv,Vc,Nat.reduceAdd,Nat.reduceEqDiff,Nat.reduceBEq,Nat.reduceLeDiff,reduceCtorEq,↓reduceIte];refine⟨cE2 _ _,?_⟩;refine wn c2 ?_;simp only[go_sem,Vv,Vc,Nat.reduceAdd,Nat.reduceEqDiff,Nat.reduceBEq,Nat.reduceLeDiff,reduceCtorEq,↓reduceIte];exact⟨cA3 _ _ _ _ _ _,e_in3 _ _ _ _ _⟩
end Go.Proofs
namespace Go.Proofs
open Go Av
open Go.Proofs.YtjcljkgafcdbgaaGreatDoor.Rows (uptoBulk uptoBulkAll)
theorem qc5:Tryz.prog.cellsOf 5=1:=kR
theorem qc22:Tryz.prog.cellsOf 22=1:=kR
theorem qc24:Tryz.prog.cellsOf 24=1:=kR
theorem qc131:Tryz.prog.cellsOf 131=1:=kR
theorem JN3:Tryz.prog.cellsOf 133=5:=kR
theorem JKy(a:Itm):(J6 a).cells.length=5:=by cases a;rw[YF];rfl
theorem JN4(a:Bit):(Xy a).cells.length=1:=by rw[JAm];rfl
section
variable {H:Type}{enc:TypeId×Value→H}{w:World}{base:Nat}{spare:Nat→Bool}{held:Bool}
theorem fl9{fs:Array Field}{n:Nat}{cs:List Value}{xs:List (DataW H×List MemPlace)}
  (hf:∀(i:Nat) (f:Field),fs[i]? =some f→DataW.trod enc Tryz.prog w base spare held n f.type ((cs.drop f.offset).take (Tryz.prog.cellsOf f.type))=xs[i]?)
  (i:Nat)(t off:Nat){k:Nat}(hi:(fs[i]?).map (fun f=>(f.type,f.offset))=some (t,off))(hc:Tryz.prog.cellsOf t=k):DataW.trod enc Tryz.prog w base spare held n t ((cs.drop off).take k)=xs[i]? :=by
 cases e:fs[i]? with
 |none=>rw[e]at hi;cases hi
 |some f=>
  rw[e]at hi;simp only[Vj,Vd,Ve]at hi;have:=hf i f e;rw[hi.1,hi.2,hc]at this;exact this
theorem rd_133(fuel:Nat):∀(cs:List Value) (x:DataW H×List MemPlace),DataW.trod enc Tryz.prog w base spare held fuel 133 cs=some x→uptoBulk x.1≤1048576→∃a:Itm,CR (old w) w (J6 a).cells cs:=by
 induction fuel using Nat.strongRecOn with
 |_ fuel ih=>
  intro csn x hn hbn;obtain⟨xs,n',rfl,rfl,hl,hlen,hf⟩:=DataW.trod_struct Tryz.underlying133 hn;rw[JN3]at hl;have h0:=fl9 hf 0 5 0 rfl qc5;have h1:=fl9 hf 1 5 1 rfl qc5;have h2:=fl9 hf 2 5 2 rfl qc5;have h3:=fl9 hf 3 5 3 rfl qc5;have h4:=fl9 hf 4 131 4 rfl qc131
  match xs,hlen,csn,hl with
  |[y0,y1,y2,y3,y4],_,[a0,a1,a2,a3,a4],_=>
   simp only[Va,Vb,uptoBulk,uptoBulkAll]at hbn;obtain⟨z0,g0⟩:=JER Tryz.underlying5 (show DataW.trod enc Tryz.prog w base spare held n' 5 [a0]=some y0 from h0);obtain⟨z1,g1⟩:=JER Tryz.underlying5 (show DataW.trod enc Tryz.prog w base spare held n' 5 [a1]=some y1 from h1);obtain⟨z2,g2⟩:=JER Tryz.underlying5 (show DataW.trod enc Tryz.prog w base spare held n' 5 [a2]=some y2 from h2);obtain⟨z3,g3⟩:=JER Tryz.underlying5 (show DataW.trod enc Tryz.prog w base spare held n' 5 [a3]=some y3 from h3);obtain⟨z4,_,_,g4⟩:=JES (encA:=Xy) (ok:=fun _=>True) Tryz.underlying131 qc22 dC JN4 (show DataW.trod enc Tryz.prog w base spare held n' 131 [a4]=some y4 from h4) oM (fun m cs' y hm hy hyb=>by
    obtain⟨z,_,_,g⟩:=JES (encA:=J6) (ok:=fun _=>True) Tryz.underlying22 JN3 dC JKy hy hyb (fun m2 cs2 y2 hm2 hy2 hb2=>by
     obtain⟨v,g⟩:=ih m2 oM cs2 y2 hy2 hb2;exact⟨v,trivial,g⟩)
    exact⟨.mk z,trivial,by rw[JAm];exact g⟩)
   refine⟨.mk z0 z1 z2 z3 z4,?_⟩;have:=g0.append (g1.append (g2.append (g3.append g4)));simpa only[YF,Dat.cells,List.singleton_append,List.cons_append,List.nil_append,List.append_assoc]using this
theorem rd_24(fuel:Nat):∀(cs:List Value) (x:DataW H×List MemPlace),DataW.trod enc Tryz.prog w base spare held fuel 24 cs=some x→uptoBulk x.1≤1048576→∃a:List Itm,CR (old w) w [.list 5 (a.map J6)] cs:=by
 intro csn x hn hbn;obtain⟨xs,n',rfl,rfl,hl,hlen,hf⟩:=DataW.trod_struct Tryz.underlying24 hn;rw[qc24]at hl;have h0:=fl9 hf 0 22 0 rfl qc22
 match xs,hlen,csn,hl with
 |[y0],_,[a0],_=>
  simp only[Va,Vb,uptoBulk,uptoBulkAll]at hbn;obtain⟨z,_,_,g⟩:=JES (encA:=J6) (ok:=fun _=>True) Tryz.underlying22 JN3 dC JKy (show DataW.trod enc Tryz.prog w base spare held n' 22 [a0]=some y0 from h0) oM (fun m cs' y _ hy hyb=>by
   obtain⟨v,g⟩:=rd_133 m cs' y hy hyb;exact⟨v,trivial,g⟩)
  exact⟨z,g⟩
end
end Go.Proofs
namespace Go.Proofs.YtjcljkgafcdbgaaGreatDoor
open Go Go.Proofs Av Go.ChangeShapes Go.WideShapes Go.ChangeAt Go.RowKit
section
variable {H:Type}{enc:TypeId×Value→H}{w:World}{r:Reach}{base b0:Nat}{spare:Nat→Bool}{held:Bool}{v:Value}{d:DataW H}{ps:List MemPlace}
theorem JN5(hval:Value.okWide Tryz.prog w r b0 24 v)(hd:DataW.Trod enc Tryz.prog w base spare held 24 v d ps)(hb:Rows.uptoBulk d≤1048576):∃l:List Itm,Rep (Av.old w) w (.agg [.list 5 (l.map J6)]) v:=by
 obtain⟨fuel,hf⟩:=hd;obtain⟨m,hc⟩:=rd_24 fuel _ (d,ps) hf hb;refine⟨m,?_⟩;unfold Value.okWide at hval;rw[Tryz.underlying24]at hval;obtain⟨cs,rfl,_,_⟩:=hval;obtain⟨h1,h2,h3⟩:=hc;have e:(Value.agg cs).cells=cs:=rfl;rw[e]at h1 h2 h3;have h1':[Dat.list 5 (m.map J6)].length=cs.size:=sX h1;exact .agg _ _ h1' h2 (fun i c v hc hv=>h3 i c v hc (sX hv))
theorem JS5(hval:Value.okWide Tryz.prog w r b0 5 v)(hd:DataW.Trod enc Tryz.prog w base spare held 5 v d ps):∃k:Int,Rep (Av.old w) w (.int .u8 k) v:=by
 obtain⟨fuel,hf⟩:=hd;obtain⟨m,hc⟩:=JER Tryz.underlying5 hf;refine⟨m,?_⟩;unfold Value.okWide at hval;obtain⟨h1,h2,h3⟩:=hc;cases v with
 |int _ _=>exact h3 0 _ _ rfl rfl
 |_=>first|exact h3 0 _ _ rfl rfl|(rw[Tryz.underlying5]at hval;exact hval.elim)|(simp[Tryz.underlying5]at hval)
end
end Go.Proofs.YtjcljkgafcdbgaaGreatDoor
