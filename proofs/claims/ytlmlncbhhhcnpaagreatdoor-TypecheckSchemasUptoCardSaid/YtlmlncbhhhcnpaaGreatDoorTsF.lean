/- Part F of a proof. -/
import Derived.Test.YtlmlncbhhhcnpaaGreatDoorTsC
import Derived.Test.YtlmlncbhhhcnpaaGreatDoorTsA
import Derived.ChangeAt
import Derived.RowKit
import Derived.Test.YtlmlncbhhhcnpaaGreatDoorTsD
import Derived.OpenShut
import Derived.Carry
import Derived.LaidMore
import Derived.Deep.DeepWitnessRowRef
import Derived.Test.YtlmlncbhhhcnpaaGreatDoorProg
import Derived.Sort.Grow
import Derived.Sort.EncStr
import Derived.Lib.SlicesCompact
import Derived.Laws.AppendOwn
import Derived.Shelf.Strings.OnBuilder
import Derived.Lib.Bytealg
import Derived.Shelf.Slices.Clone
import Derived.Shelf.SlGeneric
import Derived.Shelf.LaysM
import Derived.Shelf.Strconv.Itoa3
import Derived.Shelf.LaysC
import Derived.Shelf.Strconv.AtoiAll
import Derived.Ground.Names2Prog
import Derived.Ground.SlgnProg
import Derived.Lib.ItoaLen
import Derived.Shelf.Strings.BuilderK
import Derived.Shelf.Strings.BuilderRune
import Derived.Shelf.Strings.Repeat
import Derived.Shelf.Unicode.DecodeAny
set_option linter.unusedVariables false
set_option linter.unusedSimpArgs false
set_option linter.unusedSectionVars false
set_option linter.constructorNameAsVariable false
set_option linter.unnecessarySimpa false
set_option maxRecDepth 100000
namespace Av
open Go
variable [Glb]
abbrev Str:=List UInt8
mutual
inductive Val where
 |mk (kind int scale:Int) (text:Str) (list:List Val) (fields:List Fld)
inductive Fld where
 |mk (name:Str) (value:Val)
end
namespace Val
def kind:Val→Int|.mk k _ _ _ _ _=>k
def int:Val→Int|.mk _ i _ _ _ _=>i
def scale:Val→Int|.mk _ _ s _ _ _=>s
def text:Val→Str|.mk _ _ _ t _ _=>t
def list:Val→List Val|.mk _ _ _ _ l _=>l
def fields:Val→List Fld|.mk _ _ _ _ _ f=>f
end Val
namespace Fld
def name:Fld→Str|.mk n _=>n
def value:Fld→Val|.mk _ v=>v
end Fld
mutual
def encV:Val→Dat
 |.mk k i s t l f=>.agg [.int .i64 k,.int .i64 i,.int .i64 s,.str t,.list 6 (encVs l),.list 7 (encFs f)]
def encVs:List Val→List Dat
 |[]=>[]
 |v::r=>encV v::encVs r
def encF:Fld→Dat
 |.mk n v=>.agg (.str n::(encV v).cells)
def encFs:List Fld→List Dat
 |[]=>[]
 |v::r=>encF v::encFs r
end
theorem encVs_map:∀l:List Val,encVs l=l.map encV
 |[]=>by simp[encVs]
 |v::r=>by simp[encVs,encVs_map r]
theorem encFs_map:∀l:List Fld,encFs l=l.map encF
 |[]=>by simp[encFs]
 |v::r=>by simp[encFs,encFs_map r]
theorem encV_eq(v:Val):encV v=.agg [.int .i64 v.kind,.int .i64 v.int,.int .i64 v.scale,.str v.text,.list 6 (v.list.map encV),.list 7 (v.fields.map encF)]:=by
 cases v;simp[encV,encVs_map,encFs_map,Val.kind,Val.int,Val.scale,Val.text,Val.list,Val.fields]
theorem encF_eq(f:Fld):encF f=.agg [.str f.name,.int .i64 f.value.kind,.int .i64 f.value.int,.int .i64 f.value.scale,.str f.value.text,.list 6 (f.value.list.map encV),.list 7 (f.value.fields.map encF)]:=by
 cases f;simp[encF,encV_eq,Fld.name,Fld.value,Dat.cells]
theorem nth_encV{xs:List Val}{k:Nat}(h:k<xs.length):nth (xs.map encV) k=.agg [.int .i64 xs[k].kind,.int .i64 xs[k].int,.int .i64 xs[k].scale,.str xs[k].text,.list 6 (xs[k].list.map encV),.list 7 (xs[k].fields.map encF)]:=by
 rw[nth_eq (sX h),List.getElem_map,encV_eq]
theorem nth_encF{xs:List Fld}{k:Nat}(h:k<xs.length):nth (xs.map encF) k=.agg [.str xs[k].name,.int .i64 xs[k].value.kind,.int .i64 xs[k].value.int,.int .i64 xs[k].value.scale,.str xs[k].value.text,.list 6 (xs[k].value.list.map encV),.list 7 (xs[k].value.fields.map encF)]:=by
 rw[nth_eq (sX h),List.getElem_map,encF_eq]
inductive Exp where
 |mk (op int:Int) (text:Str) (value:List Val) (args:List Exp)
namespace Exp
def op:Exp→Int|.mk o _ _ _ _=>o
def int:Exp→Int|.mk _ i _ _ _=>i
def text:Exp→Str|.mk _ _ t _ _=>t
def value:Exp→List Val|.mk _ _ _ v _=>v
def args:Exp→List Exp|.mk _ _ _ _ a=>a
end Exp
mutual
def encE:Exp→Dat
 |.mk o i t v a=>.agg [.int .i64 o,.int .i64 i,.str t,.list 6 (v.map encV),.list 5 (encEs a)]
def encEs:List Exp→List Dat
 |[]=>[]
 |v::r=>encE v::encEs r
end
theorem encEs_map:∀l:List Exp,encEs l=l.map encE
 |[]=>by simp[encEs]
 |v::r=>by simp[encEs,encEs_map r]
theorem encE_eq(e:Exp):encE e=.agg [.int .i64 e.op,.int .i64 e.int,.str e.text,.list 6 (e.value.map encV),.list 5 (e.args.map encE)]:=by
 cases e;simp[encE,encEs_map,Exp.op,Exp.int,Exp.text,Exp.value,Exp.args]
structure Rule where
 target:Str
 expr:Exp
def encR(r:Rule):Dat:=.agg [.str r.target,.int .i64 r.expr.op,.int .i64 r.expr.int,.str r.expr.text,.list 6 (r.expr.value.map encV),.list 5 (r.expr.args.map encE)]
mutual
theorem canon_encV:∀v:Val,(encV v).canon=encV v
 |.mk k i s t l f=>by simp only[encV,Dat.canon,canonL,canon_encVs l,canon_encFs f]
theorem canon_encVs:∀l:List Val,canonL (encVs l)=encVs l
 |[]=>by simp[encVs,canonL]
 |v::r=>by simp only[encVs,canonL,canon_encV v,canon_encVs r]
theorem canon_encF:∀f:Fld,(encF f).canon=encF f
 |.mk n v=>by
  have:=canon_encV v;cases v with
  |mk k i s t l f=>
   simp only[encV,Dat.canon,canonL,Dat.agg.injEq,List.cons.injEq,true_and,and_true,Dat.list.injEq]at this;simp only[encF,encV,Dat.cells,Dat.canon,canonL,this]
theorem canon_encFs:∀l:List Fld,canonL (encFs l)=encFs l
 |[]=>by simp[encFs,canonL]
 |v::r=>by simp only[encFs,canonL,canon_encF v,canon_encFs r]
end
theorem canonL_vals(l:List Val):canonL (l.map encV)=l.map encV:=by rw[←encVs_map,canon_encVs]
theorem canonL_flds(l:List Fld):canonL (l.map encF)=l.map encF:=by rw[←encFs_map,canon_encFs]
mutual
theorem canon_encE:∀e:Exp,(encE e).canon=encE e
 |.mk o i t v a=>by simp only[encE,Dat.canon,canonL,canonL_vals,canon_encEs a]
theorem canon_encEs:∀l:List Exp,canonL (encEs l)=encEs l
 |[]=>by simp[encEs,canonL]
 |v::r=>by simp only[encEs,canonL,canon_encE v,canon_encEs r]
end
theorem canonL_exps(l:List Exp):canonL (l.map encE)=l.map encE:=by rw[←encEs_map,canon_encEs]
theorem canon_encR(r:Rule):(encR r).canon=encR r:=by simp only[encR,Dat.canon,canonL,canonL_vals,canonL_exps]
theorem canonL_rules(l:List Rule):canonL (l.map encR)=l.map encR:=by
 rw[canonL_map,List.map_map];exact List.map_congr_left fun r _=>canon_encR r
attribute [go_sem] canon_encV canon_encF canon_encE canon_encR canonL_vals canonL_flds canonL_exps canonL_rules
end Av
namespace Av
open Go
variable [Glb]
mutual
inductive Typ where
 |mk (kind min max scale:Int) (words:List Str) (elem:List Typ) (fields:List TFl)
inductive TFl where
 |mk (number:Int) (name:Str) (need:Int) (type:Typ) (dflt:List Val)
end
namespace Typ
def kind:Typ→Int|.mk k _ _ _ _ _ _=>k
def min:Typ→Int|.mk _ a _ _ _ _ _=>a
def max:Typ→Int|.mk _ _ b _ _ _ _=>b
def scale:Typ→Int|.mk _ _ _ s _ _ _=>s
def words:Typ→List Str|.mk _ _ _ _ w _ _=>w
def elem:Typ→List Typ|.mk _ _ _ _ _ e _=>e
def fields:Typ→List TFl|.mk _ _ _ _ _ _ f=>f
end Typ
namespace TFl
def number:TFl→Int|.mk n _ _ _ _=>n
def name:TFl→Str|.mk _ n _ _ _=>n
def need:TFl→Int|.mk _ _ n _ _=>n
def type:TFl→Typ|.mk _ _ _ t _=>t
def dflt:TFl→List Val|.mk _ _ _ _ d=>d
end TFl
mutual
def encT:Typ→Dat
 |.mk k a b s w e f=>.agg [.int .i64 k,.int .i64 a,.int .i64 b,.int .i64 s,.list 1 (w.map .str),.list 7 (encTs e),.list 11 (encGs f)]
def encTs:List Typ→List Dat
 |[]=>[]
 |v::r=>encT v::encTs r
def encG:TFl→Dat
 |.mk n m d t v=>.agg ([.int .i64 n,.str m,.int .i64 d]++((encT t).cells++[.list 6 (v.map encV)]))
def encGs:List TFl→List Dat
 |[]=>[]
 |v::r=>encG v::encGs r
end
theorem encTs_map:∀l:List Typ,encTs l=l.map encT
 |[]=>by simp[encTs]
 |v::r=>by simp[encTs,encTs_map r]
theorem encGs_map:∀l:List TFl,encGs l=l.map encG
 |[]=>by simp[encGs]
 |v::r=>by simp[encGs,encGs_map r]
theorem encT_eq(t:Typ):encT t=.agg [.int .i64 t.kind,.int .i64 t.min,.int .i64 t.max,.int .i64 t.scale,.list 1 (t.words.map .str),.list 7 (t.elem.map encT),.list 11 (t.fields.map encG)]:=by
 cases t;simp[encT,encTs_map,encGs_map,Typ.kind,Typ.min,Typ.max,Typ.scale,Typ.words,Typ.elem,Typ.fields]
theorem encG_eq(f:TFl):encG f=.agg [.int .i64 f.number,.str f.name,.int .i64 f.need,.int .i64 f.type.kind,.int .i64 f.type.min,.int .i64 f.type.max,.int .i64 f.type.scale,
  .list 1 (f.type.words.map .str),.list 7 (f.type.elem.map encT),.list 11 (f.type.fields.map encG),.list 6 (f.dflt.map encV)]:=by
 cases f;simp[encG,encT_eq,TFl.number,TFl.name,TFl.need,TFl.type,TFl.dflt,Dat.cells]
theorem nth_encT{xs:List Typ}{k:Nat}(h:k<xs.length):nth (xs.map encT) k=.agg [.int .i64 xs[k].kind,.int .i64 xs[k].min,.int .i64 xs[k].max,.int .i64 xs[k].scale,.list 1 (xs[k].words.map .str),.list 7 (xs[k].elem.map encT),.list 11 (xs[k].fields.map encG)]:=by
 rw[nth_eq (sX h),List.getElem_map,encT_eq]
theorem nth_encG{xs:List TFl}{k:Nat}(h:k<xs.length):nth (xs.map encG) k=.agg [.int .i64 xs[k].number,.str xs[k].name,.int .i64 xs[k].need,.int .i64 xs[k].type.kind,.int .i64 xs[k].type.min,.int .i64 xs[k].type.max,.int .i64 xs[k].type.scale,
  .list 1 (xs[k].type.words.map .str),.list 7 (xs[k].type.elem.map encT),.list 11 (xs[k].type.fields.map encG),.list 6 (xs[k].dflt.map encV)]:=by
 rw[nth_eq (sX h),List.getElem_map,encG_eq]
theorem canonL_strT(l:List Str):canonL (l.map .str)=l.map .str:=by
 rw[canonL_map,List.map_map];exact List.map_congr_left fun p _=>by simp[Dat.canon]
mutual
theorem canon_encT:∀t:Typ,(encT t).canon=encT t
 |.mk k a b s w e f=>by simp only[encT,Dat.canon,canonL,canonL_strT,canon_encTs e,canon_encGs f]
theorem canon_encTs:∀l:List Typ,canonL (encTs l)=encTs l
 |[]=>by simp[encTs,canonL]
 |v::r=>by simp only[encTs,canonL,canon_encT v,canon_encTs r]
theorem canon_encG:∀f:TFl,(encG f).canon=encG f
 |.mk n m d t v=>by
  have:=canon_encT t;cases t with
  |mk k a b s w e f=>
   simp only[encT,Dat.canon,canonL,Dat.agg.injEq,List.cons.injEq,true_and,and_true,Dat.list.injEq]at this;simp only[encG,encT,Dat.cells,List.cons_append,List.nil_append,Dat.canon,canonL,canonL_vals,this]
theorem canon_encGs:∀l:List TFl,canonL (encGs l)=encGs l
 |[]=>by simp[encGs,canonL]
 |v::r=>by simp only[encGs,canonL,canon_encG v,canon_encGs r]
end
theorem canonL_typs(l:List Typ):canonL (l.map encT)=l.map encT:=by rw[←encTs_map,canon_encTs]
theorem canonL_tfls(l:List TFl):canonL (l.map encG)=l.map encG:=by rw[←encGs_map,canon_encGs]
attribute [go_sem] canonL_strT canon_encT canon_encG canonL_typs canonL_tfls
end Av
namespace Av
open Go
variable [Glb]
variable {k:Nat}
structure Kal where
 service:Str
 rules:List Rule
def encCl(c:Kal):Dat:=.agg [.str c.service,.list 6 (c.rules.map encR)]
mutual
inductive Ste where
 |mk (name:Str) (kind number time limit:Int) (text schema:Str) (exprs:List Exp) (rules:List Rule) (calls:List Kal) (branches:List Brn)
inductive Brn where
 |mk (cond:List Exp) (steps:List Ste)
end
namespace Ste
def name:Ste→Str|.mk n _ _ _ _ _ _ _ _ _ _=>n
def kind:Ste→Int|.mk _ n _ _ _ _ _ _ _ _ _=>n
def number:Ste→Int|.mk _ _ n _ _ _ _ _ _ _ _=>n
def time:Ste→Int|.mk _ _ _ n _ _ _ _ _ _ _=>n
def limit:Ste→Int|.mk _ _ _ _ n _ _ _ _ _ _=>n
def text:Ste→Str|.mk _ _ _ _ _ n _ _ _ _ _=>n
def schema:Ste→Str|.mk _ _ _ _ _ _ n _ _ _ _=>n
def exprs:Ste→List Exp|.mk _ _ _ _ _ _ _ n _ _ _=>n
def rules:Ste→List Rule|.mk _ _ _ _ _ _ _ _ n _ _=>n
def calls:Ste→List Kal|.mk _ _ _ _ _ _ _ _ _ n _=>n
def branches:Ste→List Brn|.mk _ _ _ _ _ _ _ _ _ _ n=>n
end Ste
namespace Brn
def cond:Brn→List Exp|.mk w _=>w
def steps:Brn→List Ste|.mk _ s=>s
end Brn
mutual
def encSt:Ste→Dat
 |.mk n k u t l x c e r a b=>.agg [.str n,.int .i64 k,.int .i64 u,.int .i64 t,.int .i64 l,.str x,.str c,.list 5 (e.map encE),.list 6 (r.map encR),.list 2 (a.map encCl),.list 2 (encBs b)]
def encSts:List Ste→List Dat
 |[]=>[]
 |v::r=>encSt v::encSts r
def encB:Brn→Dat
 |.mk w s=>.agg [.list 5 (w.map encE),.list 11 (encSts s)]
def encBs:List Brn→List Dat
 |[]=>[]
 |v::r=>encB v::encBs r
end
theorem encSts_map:∀l:List Ste,encSts l=l.map encSt
 |[]=>by simp[encSts]
 |v::r=>by simp[encSts,encSts_map r]
theorem encBs_map:∀l:List Brn,encBs l=l.map encB
 |[]=>by simp[encBs]
 |v::r=>by simp[encBs,encBs_map r]
theorem encSt_eq(s:Ste):encSt s=.agg [.str s.name,.int .i64 s.kind,.int .i64 s.number,.int .i64 s.time,.int .i64 s.limit,.str s.text,.str s.schema,.list 5 (s.exprs.map encE),.list 6 (s.rules.map encR),.list 2 (s.calls.map encCl),.list 2 (s.branches.map encB)]:=by
 cases s;simp[encSt,encBs_map,Ste.name,Ste.kind,Ste.number,Ste.time,Ste.limit,Ste.text,Ste.schema,Ste.exprs,Ste.rules,Ste.calls,Ste.branches]
theorem encB_eq(b:Brn):encB b=.agg [.list 5 (b.cond.map encE),.list 11 (b.steps.map encSt)]:=by
 cases b;simp[encB,encSts_map,Brn.cond,Brn.steps]
structure Sch where
 name:Str
 version:Int
 type:Typ
def encC(c:Sch):Dat:=.agg [.str c.name,.int .i64 c.version,.int .i64 c.type.kind,.int .i64 c.type.min,.int .i64 c.type.max,.int .i64 c.type.scale,.list 1 (c.type.words.map .str),.list 7 (c.type.elem.map encT),.list 11 (c.type.fields.map encG)]
structure Epd where
 name:Str
 kind:Int
 schema:Str
 version:Int
 fkind:Int
 sep:Int
 widths:List Int
def encEp(x:Epd):Dat:=.agg [.str x.name,.int .i64 x.kind,.str x.schema,.int .i64 x.version,.int .i64 x.fkind,.int .i64 x.sep,.list 1 (x.widths.map (.int .i64))]
structure Svc where
 name:Str
 request:Str
 reply:Str
 undo:Bool
def encX(x:Svc):Dat:=.agg [.str x.name,.str x.request,.str x.reply,.bool x.undo]
structure Rou where
 name:Str
 src:Str
 steps:List Ste
def encO(x:Rou):Dat:=.agg [.str x.name,.str x.src,.list 11 (x.steps.map encSt)]
structure Prg where
 version:Int
 schemas:List Sch
 endpoints:List Epd
 services:List Svc
 routes:List Rou
def encPg(p:Prg):Dat:=.agg [.int .i64 p.version,.list 9 (p.schemas.map encC),.list 7 (p.endpoints.map encEp),.list 4 (p.services.map encX),.list 3 (p.routes.map encO)]
structure Prb where
 code:Int
 route:Str
 place:List Int
 name:Str
def encQ(x:Prb):Dat:=.agg [.int .i64 x.code,.str x.route,.list 1 (x.place.map (.int .i64)),.str x.name]
structure Wlk where
 route:Int
 place:List Int
 step:Ste
def encWk(x:Wlk):Dat:=.agg [.int .i64 x.route,.list 1 (x.place.map (.int .i64)),.str x.step.name,.int .i64 x.step.kind,.int .i64 x.step.number,.int .i64 x.step.time,.int .i64 x.step.limit,.str x.step.text,.str x.step.schema,.list 5 (x.step.exprs.map encE),.list 6 (x.step.rules.map encR),.list 2 (x.step.calls.map encCl),.list 2 (x.step.branches.map encB)]
theorem nth_encSt{xs:List Ste}(h:k<xs.length):nth (xs.map encSt) k=.agg [.str xs[k].name,.int .i64 xs[k].kind,.int .i64 xs[k].number,.int .i64 xs[k].time,.int .i64 xs[k].limit,.str xs[k].text,.str xs[k].schema,.list 5 (xs[k].exprs.map encE),.list 6 (xs[k].rules.map encR),.list 2 (xs[k].calls.map encCl),.list 2 (xs[k].branches.map encB)]:=by
 rw[nth_eq (sX h),List.getElem_map,encSt_eq]
theorem nth_encB{xs:List Brn}(h:k<xs.length):nth (xs.map encB) k=.agg [.list 5 (xs[k].cond.map encE),.list 11 (xs[k].steps.map encSt)]:=by
 rw[nth_eq (sX h),List.getElem_map,encB_eq]
theorem nth_map{α:Type}(f:α→Dat){xs:List α}(h:k<xs.length):nth (xs.map f) k=f xs[k]:=by
 rw[nth_eq (sX h),List.getElem_map]
theorem canonL_ints(l:List Int):canonL (l.map (.int .i64))=l.map (.int .i64):=by
 rw[canonL_map,List.map_map];exact List.map_congr_left fun p _=>by simp[Dat.canon]
theorem canon_encCl(c:Kal):(encCl c).canon=encCl c:=by simp only[encCl,Dat.canon,canonL,canonL_rules]
theorem canonL_cals(l:List Kal):canonL (l.map encCl)=l.map encCl:=by
 rw[canonL_map,List.map_map];exact List.map_congr_left fun r _=>canon_encCl r
mutual
theorem canon_encSt:∀s:Ste,(encSt s).canon=encSt s
 |.mk n k u t l x c e r a b=>by simp only[encSt,Dat.canon,canonL,canonL_exps,canonL_rules,canonL_cals,canon_encBs b]
theorem canon_encSts:∀l:List Ste,canonL (encSts l)=encSts l
 |[]=>by simp[encSts,canonL]
 |v::r=>by simp only[encSts,canonL,canon_encSt v,canon_encSts r]
theorem canon_encB:∀b:Brn,(encB b).canon=encB b
 |.mk w s=>by simp only[encB,Dat.canon,canonL,canonL_exps,canon_encSts s]
theorem canon_encBs:∀l:List Brn,canonL (encBs l)=encBs l
 |[]=>by simp[encBs,canonL]
 |v::r=>by simp only[encBs,canonL,canon_encB v,canon_encBs r]
end
theorem canonL_stps(l:List Ste):canonL (l.map encSt)=l.map encSt:=by rw[←encSts_map,canon_encSts]
theorem canonL_brns(l:List Brn):canonL (l.map encB)=l.map encB:=by rw[←encBs_map,canon_encBs]
theorem canon_encC(c:Sch):(encC c).canon=encC c:=by simp only[encC,Dat.canon,canonL,canonL_strT,canonL_typs,canonL_tfls]
theorem canon_encEp(c:Epd):(encEp c).canon=encEp c:=by simp only[encEp,Dat.canon,canonL,canonL_ints]
theorem canon_encX(c:Svc):(encX c).canon=encX c:=by simp only[encX,Dat.canon,canonL]
theorem canon_encO(c:Rou):(encO c).canon=encO c:=by simp only[encO,Dat.canon,canonL,canonL_stps]
theorem canon_encQ(c:Prb):(encQ c).canon=encQ c:=by simp only[encQ,Dat.canon,canonL,canonL_ints]
theorem canon_encWk(c:Wlk):(encWk c).canon=encWk c:=by simp only[encWk,Dat.canon,canonL,canonL_ints,canonL_exps,canonL_rules,canonL_cals,canonL_brns]
theorem canonL_of{α:Type}(f:α→Dat)(h:∀a,(f a).canon=f a)(l:List α):canonL (l.map f)=l.map f:=by
 rw[canonL_map,List.map_map];exact List.map_congr_left fun r _=>h r
theorem canonL_schs(l:List Sch):canonL (l.map encC)=l.map encC:=canonL_of _ canon_encC l
theorem canonL_epds(l:List Epd):canonL (l.map encEp)=l.map encEp:=canonL_of _ canon_encEp l
theorem canonL_svcs(l:List Svc):canonL (l.map encX)=l.map encX:=canonL_of _ canon_encX l
theorem canonL_rous(l:List Rou):canonL (l.map encO)=l.map encO:=canonL_of _ canon_encO l
theorem canonL_prbs(l:List Prb):canonL (l.map encQ)=l.map encQ:=canonL_of _ canon_encQ l
theorem canonL_wlks(l:List Wlk):canonL (l.map encWk)=l.map encWk:=canonL_of _ canon_encWk l
theorem canon_encPg(p:Prg):(encPg p).canon=encPg p:=by simp only[encPg,Dat.canon,canonL,canonL_schs,canonL_epds,canonL_svcs,canonL_rous]
attribute [go_sem] canonL_ints canon_encCl canonL_cals canon_encSt canon_encB canonL_stps canonL_brns canon_encC canon_encEp canon_encX canon_encO canon_encQ canon_encWk canonL_schs canonL_epds canonL_svcs canonL_rous canonL_prbs canonL_wlks canon_encPg
mutual
def szS:Ste→Nat
 |.mk _ _ _ _ _ _ _ _ _ _ b=>1+szBs b
def szSs:List Ste→Nat
 |[]=>0
 |v::r=>szS v+szSs r
def szB:Brn→Nat
 |.mk _ s=>1+szSs s
def szBs:List Brn→Nat
 |[]=>0
 |v::r=>szB v+szBs r
end
theorem szS_eq(s:Ste):szS s=1+szBs s.branches:=by cases s;simp[szS,Ste.branches]
theorem szB_eq(b:Brn):szB b=1+szSs b.steps:=by cases b;simp[szB,Brn.steps]
theorem szSs_mem:∀{l:List Ste} {s:Ste},s∈l→szS s≤szSs l
 |v::r,s,h=>by
  rcases List.mem_cons.1 h with rfl|h
  ·simp only[szSs];omega
  ·have:=szSs_mem h;simp only[szSs];omega
theorem szBs_mem:∀{l:List Brn} {s:Brn},s∈l→szB s≤szBs l
 |v::r,s,h=>by
  rcases List.mem_cons.1 h with rfl|h
  ·simp only[szBs];omega
  ·have:=szBs_mem h;simp only[szBs];omega
end Av
namespace Go.Proofs
open Go Av
open Go.Proofs.YtlmlncbhhhcnpaaGreatDoor.Rows (uptoBulk uptoBulkAll)
theorem qc3:Tryz.prog.cellsOf 3=1:=kR
theorem qc4:Tryz.prog.cellsOf 4=1:=kR
theorem qc9:Tryz.prog.cellsOf 9=1:=kR
theorem qc22:Tryz.prog.cellsOf 22=1:=kR
theorem qc23:Tryz.prog.cellsOf 23=1:=kR
theorem qc24:Tryz.prog.cellsOf 24=1:=kR
theorem qc25:Tryz.prog.cellsOf 25=1:=kR
theorem qc29:Tryz.prog.cellsOf 29=1:=kR
theorem qc37:Tryz.prog.cellsOf 37=1:=kR
theorem qc38:Tryz.prog.cellsOf 38=1:=kR
theorem qc39:Tryz.prog.cellsOf 39=1:=kR
theorem qc41:Tryz.prog.cellsOf 41=7:=kR
theorem qc43:Tryz.prog.cellsOf 43=9:=kR
theorem qc47:Tryz.prog.cellsOf 47=3:=kR
theorem qc49:Tryz.prog.cellsOf 49=7:=kR
theorem qc51:Tryz.prog.cellsOf 51=4:=kR
theorem qc52:Tryz.prog.cellsOf 52=1:=kR
theorem qc54:Tryz.prog.cellsOf 54=3:=kR
theorem qc58:Tryz.prog.cellsOf 58=1:=kR
theorem qc59:Tryz.prog.cellsOf 59=1:=kR
theorem qc61:Tryz.prog.cellsOf 61=1:=kR
theorem qc62:Tryz.prog.cellsOf 62=1:=kR
theorem qc63:Tryz.prog.cellsOf 63=1:=kR
theorem qc65:Tryz.prog.cellsOf 65=11:=kR
theorem qc68:Tryz.prog.cellsOf 68=1:=kR
theorem qc70:Tryz.prog.cellsOf 70=5:=kR
theorem qc71:Tryz.prog.cellsOf 71=1:=kR
theorem qc73:Tryz.prog.cellsOf 73=6:=kR
theorem qc86:Tryz.prog.cellsOf 86=11:=kR
theorem qc89:Tryz.prog.cellsOf 89=2:=kR
theorem qc91:Tryz.prog.cellsOf 91=2:=kR
theorem qc131:Tryz.prog.cellsOf 131=7:=kR
theorem qc233:Tryz.prog.cellsOf 233=6:=kR
theorem encV_l(a:Val):(encV a).cells.length=6:=by rw[encV_eq];rfl
theorem encF_l(a:Fld):(encF a).cells.length=7:=by rw[encF_eq];rfl
theorem encE_l(a:Exp):(encE a).cells.length=5:=by rw[encE_eq];rfl
theorem encR_l(a:Rule):(encR a).cells.length=6:=rfl
theorem encT_l(a:Typ):(encT a).cells.length=7:=by rw[encT_eq];rfl
theorem encG_l(a:TFl):(encG a).cells.length=11:=by rw[encG_eq];rfl
theorem encSt_l(a:Ste):(encSt a).cells.length=11:=by rw[encSt_eq];rfl
theorem encB_l(a:Brn):(encB a).cells.length=2:=by rw[encB_eq];rfl
section
variable {H:Type}{enc:TypeId×Value→H}{w:World}{base:Nat}{spare:Nat→Bool}{held:Bool}
theorem fl9{fs:Array Field}{n:Nat}{cs:List Value}{xs:List (DataW H×List MemPlace)}
  (hf:∀(i:Nat) (f:Field),fs[i]? =some f→DataW.trod enc Tryz.prog w base spare held n f.type ((cs.drop f.offset).take (Tryz.prog.cellsOf f.type))=xs[i]?)
  (i:Nat)(t off:Nat){k:Nat}(hi:(fs[i]?).map (fun f=>(f.type,f.offset))=some (t,off))(hc:Tryz.prog.cellsOf t=k):DataW.trod enc Tryz.prog w base spare held n t ((cs.drop off).take k)=xs[i]? :=by
 cases e:fs[i]? with
 |none=>rw[e]at hi;cases hi
 |some f=>
  rw[e]at hi;simp only[Option.map_some,Option.some.injEq,Prod.mk.injEq]at hi;have:=hf i f e;rw[hi.1,hi.2,hc]at this;exact this
theorem cr_bool{t:TypeId}{fuel:Nat}{cs:List Value}{x:DataW H×List MemPlace}(ht:Tryz.prog.underlying t=some .bool)(h:DataW.trod enc Tryz.prog w base spare held fuel t cs=some x):
  ∃b:Bool,CR (old w) w [.bool b] cs:=by
 obtain⟨b,rfl,_⟩:=DataW.trod_bool ht h;exact⟨b,.one rfl (.bool b)⟩
theorem rd_73(fuel:Nat):∀(cs:List Value) (x:DataW H×List MemPlace),DataW.trod enc Tryz.prog w base spare held fuel 73 cs=some x→uptoBulk x.1≤1048576→∃a:Val,CR (old w) w (encV a).cells cs:=by
 induction fuel using Nat.strongRecOn with
 |_ fuel ih=>
  intro csn x hn hbn;obtain⟨xs,n',rfl,rfl,hl,hlen,hf⟩:=DataW.trod_struct Tryz.underlying73 hn;rw[qc73]at hl;have h0:=fl9 hf 0 3 0 rfl qc3;have h1:=fl9 hf 1 3 1 rfl qc3;have h2:=fl9 hf 2 3 2 rfl qc3;have h3:=fl9 hf 3 9 3 rfl qc9;have h4:=fl9 hf 4 68 4 rfl qc68;have h5:=fl9 hf 5 71 5 rfl qc71
  match xs,hlen,csn,hl with
  |[y0,y1,y2,y3,y4,y5],_,[a0,a1,a2,a3,a4,a5],_=>
   simp only[List.map_cons,List.map_nil,uptoBulk,uptoBulkAll]at hbn;obtain⟨z0,g0⟩:=cr_int Tryz.underlying3 (show DataW.trod enc Tryz.prog w base spare held n' 3 [a0]=some y0 from h0);obtain⟨z1,g1⟩:=cr_int Tryz.underlying3 (show DataW.trod enc Tryz.prog w base spare held n' 3 [a1]=some y1 from h1);obtain⟨z2,g2⟩:=cr_int Tryz.underlying3 (show DataW.trod enc Tryz.prog w base spare held n' 3 [a2]=some y2 from h2);obtain⟨z3,_,g3⟩:=cr_str Tryz.underlying9 (show DataW.trod enc Tryz.prog w base spare held n' 9 [a3]=some y3 from h3) oM;obtain⟨z4,_,_,g4⟩:=cr_slice (encA:=encV) (ok:=fun _=>True) Tryz.underlying68 qc73 dC encV_l (show DataW.trod enc Tryz.prog w base spare held n' 68 [a4]=some y4 from h4) oM (fun m cs' y hm hy hyb=>by
    obtain⟨v,g⟩:=ih m oM cs' y hy hyb;exact⟨v,trivial,g⟩)
   obtain⟨z5,_,_,g5⟩:=cr_slice (encA:=encF) (ok:=fun _=>True) Tryz.underlying71 qc131 dC encF_l (show DataW.trod enc Tryz.prog w base spare held n' 71 [a5]=some y5 from h5) oM (fun m csm y hlt hm hbm=>by
    obtain⟨xs,m',rfl,rfl,hl,hlen,hf⟩:=DataW.trod_struct Tryz.underlying131 hm;rw[qc131]at hl;have h0:=fl9 hf 0 9 0 rfl qc9;have h1:=fl9 hf 1 73 1 rfl qc73
    match xs,hlen,csm,hl with
    |[y0,y1],_,[a0,a1,a2,a3,a4,a5,a6],_=>
     simp only[List.map_cons,List.map_nil,uptoBulk,uptoBulkAll]at hbm;obtain⟨z0,_,g0⟩:=cr_str Tryz.underlying9 (show DataW.trod enc Tryz.prog w base spare held m' 9 [a0]=some y0 from h0) oM;obtain⟨z1,g1⟩:=ih m' oM [a1,a2,a3,a4,a5,a6] y1 h1 oM;refine⟨.mk z0 z1,trivial,?_⟩;have:=g0.append g1;simpa only[encF,Dat.cells,List.singleton_append,List.cons_append,List.nil_append,List.append_assoc]using this
   )
   refine⟨.mk z0 z1 z2 z3 z4 z5,?_⟩;have:=g0.append (g1.append (g2.append (g3.append (g4.append g5))));simpa only[encV_eq,Val.kind,Val.int,Val.scale,Val.text,Val.list,Val.fields,Dat.cells,List.singleton_append,List.cons_append,List.nil_append,List.append_assoc]using this
theorem rd_70(fuel:Nat):∀(cs:List Value) (x:DataW H×List MemPlace),DataW.trod enc Tryz.prog w base spare held fuel 70 cs=some x→uptoBulk x.1≤1048576→∃a:Exp,CR (old w) w (encE a).cells cs:=by
 induction fuel using Nat.strongRecOn with
 |_ fuel ih=>
  intro csn x hn hbn;obtain⟨xs,n',rfl,rfl,hl,hlen,hf⟩:=DataW.trod_struct Tryz.underlying70 hn;rw[qc70]at hl;have h0:=fl9 hf 0 3 0 rfl qc3;have h1:=fl9 hf 1 3 1 rfl qc3;have h2:=fl9 hf 2 9 2 rfl qc9;have h3:=fl9 hf 3 68 3 rfl qc68;have h4:=fl9 hf 4 58 4 rfl qc58
  match xs,hlen,csn,hl with
  |[y0,y1,y2,y3,y4],_,[a0,a1,a2,a3,a4],_=>
   simp only[List.map_cons,List.map_nil,uptoBulk,uptoBulkAll]at hbn;obtain⟨z0,g0⟩:=cr_int Tryz.underlying3 (show DataW.trod enc Tryz.prog w base spare held n' 3 [a0]=some y0 from h0);obtain⟨z1,g1⟩:=cr_int Tryz.underlying3 (show DataW.trod enc Tryz.prog w base spare held n' 3 [a1]=some y1 from h1);obtain⟨z2,_,g2⟩:=cr_str Tryz.underlying9 (show DataW.trod enc Tryz.prog w base spare held n' 9 [a2]=some y2 from h2) oM;obtain⟨z3,_,_,g3⟩:=cr_slice (encA:=encV) (ok:=fun _=>True) Tryz.underlying68 qc73 dC encV_l (show DataW.trod enc Tryz.prog w base spare held n' 68 [a3]=some y3 from h3) oM (fun m cs' y _ hy hyb=>by
    obtain⟨v,g⟩:=rd_73 m cs' y hy hyb;exact⟨v,trivial,g⟩)
   obtain⟨z4,_,_,g4⟩:=cr_slice (encA:=encE) (ok:=fun _=>True) Tryz.underlying58 qc70 dC encE_l (show DataW.trod enc Tryz.prog w base spare held n' 58 [a4]=some y4 from h4) oM (fun m cs' y hm hy hyb=>by
    obtain⟨v,g⟩:=ih m oM cs' y hy hyb;exact⟨v,trivial,g⟩)
   refine⟨.mk z0 z1 z2 z3 z4,?_⟩;have:=g0.append (g1.append (g2.append (g3.append g4)));simpa only[encE_eq,Exp.op,Exp.int,Exp.text,Exp.value,Exp.args,Dat.cells,List.singleton_append,List.cons_append,List.nil_append,List.append_assoc]using this
theorem rd_233(fuel:Nat):∀(cs:List Value) (x:DataW H×List MemPlace),DataW.trod enc Tryz.prog w base spare held fuel 233 cs=some x→uptoBulk x.1≤1048576→∃a:Rule,CR (old w) w (encR a).cells cs:=by
 intro csn x hn hbn;obtain⟨xs,n',rfl,rfl,hl,hlen,hf⟩:=DataW.trod_struct Tryz.underlying233 hn;rw[qc233]at hl;have h0:=fl9 hf 0 9 0 rfl qc9;have h1:=fl9 hf 1 70 1 rfl qc70
 match xs,hlen,csn,hl with
 |[y0,y1],_,[a0,a1,a2,a3,a4,a5],_=>
  simp only[List.map_cons,List.map_nil,uptoBulk,uptoBulkAll]at hbn;obtain⟨z0,_,g0⟩:=cr_str Tryz.underlying9 (show DataW.trod enc Tryz.prog w base spare held n' 9 [a0]=some y0 from h0) oM;obtain⟨z1,g1⟩:=rd_70 n' [a1,a2,a3,a4,a5] y1 h1 oM;refine⟨⟨z0,z1⟩,?_⟩;have:=g0.append g1;simpa only[encR,encE_eq,Dat.cells,List.singleton_append,List.cons_append,List.nil_append,List.append_assoc]using this
theorem rd_61(fuel:Nat):∀(cs:List Value) (x:DataW H×List MemPlace),DataW.trod enc Tryz.prog w base spare held fuel 61 cs=some x→uptoBulk x.1≤1048576→∃a:List Rule,CR (old w) w [.list 6 (a.map encR)] cs:=by
 intro csn x hn hbn;obtain⟨xs,n',rfl,rfl,hl,hlen,hf⟩:=DataW.trod_struct Tryz.underlying61 hn;rw[qc61]at hl;have h0:=fl9 hf 0 59 0 rfl qc59
 match xs,hlen,csn,hl with
 |[y0],_,[a0],_=>
  simp only[List.map_cons,List.map_nil,uptoBulk,uptoBulkAll]at hbn;obtain⟨z0,_,_,g0⟩:=cr_slice (encA:=encR) (ok:=fun _=>True) Tryz.underlying59 qc233 dC encR_l (show DataW.trod enc Tryz.prog w base spare held n' 59 [a0]=some y0 from h0) oM (fun m cs' y _ hy hyb=>by
   obtain⟨v,g⟩:=rd_233 m cs' y hy hyb;exact⟨v,trivial,g⟩)
  refine⟨z0,?_⟩;exact g0
theorem rd_41(fuel:Nat):∀(cs:List Value) (x:DataW H×List MemPlace),DataW.trod enc Tryz.prog w base spare held fuel 41 cs=some x→uptoBulk x.1≤1048576→∃a:Typ,CR (old w) w (encT a).cells cs:=by
 induction fuel using Nat.strongRecOn with
 |_ fuel ih=>
  intro csn x hn hbn;obtain⟨xs,n',rfl,rfl,hl,hlen,hf⟩:=DataW.trod_struct Tryz.underlying41 hn;rw[qc41]at hl;have h0:=fl9 hf 0 3 0 rfl qc3;have h1:=fl9 hf 1 3 1 rfl qc3;have h2:=fl9 hf 2 3 2 rfl qc3;have h3:=fl9 hf 3 3 3 rfl qc3;have h4:=fl9 hf 4 37 4 rfl qc37;have h5:=fl9 hf 5 38 5 rfl qc38;have h6:=fl9 hf 6 39 6 rfl qc39
  match xs,hlen,csn,hl with
  |[y0,y1,y2,y3,y4,y5,y6],_,[a0,a1,a2,a3,a4,a5,a6],_=>
   simp only[List.map_cons,List.map_nil,uptoBulk,uptoBulkAll]at hbn;obtain⟨z0,g0⟩:=cr_int Tryz.underlying3 (show DataW.trod enc Tryz.prog w base spare held n' 3 [a0]=some y0 from h0);obtain⟨z1,g1⟩:=cr_int Tryz.underlying3 (show DataW.trod enc Tryz.prog w base spare held n' 3 [a1]=some y1 from h1);obtain⟨z2,g2⟩:=cr_int Tryz.underlying3 (show DataW.trod enc Tryz.prog w base spare held n' 3 [a2]=some y2 from h2);obtain⟨z3,g3⟩:=cr_int Tryz.underlying3 (show DataW.trod enc Tryz.prog w base spare held n' 3 [a3]=some y3 from h3);obtain⟨z4,_,_,g4⟩:=cr_slice (encA:=Dat.str) (ok:=fun _=>True) Tryz.underlying37 qc9 dC (fun _=>rfl) (show DataW.trod enc Tryz.prog w base spare held n' 37 [a4]=some y4 from h4) oM (fun m cs' y _ hy hyb=>by
    obtain⟨t,_,g⟩:=cr_str Tryz.underlying9 hy hyb;exact⟨t,trivial,g⟩)
   obtain⟨z5,_,_,g5⟩:=cr_slice (encA:=encT) (ok:=fun _=>True) Tryz.underlying38 qc41 dC encT_l (show DataW.trod enc Tryz.prog w base spare held n' 38 [a5]=some y5 from h5) oM (fun m cs' y hm hy hyb=>by
    obtain⟨v,g⟩:=ih m oM cs' y hy hyb;exact⟨v,trivial,g⟩)
   obtain⟨z6,_,_,g6⟩:=cr_slice (encA:=encG) (ok:=fun _=>True) Tryz.underlying39 qc86 dC encG_l (show DataW.trod enc Tryz.prog w base spare held n' 39 [a6]=some y6 from h6) oM (fun m csm y hlt hm hbm=>by
    obtain⟨xs,m',rfl,rfl,hl,hlen,hf⟩:=DataW.trod_struct Tryz.underlying86 hm;rw[qc86]at hl;have h0:=fl9 hf 0 3 0 rfl qc3;have h1:=fl9 hf 1 9 1 rfl qc9;have h2:=fl9 hf 2 3 2 rfl qc3;have h3:=fl9 hf 3 41 3 rfl qc41;have h4:=fl9 hf 4 68 10 rfl qc68
    match xs,hlen,csm,hl with
    |[y0,y1,y2,y3,y4],_,[a0,a1,a2,a3,a4,a5,a6,a7,a8,a9,a10],_=>
     simp only[List.map_cons,List.map_nil,uptoBulk,uptoBulkAll]at hbm;obtain⟨z0,g0⟩:=cr_int Tryz.underlying3 (show DataW.trod enc Tryz.prog w base spare held m' 3 [a0]=some y0 from h0);obtain⟨z1,_,g1⟩:=cr_str Tryz.underlying9 (show DataW.trod enc Tryz.prog w base spare held m' 9 [a1]=some y1 from h1) oM;obtain⟨z2,g2⟩:=cr_int Tryz.underlying3 (show DataW.trod enc Tryz.prog w base spare held m' 3 [a2]=some y2 from h2);obtain⟨z3,g3⟩:=ih m' oM [a3,a4,a5,a6,a7,a8,a9] y3 h3 oM;obtain⟨z4,_,_,g4⟩:=cr_slice (encA:=encV) (ok:=fun _=>True) Tryz.underlying68 qc73 dC encV_l (show DataW.trod enc Tryz.prog w base spare held m' 68 [a10]=some y4 from h4) oM (fun m cs' y _ hy hyb=>by
      obtain⟨v,g⟩:=rd_73 m cs' y hy hyb;exact⟨v,trivial,g⟩)
     refine⟨.mk z0 z1 z2 z3 z4,trivial,?_⟩;have:=g0.append (g1.append (g2.append (g3.append g4)));simpa only[encG,Dat.cells,List.singleton_append,List.cons_append,List.nil_append,List.append_assoc]using this
   )
   refine⟨.mk z0 z1 z2 z3 z4 z5 z6,?_⟩;have:=g0.append (g1.append (g2.append (g3.append (g4.append (g5.append g6)))));simpa only[encT_eq,Typ.kind,Typ.min,Typ.max,Typ.scale,Typ.words,Typ.elem,Typ.fields,Dat.cells,List.singleton_append,List.cons_append,List.nil_append,List.append_assoc]using this
theorem rd_89(fuel:Nat):∀(cs:List Value) (x:DataW H×List MemPlace),DataW.trod enc Tryz.prog w base spare held fuel 89 cs=some x→uptoBulk x.1≤1048576→∃a:Kal,CR (old w) w (encCl a).cells cs:=by
 intro csn x hn hbn;obtain⟨xs,n',rfl,rfl,hl,hlen,hf⟩:=DataW.trod_struct Tryz.underlying89 hn;rw[qc89]at hl;have h0:=fl9 hf 0 9 0 rfl qc9;have h1:=fl9 hf 1 61 1 rfl qc61
 match xs,hlen,csn,hl with
 |[y0,y1],_,[a0,a1],_=>
  simp only[List.map_cons,List.map_nil,uptoBulk,uptoBulkAll]at hbn;obtain⟨z0,_,g0⟩:=cr_str Tryz.underlying9 (show DataW.trod enc Tryz.prog w base spare held n' 9 [a0]=some y0 from h0) oM;obtain⟨z1,g1⟩:=rd_61 n' [a1] y1 h1 oM;refine⟨⟨z0,z1⟩,?_⟩;have:=g0.append g1;simpa only[encCl,Dat.cells,List.singleton_append,List.cons_append,List.nil_append,List.append_assoc]using this
theorem rd_65(fuel:Nat):∀(cs:List Value) (x:DataW H×List MemPlace),DataW.trod enc Tryz.prog w base spare held fuel 65 cs=some x→uptoBulk x.1≤1048576→∃a:Ste,CR (old w) w (encSt a).cells cs:=by
 induction fuel using Nat.strongRecOn with
 |_ fuel ih=>
  intro csn x hn hbn;obtain⟨xs,n',rfl,rfl,hl,hlen,hf⟩:=DataW.trod_struct Tryz.underlying65 hn;rw[qc65]at hl;have h0:=fl9 hf 0 9 0 rfl qc9;have h1:=fl9 hf 1 3 1 rfl qc3;have h2:=fl9 hf 2 3 2 rfl qc3;have h3:=fl9 hf 3 3 3 rfl qc3;have h4:=fl9 hf 4 3 4 rfl qc3;have h5:=fl9 hf 5 9 5 rfl qc9;have h6:=fl9 hf 6 9 6 rfl qc9;have h7:=fl9 hf 7 58 7 rfl qc58;have h8:=fl9 hf 8 61 8 rfl qc61;have h9:=fl9 hf 9 62 9 rfl qc62;have h10:=fl9 hf 10 63 10 rfl qc63
  match xs,hlen,csn,hl with
  |[y0,y1,y2,y3,y4,y5,y6,y7,y8,y9,y10],_,[a0,a1,a2,a3,a4,a5,a6,a7,a8,a9,a10],_=>
   simp only[List.map_cons,List.map_nil,uptoBulk,uptoBulkAll]at hbn;obtain⟨z0,_,g0⟩:=cr_str Tryz.underlying9 (show DataW.trod enc Tryz.prog w base spare held n' 9 [a0]=some y0 from h0) oM;obtain⟨z1,g1⟩:=cr_int Tryz.underlying3 (show DataW.trod enc Tryz.prog w base spare held n' 3 [a1]=some y1 from h1);obtain⟨z2,g2⟩:=cr_int Tryz.underlying3 (show DataW.trod enc Tryz.prog w base spare held n' 3 [a2]=some y2 from h2);obtain⟨z3,g3⟩:=cr_int Tryz.underlying3 (show DataW.trod enc Tryz.prog w base spare held n' 3 [a3]=some y3 from h3);obtain⟨z4,g4⟩:=cr_int Tryz.underlying3 (show DataW.trod enc Tryz.prog w base spare held n' 3 [a4]=some y4 from h4);obtain⟨z5,_,g5⟩:=cr_str Tryz.underlying9 (show DataW.trod enc Tryz.prog w base spare held n' 9 [a5]=some y5 from h5) oM;obtain⟨z6,_,g6⟩:=cr_str Tryz.underlying9 (show DataW.trod enc Tryz.prog w base spare held n' 9 [a6]=some y6 from h6) oM;obtain⟨z7,_,_,g7⟩:=cr_slice (encA:=encE) (ok:=fun _=>True) Tryz.underlying58 qc70 dC encE_l (show DataW.trod enc Tryz.prog w base spare held n' 58 [a7]=some y7 from h7) oM (fun m cs' y _ hy hyb=>by
    obtain⟨v,g⟩:=rd_70 m cs' y hy hyb;exact⟨v,trivial,g⟩)
   obtain⟨z8,g8⟩:=rd_61 n' [a8] y8 h8 oM;obtain⟨z9,_,_,g9⟩:=cr_slice (encA:=encCl) (ok:=fun _=>True) Tryz.underlying62 qc89 dC (fun _=>rfl) (show DataW.trod enc Tryz.prog w base spare held n' 62 [a9]=some y9 from h9) oM (fun m cs' y _ hy hyb=>by
    obtain⟨v,g⟩:=rd_89 m cs' y hy hyb;exact⟨v,trivial,g⟩)
   obtain⟨z10,_,_,g10⟩:=cr_slice (encA:=encB) (ok:=fun _=>True) Tryz.underlying63 qc91 dC encB_l (show DataW.trod enc Tryz.prog w base spare held n' 63 [a10]=some y10 from h10) oM (fun m csm y hlt hm hbm=>by
    obtain⟨xs,m',rfl,rfl,hl,hlen,hf⟩:=DataW.trod_struct Tryz.underlying91 hm;rw[qc91]at hl;have h0:=fl9 hf 0 58 0 rfl qc58;have h1:=fl9 hf 1 52 1 rfl qc52
    match xs,hlen,csm,hl with
    |[y0,y1],_,[a0,a1],_=>
     simp only[List.map_cons,List.map_nil,uptoBulk,uptoBulkAll]at hbm;obtain⟨z0,_,_,g0⟩:=cr_slice (encA:=encE) (ok:=fun _=>True) Tryz.underlying58 qc70 dC encE_l (show DataW.trod enc Tryz.prog w base spare held m' 58 [a0]=some y0 from h0) oM (fun m cs' y _ hy hyb=>by
      obtain⟨v,g⟩:=rd_70 m cs' y hy hyb;exact⟨v,trivial,g⟩)
     obtain⟨z1,_,_,g1⟩:=cr_slice (encA:=encSt) (ok:=fun _=>True) Tryz.underlying52 qc65 dC encSt_l (show DataW.trod enc Tryz.prog w base spare held m' 52 [a1]=some y1 from h1) oM (fun m cs' y hm hy hyb=>by
      obtain⟨v,g⟩:=ih m oM cs' y hy hyb;exact⟨v,trivial,g⟩)
     refine⟨.mk z0 z1,trivial,?_⟩;have:=g0.append g1;simpa only[encB_eq,Brn.cond,Brn.steps,Dat.cells,List.singleton_append,List.cons_append,List.nil_append,List.append_assoc]using this
   )
   refine⟨.mk z0 z1 z2 z3 z4 z5 z6 z7 z8 z9 z10,?_⟩;have:=g0.append (g1.append (g2.append (g3.append (g4.append (g5.append (g6.append (g7.append (g8.append (g9.append g10)))))))));simpa only[encSt_eq,Ste.name,Ste.kind,Ste.number,Ste.time,Ste.limit,Ste.text,Ste.schema,Ste.exprs,Ste.rules,Ste.calls,Ste.branches,Dat.cells,List.singleton_append,List.cons_append,List.nil_append,List.append_assoc]using this
theorem rd_43(fuel:Nat):∀(cs:List Value) (x:DataW H×List MemPlace),DataW.trod enc Tryz.prog w base spare held fuel 43 cs=some x→uptoBulk x.1≤1048576→∃a:Sch,CR (old w) w (encC a).cells cs:=by
 intro csn x hn hbn;obtain⟨xs,n',rfl,rfl,hl,hlen,hf⟩:=DataW.trod_struct Tryz.underlying43 hn;rw[qc43]at hl;have h0:=fl9 hf 0 9 0 rfl qc9;have h1:=fl9 hf 1 3 1 rfl qc3;have h2:=fl9 hf 2 41 2 rfl qc41
 match xs,hlen,csn,hl with
 |[y0,y1,y2],_,[a0,a1,a2,a3,a4,a5,a6,a7,a8],_=>
  simp only[List.map_cons,List.map_nil,uptoBulk,uptoBulkAll]at hbn;obtain⟨z0,_,g0⟩:=cr_str Tryz.underlying9 (show DataW.trod enc Tryz.prog w base spare held n' 9 [a0]=some y0 from h0) oM;obtain⟨z1,g1⟩:=cr_int Tryz.underlying3 (show DataW.trod enc Tryz.prog w base spare held n' 3 [a1]=some y1 from h1);obtain⟨z2,g2⟩:=rd_41 n' [a2,a3,a4,a5,a6,a7,a8] y2 h2 oM;refine⟨⟨z0,z1,z2⟩,?_⟩;have:=g0.append (g1.append g2);simpa only[encC,encT_eq,Dat.cells,List.singleton_append,List.cons_append,List.nil_append,List.append_assoc]using this
theorem rd_47(fuel:Nat):∀(cs:List Value) (x:DataW H×List MemPlace),DataW.trod enc Tryz.prog w base spare held fuel 47 cs=some x→uptoBulk x.1≤1048576→∃a:Int×Int×List Int,CR (old w) w [.int .i64 a.1,.int .i64 a.2.1,.list 1 (a.2.2.map (.int .i64))] cs:=by
 intro csn x hn hbn;obtain⟨xs,n',rfl,rfl,hl,hlen,hf⟩:=DataW.trod_struct Tryz.underlying47 hn;rw[qc47]at hl;have h0:=fl9 hf 0 3 0 rfl qc3;have h1:=fl9 hf 1 3 1 rfl qc3;have h2:=fl9 hf 2 29 2 rfl qc29
 match xs,hlen,csn,hl with
 |[y0,y1,y2],_,[a0,a1,a2],_=>
  simp only[List.map_cons,List.map_nil,uptoBulk,uptoBulkAll]at hbn;obtain⟨z0,g0⟩:=cr_int Tryz.underlying3 (show DataW.trod enc Tryz.prog w base spare held n' 3 [a0]=some y0 from h0);obtain⟨z1,g1⟩:=cr_int Tryz.underlying3 (show DataW.trod enc Tryz.prog w base spare held n' 3 [a1]=some y1 from h1);obtain⟨z2,_,_,g2⟩:=cr_slice (encA:=Dat.int .i64) (ok:=fun _=>True) Tryz.underlying29 qc3 dC (fun _=>rfl) (show DataW.trod enc Tryz.prog w base spare held n' 29 [a2]=some y2 from h2) oM (fun m cs' y _ hy hyb=>by
   obtain⟨t,g⟩:=cr_int Tryz.underlying3 hy;exact⟨t,trivial,g⟩)
  refine⟨⟨z0,z1,z2⟩,?_⟩;have:=g0.append (g1.append g2);simpa only[Dat.cells,List.singleton_append,List.cons_append,List.nil_append,List.append_assoc]using this
theorem rd_49(fuel:Nat):∀(cs:List Value) (x:DataW H×List MemPlace),DataW.trod enc Tryz.prog w base spare held fuel 49 cs=some x→uptoBulk x.1≤1048576→∃a:Epd,CR (old w) w (encEp a).cells cs:=by
 intro csn x hn hbn;obtain⟨xs,n',rfl,rfl,hl,hlen,hf⟩:=DataW.trod_struct Tryz.underlying49 hn;rw[qc49]at hl;have h0:=fl9 hf 0 9 0 rfl qc9;have h1:=fl9 hf 1 3 1 rfl qc3;have h2:=fl9 hf 2 9 2 rfl qc9;have h3:=fl9 hf 3 3 3 rfl qc3;have h4:=fl9 hf 4 47 4 rfl qc47
 match xs,hlen,csn,hl with
 |[y0,y1,y2,y3,y4],_,[a0,a1,a2,a3,a4,a5,a6],_=>
  simp only[List.map_cons,List.map_nil,uptoBulk,uptoBulkAll]at hbn;obtain⟨z0,_,g0⟩:=cr_str Tryz.underlying9 (show DataW.trod enc Tryz.prog w base spare held n' 9 [a0]=some y0 from h0) oM;obtain⟨z1,g1⟩:=cr_int Tryz.underlying3 (show DataW.trod enc Tryz.prog w base spare held n' 3 [a1]=some y1 from h1);obtain⟨z2,_,g2⟩:=cr_str Tryz.underlying9 (show DataW.trod enc Tryz.prog w base spare held n' 9 [a2]=some y2 from h2) oM;obtain⟨z3,g3⟩:=cr_int Tryz.underlying3 (show DataW.trod enc Tryz.prog w base spare held n' 3 [a3]=some y3 from h3);obtain⟨z4,g4⟩:=rd_47 n' [a4,a5,a6] y4 h4 oM;refine⟨⟨z0,z1,z2,z3,z4.1,z4.2.1,z4.2.2⟩,?_⟩;have:=g0.append (g1.append (g2.append (g3.append g4)));simpa only[encEp,Dat.cells,List.singleton_append,List.cons_append,List.nil_append,List.append_assoc]using this
theorem rd_51(fuel:Nat):∀(cs:List Value) (x:DataW H×List MemPlace),DataW.trod enc Tryz.prog w base spare held fuel 51 cs=some x→uptoBulk x.1≤1048576→∃a:Svc,CR (old w) w (encX a).cells cs:=by
 intro csn x hn hbn;obtain⟨xs,n',rfl,rfl,hl,hlen,hf⟩:=DataW.trod_struct Tryz.underlying51 hn;rw[qc51]at hl;have h0:=fl9 hf 0 9 0 rfl qc9;have h1:=fl9 hf 1 9 1 rfl qc9;have h2:=fl9 hf 2 9 2 rfl qc9;have h3:=fl9 hf 3 4 3 rfl qc4
 match xs,hlen,csn,hl with
 |[y0,y1,y2,y3],_,[a0,a1,a2,a3],_=>
  simp only[List.map_cons,List.map_nil,uptoBulk,uptoBulkAll]at hbn;obtain⟨z0,_,g0⟩:=cr_str Tryz.underlying9 (show DataW.trod enc Tryz.prog w base spare held n' 9 [a0]=some y0 from h0) oM;obtain⟨z1,_,g1⟩:=cr_str Tryz.underlying9 (show DataW.trod enc Tryz.prog w base spare held n' 9 [a1]=some y1 from h1) oM;obtain⟨z2,_,g2⟩:=cr_str Tryz.underlying9 (show DataW.trod enc Tryz.prog w base spare held n' 9 [a2]=some y2 from h2) oM;obtain⟨z3,g3⟩:=cr_bool Tryz.underlying4 (show DataW.trod enc Tryz.prog w base spare held n' 4 [a3]=some y3 from h3);refine⟨⟨z0,z1,z2,z3⟩,?_⟩;have:=g0.append (g1.append (g2.append g3));simpa only[encX,Dat.cells,List.singleton_append,List.cons_append,List.nil_append,List.append_assoc]using this
theorem rd_54(fuel:Nat):∀(cs:List Value) (x:DataW H×List MemPlace),DataW.trod enc Tryz.prog w base spare held fuel 54 cs=some x→uptoBulk x.1≤1048576→∃a:Rou,CR (old w) w (encO a).cells cs:=by
 intro csn x hn hbn;obtain⟨xs,n',rfl,rfl,hl,hlen,hf⟩:=DataW.trod_struct Tryz.underlying54 hn;rw[qc54]at hl;have h0:=fl9 hf 0 9 0 rfl qc9;have h1:=fl9 hf 1 9 1 rfl qc9;have h2:=fl9 hf 2 52 2 rfl qc52
 match xs,hlen,csn,hl with
 |[y0,y1,y2],_,[a0,a1,a2],_=>
  simp only[List.map_cons,List.map_nil,uptoBulk,uptoBulkAll]at hbn;obtain⟨z0,_,g0⟩:=cr_str Tryz.underlying9 (show DataW.trod enc Tryz.prog w base spare held n' 9 [a0]=some y0 from h0) oM;obtain⟨z1,_,g1⟩:=cr_str Tryz.underlying9 (show DataW.trod enc Tryz.prog w base spare held n' 9 [a1]=some y1 from h1) oM;obtain⟨z2,_,_,g2⟩:=cr_slice (encA:=encSt) (ok:=fun _=>True) Tryz.underlying52 qc65 dC encSt_l (show DataW.trod enc Tryz.prog w base spare held n' 52 [a2]=some y2 from h2) oM (fun m cs' y _ hy hyb=>by
   obtain⟨v,g⟩:=rd_65 m cs' y hy hyb;exact⟨v,trivial,g⟩)
  refine⟨⟨z0,z1,z2⟩,?_⟩;have:=g0.append (g1.append g2);simpa only[encO,Dat.cells,List.singleton_append,List.cons_append,List.nil_append,List.append_assoc]using this
theorem rd_27(fuel:Nat):∀(cs:List Value) (x:DataW H×List MemPlace),DataW.trod enc Tryz.prog w base spare held fuel 27 cs=some x→uptoBulk x.1≤1048576→∃a:Prg,CR (old w) w (encPg a).cells cs:=by
 intro csn x hn hbn;obtain⟨xs,n',rfl,rfl,hl,hlen,hf⟩:=DataW.trod_struct Tryz.underlying27 hn;rw[show Tryz.prog.cellsOf 27=5 by kernel_rfl]at hl;have h0:=fl9 hf 0 3 0 rfl qc3;have h1:=fl9 hf 1 22 1 rfl qc22;have h2:=fl9 hf 2 23 2 rfl qc23;have h3:=fl9 hf 3 24 3 rfl qc24;have h4:=fl9 hf 4 25 4 rfl qc25
 match xs,hlen,csn,hl with
 |[y0,y1,y2,y3,y4],_,[a0,a1,a2,a3,a4],_=>
  simp only[List.map_cons,List.map_nil,uptoBulk,uptoBulkAll]at hbn;obtain⟨z0,g0⟩:=cr_int Tryz.underlying3 (show DataW.trod enc Tryz.prog w base spare held n' 3 [a0]=some y0 from h0);obtain⟨z1,_,_,g1⟩:=cr_slice (encA:=encC) (ok:=fun _=>True) Tryz.underlying22 qc43 dC (fun _=>rfl) (show DataW.trod enc Tryz.prog w base spare held n' 22 [a1]=some y1 from h1) oM (fun m cs' y _ hy hyb=>by
   obtain⟨v,g⟩:=rd_43 m cs' y hy hyb;exact⟨v,trivial,g⟩)
  obtain⟨z2,_,_,g2⟩:=cr_slice (encA:=encEp) (ok:=fun _=>True) Tryz.underlying23 qc49 dC (fun _=>rfl) (show DataW.trod enc Tryz.prog w base spare held n' 23 [a2]=some y2 from h2) oM (fun m cs' y _ hy hyb=>by
   obtain⟨v,g⟩:=rd_49 m cs' y hy hyb;exact⟨v,trivial,g⟩)
  obtain⟨z3,_,_,g3⟩:=cr_slice (encA:=encX) (ok:=fun _=>True) Tryz.underlying24 qc51 dC (fun _=>rfl) (show DataW.trod enc Tryz.prog w base spare held n' 24 [a3]=some y3 from h3) oM (fun m cs' y _ hy hyb=>by
   obtain⟨v,g⟩:=rd_51 m cs' y hy hyb;exact⟨v,trivial,g⟩)
  obtain⟨z4,_,_,g4⟩:=cr_slice (encA:=encO) (ok:=fun _=>True) Tryz.underlying25 qc54 dC (fun _=>rfl) (show DataW.trod enc Tryz.prog w base spare held n' 25 [a4]=some y4 from h4) oM (fun m cs' y _ hy hyb=>by
   obtain⟨v,g⟩:=rd_54 m cs' y hy hyb;exact⟨v,trivial,g⟩)
  refine⟨⟨z0,z1,z2,z3,z4⟩,?_⟩;have:=g0.append (g1.append (g2.append (g3.append g4)));simpa only[encPg,Dat.cells,List.singleton_append,List.cons_append,List.nil_append,List.append_assoc]using this
end
end Go.Proofs
namespace Go.Proofs.YtlmlncbhhhcnpaaGreatDoor
open Go Go.Proofs Av Go.ChangeShapes Go.WideShapes Go.ChangeAt Go.RowKit
theorem open_prg{H:Type}{enc:TypeId×Value→H}{w:World}{r:Reach}{base b0:Nat}{spare:Nat→Bool}{held:Bool}{v:Value}{d:DataW H}{ps:List MemPlace}
  (hval:Value.okWide Tryz.prog w r b0 27 v)(hd:DataW.Trod enc Tryz.prog w base spare held 27 v d ps)(hb:Rows.uptoBulk d≤1048576):∃e:Prg,Rep (Av.old w) w (encPg e) v:=by
 obtain⟨fuel,hf⟩:=hd;obtain⟨m,hc⟩:=rd_27 fuel _ (d,ps) hf hb;refine⟨m,?_⟩;unfold Value.okWide at hval;rw[Tryz.underlying27]at hval;obtain⟨cs,rfl,_,_⟩:=hval;obtain⟨h1,h2,h3⟩:=hc;have e:(Value.agg cs).cells=cs:=rfl;rw[e]at h1 h2 h3;have h1':(encPg m).cells.length=cs.size:=sX h1;unfold encPg at h1' h3⊢;exact .agg _ _ h1' h2 (fun i c v hc hv=>h3 i c v hc (sX hv))
end Go.Proofs.YtlmlncbhhhcnpaaGreatDoor
namespace Go.Proofs.YtlmlncbhhhcnpaaGreatDoor
open Go Go.Proofs Av Go.ChangeShapes Go.WideShapes Go.ChangeAt Go.RowKit
theorem core_old(w:World)(hg:∀g cs,globOf g=some cs→GRep (Av.old w) w g cs):Core (fun _=>(⟨none,[]⟩:BK)) (Av.old w) w (get []):=
 ⟨(by intro i o hi;cases hi),(by intro i j o o' b hi;cases hi),(by intro i o b hi;cases hi),fun _ h=>h,hg⟩
theorem calls_of_pcon{P:Program}{f:Nat}{ds:List Dat}{b:Bool}(h:PCon P f ds (.d (.bool b))){w:World}{vs:Array Value}(hg:∀g cs,globOf g=some cs→GRep (Av.old w) w g cs)(hl:ds.length=vs.size)
  (hv:∀(i:Nat) d v,ds[i]? =some d→vs[i]? =some v→Rep (Av.old w) w d v):
  Calls P f vs w fun e w'=>e=.returned (.bool b)∧Below w.heap.size w w':=by
 refine(h.2 (fun _=>(⟨none,[]⟩:BK)) (Av.old w) w vs (core_old w hg) ⟨by simpa using hl,?_⟩).mono ?_
 ·intro i c v hc hv';rw[List.getElem?_map]at hc;cases e:ds[i]? with
  |none=>rw[e]at hc;cases hc
  |some d=>
   rw[e]at hc;cases hc;exact .d _ _ (hv i d v e hv')
 ·rintro e w' ⟨u,β',A',rfl,hs,_,hu⟩;have:=hu.of_d;cases this;exact⟨rfl,hs.os,hs.tape,hs.output,hs.size,fun k hk=>hs.same k hk (by intro i o hi;cases hi)⟩
theorem laidOut:laidOutB Tryz.prog=true:=kR
theorem bulk_append{H:Type}(l r:List (DataW H)):Rows.uptoBulkAll (l++r)=Rows.uptoBulkAll l+Rows.uptoBulkAll r:=by
 induction l with
 |nil=>simp[Rows.uptoBulkAll]
 |cons x l ih=>simp only[List.cons_append,Rows.uptoBulkAll,ih];omega
end Go.Proofs.YtlmlncbhhhcnpaaGreatDoor
namespace Go.Proofs
open Go Av
open Av.Y
def ir264:Ic:=q (R (ox 1 0<|oN 2 y6<|N) [0])<|q (R (oL 8 6 1<|oN 3 y6<|oS 6 3 8<|N) [8])<|q (R (of 9 3 4<|on (.sto none (t 9) (.k (.nil 6)))<|of 10 3 5<|on (.sto none (t 10) (.k (.nil 7)))<|N) [9,10])<|q (q (R (of 11 1 4<|ol 12 11<|oh 13 12<|oz 14 0<|N) [11])<|D (.block 0<|.loop (q (.reg (ot 15 .lss 14 13<|N))<|q (D (I 15 S (E 0)) [15])<|q (D (.block 1<|q (R (oa true 16 6 12 14<|oL 17 6 16<|oN 5 y6<|oS 6 5 17<|N) [16,17])<|D (.regd [(1,3),(1,4)] (of 18 3 4<|ol 19 18<|oL 20 6 5<|cl 21 264 [t 20]<|oo 22 (.bls 6 [t 21])<|oo 23 (.app 6 (t 19) (t 22))<|of 24 3 4<|os 24 23<|N)) [5,18,19,20,21,22,23,24]) [])<|R (oi 25 .add 14 1<|om 14 25<|N) [25])) [12,13,14,15,5])<|q (q (R (of 26 1 5<|ol 27 26<|oh 28 27<|oz 29 0<|N) [1,26])<|D (.block 2<|.loop (q (.reg (ot 30 .lss 29 28<|N))<|q (D (I 30 S (E 2)) [30])<|q (D (.block 3<|q (R (oa true 31 7 27 29<|oL 32 7 31<|oN 7 y7<|oS 7 7 32<|N) [31,32])<|D (.regd [(1,6),(3,6),(1,8)] (of 33 3 5<|ol 34 33<|of 35 7 0<|ol 36 35<|of 37 7 1<|oL 38 6 37<|cl 39 264 [t 38]<|oo 40 (.bld y7 [(0,1,t 36),(1,6,t 39)])<|oo 41 (.bls 7 [t 40])<|oo 42 (.app 7 (t 34) (t 41))<|of 43 3 5<|os 43 42<|N)) [7,33,34,35,36,37,38,39,40,41,42,43]) [])<|R (oi 44 .add 29 1<|om 29 44<|N) [44])) [27,28,29,30,7])<|q (R (oL 45 6 3<|oS 6 2 45<|N) [3,45])<|.ret
theorem ok264:FT 264 46 ir264 [.cell 2 (some 6)]:=.o Tryz.func264
end Go.Proofs
namespace Go.Proofs
open Go Av
open Av.Y
def ir44:Ic:=q (R (ox 5 1<|ox 6 2<|oz 8 0<|N) [1,2,8])<|q (R (om 13 0<|oc 14 13<|of 15 14 0<|ol 16 15<|oh 17 16<|om 9 17<|N) [13,14,15,16,17])<|q (D (.regd [(5,7),(7,12),(8,12),(5,14),(7,14),(8,14),(12,14)] (om 18 0<|om 19 0<|om 20 0<|oc 21 20<|of 22 21 0<|ol 23 22<|om 24 3<|oo 25 (.bls 1 [t 24])<|oo 26 (.app 1 (t 23) (t 25))<|om 27 0<|oc 28 27<|of 29 28 1<|ol 30 29<|om 31 3<|oo 32 (.bls 1 [t 31])<|oo 33 (.app 1 (t 30) (t 32))<|oc 34 18<|of 35 34 0<|os 35 26<|oc 36 19<|of 37 36 1<|os 37 33<|N)) [18,19,20,21,22,23,24,25,26,27,28,29,30,31,32,33,34,35,36,37])<|q (R (om 38 3<|om 10 38<|N) [38])<|q (q (R (of 39 6 1<|ol 40 39<|N) [39])<|D (.block 0<|q (q (R (oi 52 .eql 40 13<|om 51 52<|N) [52])<|I 51 S (R (oi 53 .eql 40 14<|om 51 53<|N) [53]))<|I 51 (R (oz 10 (-1)<|N) [3,5,6,40,51]) (q (q (R (oi 55 .eql 40 11<|om 54 55<|N) [51,55])<|D (I 54 S (R (oi 56 .eql 40 12<|om 54 56<|N) [40,56])) [40])<|I 54 (q (R (oz 10 (-1)<|N) [54])<|q (.reg (oz 11 0<|N))<|D (.block 1<|.loop (q (q (R (om 57 11<|of 58 6 10<|ol 59 58<|oh 60 59<|ot 61 .lss 57 60<|N) [57,58,59,60])<|D (I 61 S (E 1)) [61])<|q (D (.block 2<|q (R (om 64 0<|oL 65 5 5<|of 66 6 10<|ol 67 66<|om 68 11<|oa true 69 2 67 68<|of 70 69 1<|ol 71 70<|om 72 3<|cl 73 21 [t 64,t 65,t 71,t 72]<|om 12 73<|N) [64,65,66,67,68,69,70,71,72,73])<|q (R (om 74 10<|oi 75 .lss 74 0<|om 76 75<|.sc 76 true (of 77 6 10<|ol 78 77<|om 79 11<|oa true 80 2 78 79<|of 81 80 1<|ol 82 81<|cl 83 42 [t 82]<|og 84 83<|N) (t 84) 85 N) [74,75,76])<|D (I 85 (R (om 86 12<|om 10 86<|N) [12,85,86]) S) [12,85]) [])<|R (om 62 11<|oi 63 .add 62 1<|om 11 63<|N) [62,63])) [3,5,6,11,61]) (q (R (of 41 6 6<|ol 42 41<|ob 43 .sne (t 42) (.k (.str []))<|N) [3,54,41,42])<|D (I 43 (R (oL 45 5 5<|of 46 6 6<|ol 47 46<|cl 48 49 [t 45,t 47]<|om 44 48<|oe 49 44 0<|oe 50 44 1<|om 10 49<|N) [5,6,43,45,46,47,48,44,49,50]) S) [5,6,43]))) [11])<|q (R (om 87 0<|oc 88 87<|of 89 88 1<|ol 90 89<|om 91 9<|om 92 10<|oa false 93 1 90 91<|os 93 92<|N) [0,9,87,88,89,90,91,92,93])<|q (R (om 94 10<|om 8 94<|N) [10,94])<|.ret
theorem ok44:FT 44 95 ir44 [.tmp 8]:=.o Tryz.func44
def ir21:Ic:=q (R (ox 5 1<|oz 8 0<|N) [1,8])<|q (q (.reg (oz 9 0<|N))<|D (.block 0<|.loop (q (q (R (om 10 9<|om 11 2<|oh 12 11<|ot 13 .lss 10 12<|N) [10,11,12])<|D (I 13 S (E 0)) [13])<|q (D (.block 1<|R (om 16 0<|oL 17 5 5<|om 18 2<|om 19 9<|oa true 20 11 18 19<|oL 21 11 20<|om 22 3<|cl 23 44 [t 16,t 17,t 21,t 22]<|om 3 23<|N) [16,17,18,19,20,21,22,23]) [])<|R (om 14 9<|oi 15 .add 14 1<|om 9 15<|N) [14,15])) [0,2,5,9,13])<|q (R (om 24 3<|om 8 24<|N) [3,24])<|.ret
theorem ok21:FT 21 25 ir21 [.tmp 8]:=.o Tryz.func21
def ir22:Ic:=q (R (ox 2 0<|oz 4 0<|N) [0,4])<|q (R (oL 10 5 2<|om 11 1<|cl 12 24 [t 10,t 11]<|om 9 12<|oe 13 9 0<|oe 14 9 1<|om 5 13<|om 6 14<|N) [1,10,11,12,9,13,14])<|q (q (R (om 15 6<|og 16 15<|om 17 16<|.sc 17 false (om 18 5<|of 19 2 2<|ol 20 19<|oh 21 20<|ot 22 .geq 18 21<|N) (t 22) 23 N) [6,15,16,17])<|D (I 23 (q (R (oz 4 0<|N) [2,5,23])<|.ret) S) [23])<|q (R (oL 25 5 2<|of 26 2 2<|ol 27 26<|om 28 5<|oa true 29 7 27 28<|of 30 29 2<|ol 31 30<|of 32 2 2<|ol 33 32<|om 34 5<|oa true 35 7 33 34<|of 36 35 3<|ol 37 36<|cl 38 25 [t 25,t 31,t 37]<|om 24 38<|oe 39 24 0<|oe 40 24 1<|om 7 39<|om 8 40<|N) [2,5,25,26,27,28,29,30,31,32,33,34,35,36,37,38,24,39,40,8])<|q (R (om 41 7<|om 4 41<|N) [7,41])<|.ret
theorem ok22:FT 22 42 ir22 [.tmp 4]:=.o Tryz.func22
def ir9:Ic:=q (R (ox 1 0<|oN 2 [.nil 1,.nil 1]<|N) [0])<|q (.reg (oN 3 [.nil 1,.nil 1]<|N))<|q (q (.reg (oz 4 0<|N))<|D (.block 0<|.loop (q (q (R (om 5 4<|of 6 1 4<|ol 7 6<|oh 8 7<|ot 9 .lss 5 8<|N) [5,6,7,8])<|D (I 9 S (E 0)) [9])<|q (D (.block 1<|D (.regd [(0,14),(2,14),(4,14),(6,14)] (oL 12 5 1<|of 13 1 4<|ol 14 13<|om 15 4<|oa true 16 3 14 15<|of 17 16 2<|ol 18 17<|oL 19 5 1<|of 20 1 4<|ol 21 20<|om 22 4<|oa true 23 3 21 22<|of 24 23 1<|ol 25 24<|cl 26 22 [t 19,t 25]<|cl 27 21 [t 3,t 12,t 18,t 26]<|N)) [12,13,14,15,16,17,18,19,20,21,22,23,24,25,26,27]) [])<|R (om 10 4<|oi 11 .add 10 1<|om 4 11<|N) [10,11])) [1,4,9,10,11])<|q (R (oL 28 2 3<|oS 2 2 28<|N) [3,28])<|.ret
theorem ok9:FT 9 29 ir9 [.cell 2 (some 2)]:=.o Tryz.func9
def ir8:Ic:=q (R (ox 1 0<|ow 2 false<|N) [0,2])<|q (R (oL 3 5 1<|cl 4 20 [t 3]<|oh 5 4<|oi 6 .eql 5 0<|om 2 6<|N) [1,3,4,5,6])<|.ret
theorem ok8:FT 8 7 ir8 [.tmp 2]:=.o Tryz.func8
def ir10:Ic:=q (R (ow 4 false<|N) [4])<|q (q (R (om 6 0<|oh 7 6<|om 8 1<|oh 9 8<|ot 10 .neq 7 9<|N) [6,7,8,9])<|D (I 10 (q (R (ow 4 false<|N) [0,1,10])<|.ret) S) [10])<|q (q (.reg (oz 5 0<|N))<|D (.block 0<|.loop (q (q (R (om 11 5<|om 12 0<|oh 13 12<|ot 14 .lss 11 13<|N) [11,12,13])<|D (I 14 S (E 0)) [14])<|q (D (.block 1<|q (R (om 17 0<|om 18 5<|oa false 19 1 17 18<|ol 20 19<|om 21 1<|om 22 5<|oa false 23 1 21 22<|ol 24 23<|ot 25 .neq 20 24<|N) [17,18,19,20,21,22,23,24])<|D (I 25 (q (R (ow 4 false<|N) [0,1,5,25])<|.ret) S) [25]) [])<|R (om 15 5<|oi 16 .add 15 1<|om 5 16<|N) [15,16])) [0,1,5,14])<|q (.reg (ow 4 true<|N))<|.ret
theorem ok10:FT 10 26 ir10 [.tmp 4]:=.o Tryz.func10
def ir3:Ic:=q (R (ox 1 0<|ow 2 false<|N) [0,2])<|q (R (oL 6 5 1<|cl 7 4 [t 6]<|oS 5 1 7<|N) [6,7])<|q (D (.regd [(1,2)] (oL 8 5 1<|cl 9 5 [t 8]<|oL 10 5 1<|cl 11 6 [t 10]<|om 3 9<|om 4 11<|N)) [8,9,10,11])<|q (q (R (cl 12 7 []<|og 13 12<|N) [12])<|D (I 13 (q (R (ow 2 false<|N) [1,3,4,13])<|.ret) S) [13])<|q (q (R (oL 14 5 1<|cl 15 8 [t 14]<|og 16 15<|N) [14,15])<|D (I 16 (q (R (om 17 3<|oh 18 17<|oi 19 .eql 18 0<|om 20 19<|.sc 20 true (om 21 4<|oh 22 21<|oi 23 .eql 22 0<|N) (t 23) 24 (om 2 24<|N)) [1,3,4,16,17,18,19,20,24])<|.ret) S) [16])<|q (R (oL 25 5 1<|cl 26 9 [t 25]<|oN 5 [.nil 1,.nil 1]<|oS 2 5 26<|N) [1,25,26])<|q (R (om 27 3<|of 28 5 0<|ol 29 28<|cl 30 10 [t 27,t 29]<|om 31 30<|.sc 31 true (om 32 4<|of 33 5 1<|ol 34 33<|cl 35 10 [t 32,t 34]<|N) (t 35) 36 (om 2 36<|N)) [3,4,5,27,28,29,30,31,36])<|.ret
theorem ok3:FT 3 37 ir3 [.tmp 2]:=.o Tryz.func3
end Go.Proofs
namespace Go.Proofs
open Go Av
open Av.Y
def ir26:Ic:=q (R (oz 10 0<|N) [10])<|q (q (R (om 19 2<|oh 20 19<|oz 21 0<|N) [2])<|D (.block 0<|.loop (q (.reg (ot 22 .lss 21 20<|N))<|q (D (I 22 S (E 0)) [22])<|q (D (.block 1<|q (R (om 23 21<|oa true 24 11 19 21<|oL 25 11 24<|oN 12 [.str [],.int .i64 0,.int .i64 0,.int .i64 0,.int .i64 0,.str [],.str [],.nil 5,.nil 6,.nil 2,.nil 2]<|om 11 23<|oS 11 12 25<|N) [23,24,25])<|q (R (om 26 3<|cl 27 31 [t 26]<|om 28 11<|oo 29 (.bls 1 [t 28])<|oo 30 (.app 1 (t 27) (t 29))<|om 13 30<|N) [11,26,27,28,29,30])<|q (R (om 31 0<|oc 32 31<|of 33 32 5<|ol 34 33<|oh 35 34<|om 14 35<|N) [31,32,33,34,35])<|q (D (.regd [(4,10)] (om 36 0<|om 37 0<|oc 38 37<|of 39 38 5<|ol 40 39<|om 41 1<|om 42 13<|oL 43 11 12<|om 44 4<|oo 45 (.bld [.int .i64 0,.nil 1,.str [],.int .i64 0,.int .i64 0,.int .i64 0,.int .i64 0,.str [],.str [],.nil 5,.nil 6,.nil 2,.nil 2,.int .i64 0,.int .i64 0,.bool false] [(0,1,t 41),(1,1,t 42),(2,11,t 43),(13,1,t 44)])<|oo 46 (.bls 16 [t 45])<|oo 47 (.app 16 (t 40) (t 46))<|oc 48 36<|of 49 48 5<|os 49 47<|N)) [36,37,38,39,40,41,42,43,44,45,46,47,48,49])<|q (R (om 50 4<|om 15 50<|N) [50])<|q (D (.block 2<|q (R (of 52 12 1<|ol 53 52<|oi 54 .eql 53 13<|om 55 54<|.sc 55 false (of 56 12 1<|ol 57 56<|oi 58 .eql 57 14<|N) (t 58) 59 (om 51 59<|N)) [52,53,54,55,59])<|I 51 (R (oz 15 (-1)<|N) [4,12,13,51]) (q (R (of 61 12 1<|ol 62 61<|oi 63 .eql 62 11<|om 64 63<|.sc 64 false (of 65 12 1<|ol 66 65<|oi 67 .eql 66 12<|N) (t 67) 68 (om 60 68<|N)) [51,61,62,63,64,68])<|I 60 (q (R (oz 15 (-1)<|N) [60])<|q (R (of 69 12 10<|ol 70 69<|oh 71 70<|oz 72 0<|N) [12,69])<|D (.block 3<|.loop (q (.reg (ot 73 .lss 72 71<|N))<|q (D (I 73 S (E 3)) [73])<|q (D (.block 4<|q (R (om 74 72<|oa true 75 2 70 72<|oL 76 2 75<|oN 17 [.nil 5,.nil 11]<|om 16 74<|oS 2 17 76<|N) [74,75,76])<|q (D (.regd [(3,5),(3,7),(5,7),(3,8)] (om 77 0<|om 78 1<|of 79 17 1<|ol 80 79<|om 81 13<|cl 82 31 [t 81]<|om 83 16<|oo 84 (.bls 1 [t 83])<|oo 85 (.app 1 (t 82) (t 84))<|om 86 4<|cl 87 26 [t 77,t 78,t 80,t 85,t 86]<|om 18 87<|N)) [16,77,78,79,80,81,82,83,84,85,86,87])<|q (q (R (of 88 17 1<|ol 89 88<|cl 90 42 [t 89]<|N) [17,88,89])<|D (I 90 (E 4) S) [90])<|q (R (om 91 15<|oi 92 .lss 91 0<|N) [91])<|I 92 (R (om 93 18<|om 15 93<|N) [18,92,93]) (q (R (om 94 15<|om 95 18<|ot 96 .neq 94 95<|N) [18,92,94,95])<|D (I 96 (R (om 97 0<|oc 98 97<|of 99 98 5<|ol 100 99<|om 101 14<|oa true 102 16 100 101<|of 103 102 15<|on (.sto none (t 103) (B true))<|N) [96,97,98,99,100,101,102,103]) S) [96])) [18,90])<|R (oi 104 .add 72 1<|om 72 104<|N) [104])) [4,13,70,71,72,73]) (q (R (of 106 12 6<|ol 107 106<|ob 108 .sne (t 107) (.k (.str []))<|om 105 108<|N) [4,13,60,106,107,108])<|D (I 105 (R (om 110 0<|oc 111 110<|of 112 111 0<|oL 113 5 112<|of 114 12 6<|ol 115 114<|cl 116 49 [t 113,t 115]<|om 109 116<|oe 117 109 0<|oe 118 109 1<|om 15 117<|N) [12,105,110,111,112,113,114,115,116,109,117,118]) S) [12,105]))) [])<|q (R (om 119 0<|oc 120 119<|of 121 120 5<|ol 122 121<|om 123 14<|om 124 15<|oa true 125 16 122 123<|of 126 125 14<|os 126 124<|N) [14,119,120,121,122,123,124,125,126])<|R (om 127 15<|om 4 127<|N) [15,127]) [])<|R (oi 128 .add 21 1<|om 21 128<|N) [128])) [0,1,3,19,20,21,22,11])<|q (R (om 129 4<|om 10 129<|N) [4,129])<|.ret
theorem ok26:FT 26 130 ir26 [.tmp 10]:=.o Tryz.func26
def ir14:Ic:=q (R (ox 1 0<|ok 2 (.k (.nil 16))<|N) [0,2])<|q (q (R (oL 10 5 1<|cl 11 20 [t 10]<|oh 12 11<|oi 13 .gtr 12 0<|N) [10,11,12])<|D (I 13 (q (R (ok 2 (.k (.nil 16))<|N) [1,13])<|.ret) S) [13])<|q (R (oL 14 5 1<|oo 15 (.bld [.int .i64 0,.nil 9,.nil 7,.nil 4,.nil 3,.nil 16] [(0,5,t 14)])<|ox 16 15<|om 3 16<|N) [14,15,16])<|q (q (R (of 17 1 4<|ol 18 17<|oh 19 18<|oz 20 0<|N) [17])<|D (.block 0<|.loop (q (.reg (ot 21 .lss 20 19<|N))<|q (D (I 21 S (E 0)) [21])<|q (D (.block 1<|q (R (om 22 20<|oa true 23 3 18 20<|oL 24 3 23<|oN 5 [.str [],.str [],.nil 11]<|om 4 22<|oS 3 5 24<|N) [22,23,24])<|q (R (oL 26 5 1<|of 27 5 1<|ol 28 27<|cl 29 24 [t 26,t 28]<|om 25 29<|oe 30 25 0<|oe 31 25 1<|om 6 30<|om 7 31<|N) [26,27,28,29,25,30,31,7])<|q (R (oL 33 5 1<|of 34 1 2<|ol 35 34<|om 36 6<|oa true 37 7 35 36<|of 38 37 2<|ol 39 38<|of 40 1 2<|ol 41 40<|om 42 6<|oa true 43 7 41 42<|of 44 43 3<|ol 45 44<|cl 46 25 [t 33,t 39,t 45]<|om 32 46<|oe 47 32 0<|oe 48 32 1<|om 8 47<|om 9 48<|N) [6,33,34,35,36,37,38,39,40,41,42,43,44,45,46,32,47,48,9])<|R (om 49 3<|om 50 4<|of 51 5 2<|ol 52 51<|om 53 8<|cl 54 26 [t 49,t 50,t 52,.k (.nil 1),t 53]<|N) [5,4,8,49,50,51,52,53,54]) [])<|R (oi 55 .add 20 1<|om 20 55<|N) [55])) [1,18,19,20,21,5,4,6,7,8,9])<|q (R (om 56 3<|oc 57 56<|of 58 57 5<|ol 59 58<|om 2 59<|N) [3,56,57,58,59])<|.ret
theorem ok14:FT 14 60 ir14 [.tmp 2]:=.o Tryz.func14
def ir5:Ic:=q (R (ox 1 0<|ok 2 (.k (.nil 1))<|N) [0,2])<|q (.reg (ok 3 (.k (.nil 1))<|N))<|q (q (R (oL 6 5 1<|cl 7 14 [t 6]<|oh 8 7<|oz 9 0<|N) [1,6])<|D (.block 0<|.loop (q (.reg (ot 10 .lss 9 8<|N))<|q (D (I 10 S (E 0)) [10])<|q (D (.block 1<|q (R (oa true 11 16 7 9<|oL 12 16 11<|oN 5 [.int .i64 0,.nil 1,.str [],.int .i64 0,.int .i64 0,.int .i64 0,.int .i64 0,.str [],.str [],.nil 5,.nil 6,.nil 2,.nil 2,.int .i64 0,.int .i64 0,.bool false]<|oS 16 5 12<|N) [11,12])<|R (om 13 3<|of 14 5 13<|ol 15 14<|oo 16 (.bls 1 [t 15])<|oo 17 (.app 1 (t 13) (t 16))<|om 3 17<|N) [5,13,14,15,16,17]) [])<|R (oi 18 .add 9 1<|om 9 18<|N) [18])) [7,8,9,10,11,5])<|q (R (om 19 3<|om 2 19<|N) [3,19])<|.ret
theorem ok5:FT 5 20 ir5 [.tmp 2]:=.o Tryz.func5
def ir6:Ic:=q (R (ox 1 0<|ok 2 (.k (.nil 1))<|N) [0,2])<|q (.reg (ok 3 (.k (.nil 1))<|N))<|q (q (R (oL 6 5 1<|cl 7 14 [t 6]<|oh 8 7<|oz 9 0<|N) [1,6])<|D (.block 0<|.loop (q (.reg (ot 10 .lss 9 8<|N))<|q (D (I 10 S (E 0)) [10])<|q (D (.block 1<|q (R (oa true 11 16 7 9<|oL 12 16 11<|oN 5 [.int .i64 0,.nil 1,.str [],.int .i64 0,.int .i64 0,.int .i64 0,.int .i64 0,.str [],.str [],.nil 5,.nil 6,.nil 2,.nil 2,.int .i64 0,.int .i64 0,.bool false]<|oS 16 5 12<|N) [11,12])<|R (om 13 3<|of 14 5 14<|ol 15 14<|oo 16 (.bls 1 [t 15])<|oo 17 (.app 1 (t 13) (t 16))<|om 3 17<|N) [5,13,14,15,16,17]) [])<|R (oi 18 .add 9 1<|om 9 18<|N) [18])) [7,8,9,10,11,5])<|q (R (om 19 3<|om 2 19<|N) [3,19])<|.ret
theorem ok6:FT 6 20 ir6 [.tmp 2]:=.o Tryz.func6
end Go.Proofs
namespace Go.Proofs
open Go Av
open Av.Y
def ir34:Ic:=q (R (ox 3 1<|N) [1])<|q (R (oL 5 5 3<|cl 6 72 [t 5]<|om 4 6<|N) [5,6])<|q (R (om 7 0<|of 8 3 1<|ol 9 8<|oh 10 9<|oi 11 .gtr 10 64<|cl 12 37 [t 7,t 11,i 16,.k (.str [115,99,104,101,109,97,115])]<|N) [7,8,9,10,11,12])<|q (R (om 13 0<|of 14 3 2<|ol 15 14<|oh 16 15<|oi 17 .gtr 16 64<|cl 18 37 [t 13,t 17,i 16,.k (.str [101,110,100,112,111,105,110,116,115])]<|N) [13,14,15,16,17,18])<|q (R (om 19 0<|of 20 3 3<|ol 21 20<|oh 22 21<|oi 23 .gtr 22 64<|cl 24 37 [t 19,t 23,i 16,.k (.str [115,101,114,118,105,99,101,115])]<|N) [19,20,21,22,23,24])<|q (R (om 25 0<|of 26 3 4<|ol 27 26<|oh 28 27<|oi 29 .gtr 28 64<|cl 30 37 [t 25,t 29,i 16,.k (.str [114,111,117,116,101,115])]<|N) [25,26,27,28,29,30])<|q (R (om 31 0<|om 32 4<|oh 33 32<|oi 34 .gtr 33 64<|cl 35 37 [t 31,t 34,i 16,.k (.str [115,116,101,112,115])]<|N) [31,32,33,34,35])<|q (R (om 36 0<|om 37 4<|cl 38 73 [t 37,.k (.fn (.func 74) [] [])]<|cl 39 37 [t 36,t 38,i 16,.k (.str [108,101,118,101,108,115])]<|N) [36,37,38,39])<|R (om 40 0<|of 41 3 2<|ol 42 41<|oh 43 42<|of 44 3 3<|ol 45 44<|oh 46 45<|ot 47 .add 43 46<|om 48 4<|oh 49 48<|ot 50 .add 47 49<|oi 51 .gtr 50 128<|cl 52 37 [t 40,t 51,i 16,.k (.str [110,111,100,101,115])]<|N) [0,3,4,40,41,42,43,44,45,46,47,48,49,50,51,52]
theorem ok34:FT 34 53 ir34 []:=.o Tryz.func34
def ir35:Ic:=q (R (ox 4 1<|N) [1])<|q (R (om 21 0<|of 22 4 0<|ol 23 22<|cl 24 75 [t 23,i 1,i 999]<|og 25 24<|cl 26 37 [t 21,t 25,i 5,.k (.str [118,101,114,115,105,111,110])]<|N) [21,22,23,24,25,26])<|q (q (R (of 27 4 1<|ol 28 27<|oh 29 28<|oz 30 0<|N) [27])<|D (.block 0<|.loop (q (.reg (ot 31 .lss 30 29<|N))<|q (D (I 31 S (E 0)) [31])<|q (D (.block 1<|q (R (om 32 30<|oa true 33 9 28 30<|oL 34 9 33<|oN 7 [.str [],.int .i64 0,.int .i64 0,.int .i64 0,.int .i64 0,.int .i64 0,.nil 1,.nil 7,.nil 11]<|om 6 32<|oS 9 7 34<|N) [32,33,34])<|q (R (of 35 7 0<|ol 36 35<|cl 37 38 [t 36]<|om 8 37<|N) [35,36,37])<|q (R (oL 39 5 4<|of 40 7 0<|ol 41 40<|of 42 7 1<|ol 43 42<|cl 44 25 [t 39,t 41,t 43]<|om 38 44<|oe 45 38 0<|oe 46 38 1<|om 9 45<|om 10 46<|N) [39,40,41,42,43,44,38,45,46,10])<|q (R (om 47 0<|om 48 8<|og 49 48<|of 50 7 0<|ol 51 50<|cl 52 37 [t 47,t 49,i 1,t 51]<|N) [47,48,49,50,51,52])<|q (D (.regd [(4,8)] (om 53 0<|om 54 8<|om 55 54<|.sc 55 true (oL 56 9 7<|cl 57 51 [t 56]<|oi 58 .neq 57 0<|N) (t 58) 59 (of 60 7 0<|ol 61 60<|cl 62 37 [t 53,t 59,i 5,t 61]<|N))) [8,53,54,55,59,60,61,62])<|R (om 63 0<|om 64 9<|om 65 6<|ot 66 .lss 64 65<|of 67 7 0<|ol 68 67<|cl 69 37 [t 63,t 66,i 2,t 68]<|N) [7,6,9,63,64,65,66,67,68,69]) [])<|R (oi 70 .add 30 1<|om 30 70<|N) [70])) [28,29,30,31,7,6,8,9,10])<|q (q (R (of 71 4 2<|ol 72 71<|oh 73 72<|oz 74 0<|N) [71])<|D (.block 2<|.loop (q (.reg (ot 75 .lss 74 73<|N))<|q (D (I 75 S (E 2)) [75])<|q (D (.block 3<|q (R (oa true 76 7 72 74<|oL 77 7 76<|oN 12 [.str [],.int .i64 0,.str [],.int .i64 0,.int .i64 0,.int .i64 0,.nil 1]<|oS 7 12 77<|N) [76,77])<|q (R (oL 79 5 4<|of 80 12 2<|ol 81 80<|of 82 12 3<|ol 83 82<|cl 84 25 [t 79,t 81,t 83]<|om 78 84<|oe 85 78 0<|oe 86 78 1<|om 13 85<|om 14 86<|N) [79,80,81,82,83,84,78,85,86,13])<|q (D (.regd [(3,6)] (om 87 0<|of 88 12 0<|ol 89 88<|cl 90 38 [t 89]<|og 91 90<|of 92 12 0<|ol 93 92<|cl 94 37 [t 87,t 91,i 1,t 93]<|N)) [87,88,89,90,91,92,93,94])<|q (R (om 95 0<|om 96 2<|of 97 12 0<|ol 98 97<|oo 99 (.lkp .s (.bool false) (t 96) (t 98) false)<|of 100 12 0<|ol 101 100<|cl 102 37 [t 95,t 99,i 2,t 101]<|N) [95,96,97,98,99,100,101,102])<|q (D (.regd [(3,13),(9,13)] (om 103 0<|of 104 12 1<|ol 105 104<|cl 106 75 [t 105,i 1,i 3]<|og 107 106<|om 108 107<|.sc 108 false (of 109 12 4<|of 110 109 0<|ol 111 110<|cl 112 75 [t 111,i 1,i 4]<|og 113 112<|N) (t 113) 114 (of 115 12 0<|ol 116 115<|cl 117 37 [t 103,t 114,i 5,t 116]<|N))) [103,104,105,106,107,108,114,115,116,117])<|q (R (om 118 0<|om 119 14<|og 120 119<|of 121 12 2<|ol 122 121<|cl 123 37 [t 118,t 120,i 3,t 122]<|N) [14,118,119,120,121,122,123])<|R (om 124 2<|of 125 12 0<|ol 126 125<|on (.mpu .s (t 124) (t 126) (B true))<|N) [12,124,125,126]) [])<|R (oi 127 .add 74 1<|om 74 127<|N) [127])) [72,73,74,75])<|q (R (of 128 4 3<|ol 129 128<|oh 130 129<|oz 131 0<|N) [128])<|D (.block 4<|.loop (q (.reg (ot 132 .lss 131 130<|N))<|q (D (I 132 S (E 4)) [132])<|q (D (.block 5<|q (R (oa true 133 4 129 131<|oL 134 4 133<|oN 16 [.str [],.str [],.str [],.bool false]<|oS 4 16 134<|N) [133,134])<|q (R (oL 136 5 4<|of 137 16 1<|ol 138 137<|cl 139 49 [t 136,t 138]<|om 135 139<|oe 140 135 0<|oe 141 135 1<|om 17 140<|om 18 141<|N) [136,137,138,139,135,140,141,17])<|q (R (oL 143 5 4<|of 144 16 2<|ol 145 144<|cl 146 49 [t 143,t 145]<|om 142 146<|oe 147 142 0<|oe 148 142 1<|om 19 147<|om 20 148<|N) [143,144,145,146,142,147,148,19])<|q (D (.regd [(3,6)] (om 149 0<|of 150 16 0<|ol 151 150<|cl 152 38 [t 151]<|og 153 152<|of 154 16 0<|ol 155 154<|cl 156 37 [t 149,t 153,i 1,t 155]<|N)) [149,150,151,152,153,154,155,156])<|q (R (om 157 0<|om 158 2<|of 159 16 0<|ol 160 159<|oo 161 (.lkp .s (.bool false) (t 158) (t 160) false)<|of 162 16 0<|ol 163 162<|cl 164 37 [t 157,t 161,i 2,t 163]<|N) [157,158,159,160,161,162,163,164])<|q (R (om 165 0<|om 166 18<|og 167 166<|of 168 16 1<|ol 169 168<|cl 170 37 [t 165,t 167,i 3,t 169]<|N) [18,165,166,167,168,169,170])<|q (R (om 171 0<|om 172 20<|og 173 172<|of 174 16 2<|ol 175 174<|cl 176 37 [t 171,t 173,i 3,t 175]<|N) [20,171,172,173,174,175,176])<|R (om 177 2<|of 178 16 0<|ol 179 178<|on (.mpu .s (t 177) (t 179) (B true))<|N) [16,177,178,179]) [])<|R (oi 180 .add 131 1<|om 131 180<|N) [180])) [0,2,4,129,130,131,132]
theorem ok35:FT 35 181 ir35 []:=.o Tryz.func35
def ir107:Ic:=q (R (ox 4 1<|ox 5 2<|N) [1,2])<|q (q (R (of 14 5 1<|ol 15 14<|oi 16 .eql 15 13<|N) [14,15])<|D (I 16 (q (R (oL 18 5 4<|of 19 5 5<|ol 20 19<|cl 21 24 [t 18,t 20]<|om 17 21<|oe 22 17 0<|oe 23 17 1<|om 6 22<|om 7 23<|N) [16,18,19,20,21,17,22,23])<|q (R (om 24 0<|om 25 7<|og 26 25<|of 27 5 5<|ol 28 27<|cl 29 37 [t 24,t 26,i 3,t 28]<|N) [24,25,26,27,28,29])<|R (om 30 0<|om 31 7<|om 32 31<|.sc 32 true (of 33 4 2<|ol 34 33<|om 35 6<|oa true 36 7 34 35<|of 37 36 1<|ol 38 37<|oi 39 .eql 38 1<|N) (t 39) 40 (of 41 5 5<|ol 42 41<|cl 43 37 [t 30,t 40,i 4,t 42]<|N)) [6,7,30,31,32,40,41,42,43]) S) [16])<|q (R (oL 45 5 4<|of 46 5 6<|ol 47 46<|cl 48 49 [t 45,t 47]<|om 44 48<|oe 49 44 0<|oe 50 44 1<|om 8 49<|om 9 50<|N) [45,46,47,48,44,49,50,8])<|q (R (om 51 0<|of 52 5 6<|ol 53 52<|ob 54 .sne (t 53) (.k (.str []))<|om 55 54<|.sc 55 true (om 56 9<|og 57 56<|N) (t 57) 58 (of 59 5 6<|ol 60 59<|cl 61 37 [t 51,t 58,i 3,t 60]<|N)) [9,51,52,53,54,55,58,59,60,61])<|q (R (of 62 5 9<|ol 63 62<|oh 64 63<|oz 65 0<|N) [62])<|D (.block 0<|.loop (q (.reg (ot 66 .lss 65 64<|N))<|q (D (I 66 S (E 0)) [66])<|q (D (.block 1<|q (R (om 67 65<|oa true 68 2 63 65<|oL 69 2 68<|oN 11 [.str [],.nil 6]<|om 10 67<|oS 2 11 69<|N) [67,68,69])<|q (R (oL 71 5 4<|of 72 11 0<|ol 73 72<|cl 74 153 [t 71,t 73]<|om 70 74<|oe 75 70 0<|oe 76 70 1<|om 12 75<|om 13 76<|N) [71,72,73,74,70,75,76])<|q (R (om 77 0<|om 78 13<|og 79 78<|of 80 11 0<|ol 81 80<|cl 82 37 [t 77,t 79,i 3,t 81]<|N) [77,78,79,80,81,82])<|R (om 83 0<|om 84 13<|om 85 84<|.sc 85 true (of 86 5 1<|ol 87 86<|oi 88 .eql 87 10<|N) (t 88) 89 (om 90 89<|.sc 90 true (om 91 10<|of 92 5 9<|ol 93 92<|oh 94 93<|oi 95 .sub 94 1<|ot 96 .lss 91 95<|N) (t 96) 97 (om 98 97<|.sc 98 true (of 99 4 3<|ol 100 99<|om 101 12<|oa true 102 4 100 101<|of 103 102 3<|ol 104 103<|og 105 104<|N) (t 105) 106 (of 107 11 0<|ol 108 107<|cl 109 37 [t 83,t 106,i 12,t 108]<|N)))) [11,10,12,13,83,84,85,89,90,97,98,106,107,108,109]) [])<|R (oi 110 .add 65 1<|om 65 110<|N) [110])) [0,4,5,63,64,65,66,11,10]
theorem ok107:FT 107 111 ir107 []:=.o Tryz.func107
def ir43:Ic:=q (R (ox 7 1<|N) [1])<|q (R (om 19 0<|oc 20 19<|of 21 20 1<|ol 22 21<|om 12 22<|N) [19,20,21,22])<|q (q (.reg (om 23 3<|oh 24 23<|oz 25 0<|N))<|D (.block 0<|.loop (q (.reg (ot 26 .lss 25 24<|N))<|q (D (I 26 S (E 0)) [26])<|q (D (.block 1<|q (R (om 27 25<|oa true 28 11 23 25<|oL 29 11 28<|oN 14 [.str [],.int .i64 0,.int .i64 0,.int .i64 0,.int .i64 0,.str [],.str [],.nil 5,.nil 6,.nil 2,.nil 2]<|om 13 27<|oS 11 14 29<|N) [27,28,29])<|q (R (om 30 0<|om 31 12<|cl 32 31 [t 31]<|om 33 13<|oo 34 (.bls 1 [t 33])<|oo 35 (.app 1 (t 32) (t 34))<|oc 36 30<|of 37 36 1<|os 37 35<|N) [30,31,32,33,34,35,36,37])<|q (R (om 38 2<|om 39 0<|oc 40 39<|of 41 40 1<|ol 42 41<|oL 43 11 14<|oo 44 (.bld [.int .i64 0,.nil 1,.str [],.int .i64 0,.int .i64 0,.int .i64 0,.int .i64 0,.str [],.str [],.nil 5,.nil 6,.nil 2,.nil 2] [(0,1,t 38),(1,1,t 42),(2,11,t 43)])<|cl 45 105 [t 44]<|om 15 45<|N) [38,39,40,41,42,43,44,45])<|q (D (.regd [(7,11)] (om 46 0<|of 47 14 0<|ol 48 47<|ob 49 .sne (t 48) (.k (.str []))<|om 50 49<|.sc 50 true (of 51 14 0<|ol 52 51<|cl 53 38 [t 52]<|og 54 53<|N) (t 54) 55 (of 56 14 0<|ol 57 56<|cl 58 37 [t 46,t 55,i 1,t 57]<|N))) [46,47,48,49,50,55,56,57,58])<|q (R (om 59 0<|om 60 4<|om 61 15<|oo 62 (.lkp .s (.bool false) (t 60) (t 61) false)<|om 63 15<|cl 64 37 [t 59,t 62,i 2,t 63]<|N) [59,60,61,62,63,64])<|q (R (om 65 4<|om 66 15<|on (.mpu .s (t 65) (t 66) (B true))<|N) [15,65,66])<|q (R (om 67 0<|om 68 13<|oi 69 .gtr 68 0<|om 70 69<|.sc 70 true (om 71 3<|om 72 13<|oi 73 .sub 72 1<|oa true 74 11 71 73<|oL 75 11 74<|cl 76 104 [t 75]<|N) (t 76) 77 (cl 78 37 [t 67,t 77,i 7,.k (.str [])]<|N)) [13,67,68,69,70,77,78])<|q (q (R (oL 79 11 14<|om 80 5<|cl 81 106 [t 79,t 80]<|N) [79,80])<|I 81 (R (om 82 0<|oL 83 5 7<|oL 84 11 14<|cl 85 107 [t 82,t 83,t 84]<|N) [81,82,83,84,85]) (R (om 86 0<|cl 87 37 [t 86,B true,i 5,.k (.str [])]<|N) [81,86,87]))<|q (R (om 88 0<|oc 89 88<|of 90 89 1<|ol 91 90<|om 16 91<|N) [88,89,90,91])<|q (R (of 92 14 10<|ol 93 92<|oh 94 93<|oz 95 0<|N) [14,92])<|D (.block 2<|.loop (q (.reg (ot 96 .lss 95 94<|N))<|q (D (I 96 S (E 2)) [96])<|q (D (.block 3<|q (R (om 97 95<|oa true 98 2 93 95<|oL 99 2 98<|oN 18 [.nil 5,.nil 11]<|om 17 97<|oS 2 18 99<|N) [97,98,99])<|q (R (om 100 0<|om 101 16<|cl 102 31 [t 101]<|om 103 17<|oo 104 (.bls 1 [t 103])<|oo 105 (.app 1 (t 102) (t 104))<|oc 106 100<|of 107 106 1<|os 107 105<|N) [17,100,101,102,103,104,105,106,107])<|R (om 108 0<|oL 109 5 7<|om 110 2<|of 111 18 1<|ol 112 111<|om 113 4<|om 114 5<|cl 115 43 [t 108,t 109,t 110,t 112,t 113,t 114]<|N) [18,108,109,110,111,112,113,114,115]) [])<|R (oi 116 .add 95 1<|om 95 116<|N) [116])) [16,93,94,95,96]) [])<|R (oi 117 .add 25 1<|om 25 117<|N) [117])) [2,3,4,5,7,23,24,25,26])<|R (om 118 0<|om 119 12<|oc 120 118<|of 121 120 1<|os 121 119<|N) [0,12,118,119,120,121]
theorem ok43:FT 43 122 ir43 []:=.o Tryz.func43
def ir20:Ic:=q (R (ox 1 0<|ok 2 (.k (.nil 4))<|N) [0,2])<|q (R (oo 10 (.bld [.str [],.nil 1,.nil 4] [])<|ox 11 10<|om 3 11<|N) [10,11])<|q (R (om 12 3<|oL 13 5 1<|cl 14 34 [t 12,t 13]<|N) [12,13,14])<|q (q (R (om 15 3<|oc 16 15<|of 17 16 2<|ol 18 17<|oh 19 18<|oi 20 .gtr 19 0<|N) [15,16,17,18,19])<|D (I 20 (q (R (om 21 3<|oc 22 21<|of 23 22 2<|ol 24 23<|om 2 24<|N) [1,3,20,21,22,23,24])<|.ret) S) [20])<|q (R (oo 25 .mkm<|om 4 25<|N) [25])<|q (R (om 26 3<|oL 27 5 1<|om 28 4<|cl 29 35 [t 26,t 27,t 28]<|N) [26,27,28,29])<|q (R (cl 30 36 []<|om 5 30<|N) [30])<|q (q (R (of 31 1 4<|ol 32 31<|oh 33 32<|oz 34 0<|N) [31])<|D (.block 0<|.loop (q (.reg (ot 35 .lss 34 33<|N))<|q (D (I 35 S (E 0)) [35])<|q (D (.block 1<|q (R (om 36 34<|oa true 37 3 32 34<|oL 38 3 37<|oN 7 [.str [],.str [],.nil 11]<|om 6 36<|oS 3 7 38<|N) [36,37,38])<|q (R (om 39 3<|om 40 3<|of 41 7 0<|ol 42 41<|oc 43 39<|of 44 43 0<|os 44 42<|oc 45 40<|of 46 45 1<|on (.sto none (t 46) (.k (.nil 1)))<|N) [39,40,41,42,43,44,45,46])<|q (R (oL 48 5 1<|of 49 7 1<|ol 50 49<|cl 51 24 [t 48,t 50]<|om 47 51<|oe 52 47 0<|oe 53 47 1<|om 8 52<|om 9 53<|N) [48,49,50,51,47,52,53])<|q (D (.regd [(3,6)] (om 54 3<|of 55 7 0<|ol 56 55<|cl 57 38 [t 56]<|og 58 57<|of 59 7 0<|ol 60 59<|cl 61 37 [t 54,t 58,i 1,t 60]<|N)) [54,55,56,57,58,59,60,61])<|q (D (.regd [(6,8)] (om 62 3<|of 63 1 4<|ol 64 63<|om 65 6<|oo 66 (.slc 3 (t 64) none (some (t 65)) none)<|oo 67 (.fnv (.func 40) [] [t 7])<|cl 68 39 [t 66,t 67]<|of 69 7 0<|ol 70 69<|cl 71 37 [t 62,t 68,i 2,t 70]<|N)) [62,63,64,65,66,67,68,69,70,71])<|q (R (om 72 3<|om 73 9<|og 74 73<|of 75 7 1<|ol 76 75<|cl 77 37 [t 72,t 74,i 3,t 76]<|N) [72,73,74,75,76,77])<|q (R (om 78 3<|om 79 9<|om 80 79<|.sc 80 true (of 81 1 2<|ol 82 81<|om 83 8<|oa true 84 7 82 83<|of 85 84 1<|ol 86 85<|oi 87 .eql 86 2<|N) (t 87) 88 (of 89 7 1<|ol 90 89<|cl 91 37 [t 78,t 88,i 4,t 90]<|N)) [8,9,78,79,80,88,89,90,91])<|q (D (.regd [(6,8)] (om 92 3<|of 93 1 4<|ol 94 93<|om 95 6<|oo 96 (.slc 3 (t 94) none (some (t 95)) none)<|oo 97 (.fnv (.func 41) [] [t 7])<|cl 98 39 [t 96,t 97]<|of 99 7 1<|ol 100 99<|cl 101 37 [t 92,t 98,i 2,t 100]<|N)) [92,93,94,95,96,97,98,99,100,101])<|q (R (om 102 3<|of 103 7 2<|ol 104 103<|cl 105 42 [t 104]<|og 106 105<|cl 107 37 [t 102,t 106,i 6,.k (.str [])]<|N) [102,103,104,105,106,107])<|R (om 108 3<|oL 109 5 1<|om 110 6<|of 111 7 2<|ol 112 111<|om 113 4<|om 114 5<|cl 115 43 [t 108,t 109,t 110,t 112,t 113,t 114]<|N) [7,6,108,109,110,111,112,113,114,115]) [])<|R (oi 116 .add 34 1<|om 34 116<|N) [116])) [1,4,5,32,33,34,35,7,6,8,9])<|q (R (om 117 3<|oc 118 117<|of 119 118 2<|ol 120 119<|om 121 3<|oc 122 121<|of 123 122 2<|ol 124 123<|oh 125 124<|oo 126 (.mn (t 125) (i 200))<|oo 127 (.slc 4 (t 120) none (some (t 126)) none)<|om 2 127<|N) [3,117,118,119,120,121,122,123,124,125,126,127])<|.ret
theorem ok20:FT 20 128 ir20 [.tmp 2]:=.o Tryz.func20
end Go.Proofs
namespace Go.Proofs
open Go Av
open Av.Y
def ir37:Ic:=q (R (om 8 1<|N) [1])<|D (I 8 (D (.regd [(4,14),(9,14),(4,17)] (om 9 0<|om 10 0<|oc 11 10<|of 12 11 2<|ol 13 12<|om 14 2<|om 15 0<|oc 16 15<|of 17 16 0<|ol 18 17<|om 19 0<|oc 20 19<|of 21 20 1<|ol 22 21<|cl 23 31 [t 22]<|om 24 3<|oo 25 (.bld [.int .i64 0,.str [],.nil 1,.str []] [(0,1,t 14),(1,1,t 18),(2,1,t 23),(3,1,t 24)])<|oo 26 (.bls 4 [t 25])<|oo 27 (.app 4 (t 13) (t 26))<|oc 28 9<|of 29 28 2<|os 29 27<|N)) [0,2,3,8,9,10,11,12,13,14,15,16,17,18,19,20,21,22,23,24,25,26,27,28,29]) S) [0,2,3,8]
theorem ok37:FT 37 30 ir37 []:=.o Tryz.func37
end Go.Proofs
namespace Go.Proofs
open Go Av
open Av.Y
def ir38:Ic:=q (R (ow 2 false<|N) [2])<|q (q (R (om 6 0<|oj 7 6<|oi 8 .lss 7 1<|om 9 8<|.sc 9 false (om 10 0<|oj 11 10<|oi 12 .gtr 11 32<|N) (t 12) 13 N) [6,7,8,9])<|D (I 13 (q (R (ow 2 false<|N) [0,13])<|.ret) S) [13])<|q (q (R (om 14 0<|oj 15 14<|oz 16 0<|N) [14])<|D (.block 0<|.loop (q (.reg (ot 17 .lss 16 15<|N))<|q (D (I 17 S (E 0)) [17])<|q (D (.block 1<|q (R (om 18 16<|om 3 18<|N) [18])<|q (R (om 19 0<|om 20 3<|oo 21 (.ixs (t 19) (t 20))<|om 4 21<|N) [19,20,21])<|q (R (om 22 4<|ob 23 .geq (t 22) (.k (.int .u8 97))<|om 24 23<|.sc 24 true (om 25 4<|ob 26 .leq (t 25) (.k (.int .u8 122))<|N) (t 26) 27 (om 5 27<|N)) [22,23,24,27])<|q (R (om 28 5<|og 29 28<|om 30 29<|.sc 30 true (om 31 3<|oi 32 .eql 31 0<|om 33 32<|.sc 33 false (om 34 4<|ob 35 .neq (t 34) (.k (.int .u8 95))<|om 36 35<|.sc 36 true (om 37 4<|ob 38 .lss (t 37) (.k (.int .u8 48))<|om 39 38<|.sc 39 false (om 40 4<|ob 41 .gtr (t 40) (.k (.int .u8 57))<|N) (t 41) 42 N) (t 42) 43 N) (t 43) 44 N) (t 44) 45 N) [3,4,5,28,29,30])<|D (I 45 (q (R (ow 2 false<|N) [0,15,16,45])<|.ret) S) [45]) [])<|R (oi 46 .add 16 1<|om 16 46<|N) [46])) [0,15,16,17,3,4,5])<|q (.reg (ow 2 true<|N))<|.ret
theorem ok38:FT 38 47 ir38 [.tmp 2]:=.o Tryz.func38
def ir51:Ic:=q (R (ox 1 0<|oz 2 0<|N) [0,2])<|q (D (.block 0<|q (R (of 4 1 0<|ol 5 4<|cl 6 113 [t 5]<|og 7 6<|om 3 7<|N) [4,5,6,7])<|D (I 3 (q (R (oz 2 12<|N) [1,3])<|.ret) (q (R (of 9 1 1<|ol 10 9<|cl 11 114 [t 10,i 1,i 999]<|og 12 11<|om 8 12<|N) [3,9,10,11,12])<|D (I 8 (q (R (oz 2 2<|N) [1,8])<|.ret) (q (R (of 14 1 2<|of 15 14 0<|ol 16 15<|oi 17 .neq 16 9<|om 13 17<|N) [8,14,15,16,17])<|D (I 13 (q (R (oz 2 11<|N) [1,13])<|.ret) S) [13])) [])) []) [])<|q (R (of 18 1 2<|oL 19 7 18<|cl 20 115 [t 19]<|om 2 20<|N) [1,18,19,20])<|.ret
theorem ok51:FT 51 21 ir51 [.tmp 2]:=.o Tryz.func51
end Go.Proofs
namespace Go.Proofs
open Go Av
open Av.Y
def ir31:Ic:=q (R (ok 2 (.k (.nil 1))<|N) [2])<|q (q (R (om 3 0<|oo 4 (.nilq false false (t 3))<|N) [3])<|D (I 4 (q (R (ok 2 (.k (.nil 1))<|N) [0,4])<|.ret) S) [4])<|q (R (oo 5 (.bls 1 [])<|om 6 0<|oo 7 (.app 1 (t 5) (t 6))<|om 2 7<|N) [0,5,6,7])<|.ret
theorem ok31:FT 31 8 ir31 [.tmp 2]:=.o Tryz.func31
def ir182:Ic:=q (R (ox 3 1<|N) [1])<|q (.reg (oN 4 [.nil 1]<|N))<|q (.reg (oN 5 [.nilFn]<|N))<|q (R (oo 6 (.fnv (.func 230) [] [t 4,t 3,t 5])<|os 5 6<|N) [3,4,6])<|R (ol 7 5<|om 8 0<|.call (some 9) (.dyn (t 7)) [t 8] N) [0,5,7,8,9]
theorem ok182:FT 182 10 ir182 []:=.o Tryz.func182
def ir230:Ic:=q (R (om 7 0<|oh 8 7<|oz 9 0<|N) [7])<|D (.block 0<|.loop (q (.reg (ot 10 .lss 9 8<|N))<|q (D (I 10 S (E 0)) [10])<|q (D (.block 1<|q (R (om 11 9<|om 5 11<|N) [11])<|q (R (ol 12 1<|om 13 5<|oo 14 (.bls 1 [t 13])<|oo 15 (.app 1 (t 12) (t 14))<|os 1 15<|N) [12,13,14,15])<|q (R (ol 16 2<|ol 17 1<|om 18 0<|om 19 5<|oa true 20 11 18 19<|.call (some 21) (.dyn (t 16)) [t 17,t 20] N) [16,17,18,19,20,21])<|q (q (R (om 22 0<|om 23 5<|oa true 24 11 22 23<|of 25 24 10<|ol 26 25<|oh 27 26<|oz 28 0<|N) [22,23,24,25,26])<|D (.block 2<|.loop (q (.reg (ot 29 .lss 28 27<|N))<|q (D (I 29 S (E 2)) [29])<|q (D (.block 3<|q (R (om 30 28<|om 6 30<|N) [30])<|q (R (ol 31 1<|om 32 6<|oo 33 (.bls 1 [t 32])<|oo 34 (.app 1 (t 31) (t 33))<|os 1 34<|N) [31,32,33,34])<|q (R (ol 35 3<|om 36 0<|om 37 5<|oa true 38 11 36 37<|of 39 38 10<|ol 40 39<|om 41 6<|oa true 42 2 40 41<|of 43 42 1<|ol 44 43<|.call (some 45) (.dyn (t 35)) [t 44] N) [6,35,36,37,38,39,40,41,42,43,44,45])<|R (ol 46 1<|ol 47 1<|oh 48 47<|oi 49 .sub 48 1<|oo 50 (.slc 1 (t 46) none (some (t 49)) none)<|os 1 50<|N) [46,47,48,49,50]) [])<|R (oi 51 .add 28 1<|om 28 51<|N) [51])) [5,27,28,29,6])<|R (ol 52 1<|ol 53 1<|oh 54 53<|oi 55 .sub 54 1<|oo 56 (.slc 1 (t 52) none (some (t 55)) none)<|os 1 56<|N) [52,53,54,55,56]) [])<|R (oi 57 .add 9 1<|om 9 57<|N) [57])) [0,8,9,10,11,5,6]
theorem ok230:FT 230 58 ir230 []:=.o Tryz.func230
def ir183:Ic:=D (.regd [(0,3),(1,3),(3,6),(0,7),(1,7),(0,9)] (ol 6 2<|ol 7 3<|om 8 0<|cl 9 31 [t 8]<|om 10 1<|oc 11 10<|oL 12 11 11<|cl 13 184 [t 12]<|oo 14 (.bld [.int .i64 0,.nil 1,.str [],.int .i64 0,.int .i64 0,.int .i64 0,.int .i64 0,.str [],.str [],.nil 5,.nil 6,.nil 2,.nil 2] [(0,1,t 7),(1,1,t 9),(2,11,t 13)])<|oo 15 (.bls 13 [t 14])<|oo 16 (.app 13 (t 6) (t 15))<|os 2 16<|N)) [0,1,6,7,8,9,10,11,12,13,14,15,16]
theorem ok183:FT 183 17 ir183 []:=.o Tryz.func183
def ir145:Ic:=q (R (ox 2 0<|ox 3 1<|ok 4 (.k (.nil 13))<|N) [0,1,4])<|q (.reg (oN 5 [.nil 13]<|N))<|q (R (of 6 2 4<|ol 7 6<|ol 8 3<|oa true 9 3 7 8<|of 10 9 2<|ol 11 10<|oo 12 (.fnv (.func 183) [] [t 5,t 3])<|cl 13 182 [t 11,t 12]<|N) [2,3,6,7,8,9,10,11,12,13])<|q (R (ol 14 5<|om 4 14<|N) [5,14])<|.ret
theorem ok145:FT 145 15 ir145 [.tmp 4]:=.o Tryz.func145
def ir72:Ic:=q (R (ox 1 0<|ok 2 (.k (.nil 13))<|N) [0,2])<|q (.reg (ok 3 (.k (.nil 13))<|N))<|q (q (R (of 5 1 4<|ol 6 5<|oh 7 6<|oz 8 0<|N) [5,6])<|D (.block 0<|.loop (q (.reg (ot 9 .lss 8 7<|N))<|q (D (I 9 S (E 0)) [9])<|q (D (.block 1<|q (R (om 10 8<|om 4 10<|N) [10])<|R (om 11 3<|oL 12 5 1<|om 13 4<|cl 14 145 [t 12,t 13]<|oo 15 (.app 13 (t 11) (t 14))<|om 3 15<|N) [4,11,12,13,14,15]) [])<|R (oi 16 .add 8 1<|om 8 16<|N) [16])) [1,7,8,9,10,4,11])<|q (R (om 17 3<|om 2 17<|N) [3,17])<|.ret
theorem ok72:FT 72 18 ir72 [.tmp 2]:=.o Tryz.func72
end Go.Proofs
namespace Go.Proofs
open Go Av
open Av.Y
def ir232:Ic:=q (R (ox 1 0<|oN 2 [.int .i64 0,.int .i64 0,.str [],.nil 6,.nil 5]<|N) [0])<|q (R (of 8 1 0<|ol 9 8<|of 10 1 1<|ol 11 10<|of 12 1 2<|ol 13 12<|oo 14 (.bld [.int .i64 0,.int .i64 0,.str [],.nil 6,.nil 5] [(0,1,t 9),(1,1,t 11),(2,1,t 13)])<|oN 3 [.int .i64 0,.int .i64 0,.str [],.nil 6,.nil 5]<|oS 5 3 14<|N) [8,9,10,11,12,13,14])<|q (q (R (of 15 1 3<|ol 16 15<|oh 17 16<|oz 18 0<|N) [15])<|D (.block 0<|.loop (q (.reg (ot 19 .lss 18 17<|N))<|q (D (I 19 S (E 0)) [19])<|q (D (.block 1<|q (R (oa true 20 6 16 18<|oL 21 6 20<|oN 5 y6<|oS 6 5 21<|N) [20,21])<|D (.regd [(1,3),(1,4)] (of 22 3 3<|ol 23 22<|oL 24 6 5<|cl 25 264 [t 24]<|oo 26 (.bls 6 [t 25])<|oo 27 (.app 6 (t 23) (t 26))<|of 28 3 3<|os 28 27<|N)) [5,22,23,24,25,26,27,28]) [])<|R (oi 29 .add 18 1<|om 18 29<|N) [29])) [16,17,18,19,5])<|q (q (R (of 30 1 4<|ol 31 30<|oh 32 31<|oz 33 0<|N) [1,30])<|D (.block 2<|.loop (q (.reg (ot 34 .lss 33 32<|N))<|q (D (I 34 S (E 2)) [34])<|q (D (.block 3<|q (R (oa true 35 5 31 33<|oL 36 5 35<|oN 7 [.int .i64 0,.int .i64 0,.str [],.nil 6,.nil 5]<|oS 5 7 36<|N) [35,36])<|D (.regd [(1,3),(1,4)] (of 37 3 4<|ol 38 37<|oL 39 5 7<|cl 40 232 [t 39]<|oo 41 (.bls 5 [t 40])<|oo 42 (.app 5 (t 38) (t 41))<|of 43 3 4<|os 43 42<|N)) [7,37,38,39,40,41,42,43]) [])<|R (oi 44 .add 33 1<|om 33 44<|N) [44])) [31,32,33,34,7])<|q (R (oL 45 5 3<|oS 5 2 45<|N) [3,45])<|.ret
theorem ok232:FT 232 46 ir232 [.cell 2 (some 5)]:=.o Tryz.func232
def ir233:Ic:=q (R (ox 1 0<|oN 2 [.nil 6]<|N) [0])<|q (R (of 6 1 0<|ol 7 6<|oh 8 7<|oo 9 (.mks 6 [.str [],.int .i64 0,.int .i64 0,.str [],.nil 6,.nil 5] (i 0) (t 8))<|om 3 9<|N) [6,7,8,9])<|q (q (R (of 10 1 0<|ol 11 10<|oh 12 11<|oz 13 0<|N) [1,10])<|D (.block 0<|.loop (q (.reg (ot 14 .lss 13 12<|N))<|q (D (I 14 S (E 0)) [14])<|q (D (.block 1<|q (R (oa true 15 6 11 13<|oL 16 6 15<|oN 5 [.str [],.int .i64 0,.int .i64 0,.str [],.nil 6,.nil 5]<|oS 6 5 16<|N) [15,16])<|D (.regd [(2,5)] (om 17 3<|of 18 5 0<|ol 19 18<|of 20 5 1<|oL 21 5 20<|cl 22 232 [t 21]<|oo 23 (.bld [.str [],.int .i64 0,.int .i64 0,.str [],.nil 6,.nil 5] [(0,1,t 19),(1,5,t 22)])<|oo 24 (.bls 6 [t 23])<|oo 25 (.app 6 (t 17) (t 24))<|om 3 25<|N)) [5,17,18,19,20,21,22,23,24,25]) [])<|R (oi 26 .add 13 1<|om 13 26<|N) [26])) [11,12,13,14,5])<|q (R (om 27 3<|oo 28 (.bld [.nil 6] [(0,1,t 27)])<|oS 1 2 28<|N) [3,27,28])<|.ret
theorem ok233:FT 233 29 ir233 [.cell 2 (some 1)]:=.o Tryz.func233
def ir231:Ic:=q (R (ok 4 (.k (.nil 5))<|N) [4])<|q (.reg (ok 5 (.k (.nil 5))<|N))<|q (q (R (om 8 0<|oh 9 8<|oz 10 0<|N) [0])<|D (.block 0<|.loop (q (.reg (ot 11 .lss 10 9<|N))<|q (D (I 11 S (E 0)) [11])<|q (D (.block 1<|q (R (oa true 12 5 8 10<|oL 13 5 12<|oN 7 [.int .i64 0,.int .i64 0,.str [],.nil 6,.nil 5]<|oS 5 7 13<|N) [12,13])<|R (om 14 5<|om 15 1<|oL 16 5 7<|.call (some 17) (.dyn (t 15)) [t 16] (oo 18 (.bls 5 [t 17])<|oo 19 (.app 5 (t 14) (t 18))<|om 5 19<|N)) [7,14,15,16,17,18,19]) [])<|R (oi 20 .add 10 1<|om 10 20<|N) [20])) [1,8,9,10,11,7])<|q (R (om 21 5<|om 4 21<|N) [5,21])<|.ret
theorem ok231:FT 231 22 ir231 [.tmp 4]:=.o Tryz.func231
def ir234:Ic:=q (R (ok 4 (.k (.nil 2))<|N) [4])<|q (.reg (ok 5 (.k (.nil 2))<|N))<|q (q (R (om 8 0<|oh 9 8<|oz 10 0<|N) [0])<|D (.block 0<|.loop (q (.reg (ot 11 .lss 10 9<|N))<|q (D (I 11 S (E 0)) [11])<|q (D (.block 1<|q (R (oa true 12 2 8 10<|oL 13 2 12<|oN 7 [.str [],.nil 6]<|oS 2 7 13<|N) [12,13])<|R (om 14 5<|om 15 1<|oL 16 2 7<|.call (some 17) (.dyn (t 15)) [t 16] (oo 18 (.bls 2 [t 17])<|oo 19 (.app 2 (t 14) (t 18))<|om 5 19<|N)) [7,14,15,16,17,18,19]) [])<|R (oi 20 .add 10 1<|om 10 20<|N) [20])) [1,8,9,10,11,7])<|q (R (om 21 5<|om 4 21<|N) [5,21])<|.ret
theorem ok234:FT 234 22 ir234 [.tmp 4]:=.o Tryz.func234
def ir235:Ic:=q (R (ox 1 0<|oN 2 [.str [],.nil 6]<|N) [0])<|q (R (of 3 1 1<|oL 4 1 3<|cl 5 233 [t 4]<|of 6 1 1<|oS 1 6 5<|N) [3,4,5,6])<|q (R (oL 7 2 1<|oS 2 2 7<|N) [1,7])<|.ret
theorem ok235:FT 235 8 ir235 [.cell 2 (some 2)]:=.o Tryz.func235
def ir236:Ic:=q (R (ok 4 (.k (.nil 2))<|N) [4])<|q (.reg (ok 5 (.k (.nil 2))<|N))<|q (q (R (om 8 0<|oh 9 8<|oz 10 0<|N) [0])<|D (.block 0<|.loop (q (.reg (ot 11 .lss 10 9<|N))<|q (D (I 11 S (E 0)) [11])<|q (D (.block 1<|q (R (oa true 12 2 8 10<|oL 13 2 12<|oN 7 [.nil 5,.nil 11]<|oS 2 7 13<|N) [12,13])<|R (om 14 5<|om 15 1<|oL 16 2 7<|.call (some 17) (.dyn (t 15)) [t 16] (oo 18 (.bls 2 [t 17])<|oo 19 (.app 2 (t 14) (t 18))<|om 5 19<|N)) [7,14,15,16,17,18,19]) [])<|R (oi 20 .add 10 1<|om 10 20<|N) [20])) [1,8,9,10,11,7])<|q (R (om 21 5<|om 4 21<|N) [5,21])<|.ret
theorem ok236:FT 236 22 ir236 [.tmp 4]:=.o Tryz.func236
def ir237:Ic:=q (R (ox 1 0<|oN 2 [.nil 5,.nil 11]<|N) [0])<|q (D (.regd [(2,4)] (of 3 1 0<|ol 4 3<|cl 5 231 [t 4,.k (.fn (.func 232) [] [])]<|of 6 1 1<|ol 7 6<|cl 8 238 [t 7,.k (.fn (.func 184) [] [])]<|oo 9 (.bld [.nil 5,.nil 11] [(0,1,t 5),(1,1,t 8)])<|oS 2 2 9<|N)) [1,3,4,5,6,7,8,9])<|.ret
theorem ok237:FT 237 10 ir237 [.cell 2 (some 2)]:=.o Tryz.func237
def ir238:Ic:=q (R (ok 4 (.k (.nil 11))<|N) [4])<|q (.reg (ok 5 (.k (.nil 11))<|N))<|q (q (R (om 8 0<|oh 9 8<|oz 10 0<|N) [0])<|D (.block 0<|.loop (q (.reg (ot 11 .lss 10 9<|N))<|q (D (I 11 S (E 0)) [11])<|q (D (.block 1<|q (R (oa true 12 11 8 10<|oL 13 11 12<|oN 7 [.str [],.int .i64 0,.int .i64 0,.int .i64 0,.int .i64 0,.str [],.str [],.nil 5,.nil 6,.nil 2,.nil 2]<|oS 11 7 13<|N) [12,13])<|R (om 14 5<|om 15 1<|oL 16 11 7<|.call (some 17) (.dyn (t 15)) [t 16] (oo 18 (.bls 11 [t 17])<|oo 19 (.app 11 (t 14) (t 18))<|om 5 19<|N)) [7,14,15,16,17,18,19]) [])<|R (oi 20 .add 10 1<|om 10 20<|N) [20])) [1,8,9,10,11,7])<|q (R (om 21 5<|om 4 21<|N) [5,21])<|.ret
theorem ok238:FT 238 22 ir238 [.tmp 4]:=.o Tryz.func238
def ir184:Ic:=q (R (ox 1 0<|oN 2 [.str [],.int .i64 0,.int .i64 0,.int .i64 0,.int .i64 0,.str [],.str [],.nil 5,.nil 6,.nil 2,.nil 2]<|N) [0])<|q (R (of 3 1 7<|ol 4 3<|cl 5 231 [t 4,.k (.fn (.func 232) [] [])]<|of 6 1 7<|os 6 5<|N) [3,4,5,6])<|q (R (of 7 1 8<|oL 8 1 7<|cl 9 233 [t 8]<|of 10 1 8<|oS 1 10 9<|N) [7,8,9,10])<|q (R (of 11 1 9<|ol 12 11<|cl 13 234 [t 12,.k (.fn (.func 235) [] [])]<|of 14 1 9<|os 14 13<|N) [11,12,13,14])<|q (R (of 15 1 10<|ol 16 15<|cl 17 236 [t 16,.k (.fn (.func 237) [] [])]<|of 18 1 10<|os 18 17<|N) [15,16,17,18])<|q (R (oL 19 11 1<|oS 11 2 19<|N) [1,19])<|.ret
theorem ok184:FT 184 20 ir184 [.cell 2 (some 11)]:=.o Tryz.func184
end Go.Proofs
namespace Go.Proofs
open Go Av
open Av.Y
def ir109:Ic:=q (R (oz 4 0<|N) [4])<|q (q (R (om 6 0<|oh 7 6<|oz 8 0<|N) [6])<|D (.block 0<|.loop (q (.reg (ot 9 .lss 8 7<|N))<|q (D (I 9 S (E 0)) [9])<|q (D (.block 1<|q (R (om 10 8<|om 5 10<|N) [10])<|q (R (om 11 1<|om 12 0<|om 13 5<|oa true 14 9 12 13<|oL 15 9 14<|.call (some 16) (.dyn (t 11)) [t 15] N) [11,12,13,14,15])<|D (I 16 (q (R (om 17 5<|om 4 17<|N) [0,1,7,8,5,16,17])<|.ret) S) [5,16]) [])<|R (oi 18 .add 8 1<|om 8 18<|N) [18])) [0,1,7,8,9,10,5,11])<|q (.reg (oz 4 (-1)<|N))<|.ret
theorem ok109:FT 109 19 ir109 [.tmp 4]:=.o Tryz.func109
def ir108:Ic:=q (R (oz 4 0<|N) [4])<|q (q (R (om 6 0<|oh 7 6<|oz 8 0<|N) [6])<|D (.block 0<|.loop (q (.reg (ot 9 .lss 8 7<|N))<|q (D (I 9 S (E 0)) [9])<|q (D (.block 1<|q (R (om 10 8<|om 5 10<|N) [10])<|q (R (om 11 1<|om 12 0<|om 13 5<|oa true 14 7 12 13<|oL 15 7 14<|.call (some 16) (.dyn (t 11)) [t 15] N) [11,12,13,14,15])<|D (I 16 (q (R (om 17 5<|om 4 17<|N) [0,1,7,8,5,16,17])<|.ret) S) [5,16]) [])<|R (oi 18 .add 8 1<|om 8 18<|N) [18])) [0,1,7,8,9,10,5,11])<|q (.reg (oz 4 (-1)<|N))<|.ret
theorem ok108:FT 108 19 ir108 [.tmp 4]:=.o Tryz.func108
def ir241:Ic:=q (R (oz 4 0<|N) [4])<|q (q (R (om 6 0<|oh 7 6<|oz 8 0<|N) [6])<|D (.block 0<|.loop (q (.reg (ot 9 .lss 8 7<|N))<|q (D (I 9 S (E 0)) [9])<|q (D (.block 1<|q (R (om 10 8<|om 5 10<|N) [10])<|q (R (om 11 1<|om 12 0<|om 13 5<|oa true 14 4 12 13<|oL 15 4 14<|.call (some 16) (.dyn (t 11)) [t 15] N) [11,12,13,14,15])<|D (I 16 (q (R (om 17 5<|om 4 17<|N) [0,1,7,8,5,16,17])<|.ret) S) [5,16]) [])<|R (oi 18 .add 8 1<|om 8 18<|N) [18])) [0,1,7,8,9,10,5,11])<|q (.reg (oz 4 (-1)<|N))<|.ret
theorem ok241:FT 241 19 ir241 [.tmp 4]:=.o Tryz.func241
def ir103:Ic:=q (R (oz 4 0<|N) [4])<|q (q (R (om 6 0<|oh 7 6<|oz 8 0<|N) [6])<|D (.block 0<|.loop (q (.reg (ot 9 .lss 8 7<|N))<|q (D (I 9 S (E 0)) [9])<|q (D (.block 1<|q (R (om 10 8<|om 5 10<|N) [10])<|q (R (om 11 1<|om 12 0<|om 13 5<|oa true 14 3 12 13<|oL 15 3 14<|.call (some 16) (.dyn (t 11)) [t 15] N) [11,12,13,14,15])<|D (I 16 (q (R (om 17 5<|om 4 17<|N) [0,1,7,8,5,16,17])<|.ret) S) [5,16]) [])<|R (oi 18 .add 8 1<|om 8 18<|N) [18])) [0,1,7,8,9,10,5,11])<|q (.reg (oz 4 (-1)<|N))<|.ret
theorem ok103:FT 103 19 ir103 [.tmp 4]:=.o Tryz.func103
def ir146:Ic:=q (R (oz 4 0<|N) [4])<|q (q (R (om 6 0<|oh 7 6<|oz 8 0<|N) [6])<|D (.block 0<|.loop (q (.reg (ot 9 .lss 8 7<|N))<|q (D (I 9 S (E 0)) [9])<|q (D (.block 1<|q (R (om 10 8<|om 5 10<|N) [10])<|q (R (om 11 1<|om 12 0<|om 13 5<|oa true 14 13 12 13<|oL 15 13 14<|.call (some 16) (.dyn (t 11)) [t 15] N) [11,12,13,14,15])<|D (I 16 (q (R (om 17 5<|om 4 17<|N) [0,1,7,8,5,16,17])<|.ret) S) [5,16]) [])<|R (oi 18 .add 8 1<|om 8 18<|N) [18])) [0,1,7,8,9,10,5,11])<|q (.reg (oz 4 (-1)<|N))<|.ret
theorem ok146:FT 146 19 ir146 [.tmp 4]:=.o Tryz.func146
def ir186:Ic:=q (R (oz 4 0<|N) [4])<|q (q (R (om 6 0<|oh 7 6<|oz 8 0<|N) [6])<|D (.block 0<|.loop (q (.reg (ot 9 .lss 8 7<|N))<|q (D (I 9 S (E 0)) [9])<|q (D (.block 1<|q (R (om 10 8<|om 5 10<|N) [10])<|q (R (om 11 1<|om 12 0<|om 13 5<|oa true 14 2 12 13<|oL 15 2 14<|.call (some 16) (.dyn (t 11)) [t 15] N) [11,12,13,14,15])<|D (I 16 (q (R (om 17 5<|om 4 17<|N) [0,1,7,8,5,16,17])<|.ret) S) [5,16]) [])<|R (oi 18 .add 8 1<|om 8 18<|N) [18])) [0,1,7,8,9,10,5,11])<|q (.reg (oz 4 (-1)<|N))<|.ret
theorem ok186:FT 186 19 ir186 [.tmp 4]:=.o Tryz.func186
def ir47:Ic:=q (R (oz 4 0<|ow 5 false<|N) [4,5])<|q (R (om 7 0<|om 8 1<|cl 9 109 [t 7,t 8]<|om 6 9<|N) [0,1,7,8,9])<|q (R (om 10 6<|oo 11 (.mx (t 10) (i 0))<|om 12 6<|oi 13 .geq 12 0<|om 4 11<|om 5 13<|N) [6,10,11,12,13])<|.ret
theorem ok47:FT 47 14 ir47 [.tmp 4,.tmp 5]:=.o Tryz.func47
def ir45:Ic:=q (R (oz 4 0<|ow 5 false<|N) [4,5])<|q (R (om 7 0<|om 8 1<|cl 9 108 [t 7,t 8]<|om 6 9<|N) [0,1,7,8,9])<|q (R (om 10 6<|oo 11 (.mx (t 10) (i 0))<|om 12 6<|oi 13 .geq 12 0<|om 4 11<|om 5 13<|N) [6,10,11,12,13])<|.ret
theorem ok45:FT 45 14 ir45 [.tmp 4,.tmp 5]:=.o Tryz.func45
def ir188:Ic:=q (R (oz 4 0<|ow 5 false<|N) [4,5])<|q (R (om 7 0<|om 8 1<|cl 9 241 [t 7,t 8]<|om 6 9<|N) [0,1,7,8,9])<|q (R (om 10 6<|oo 11 (.mx (t 10) (i 0))<|om 12 6<|oi 13 .geq 12 0<|om 4 11<|om 5 13<|N) [6,10,11,12,13])<|.ret
theorem ok188:FT 188 14 ir188 [.tmp 4,.tmp 5]:=.o Tryz.func188
def ir39:Ic:=q (R (ow 4 false<|N) [4])<|q (R (om 5 0<|om 6 1<|cl 7 103 [t 5,t 6]<|oi 8 .geq 7 0<|om 4 8<|N) [0,1,5,6,7,8])<|.ret
theorem ok39:FT 39 9 ir39 [.tmp 4]:=.o Tryz.func39
def ir73:Ic:=q (R (ow 4 false<|N) [4])<|q (R (om 5 0<|om 6 1<|cl 7 146 [t 5,t 6]<|oi 8 .geq 7 0<|om 4 8<|N) [0,1,5,6,7,8])<|.ret
theorem ok73:FT 73 9 ir73 [.tmp 4]:=.o Tryz.func73
def ir148:Ic:=q (R (ow 4 false<|N) [4])<|q (R (om 5 0<|om 6 1<|cl 7 186 [t 5,t 6]<|oi 8 .geq 7 0<|om 4 8<|N) [0,1,5,6,7,8])<|.ret
theorem ok148:FT 148 9 ir148 [.tmp 4]:=.o Tryz.func148
def ir48:Ic:=q (R (ox 3 0<|ow 4 false<|N) [0,4])<|q (R (of 5 3 0<|ol 6 5<|ol 7 1<|ot 8 .seq 6 7<|om 9 8<|.sc 9 true (of 10 3 1<|ol 11 10<|ol 12 2<|ot 13 .eql 11 12<|N) (t 13) 14 (om 4 14<|N)) [3,5,6,7,8,9,14])<|.ret
theorem ok48:FT 48 15 ir48 [.tmp 4]:=.o Tryz.func48
def ir46:Ic:=q (R (ox 2 0<|ow 3 false<|N) [0,3])<|q (R (of 4 2 0<|ol 5 4<|ol 6 1<|ot 7 .seq 5 6<|om 3 7<|N) [2,4,5,6,7])<|.ret
theorem ok46:FT 46 8 ir46 [.tmp 3]:=.o Tryz.func46
def ir189:Ic:=q (R (ox 2 0<|ow 3 false<|N) [0,3])<|q (R (of 4 2 0<|ol 5 4<|ol 6 1<|ot 7 .seq 5 6<|om 3 7<|N) [2,4,5,6,7])<|.ret
theorem ok189:FT 189 8 ir189 [.tmp 3]:=.o Tryz.func189
def ir74:Ic:=q (R (ox 1 0<|ow 2 false<|N) [0,2])<|q (R (of 3 1 1<|ol 4 3<|oh 5 4<|oi 6 .add 5 1<|oi 7 .quo 6 2<|oi 8 .gtr 7 4<|om 2 8<|N) [1,3,4,5,6,7,8])<|.ret
theorem ok74:FT 74 9 ir74 [.tmp 2]:=.o Tryz.func74
def ir40:Ic:=q (R (ox 2 0<|ow 3 false<|N) [0,3])<|q (R (of 4 2 0<|ol 5 4<|of 6 1 0<|ol 7 6<|ot 8 .seq 5 7<|om 3 8<|N) [2,4,5,6,7,8])<|.ret
theorem ok40:FT 40 9 ir40 [.tmp 3]:=.o Tryz.func40
def ir41:Ic:=q (R (ox 2 0<|ow 3 false<|N) [0,3])<|q (R (of 4 2 1<|ol 5 4<|of 6 1 1<|ol 7 6<|ot 8 .seq 5 7<|om 3 8<|N) [2,4,5,6,7,8])<|.ret
theorem ok41:FT 41 9 ir41 [.tmp 3]:=.o Tryz.func41
def ir25:Ic:=q (R (ox 3 0<|ox 4 1<|ox 5 2<|oz 6 0<|ow 7 false<|N) [0,1,2,6,7])<|q (R (of 8 3 1<|ol 9 8<|oo 10 (.fnv (.func 48) [] [t 4,t 5])<|cl 11 47 [t 9,t 10]<|oe 12 11 0<|oe 13 11 1<|om 6 12<|om 7 13<|N) [3,4,5,8,9,10,11,12,13])<|.ret
theorem ok25:FT 25 14 ir25 [.tmp 6,.tmp 7]:=.o Tryz.func25
def ir24:Ic:=q (R (ox 2 0<|ox 3 1<|oz 4 0<|ow 5 false<|N) [0,1,4,5])<|q (R (of 6 2 2<|ol 7 6<|oo 8 (.fnv (.func 46) [] [t 3])<|cl 9 45 [t 7,t 8]<|oe 10 9 0<|oe 11 9 1<|om 4 10<|om 5 11<|N) [2,3,6,7,8,9,10,11])<|.ret
theorem ok24:FT 24 12 ir24 [.tmp 4,.tmp 5]:=.o Tryz.func24
def ir153:Ic:=q (R (ox 2 0<|ox 3 1<|oz 4 0<|ow 5 false<|N) [0,1,4,5])<|q (R (of 6 2 3<|ol 7 6<|oo 8 (.fnv (.func 189) [] [t 3])<|cl 9 188 [t 7,t 8]<|oe 10 9 0<|oe 11 9 1<|om 4 10<|om 5 11<|N) [2,3,6,7,8,9,10,11])<|.ret
theorem ok153:FT 153 12 ir153 [.tmp 4,.tmp 5]:=.o Tryz.func153
def ir49:Ic:=q (R (ox 2 0<|oz 4 0<|ow 5 false<|N) [0,4,5])<|q (.reg (oz 6 0<|ow 7 false<|N))<|q (q (R (of 10 2 1<|ol 11 10<|oh 12 11<|oz 13 0<|N) [10])<|D (.block 0<|.loop (q (.reg (ot 14 .lss 13 12<|N))<|q (D (I 14 S (E 0)) [14])<|q (D (.block 1<|q (R (om 15 13<|oa true 16 9 11 13<|oL 17 9 16<|oN 9 [.str [],.int .i64 0,.int .i64 0,.int .i64 0,.int .i64 0,.int .i64 0,.nil 1,.nil 7,.nil 11]<|om 8 15<|oS 9 9 17<|N) [15,16,17])<|q (R (of 18 9 0<|ol 19 18<|om 20 1<|ot 21 .seq 19 20<|om 22 21<|.sc 22 true (om 23 7<|og 24 23<|om 25 24<|.sc 25 false (of 26 9 1<|ol 27 26<|of 28 2 1<|ol 29 28<|om 30 6<|oa true 31 9 29 30<|of 32 31 1<|ol 33 32<|ot 34 .gtr 27 33<|N) (t 34) 35 N) (t 35) 36 N) [9,18,19,20,21,22])<|D (I 36 (R (om 37 8<|om 6 37<|ow 7 true<|N) [8,36,37]) S) [8,36]) [])<|R (oi 38 .add 13 1<|om 13 38<|N) [38])) [1,2,11,12,13,14,9,8])<|q (R (om 39 6<|om 40 7<|om 4 39<|om 5 40<|N) [6,7,39,40])<|.ret
theorem ok49:FT 49 41 ir49 [.tmp 4,.tmp 5]:=.o Tryz.func49
end Go.Proofs
namespace Av
open Go
variable {P:Program}{f:Nat}
mutual
def fits:Dat→Prop
 |.str s=>s.length≤68719476736
 |.int k n=>k.min≤n∧n≤k.max
 |.list _ xs=>xs.length≤68719476736∧fitsL xs
 |.agg cs=>fitsL cs
 |.ptr cs=>fitsL cs
 |.iface _ d=>fits d
 |_=>True
def fitsL:List Dat→Prop
 |[]=>True
 |x::r=>fits x∧fitsL r
end
theorem fitsL_iff:∀{l:List Dat},fitsL l↔∀x∈l,fits x
 |[]=>by simp[fitsL]
 |x::r=>by simp[fitsL,fitsL_iff (l:=r)]
theorem fits_cells{x:Dat}(h:∀c∈x.cells,fits c):fits x:=by
 cases x with
 |agg cs=>simp only[fits];exact fitsL_iff.2 h
 |_=>exact h _ (by simp[Dat.cells])
theorem Rep.fits{A:Nat→Prop}{w:World}{x:Dat}{v:Value}(h:Rep A w x v):Av.fits x:=by
 induction h with
 |str s h=>exact h
 |int k n h=>exact h
 |emp sz a cap=>simp[Av.fits,fitsL]
 |list sz xs b o n cap vs hn hAb hl hc h1 hsz hh hvl hv ih=>
  refine⟨hc,fitsL_iff.2 fun x hx=>fits_cells fun c hc'=>?_⟩;have hm:c∈flat xs:=List.mem_flatMap.2 ⟨x,hx,hc'⟩;obtain⟨i,hi,rfl⟩:=List.getElem_of_mem hm;exact ih i _ _ (List.getElem?_eq_getElem hi) (List.getElem?_eq_getElem oM)
 |agg cs arr hl h1 hv ih=>
  simp only[Av.fits];refine fitsL_iff.2 fun c hc=>?_
  obtain⟨i,hi,rfl⟩:=List.getElem_of_mem hc;exact ih i _ _ (List.getElem?_eq_getElem hi) (Array.getElem?_eq_getElem oM)
 |ptr cs b o vs hAb h1 hh hvl hv ih=>
  simp only[Av.fits];refine fitsL_iff.2 fun c hc=>?_
  obtain⟨i,hi,rfl⟩:=List.getElem_of_mem hc;exact ih i _ _ (List.getElem?_eq_getElem hi) (List.getElem?_eq_getElem oM)
 |iface t x v h ih=>exact ih
 |_=>trivial
variable [Glb][Rls]
theorem PCon.of_fits{ds:List Dat}{v:Av}(hh:Has P f)(h:(∀d∈ds,fits d)→PCon P f ds v):PCon P f ds v:=by
 refine⟨hh,fun β A w vs hc hvs=>(h fun d hd=>?_).2 β A w vs hc hvs⟩;obtain⟨i,hi,rfl⟩:=List.getElem_of_mem hd;have hl:ds.length=vs.size:=sX hvs.1;have:=hvs.2 i (.d ds[i]) vs[i] (by simp[hi]) sP;exact this.of_d.fits
theorem Con.of_fits{args:List Av}{T:List (Nat×Obj)}{v:Av}{ups:List (Nat×Obj)}(hh:Has P f)(h:(∀d,.d d∈args→fits d)→Con P f args T v ups):Con P f args T v ups:=by
 refine⟨hh,fun β A w vs hc hvs=>(h fun d hd=>?_).2 β A w vs hc hvs⟩;obtain⟨i,hi,e⟩:=List.getElem_of_mem hd;have:=hvs.2 i (.d d) (vs[i]'(by have:=hvs.1;omega)) (by rw[←e];simp) sP;exact this.of_d.fits
theorem FnOk.has{N:Nat}{ic:Ic}{ris:List RI}(h:FnOk P f N ic ris):Has P f:=by
 obtain⟨fn,code,h1,h2,h3,_⟩:=h.ex;exact⟨fn,h1,by rw[h2];rfl,h3⟩
end Av
namespace Av
open Go Go.Sort Go.Proofs
variable [Glb][Rls]
theorem flat_str(l:List (List UInt8)):flat (l.map .str)=l.map .str:=by
 induction l with
 |nil=>rfl
 |cons x r ih=>simp only[flat,List.map_cons,List.flatMap_cons,Dat.cells,List.singleton_append,List.cons.injEq,true_and];exact ih
section
variable {β:Blocks}{A:Nat→Prop}{w:World}{H:Heap}
theorem size_one{vs:Array Value}(h:1=vs.size):∃x,vs=#[x]:=by
 refine⟨vs[0],?_⟩;apply Array.ext
 ·simp[←h]
 ·intro i h1 h2;have:i=0:=oM;subst this;rfl
end
theorem hputs_out:∀(ups:List (Nat×Obj)) (H:Heap) (m:Nat),¬(get ups m).isSome=true→hputs H ups m=H m
 |[],H,m,_=>rfl
 |(i,o)::r,H,m,h=>by
  simp only[get]at h;split at h
  ·exact absurd rfl h
  ·rename_i hne;simp only[hputs];rw[hputs_out r _ m h,upd_ne _ _ (Ne.symm hne)]
theorem hputs_same:∀(ups:List (Nat×Obj)) (H H':Heap) (m:Nat),(get ups m).isSome=true→hputs H ups m=hputs H' ups m
 |[],H,H',m,h=>by cases h
 |(i,o)::r,H,H',m,h=>by
  simp only[hputs];by_cases hr:(get r m).isSome=true
  ·exact hputs_same r _ _ m hr
  ·rw[hputs_out r _ m hr,hputs_out r _ m hr];simp only[get]at h;split at h
   ·rename_i e;subst e;rw[upd_same,upd_same]
   ·exact absurd h hr
theorem Stp.nilB{β:Blocks}{A:Nat→Prop}{w:World}{H:Heap}(hc:Core β A w H){b j k sz:Nat}{cs:List Av}(hb:H b=some (.box cs))(hj:cs[j]? =some (.d (.nil sz)))(hk:H k=none)(hsz:0<sz):
  ∃β',Stp β A w H β' A w (upd (upd H k (some (.row 0 sz []))) b (some (.box (cs.set j (.ms k 0))))):=by
 have hne:b≠k:=fun e=>by subst e;rw[hk]at hb;cases hb
 have hst:=Stp.rowNil (β:=β) hc hk hsz;have hb1:upd H k (some (.row 0 sz [])) b=some (.box cs):=by rw[upd_ne _ _ hne];exact hb
 obtain⟨bb,C,T,e1,e2,e3,e4,e5⟩:=hst.core.objs b _ hb1;have hset:w.setRow bb C=w:=setRow_same e2;have hst2:=Stp.boxSet (cs':=cs.set j (.ms k 0)) (C':=C) hst.core hb1 e1 e2 (sX e3) e4 (fun hall i c v hc' hv'=>by
  rw[List.getElem?_set]at hc';split at hc'
  ·rename_i e;subst e;split at hc'
   ·cases hc';obtain⟨bb0,C0,T0,q1,q2,q3,q4,q5⟩:=hc.objs b _ hb;have hbb:bb0=bb:=by
     rw[upd_ne _ _ hne]at e1;rw[q1]at e1;exact Option.some.inj (BK.mk.inj e1).1
    subst hbb;rw[e2]at q2;cases q2;have hr:=(q5 j _ v hj hv').of_d;exact hall _ _ (VRep.rowNil hr)
   ·cases hc'
  ·exact hall _ _ (e5 i c v hc' hv'))
 rw[hset]at hst2;exact⟨_,hst.trans hst2⟩
theorem CallOK.nilBox{P:Program}{f:Cee}{args:List Av}{v:Av}{ups:List (Nat×Obj)}{T:List (Nat×Option Obj)}{i k sz j:Nat}{cs:List Av}
  (h:CallOK P f args ((i,some (.box (cs.set j (.ms k 0))))::(k,some (.row 0 sz []))::T) v ups)(hT:∀e∈T,e.1≠i∧e.1≠k)(hik:i≠k)(hj:cs[j]? =some (.d (.nil sz)))(hsz:0<sz)
  (hui:(get ups i).isSome=true)(huk:(get ups k).isSome=true):CallOK P f args ((i,some (.box cs))::(k,none)::T) v ups:=by
 intro β A w H vs hT' hc hvs;have hi:H i=some (.box cs):=hT' (i,some (.box cs)) List.mem_cons_self;have hk:H k=none:=hT' (k,none) (List.mem_cons_of_mem _ List.mem_cons_self);have hst:=Stp.nilB hc hi hj hk hsz;obtain⟨β2,hst⟩:=hst;have hput:hputs (upd (upd H k (some (.row 0 sz []))) i (some (.box (cs.set j (.ms k 0))))) ups=hputs H ups:=by
  funext m;by_cases hm:(get ups m).isSome=true
  ·exact hputs_same ups _ _ m hm
  ·have hmi:m≠i:=fun e=>hm (e▸hui)
   have hmk:m≠k:=fun e=>hm (e▸huk)
   rw[hputs_out ups _ m hm,hputs_out ups _ m hm,upd_ne _ _ hmi,upd_ne _ _ hmk]
 have:=h β2 A w _ vs (fun e he=>?_) hst.core ⟨hvs.1,fun n c u h1 h2=>hst.vals c u (hvs.2 n c u h1 h2)⟩
 ·rw[hput]at this;cases f with
  |fn g=>
   rcases this with⟨a1,a2⟩|⟨u,w',a1,β',A',a2,a3⟩
   ·refine .inl ⟨a1,a2.mono ?_⟩;rintro e w' ⟨u,rfl,β',A',b1,b2⟩;exact⟨u,rfl,β',A',hst.trans b1,b2⟩
   ·exact .inr ⟨u,w',a1,β',A',hst.trans a2,a3⟩
  |yld=>
   obtain⟨l,rest,a1,fn,tmps,asg,body,a2,a3⟩:=this;refine⟨l,rest,a1,fn,tmps,asg,body,a2,a3.mono ?_⟩;rintro e w' ⟨u,rfl,β',A',b1,b2⟩;exact⟨u,rfl,β',A',hst.trans b1,b2⟩
 ·simp only[List.mem_cons]at he;rcases he with rfl|rfl|he
  ·exact upd_same _ _ _
  ·rw[upd_ne _ _ (Ne.symm hik)];exact upd_same _ _ _
  ·obtain⟨q1,q2⟩:=hT e he;rw[upd_ne _ _ q1,upd_ne _ _ q2];exact hT' e (List.mem_cons_of_mem _ (List.mem_cons_of_mem _ he))
end Av
namespace Av
open Go
variable [Glb][Rls]
section
variable {β:Blocks}{A:Nat→Prop}{w:World}{H:Heap}{D:Nat→Prop}
theorem VRep.sub_of_ms{i ver sz:Nat}{xs:List Dat}{u:Value}(h:VRep β A w H (.ms i ver) u)(hi:H i=some (.row ver sz xs)):VRep β A w H (.sub i ver 0 xs.length) u:=by
 cases h with
 |ms _ _ _ hu h0 h1 h2=>
  refine .sub _ _ _ _ _ hu h0 ?_ ?_
  ·intro v' sz' xs' hr;obtain⟨g1,g2⟩:=h1 v' sz' xs' hr;refine⟨g1,fun e=>?_⟩;rw[hi]at hr;cases hr;refine⟨oM,?_⟩;rcases g2 rfl with⟨b0,n0,a,rfl⟩|⟨b,C,T,fz,cap,e1,e2,e3,e4,rfl⟩
   ·exact .inl ⟨b0,rfl,n0,a,rfl⟩
   ·exact .inr ⟨b,C,T,fz,cap,⟨b,0,none⟩,e1,e2,e3,oM,fun _=>by simp,sP⟩
  ·intro sz' xs' hr;rw[hi]at hr;cases hr
theorem Wk.subT{st:St}(t i ver sz:Nat)(xs:List Dat)(ht:get st.tm t=some (.ms i ver))(hi:get st.hp i=some (.row ver sz xs)):Wk D st ⟨put st.tm t (.sub i ver 0 xs.length),st.hp⟩:=by
 intro β A w a hc htr;refine⟨β,A,hc,fun t' v hv=>?_,fun i o b h1 h2 h3=>⟨i,o,h1,h2,h3⟩,fun _ h=>.inl h,fun c u _ h=>h⟩;rw[get_put]at hv;split at hv
 ·rename_i e;subst e;cases hv;obtain⟨u,q1,q2⟩:=htr t' _ ht;exact⟨u,q1,q2.sub_of_ms hi⟩
 ·exact htr t' v hv
end
end Av
namespace Av
open Go
variable [Glb][Rls]
theorem ren_dats(ρ:Nat→Nat)(ds:List Dat):renL ρ (ds.map .d)=ds.map .d:=by
 induction ds with
 |nil=>rfl
 |cons x r ih=>simp[renL,Av.ren,ih]
theorem ren_pure{v:Av}(h:pureR v)(ρ:Nat→Nat):v.ren ρ=v:=by
 cases v with
 |d x=>rfl
 |tup cs=>
  have h':∀c∈cs,∃x,c=.d x:=h;have e:∃ds:List Dat,cs=ds.map .d:=by
   clear h
   induction cs with
   |nil=>exact⟨[],rfl⟩
   |cons c r ih=>
    obtain⟨x,rfl⟩:=h' c List.mem_cons_self;obtain⟨ds,rfl⟩:=ih fun c hc=>h' c (List.mem_cons_of_mem _ hc)
    exact⟨x::ds,rfl⟩
  obtain⟨ds,rfl⟩:=e;simp only[Av.ren,ren_dats]
 |_=>exact h.elim
theorem idsInL_dats(G:Nat→Option Obj)(ds:List Dat):idsInL G (ds.map .d):=by
 induction ds with
 |nil=>trivial
 |cons x r ih=>exact⟨trivial,ih⟩
theorem inT_pure{v:Av}(h:pureR v)(G:Heap):inT G v:=by
 cases v with
 |d x=>trivial
 |tup cs=>
  have h':∀c∈cs,∃x,c=.d x:=h;show idsInL _ cs;clear h
  induction cs with
  |nil=>trivial
  |cons c r ih=>
   obtain⟨x,rfl⟩:=h' c List.mem_cons_self;exact⟨trivial,ih fun c hc=>h' c (List.mem_cons_of_mem _ hc)⟩
 |_=>exact h.elim
theorem Con.rw1{P:Program}{f:Nat}{az cs cs':List Dat}{v:Av}(h:Con P f (.ref 1000 0::az.map .d) [(1000,.box (cs.map .d))] v [(1000,.box (cs'.map .d))])(hv:pureR v)(i:Nat):
  CallOK P f (.ref i 0::az.map .d) [(i,some (.box (cs.map .d)))] v [(i,.box (cs'.map .d))]:=by
 have hcl:∀a:List Dat,closed (get [(1000,.box (a.map .d))]):=fun a=>closed_of ⟨idsInL_dats _ a,trivial⟩
 have hu:hputs (get [(1000,.box (cs.map .d))]) [(1000,.box (cs'.map .d))]=get [(1000,.box (cs'.map .d))]:=by
  rw[←get_puts];rfl
 have hdom:∀(a:List Dat) j,(get [(1000,Obj.box (a.map .d))] j).isSome=true→j=1000:=by
  intro a j hj;simp only[get]at hj;split at hj
  ·rename_i e;exact e.symm
  ·cases hj
 have:=h.call (fun _=>i) ?_ ?_ ?_ (hcl cs) [] ?_ ?_ ?_
 ·have e:(az.map Av.d).map (Av.ren fun _=>i)=az.map Av.d:=by
   rw[List.map_map];exact List.map_congr_left fun x _=>by simp[Av.ren]
  simpa[Av.ren,Obj.ren,ren_dats,e,ren_pure hv]using this
 ·intro j hj;rw[hdom _ j hj];decide
 ·intro a b ha hb _;rw[hu]at ha hb;rw[hdom _ a ha,hdom _ b hb]
 ·intro c hc;rcases List.mem_cons.1 hc with rfl|hc
  ·rfl
  ·obtain⟨x,_,rfl⟩:=List.mem_map.1 hc;trivial
 ·intro e he;simp only[List.mem_singleton]at he;subst he;exact .inl rfl
 ·rw[hu];exact hcl cs'
 ·exact inT_pure hv _
end Av
namespace Av
open Go
variable [Glb][Rls]
theorem Wk.frzT{D:Nat→Prop}{st:St}(t i v sz:Nat)(xs:List Dat)(ht:get st.tm t=some (.ms i v))(hi:get st.hp i=some (.row v sz xs)):Wk D st ⟨put st.tm t (.d (.list sz xs)),put st.hp i (.frz v sz xs)⟩:=by
 refine Wk.of_stp ?_;intro β A w a hc htr;obtain⟨u,q1,q2⟩:=htr t _ ht;have hd:datumAll (get st.hp) [.ms i v]=some (v=v∧True,[.list sz xs],[(i,.frz v sz xs)]):=by simp[datumAll,datum,datum1,hi]
 obtain⟨A1,s1,l1,r1,m1⟩:=datumAll_ok hc hd ⟨rfl,trivial⟩ (us:=[u]) rfl (fun k c u' h1 h2=>by
  cases k with
  |zero=>simp at h1 h2;subst h1;subst h2;exact q2
  |succ k=>simp at h1)
 have hh:get (put st.hp i (.frz v sz xs))=hputs (get st.hp) [(i,.frz v sz xs)]:=funext fun j=>by rw[get_put];rfl
 rw[hh];refine⟨β,A1,s1,?_⟩;intro t' v' hv;rw[get_put]at hv;split at hv
 ·rename_i e;subst e;cases hv;exact⟨u,q1,.d _ _ (r1 0 _ u rfl rfl)⟩
 ·obtain⟨u',g1,g2⟩:=htr t' v' hv;exact⟨u',g1,s1.vals _ _ g2⟩
end Av
namespace Av
open Go
variable [Glb][Rls]
abbrev cloD(g:Nat)(cs:List Dat):Dat:=.fn (.func g) [] [.ptr cs]
theorem allD_map(cs:List Dat):allD (cs.map .d)=some cs:=by
 induction cs with
 |nil=>rfl
 |cons x r ih=>simp only[List.map_cons,allD,ih]
theorem CallOK.clo{P:Program}{f g:Nat}{ds cs:List Dat}{r:Dat}(h:PCon P f (ds++[cloD g cs]) (.d r))(hr:scalar r=true)(i:Nat):
  CallOK P f (ds.map .d++[.clo (.func g) [] [.ref i 0]]) [(i,some (.box (cs.map .d)))] (.d r) []:=by
 intro β A w H vs hT hc hvs;have hi:H i=some (.box (cs.map .d)):=hT _ (List.mem_singleton.2 rfl);have st:=Stp.freezeBox hc hi (allD_map cs);have hc0:Core β (fun k=>A k∨β i=some k) w (get []):=⟨(by intro i o hi;cases hi),(by intro i j o o' b hi;cases hi),(by intro i o b hi;cases hi),st.core.old,st.core.glob⟩;refine .inl ⟨h.1,(h.2 β (fun k=>A k∨β i=some k) w vs hc0 ⟨by have:=hvs.1;simp at this⊢;omega,?_⟩).mono ?_⟩
 ·intro k c v h1 h2;rw[List.getElem?_map]at h1;cases e:(ds++[cloD g cs])[k]? with
  |none=>simp[e]at h1
  |some x=>
   simp only[e,Option.map_some,Option.some.injEq]at h1;subst h1;refine .d _ _ ?_;by_cases hk:k<ds.length
   ·rw[List.getElem?_append_left hk]at e;have:=hvs.2 k (.d x) v (by rw[List.getElem?_append_left (sX hk),List.getElem?_map,e];rfl) h2;exact(st.vals _ _ this).of_d
   ·rw[List.getElem?_append_right oM]at e;have hk0:k-ds.length=0:=by
     rcases Nat.eq_zero_or_pos (k-ds.length)with h|h
     ·exact h
     ·rw[List.getElem?_eq_none sO]at e;cases e
    rw[hk0]at e;cases e;have hlen:(ds.map Av.d).length=ds.length:=sP;have:=hvs.2 k (.clo (.func g) [] [.ref i 0]) v (by rw[List.getElem?_append_right sO,hlen,hk0];rfl) h2;have h3:=st.vals _ _ this;cases h3 with
    |clo _ _ _ a1 a2 l1 l2 hf hvv=>
     refine .fn _ _ _ a1 a2 l1 (sX l2) (by intro j c v hj;cases hj) ?_;intro j c v hj hjv
     match j,hj with
     |0,hj=>
      cases hj;have hrf:=hvv 0 _ v rfl hjv;cases hrf with
      |ref _ _ _ _ _ hu g0 g1 g2=>
       have:=g2 cs sU;simpa using this
     |j+1,hj=>cases hj
 ·rintro e w' ⟨v,β1,A1,rfl,hsince,hc1,hv⟩;obtain⟨s1,s2,s3,s4,s5,sl,s6,s7,s8⟩:=hsince;dsimp only at s1 s2 s3 s4 s5 sl;have hsame:∀b,b<w.heap.size→w'.heap[b]? =w.heap[b]? :=fun b hb=>s5 b hb (by intro i o hi;cases hi)
  have hst:Stp β A w H β A w' H:=Stp.new hc s1 s2 s3 s4 hsame (fun _ h=>h) (fun _ h=>.inl h) (fun b hb=>by have:=hc.old b hb;omega);exact⟨v,rfl,β,A,hst,.d _ _ (hv.of_d.scalar hr)⟩
end Av
namespace Go.Proofs
open Go Av
variable {g:Nat}{cs:List Dat}
def ixQ{α:Type}(q:α→Bool)(l:List α):Int:=match l.findIdx? q with
 |some k=>(k:Int)
 |none=> -1
def fdQ{α:Type}(q:α→Bool)(l:List α):Nat:=(l.findIdx? q).getD 0
theorem ixQ_some{α:Type}{q:α→Bool}{l:List α}{k:Nat}(h:k<l.length)(hk:q l[k]=true)(hj:∀(j:Nat) (h1:j<l.length),j<k→q l[j]=false):ixQ q l=k:=by
 have:l.findIdx? q=some k:=by
  rw[List.findIdx?_eq_some_iff_getElem];exact⟨h,hk,fun j h2=>by rw[hj j oM h2];decide⟩
 simp only[ixQ,this]
theorem ixQ_none{α:Type}{q:α→Bool}{l:List α}(hj:∀(j:Nat) (h1:j<l.length),q l[j]=false):ixQ q l= -1:=by
 have:l.findIdx? q=none:=by
  rw[List.findIdx?_eq_none_iff];intro x hx;obtain⟨j,h,rfl⟩:=List.getElem_of_mem hx;exact hj j h
 simp only[ixQ,this]
theorem ixQ_any{α:Type}(q:α→Bool)(l:List α):decide (ixQ q l≥0)=l.any q:=by
 unfold ixQ;cases e:l.findIdx? q with
 |none=>
  rw[List.findIdx?_eq_none_iff]at e;have:l.any q=false:=by rw[List.any_eq_false];intro x hx;rw[e x hx];decide
  rw[this];rfl
 |some k=>
  obtain⟨h1,h2,_⟩:=List.findIdx?_eq_some_iff_getElem.1 e;have:l.any q=true:=List.any_eq_true.2 ⟨_,List.getElem_mem h1,h2⟩;rw[this];simp
theorem ixQ_mx{α:Type}(q:α→Bool)(l:List α):(if(0:Int)>ixQ q l then 0 else ixQ q l)=(fdQ q l:Int):=by
 unfold ixQ fdQ;cases e:l.findIdx? q with
 |none=>rfl
 |some k=>simp only[Option.getD_some];split<;>omega
theorem fdQ_lt{α:Type}{q:α→Bool}{l:List α}(h:0<l.length):fdQ q l<l.length:=by
 unfold fdQ;cases e:l.findIdx? q with
 |none=>exact h
 |some k=>obtain⟨h1,_⟩:=List.findIdx?_eq_some_iff_getElem.1 e;exact h1
theorem ix180{q:Sch→Bool}(l:List Sch)(hq:∀x∈l,PT g (encC x::cs) (.d (.bool (q x))))(hl:l.length≤68719476736):
  PT 109 [.list 9 (l.map encC),.fn (.func g) [] cs] (.d (.int .i64 (ixQ q l))):=by
 refine ok109.pc ?_;simp only[go_sem,ir109,List.length_map,simprocAttr];refine wpc_loop (fun n s=>∃k:Nat,k≤l.length∧n=l.length-k∧(∀(j:Nat) (h1:j<l.length),j<k→q l[j]=false)∧
  s=⟨[(0,.d (.list 9 (l.map encC))),(1,.d (.fn (.func g) [] cs)),(7,.d (.int .i64 l.length)),(8,.d (.int .i64 k))],[]⟩) ?_ ?_
 ·exact⟨_,_,Wk.refl _,0,Nat.zero_le _,rfl,sP,rfl⟩
 ·rintro n s ⟨k,hk,rfl,hinv,rfl⟩;by_cases hlt:k<l.length
  ·have hx:=nth_map encC hlt;have hd:=dT hlt;have hc:=(hq l[k] (List.getElem_mem _)).call trivial;simp only[encC,List.map_cons]at hc hx;refine zz6 ?_;refine⟨oM,wn hc ?_⟩;refine zz ?_;apply ik<;>intro hf
   ·rw[ixQ_some hlt hf hinv]
   ·refine⟨l.length-(k+1),_,oM,Wk.less ?_,k+1,oM,rfl,fun j h1 hj=>?_,rfl⟩
    ·exact zz7 trivial
    ·by_cases e:j=k
     ·subst e;exact hf
     ·exact hinv j h1 oM
  ·have hd:=dF hlt;refine zz5 ?_;rw[ixQ_none (fun j h=>hinv j h oM)]
theorem ix208{q:Epd→Bool}(l:List Epd)(hq:∀x∈l,PT g (encEp x::cs) (.d (.bool (q x))))(hl:l.length≤68719476736):
  PT 108 [.list 7 (l.map encEp),.fn (.func g) [] cs] (.d (.int .i64 (ixQ q l))):=by
 refine ok108.pc ?_;simp only[go_sem,ir108,List.length_map,simprocAttr];refine wpc_loop (fun n s=>∃k:Nat,k≤l.length∧n=l.length-k∧(∀(j:Nat) (h1:j<l.length),j<k→q l[j]=false)∧
  s=⟨[(0,.d (.list 7 (l.map encEp))),(1,.d (.fn (.func g) [] cs)),(7,.d (.int .i64 l.length)),(8,.d (.int .i64 k))],[]⟩) ?_ ?_
 ·exact⟨_,_,Wk.refl _,0,Nat.zero_le _,rfl,sP,rfl⟩
 ·rintro n s ⟨k,hk,rfl,hinv,rfl⟩;by_cases hlt:k<l.length
  ·have hx:=nth_map encEp hlt;have hd:=dT hlt;have hc:=(hq l[k] (List.getElem_mem _)).call trivial;simp only[encEp,List.map_cons]at hc hx;refine zz6 ?_;refine⟨oM,wn hc ?_⟩;refine zz ?_;apply ik<;>intro hf
   ·rw[ixQ_some hlt hf hinv]
   ·refine⟨l.length-(k+1),_,oM,Wk.less ?_,k+1,oM,rfl,fun j h1 hj=>?_,rfl⟩
    ·exact zz7 trivial
    ·by_cases e:j=k
     ·subst e;exact hf
     ·exact hinv j h1 oM
  ·have hd:=dF hlt;refine zz5 ?_;rw[ixQ_none (fun j h=>hinv j h oM)]
theorem ix350{q:Svc→Bool}(l:List Svc)(hq:∀x∈l,PT g (encX x::cs) (.d (.bool (q x))))(hl:l.length≤68719476736):
  PT 241 [.list 4 (l.map encX),.fn (.func g) [] cs] (.d (.int .i64 (ixQ q l))):=by
 refine ok241.pc ?_;simp only[go_sem,ir241,List.length_map,simprocAttr];refine wpc_loop (fun n s=>∃k:Nat,k≤l.length∧n=l.length-k∧(∀(j:Nat) (h1:j<l.length),j<k→q l[j]=false)∧
  s=⟨[(0,.d (.list 4 (l.map encX))),(1,.d (.fn (.func g) [] cs)),(7,.d (.int .i64 l.length)),(8,.d (.int .i64 k))],[]⟩) ?_ ?_
 ·exact⟨_,_,Wk.refl _,0,Nat.zero_le _,rfl,sP,rfl⟩
 ·rintro n s ⟨k,hk,rfl,hinv,rfl⟩;by_cases hlt:k<l.length
  ·have hx:=nth_map encX hlt;have hd:=dT hlt;have hc:=(hq l[k] (List.getElem_mem _)).call trivial;simp only[encX,List.map_cons]at hc hx;refine zz6 ?_;refine⟨oM,wn hc ?_⟩;refine zz ?_;apply ik<;>intro hf
   ·rw[ixQ_some hlt hf hinv]
   ·refine⟨l.length-(k+1),_,oM,Wk.less ?_,k+1,oM,rfl,fun j h1 hj=>?_,rfl⟩
    ·exact zz7 trivial
    ·by_cases e:j=k
     ·subst e;exact hf
     ·exact hinv j h1 oM
  ·have hd:=dF hlt;refine zz5 ?_;rw[ixQ_none (fun j h=>hinv j h oM)]
theorem ix175{q:Rou→Bool}(l:List Rou)(hq:∀x∈l,PT g (encO x::cs) (.d (.bool (q x))))(hl:l.length≤68719476736):
  PT 103 [.list 3 (l.map encO),.fn (.func g) [] cs] (.d (.int .i64 (ixQ q l))):=by
 refine ok103.pc ?_;simp only[go_sem,ir103,List.length_map,simprocAttr];refine wpc_loop (fun n s=>∃k:Nat,k≤l.length∧n=l.length-k∧(∀(j:Nat) (h1:j<l.length),j<k→q l[j]=false)∧
  s=⟨[(0,.d (.list 3 (l.map encO))),(1,.d (.fn (.func g) [] cs)),(7,.d (.int .i64 l.length)),(8,.d (.int .i64 k))],[]⟩) ?_ ?_
 ·exact⟨_,_,Wk.refl _,0,Nat.zero_le _,rfl,sP,rfl⟩
 ·rintro n s ⟨k,hk,rfl,hinv,rfl⟩;by_cases hlt:k<l.length
  ·have hx:=nth_map encO hlt;have hd:=dT hlt;have hc:=(hq l[k] (List.getElem_mem _)).call trivial;simp only[encO,List.map_cons]at hc hx;refine zz6 ?_;refine⟨oM,wn hc ?_⟩;refine zz ?_;apply ik<;>intro hf
   ·rw[ixQ_some hlt hf hinv]
   ·refine⟨l.length-(k+1),_,oM,Wk.less ?_,k+1,oM,rfl,fun j h1 hj=>?_,rfl⟩
    ·exact zz7 trivial
    ·by_cases e:j=k
     ·subst e;exact hf
     ·exact hinv j h1 oM
  ·have hd:=dF hlt;refine zz5 ?_;rw[ixQ_none (fun j h=>hinv j h oM)]
theorem ix235{q:Wlk→Bool}(l:List Wlk)(hq:∀x∈l,PT g (encWk x::cs) (.d (.bool (q x))))(hl:l.length≤68719476736):
  PT 146 [.list 13 (l.map encWk),.fn (.func g) [] cs] (.d (.int .i64 (ixQ q l))):=by
 refine ok146.pc ?_;simp only[go_sem,ir146,List.length_map,simprocAttr];refine wpc_loop (fun n s=>∃k:Nat,k≤l.length∧n=l.length-k∧(∀(j:Nat) (h1:j<l.length),j<k→q l[j]=false)∧
  s=⟨[(0,.d (.list 13 (l.map encWk))),(1,.d (.fn (.func g) [] cs)),(7,.d (.int .i64 l.length)),(8,.d (.int .i64 k))],[]⟩) ?_ ?_
 ·exact⟨_,_,Wk.refl _,0,Nat.zero_le _,rfl,sP,rfl⟩
 ·rintro n s ⟨k,hk,rfl,hinv,rfl⟩;by_cases hlt:k<l.length
  ·have hx:=nth_map encWk hlt;have hd:=dT hlt;have hc:=(hq l[k] (List.getElem_mem _)).call trivial;simp only[encWk,List.map_cons]at hc hx;refine zz6 ?_;refine⟨oM,wn hc ?_⟩;refine zz ?_;apply ik<;>intro hf
   ·rw[ixQ_some hlt hf hinv]
   ·refine⟨l.length-(k+1),_,oM,Wk.less ?_,k+1,oM,rfl,fun j h1 hj=>?_,rfl⟩
    ·exact zz7 trivial
    ·by_cases e:j=k
     ·subst e;exact hf
     ·exact hinv j h1 oM
  ·have hd:=dF hlt;refine zz5 ?_;rw[ixQ_none (fun j h=>hinv j h oM)]
theorem ix300{q:Brn→Bool}(l:List Brn)(hq:∀x∈l,PT g (encB x::cs) (.d (.bool (q x))))(hl:l.length≤68719476736):
  PT 186 [.list 2 (l.map encB),.fn (.func g) [] cs] (.d (.int .i64 (ixQ q l))):=by
 refine ok186.pc ?_;simp only[go_sem,ir186,List.length_map,simprocAttr];refine wpc_loop (fun n s=>∃k:Nat,k≤l.length∧n=l.length-k∧(∀(j:Nat) (h1:j<l.length),j<k→q l[j]=false)∧
  s=⟨[(0,.d (.list 2 (l.map encB))),(1,.d (.fn (.func g) [] cs)),(7,.d (.int .i64 l.length)),(8,.d (.int .i64 k))],[]⟩) ?_ ?_
 ·exact⟨_,_,Wk.refl _,0,Nat.zero_le _,rfl,sP,rfl⟩
 ·rintro n s ⟨k,hk,rfl,hinv,rfl⟩;by_cases hlt:k<l.length
  ·have hx:=nth_map encB hlt;have hd:=dT hlt;have hc:=(hq l[k] (List.getElem_mem _)).call trivial;simp only[encB_eq,List.map_cons]at hc hx;refine zz6 ?_;refine⟨oM,wn hc ?_⟩;refine zz ?_;apply ik<;>intro hf
   ·rw[ixQ_some hlt hf hinv]
   ·refine⟨l.length-(k+1),_,oM,Wk.less ?_,k+1,oM,rfl,fun j h1 hj=>?_,rfl⟩
    ·exact zz7 trivial
    ·by_cases e:j=k
     ·subst e;exact hf
     ·exact hinv j h1 oM
  ·have hd:=dF hlt;refine zz5 ?_;rw[ixQ_none (fun j h=>hinv j h oM)]
theorem walk47{q:Sch→Bool}(l:List Sch)(hq:∀x∈l,PT g (encC x::cs) (.d (.bool (q x))))(hl:l.length≤68719476736):
  PT 47 [.list 9 (l.map encC),.fn (.func g) [] cs] (.tup [.d (.int .i64 (fdQ q l)),.d (.bool (l.any q))]):=by
 refine ok47.pc ?_;have c:=(ix180 l hq hl).call trivial;rw[←ixQ_any,←ixQ_mx];simp only[go_sem,ir47,simprocAttr];refine wc c trivial
theorem walk45{q:Epd→Bool}(l:List Epd)(hq:∀x∈l,PT g (encEp x::cs) (.d (.bool (q x))))(hl:l.length≤68719476736):
  PT 45 [.list 7 (l.map encEp),.fn (.func g) [] cs] (.tup [.d (.int .i64 (fdQ q l)),.d (.bool (l.any q))]):=by
 refine ok45.pc ?_;have c:=(ix208 l hq hl).call trivial;rw[←ixQ_any,←ixQ_mx];simp only[go_sem,ir45,simprocAttr];refine wc c trivial
theorem walk188{q:Svc→Bool}(l:List Svc)(hq:∀x∈l,PT g (encX x::cs) (.d (.bool (q x))))(hl:l.length≤68719476736):
  PT 188 [.list 4 (l.map encX),.fn (.func g) [] cs] (.tup [.d (.int .i64 (fdQ q l)),.d (.bool (l.any q))]):=by
 refine ok188.pc ?_;have c:=(ix350 l hq hl).call trivial;rw[←ixQ_any,←ixQ_mx];simp only[go_sem,ir188,simprocAttr];refine wc c trivial
theorem walk39{q:Rou→Bool}(l:List Rou)(hq:∀x∈l,PT g (encO x::cs) (.d (.bool (q x))))(hl:l.length≤68719476736):
  PT 39 [.list 3 (l.map encO),.fn (.func g) [] cs] (.d (.bool (l.any q))):=by
 refine ok39.pc ?_;have c:=(ix175 l hq hl).call trivial;rw[←ixQ_any];simp only[go_sem,ir39,simprocAttr];refine wc c trivial
theorem walk73{q:Wlk→Bool}(l:List Wlk)(hq:∀x∈l,PT g (encWk x::cs) (.d (.bool (q x))))(hl:l.length≤68719476736):
  PT 73 [.list 13 (l.map encWk),.fn (.func g) [] cs] (.d (.bool (l.any q))):=by
 refine ok73.pc ?_;have c:=(ix235 l hq hl).call trivial;rw[←ixQ_any];simp only[go_sem,ir73,simprocAttr];refine wc c trivial
theorem walk148{q:Brn→Bool}(l:List Brn)(hq:∀x∈l,PT g (encB x::cs) (.d (.bool (q x))))(hl:l.length≤68719476736):
  PT 148 [.list 2 (l.map encB),.fn (.func g) [] cs] (.d (.bool (l.any q))):=by
 refine ok148.pc ?_;have c:=(ix300 l hq hl).call trivial;rw[←ixQ_any];simp only[go_sem,ir148,simprocAttr];refine wc c trivial
end Go.Proofs
namespace Av
open Go
variable [Glb][Rls]
theorem PCon.callClo{P:Program}{f g:Nat}{d:Dat}{cs:List Dat}{r:Av}(h:PCon P f [d,cloD g cs] r)(hr:pureR r)(i:Nat):
  CallOK P f [.d d,.clo (.func g) [] [.ref i 0]] [(i,some (.box (cs.map .d)))] r [(i,.fbox cs)]:=by
 intro β A w H vs hT hc hvs;have hi:H i=some (.box (cs.map .d)):=hT _ (List.mem_singleton.2 rfl);have st:=Stp.freezeBox hc hi (allD_map cs);obtain⟨x1,x2,rfl⟩:∃x y,vs=#[x,y]:=by
  have h2:2=vs.size:=sX hvs.1;refine⟨vs[0],vs[1],?_⟩;apply Array.ext
  ·simp[←h2]
  ·intro i h1 h2;have:i=0∨i=1:=oM;rcases this with rfl|rfl<;>rfl
 have v1:=st.vals _ _ (hvs.2 0 _ x1 rfl rfl);have v2:=st.vals _ _ (hvs.2 1 _ x2 rfl rfl);have hv2:Rep (fun k=>A k∨β i=some k) w (cloD g cs) x2:=by
  cases v2 with
  |clo _ _ _ a1 a2 l1 l2 hf hvv=>
   refine .fn _ _ _ a1 a2 l1 (sX l2) (by intro j c v hj;cases hj) ?_;intro k c v hk hkv
   match k,hk with
   |0,hk=>
    cases hk;have hrf:=hvv 0 _ v rfl hkv;cases hrf with
    |ref _ _ _ _ _ hu g0 g1 g2=>
     have:=g2 cs sU;simpa using this
   |k+1,hk=>cases hk
 have:=h.call hr β _ w _ #[x1,x2] sP st.core ⟨rfl,fun k c u h1 h2=>by
  match k,h1,h2 with
  |0,h1,h2=>cases h1;cases h2;exact v1
  |1,h1,h2=>cases h1;cases h2;exact .d _ _ hv2
  |k+2,h1,h2=>cases h1⟩
 rcases this with⟨a1,a2⟩|⟨u,w',a1,β',A',a2,a3⟩
 ·refine .inl ⟨a1,a2.mono ?_⟩;rintro e w' ⟨u,rfl,β',A',b1,b2⟩;exact⟨u,rfl,β',A',st.trans b1,b2⟩
 ·exact .inr ⟨u,w',a1,β',A',st.trans a2,a3⟩
end Av
namespace Go.Proofs
open Go Av
theorem PCon.callClo2r{P:Program}{f g:Nat}{ds c1 c2:List Dat}{r:Av}(h:PCon P f (ds++[.fn (.func g) [] [.ptr c1,.ptr c2]]) r)(hr:pureR r)(i j:Nat)(hij:i≠j):
  CallOK P f (ds.map .d++[.clo (.func g) [] [.ref i 0,.ref j 0]]) [(i,some (.box (c1.map .d))),(j,some (.box (c2.map .d)))] r [(i,.fbox c1),(j,.fbox c2)]:=by
 intro β A w H vs hT hc hvs;have hi:H i=some (.box (c1.map .d)):=hT (i,_) sP;have hj:H j=some (.box (c2.map .d)):=hT (j,_) sP;have st1:=Stp.freezeBox hc hi (allD_map c1);have hj1:upd H i (some (.fbox c1)) j=some (.box (c2.map .d)):=by rw[upd_ne _ _ (Ne.symm hij)];exact hj
 have st2:=Stp.freezeBox st1.core hj1 (allD_map c2);have st:=st1.trans st2;have hlen:(ds.map Av.d).length=ds.length:=sP;have hc':=h.call hr β _ w (upd (upd H i (some (.fbox c1))) j (some (.fbox c2))) vs sP st.core ⟨by have:=hvs.1;simp at this⊢;omega,fun k c v h1 h2=>by
  rw[List.getElem?_map]at h1;cases e:(ds++[Dat.fn (.func g) [] [.ptr c1,.ptr c2]])[k]? with
  |none=>simp[e]at h1
  |some x=>
   simp only[e,Option.map_some,Option.some.injEq]at h1;subst h1;by_cases hk:k<ds.length
   ·rw[List.getElem?_append_left hk]at e;have:=hvs.2 k (.d x) v (by rw[List.getElem?_append_left (sX hk),List.getElem?_map,e];rfl) h2;exact st.vals _ _ this
   ·rw[List.getElem?_append_right oM]at e;have hk0:k-ds.length=0:=by
     rcases Nat.eq_zero_or_pos (k-ds.length)with h|h
     ·exact h
     ·rw[List.getElem?_eq_none sO]at e;cases e
    rw[hk0]at e;cases e;have:=hvs.2 k (.clo (.func g) [] [.ref i 0,.ref j 0]) v (by rw[List.getElem?_append_right sO,hlen,hk0];rfl) h2;have h3:=st.vals _ _ this;cases h3 with
    |clo _ _ _ a1 a2 l1 l2 hf hvv=>
     refine .d _ _ (.fn _ _ _ a1 a2 l1 (sX l2) (by intro j c v hj;cases hj) ?_);intro k c v hk hkv
     match k,hk with
     |0,hk=>
      cases hk;have hrf:=hvv 0 _ v rfl hkv;cases hrf with
      |ref _ _ _ _ _ hu g0 g1 g2=>
       have:=g2 c1 (by rw[upd_ne _ _ hij,upd_same]);simpa using this
     |1,hk=>
      cases hk;have hrf:=hvv 1 _ v rfl hkv;cases hrf with
      |ref _ _ _ _ _ hu g0 g1 g2=>
       have:=g2 c2 (upd_same _ _ _);simpa using this
     |k+2,hk=>cases hk⟩
 rcases hc' with⟨a1,a2⟩|⟨u,w',a1,β',A',a2,a3⟩
 ·refine .inl ⟨a1,a2.mono ?_⟩;rintro e w' ⟨u,rfl,β',A',b1,b2⟩;exact⟨u,rfl,β',A',st.trans b1,b2⟩
 ·exact .inr ⟨u,w',a1,β',A',st.trans a2,a3⟩
theorem walk48(x:Sch)(n:Str)(v:Int):PT 48 [encC x,.ptr [.str n],.ptr [.int .i64 v]] (.d (.bool (x.name==n&&x.version==v))):=by
 refine ok48.pc ?_;simp only[go_sem,ir48,encC,Nat.reduceAdd,Nat.reduceEqDiff,Nat.reduceBEq,Nat.reduceLeDiff,reduceCtorEq,↓reduceIte];refine⟨dC,scQ_pure (x.version==v) (fun _=>?_) ?_⟩
 ·refine zz ?_;simp
 ·exact zz trivial
theorem walk46(x:Epd)(n:Str):PT 46 [encEp x,.ptr [.str n]] (.d (.bool (x.name==n))):=by
 refine ok46.pc ?_;simp only[go_sem,ir46,encEp,Nat.reduceAdd,Nat.reduceEqDiff,Nat.reduceBEq,Nat.reduceLeDiff,reduceCtorEq,↓reduceIte];decide
theorem walk189(x:Svc)(n:Str):PT 189 [encX x,.ptr [.str n]] (.d (.bool (x.name==n))):=by
 refine ok189.pc ?_;simp only[go_sem,ir189,encX,Nat.reduceAdd,Nat.reduceEqDiff,Nat.reduceBEq,Nat.reduceLeDiff,reduceCtorEq,↓reduceIte];decide
theorem walk25(p:Prg)(n:Str)(v:Int)(hl:p.schemas.length≤68719476736):PT 25 [encPg p,.str n,.int .i64 v] (.tup [.d (.int .i64 (fdQ (fun x:Sch=>x.name==n&&x.version==v) p.schemas)),.d (.bool (p.schemas.any fun x=>x.name==n&&x.version==v))]):=by
 refine ok25.pc ?_;have c:=PCon.callClo2r (ds:=[.list 9 (p.schemas.map encC)]) (walk47 p.schemas (fun x _=>walk48 x n v) hl) (by simp[pureR]) 4 5 dC;simp only[go_sem,ir25,encPg,simprocAttr];refine wc c trivial
theorem walk24(p:Prg)(n:Str)(hl:p.endpoints.length≤68719476736):PT 24 [encPg p,.str n] (.tup [.d (.int .i64 (fdQ (fun x:Epd=>x.name==n) p.endpoints)),.d (.bool (p.endpoints.any fun x=>x.name==n))]):=by
 refine ok24.pc ?_;have c:=PCon.callClo (walk45 p.endpoints (fun x _=>walk46 x n) hl) (by simp[pureR]) 3;simp only[go_sem,ir24,encPg,simprocAttr];refine wc c trivial
theorem walk153(p:Prg)(n:Str)(hl:p.services.length≤68719476736):PT 153 [encPg p,.str n] (.tup [.d (.int .i64 (fdQ (fun x:Svc=>x.name==n) p.services)),.d (.bool (p.services.any fun x=>x.name==n))]):=by
 refine ok153.pc ?_;have c:=PCon.callClo (walk188 p.services (fun x _=>walk189 x n) hl) (by simp[pureR]) 3;simp only[go_sem,ir153,encPg,simprocAttr];refine wc c trivial
def ltS(l:List Sch)(n:Str)(s:Nat×Bool)(i:Nat):Nat×Bool:=match l[i]? with
 |some x=>if x.name==n&&((!s.2)||decide ((l[s.1]?.map Sch.version).getD 0<x.version))then(i,true)else s
 |none=>s
def ltR(l:List Sch)(n:Str)(k:Nat):Nat×Bool:=(List.range k).foldl (ltS l n) (0,false)
theorem ltR_succ(l:List Sch)(n:Str)(k:Nat):ltR l n (k+1)=ltS l n (ltR l n k) k:=by
 unfold ltR;rw[List.range_succ,List.foldl_append];rfl
theorem ltR_lt(l:List Sch)(n:Str):∀k:Nat,(ltR l n k).1=0∨(ltR l n k).1<l.length
 |0=>.inl rfl
 |k+1=>by
  rw[ltR_succ];unfold ltS;split
  ·rename_i x h;split
   ·exact .inr (List.getElem?_eq_some_iff.1 h).1
   ·exact ltR_lt l n k
  ·exact ltR_lt l n k
theorem ltR_bd(l:List Sch)(n:Str)(k:Nat)(hk:k<l.length):(ltR l n k).1<l.length:=by
 rcases ltR_lt l n k with h|h<;>omega
def latF(l:List Sch)(n:Str):Nat×Bool:=ltR l n l.length
theorem walk49(p:Prg)(n:Str)(hl:p.schemas.length≤68719476736):PT 49 [encPg p,.str n] (.tup [.d (.int .i64 (latF p.schemas n).1),.d (.bool (latF p.schemas n).2)]):=by
 refine ok49.pc ?_;simp only[go_sem,ir49,encPg,List.length_map,Nat.reduceAdd,Nat.reduceEqDiff,Nat.reduceBEq,Nat.reduceLeDiff,reduceCtorEq,↓reduceIte];generalize hL:p.schemas=l at*;refine wpc_loop (fun r s=>∃k:Nat,k≤l.length∧r=l.length-k∧
  s=⟨[(1,.d (.str n)),(2,.ref 2 0),(6,.d (.int .i64 (ltR l n k).1)),(7,.d (.bool (ltR l n k).2)),(11,.d (.list 9 (l.map encC))),(12,.d (.int .i64 l.length)),(13,.d (.int .i64 k))],
   [(2,.box [.d (.int .i64 p.version),.d (.list 9 (l.map encC)),.d (.list 7 (p.endpoints.map encEp)),.d (.list 4 (p.services.map encX)),.d (.list 3 (p.routes.map encO))])]⟩) ?_ ?_
 ·refine⟨_,_,Wk.less ?_,0,Nat.zero_le _,rfl,rfl⟩;simp[go_sem,ltR]
 ·rintro r s ⟨k,hk,rfl,rfl⟩;by_cases hlt:k<l.length
  ·have hx:=nth_map encC hlt;have hd:=dT hlt;have hb:=ltR_bd l n k hlt;have hy:=nth_map encC hb;have hs:=ltR_succ l n k;have hg:l[k]? =some l[k]:=List.getElem?_eq_getElem hlt;have hg2:l[(ltR l n k).1]? =some l[(ltR l n k).1]:=List.getElem?_eq_getElem hb;simp only[ltS,hg,hg2,Option.map_some,Option.getD_some]at hs;generalize hR:ltR l n k=R at*;simp only[encC]at hx hy;refine zz6 ?_;refine⟨oM,?_⟩;refine sq ((!R.2)||(decide (l[R.1].version<l[k].version))) ?_ ?_
   ·refine zz ?_;refine sq (decide (l[R.1].version<l[k].version)) ?_ ?_
    ·simp only[go_sem,hy,Int.toNat_natCast,List.length_map,Nat.reduceAdd,Nat.reduceEqDiff,Nat.reduceBEq,Nat.reduceLeDiff,reduceCtorEq,↓reduceIte];exact⟨⟨oM,oM⟩,dC⟩
    ·exact zz trivial
   refine zz ?_;generalize hc:(l[k].name==n&&((!R.2)||decide (l[R.1].version<l[k].version)))=c at*;cases c with
   |true=>
    refine zz ?_;refine⟨l.length-(k+1),_,oM,Wk.less ?_,k+1,oM,rfl,rfl⟩;simp only[Bool.false_eq_true,if_true,if_false]at hs;simp only[go_sem,hs,wrap64s k oM,Nat.reduceAdd,Nat.reduceEqDiff,Nat.reduceBEq,Nat.reduceLeDiff,reduceCtorEq,↓reduceIte]
   |false=>
    refine zz ?_;refine⟨l.length-(k+1),_,oM,Wk.less ?_,k+1,oM,rfl,rfl⟩;simp only[Bool.false_eq_true,if_true,if_false]at hs;simp only[go_sem,hs,wrap64s k oM,Nat.reduceAdd,Nat.reduceEqDiff,Nat.reduceBEq,Nat.reduceLeDiff,reduceCtorEq,↓reduceIte]
  ·have hd:=dF hlt;obtain rfl:k=l.length:=oM;refine zz5 ?_;rfl
theorem ext_run{P:Program}{f:Nat}{fn:Func}{e:Array Value→Sem Value}(hf:P.funcs[f]? =some fn)(hname:(fn.name== "runtime.NumGoroutine")=false)(hb:fn.body.isNone=true)
  (hn:(Extern.findNext fn).isNone=true)(he:Extern.find fn=some e){vs:Array Value}{w w':World}{u:Value}(hr:(e vs).run P w=.ok u w'):(callFunc f vs).run P w=.ok (.value u) w':=by
 have hn':Extern.findNext fn=none:=sX hn;have hb':fn.body=none:=sX hb;have hname':fn.name≠ "runtime.NumGoroutine" :=sX hname;simp[callFunc,hf,hname',hb',hn',he,hr]
def cmpS(a b:Str):Int:=Extern.BytealgCompare.cmp ⟨a.toArray⟩ ⟨b.toArray⟩
theorem cmpS_range(a b:Str):cmpS a b= -1∨cmpS a b=0∨cmpS a b=1:=by
 unfold cmpS Extern.BytealgCompare.cmp;split
 ·split<;>simp
 ·split
  ·simp
  ·split<;>simp
theorem ext439(a b:Str):CT 439 [.d (.str a),.d (.str b)] [] (.d (.int .i64 (cmpS a b))) []:=by
 intro β A w H vs _ hc hvs;refine .inr ⟨.int .i64 (cmpS a b),w,?_,β,A,Stp.refl hc,.d _ _ (.int _ _ ?_)⟩
 ·obtain⟨hl,hv⟩:=hvs;have h2:vs.size=2:=sX hl.symm;obtain⟨x,y,rfl⟩:∃x y,vs=#[x,y]:=by
   refine⟨vs[0],vs[1],?_⟩;apply Array.ext
   ·simp[h2]
   ·intro i h1 h2';have:i=0∨i=1:=oM;rcases this with rfl|rfl<;>rfl
  have hx:=(hv 0 _ x rfl rfl).of_d;have hy:=(hv 1 _ y rfl rfl).of_d;cases hx;cases hy;refine ext_run (e:=Extern.BytealgCompare.compare) Tryz.func439 kR kR kR kR ?_;rfl
 ·rcases cmpS_range a b with h|h|h<;>rw[h]<;>decide
mutual
def okV:Val→Prop
 |.mk _ _ _ _ l f=>l.length≤68719476736∧f.length≤68719476736∧okVs l∧okFs f
def okVs:List Val→Prop
 |[]=>True
 |v::r=>okV v∧okVs r
def okF:Fld→Prop
 |.mk _ v=>okV v
def okFs:List Fld→Prop
 |[]=>True
 |v::r=>okF v∧okFs r
end
theorem step264(a:Val)(ha:a.list.length≤68719476736)(ha2:a.fields.length≤68719476736)(h1:∀x∈a.list,CT 264 [.d (encV x)] [] (.d (encV x)) [])(h2:∀x∈a.fields,CT 264 [.d (encV x.value)] [] (.d (encV x.value)) []):
  PT 264 [encV a] (.d (encV a)):=by
 refine ok264.pc ?_;rw[encV_eq];simp only[go_sem,ir264,simprocAttr];refine wpc_loop (fun n s=>∃k:Nat,k≤a.list.length∧n=a.list.length-k∧
  s=⟨[(1,.ref 1 0),(2,.ref 2 0),(3,.ref 3 0),(12,.d (.list 6 (a.list.map encV))),(13,.d (.int .i64 a.list.length)),(14,.d (.int .i64 k))],
   [(1,.box [.d (.int .i64 a.kind),.d (.int .i64 a.int),.d (.int .i64 a.scale),.d (.str a.text),.d (.list 6 (a.list.map encV)),.d (.list 7 (a.fields.map encF))]),
    (2,.box [.d (.int .i64 0),.d (.int .i64 0),.d (.int .i64 0),.d (.str []),.d (.nil 6),.d (.nil 7)]),
    (3,.box [.d (.int .i64 a.kind),.d (.int .i64 a.int),.d (.int .i64 a.scale),.d (.str a.text),.ms 23 k,.d (.nil 7)]),
    (23,.row k 6 ((a.list.take k).map encV))]⟩) ?_ ?_
 ·refine⟨_,_,Wk.nilB 3 4 23 6 _ rfl rfl rfl dC,0,Nat.zero_le _,rfl,?_⟩;simp[put]
 ·rintro n s ⟨k,hk,rfl,rfl⟩;by_cases hlt:k<a.list.length
  ·have hx:=nth_encV hlt;have hd:=dT hlt;refine zz20 ?_;have hc:=h1 a.list[k] (List.getElem_mem _);rw[encV_eq]at hc;refine⟨sO,wpsL_call rfl hc trivial ?_⟩;refine zz ?_;refine⟨sP,sO,rfl,a.list.length-(k+1),_,oM,Wk.less ?_,k+1,oM,rfl,rfl⟩;rw[List.take_succ_eq_append_getElem hlt,List.map_append];simp only[go_sem,wrap64s k oM,List.map_cons,List.map_nil,encV_eq a.list[k],Nat.reduceAdd,Nat.reduceEqDiff,Nat.reduceBEq,Nat.reduceLeDiff,reduceCtorEq,↓reduceIte]
  ·have hd:=dF hlt;obtain rfl:k=a.list.length:=oM;refine zz21 ?_;refine wpc_loop (fun n s=>∃k:Nat,k≤a.fields.length∧n=a.fields.length-k∧
    s=⟨[(2,.ref 2 0),(3,.ref 3 0),(27,.d (.list 7 (a.fields.map encF))),(28,.d (.int .i64 a.fields.length)),(29,.d (.int .i64 k))],
     [(2,.box [.d (.int .i64 0),.d (.int .i64 0),.d (.int .i64 0),.d (.str []),.d (.nil 6),.d (.nil 7)]),
      (3,.box [.d (.int .i64 a.kind),.d (.int .i64 a.int),.d (.int .i64 a.scale),.d (.str a.text),.ms 23 a.list.length,.ms 42 k]),
      (23,.row a.list.length 6 (a.list.map encV)),
      (42,.row k 7 ((a.fields.take k).map encF))]⟩) ?_ ?_
   ·refine⟨_,_,(Wk.nilB 3 5 42 7 _ rfl rfl rfl dC).trans (Wk.less ?_),0,Nat.zero_le _,rfl,rfl⟩;simp[put,go_sem]
   ·rintro n s ⟨k,hk,rfl,rfl⟩;by_cases hlt:k<a.fields.length
    ·have hx:=nth_encF hlt;have hd:=dT hlt;have hc:=h2 a.fields[k] (List.getElem_mem _);rw[encV_eq]at hc;refine zz20 ?_;refine⟨sO,wpsL_call rfl hc trivial ?_⟩;refine zz ?_;refine⟨sP,sO,rfl,a.fields.length-(k+1),_,oM,Wk.less ?_,k+1,oM,rfl,rfl⟩;rw[List.take_succ_eq_append_getElem hlt,List.map_append];simp only[go_sem,wrap64s k oM,List.map_cons,List.map_nil,encF_eq a.fields[k],Nat.reduceAdd,Nat.reduceEqDiff,Nat.reduceBEq,Nat.reduceLeDiff,reduceCtorEq,↓reduceIte]
    ·have hd:=dF hlt;obtain rfl:k=a.fields.length:=oM;exact zz21 trivial
mutual
theorem walk264:∀(a:Val),okV a→PT 264 [encV a] (.d (encV a))
 |.mk k i s t l f,ha=>by
  simp only[okV]at ha;obtain⟨a1,a2,a3,a4⟩:=ha;exact step264 _ a1 a2 (fun x hx=>(walk264s l a3 x hx).call trivial) (fun x hx=>(walk264f f a4 x hx).call trivial)
theorem walk264s:∀(l:List Val),okVs l→∀x∈l,PT 264 [encV x] (.d (encV x))
 |[],_,x,h=>by cases h
 |v::r,ho,x,h=>by
  simp only[okVs]at ho;by_cases e:x=v
  ·rw[e];exact walk264 v ho.1
  ·exact walk264s r ho.2 x ((List.mem_cons.1 h).resolve_left e)
theorem walk264f:∀(l:List Fld),okFs l→∀x∈l,PT 264 [encV x.value] (.d (encV x.value))
 |[],_,x,h=>by cases h
 |.mk n v::r,ho,x,h=>by
  simp only[okFs,okF]at ho;by_cases e:x=.mk n v
  ·rw[e];exact walk264 v ho.1
  ·exact walk264f r ho.2 x ((List.mem_cons.1 h).resolve_left e)
end
end Go.Proofs
namespace Go.Proofs
open Go Av
variable {g:Nat}
theorem fits_V3z{v:Val}(h:fits (encV v)):v.text.length≤68719476736∧v.list.length≤68719476736∧v.fields.length≤68719476736:=by
 rw[encV_eq]at h;simp only[fits,fitsL,List.length_map,and_true]at h;exact⟨h.2.2.2.1,h.2.2.2.2.1.1,h.2.2.2.2.2.1⟩
mutual
theorem okV_fitZ:∀v:Val,fits (encV v)→okV v
 |.mk k i s t l f,h=>by
  have h':l.length≤68719476736∧f.length≤68719476736:=(fits_V3z h).2;rw[encV_eq]at h;simp only[fits,fitsL,and_true,Val.list,Val.fields]at h;simp only[okV];exact⟨h'.1,h'.2,okVs_fitZ l fun x hx=>fitsL_iff.1 h.2.2.2.2.1.2 _ (List.mem_map.2 ⟨x,hx,rfl⟩),okFs_fitZ f fun x hx=>fitsL_iff.1 h.2.2.2.2.2.2 _ (List.mem_map.2 ⟨x,hx,rfl⟩)⟩
theorem okVs_fitZ:∀l:List Val,(∀x∈l,fits (encV x))→okVs l
 |[],_=>by simp[okVs]
 |v::r,h=>by
  simp only[okVs];exact⟨okV_fitZ v (h v (List.mem_cons_self)),okVs_fitZ r fun x hx=>h x (List.mem_cons_of_mem _ hx)⟩
theorem okFs_fitZ:∀l:List Fld,(∀x∈l,fits (encF x))→okFs l
 |[],_=>by simp[okFs]
 |.mk n v::r,h=>by
  have h1:=h (.mk n v) (List.mem_cons_self);rw[encF_eq]at h1;have h2:fits (encV v):=by
   rw[encV_eq];simp only[fits,fitsL,and_true,Fld.value]at h1⊢;exact h1.2
  simp only[okFs];exact⟨okV_fitZ v h2,okFs_fitZ r fun x hx=>h x (List.mem_cons_of_mem _ hx)⟩
end
theorem q70(a:Val):PT 264 [encV a] (.d (encV a)):=PCon.of_fits ok264.has fun h=>walk264 a (okV_fitZ a (h _ (List.mem_cons_self)))
theorem fits_Ex{e:Exp}(h:fits (encE e)):e.text.length≤68719476736∧e.value.length≤68719476736∧e.args.length≤68719476736∧∀x∈e.args,fits (encE x):=by
 rw[encE_eq]at h;simp only[fits,fitsL,List.length_map,and_true]at h;obtain⟨_,_,h1,⟨h2,h3⟩,h4,h5⟩:=h;exact⟨h1,h2,h4,fun x hx=>fitsL_iff.1 h5 _ (List.mem_map.2 ⟨x,hx,rfl⟩)⟩
theorem nth_encE{xs:List Exp}{k:Nat}(h:k<xs.length):nth (xs.map encE) k=.agg [.int .i64 xs[k].op,.int .i64 xs[k].int,.str xs[k].text,.list 6 (xs[k].value.map encV),.list 5 (xs[k].args.map encE)]:=by
 rw[nth_map encE h,encE_eq]
theorem step232(a:Exp)(ha:a.value.length≤68719476736)(ha2:a.args.length≤68719476736)(h1:∀x∈a.value,CT 264 [.d (encV x)] [] (.d (encV x)) [])(h2:∀x∈a.args,CT 232 [.d (encE x)] [] (.d (encE x)) []):
  PT 232 [encE a] (.d (encE a)):=by
 refine ok232.pc ?_;rw[encE_eq];simp only[go_sem,ir232,simprocAttr];refine wpc_loop (fun n s=>∃k:Nat,k≤a.value.length∧n=a.value.length-k∧
  s=⟨[(1,.ref 1 0),(2,.ref 2 0),(3,.ref 3 0),(16,.d (.list 6 (a.value.map encV))),(17,.d (.int .i64 a.value.length)),(18,.d (.int .i64 k))],
   [(1,.box [.d (.int .i64 a.op),.d (.int .i64 a.int),.d (.str a.text),.d (.list 6 (a.value.map encV)),.d (.list 5 (a.args.map encE))]),
    (2,.box [.d (.int .i64 0),.d (.int .i64 0),.d (.str []),.d (.nil 6),.d (.nil 5)]),
    (3,.box [.d (.int .i64 a.op),.d (.int .i64 a.int),.d (.str a.text),.ms 27 k,.d (.nil 5)]),
    (27,.row k 6 ((a.value.take k).map encV))]⟩) ?_ ?_
 ·refine⟨_,_,Wk.nilB 3 3 27 6 _ rfl rfl rfl dC,0,Nat.zero_le _,rfl,?_⟩;simp[put]
 ·rintro n s ⟨k,hk,rfl,rfl⟩;by_cases hlt:k<a.value.length
  ·have hx:=nth_encV hlt;have hd:=dT hlt;refine zz20 ?_;have hc:=h1 a.value[k] (List.getElem_mem _);rw[encV_eq]at hc;refine⟨sO,wpsL_call rfl hc trivial ?_⟩;refine zz ?_;refine⟨sP,sO,rfl,a.value.length-(k+1),_,oM,Wk.less ?_,k+1,oM,rfl,rfl⟩;rw[List.take_succ_eq_append_getElem hlt,List.map_append];simp only[go_sem,wrap64s k oM,List.map_cons,List.map_nil,encV_eq a.value[k],Nat.reduceAdd,Nat.reduceEqDiff,Nat.reduceBEq,Nat.reduceLeDiff,reduceCtorEq,↓reduceIte]
  ·have hd:=dF hlt;obtain rfl:k=a.value.length:=oM;refine zz21 ?_;refine wpc_loop (fun n s=>∃k:Nat,k≤a.args.length∧n=a.args.length-k∧
    s=⟨[(2,.ref 2 0),(3,.ref 3 0),(31,.d (.list 5 (a.args.map encE))),(32,.d (.int .i64 a.args.length)),(33,.d (.int .i64 k))],
     [(2,.box [.d (.int .i64 0),.d (.int .i64 0),.d (.str []),.d (.nil 6),.d (.nil 5)]),
      (3,.box [.d (.int .i64 a.op),.d (.int .i64 a.int),.d (.str a.text),.ms 27 a.value.length,.ms 42 k]),
      (27,.row a.value.length 6 (a.value.map encV)),
      (42,.row k 5 ((a.args.take k).map encE))]⟩) ?_ ?_
   ·refine⟨_,_,(Wk.nilB 3 4 42 5 _ rfl rfl rfl dC).trans (Wk.less ?_),0,Nat.zero_le _,rfl,rfl⟩;simp[put,go_sem]
   ·rintro n s ⟨k,hk,rfl,rfl⟩;by_cases hlt:k<a.args.length
    ·have hx:=nth_encE hlt;have hd:=dT hlt;have hc:=h2 a.args[k] (List.getElem_mem _);rw[encE_eq]at hc;refine zz20 ?_;refine⟨sO,wpsL_call rfl hc trivial ?_⟩;refine zz ?_;refine⟨sP,sO,rfl,a.args.length-(k+1),_,oM,Wk.less ?_,k+1,oM,rfl,rfl⟩;rw[List.take_succ_eq_append_getElem hlt,List.map_append];simp only[go_sem,wrap64s k oM,List.map_cons,List.map_nil,encE_eq a.args[k],Nat.reduceAdd,Nat.reduceEqDiff,Nat.reduceBEq,Nat.reduceLeDiff,reduceCtorEq,↓reduceIte]
    ·have hd:=dF hlt;obtain rfl:k=a.args.length:=oM;exact zz21 trivial
mutual
theorem p232:∀(a:Exp),PT 232 [encE a] (.d (encE a))
 |.mk o i t v r=>PCon.of_fits ok232.has fun hf=>by
  obtain⟨_,f2,f3,_⟩:=fits_Ex (hf _ (List.mem_singleton.2 rfl));exact step232 _ f2 f3 (fun x _=>(q70 x).call trivial) (fun x hx=>(p232s r x hx).call trivial)
theorem p232s:∀(l:List Exp),∀x∈l,PT 232 [encE x] (.d (encE x))
 |[],x,h=>by cases h
 |v::r,x,h=>by
  by_cases e:x=v
  ·rw[e];exact p232 v
  ·exact p232s r x ((List.mem_cons.1 h).resolve_left e)
end
def encMp(m:List Rule):Dat:=.agg [.list 6 (m.map encR)]
theorem p233(m:List Rule):PT 233 [encMp m] (.d (encMp m)):=by
 refine PCon.of_fits ok233.has fun hfit=>?_
 have hml:m.length≤68719476736:=by have:=hfit _ (List.mem_cons_self);simp only[encMp,fits,fitsL,List.length_map]at this;exact this.1.1
 refine ok233.pc ?_;simp only[go_sem,ir233,encMp,List.length_map,simprocAttr];refine⟨oM,wpc_loop (fun n s=>∃k:Nat,k≤m.length∧n=m.length-k∧
  s=⟨[(2,.ref 2 0),(3,.ms 9 k),(11,.d (.list 6 (m.map encR))),(12,.d (.int .i64 m.length)),(13,.d (.int .i64 k))],
   [(2,.box [.d (.nil 6)]),(9,.row k 6 ((m.take k).map encR))]⟩) ?_ ?_⟩
 ·refine⟨_,_,Wk.less ?_,0,Nat.zero_le _,rfl,rfl⟩;simp[go_sem]
 ·rintro n s ⟨k,hk,rfl,rfl⟩;by_cases hlt:k<m.length
  ·have hx:=nth_map encR hlt;have hd:=dT hlt;have hc:=(p232 m[k].expr).call trivial;rw[encE_eq]at hc;simp only[encR]at hx;refine zz6 ?_;refine⟨oM,wpsL_call rfl hc trivial ?_⟩;refine zz ?_;refine⟨sP,sO,rfl,m.length-(k+1),_,oM,Wk.less ?_,k+1,oM,rfl,rfl⟩;rw[List.take_succ_eq_append_getElem hlt,List.map_append];simp only[go_sem,wrap64s k oM,List.map_cons,List.map_nil,encR,simprocAttr]
  ·have hd:=dF hlt;obtain rfl:k=m.length:=oM;exact zz14 trivial
theorem walk231(l:List Exp)(hg:∀x∈l,PT g [encE x] (.d (encE x))):PT 231 [.list 5 (l.map encE),.fn (.func g) [] []] (.d (.list 5 (l.map encE))):=by
 refine PCon.of_fits ok231.has fun hfit=>?_
 have hl:l.length≤68719476736:=by have:=(hfit _ (List.mem_cons_self)).1;simpa using this
 refine ok231.pc ?_;simp only[go_sem,ir231,List.length_map,simprocAttr];refine wpc_loop (fun n s=>∃k:Nat,k≤l.length∧n=l.length-k∧
  s=⟨[(1,.d (.fn (.func g) [] [])),(5,.ms 19 k),(8,.d (.list 5 (l.map encE))),(9,.d (.int .i64 l.length)),(10,.d (.int .i64 k))],[(19,.row k 5 ((l.take k).map encE))]⟩) ?_ ?_
 ·refine⟨_,_,(Wk.nilT 5 19 5 rfl rfl dC).trans (Wk.less ?_),0,Nat.zero_le _,rfl,rfl⟩;simp[put,go_sem]
 ·rintro n s ⟨k,hk,rfl,rfl⟩;by_cases hlt:k<l.length
  ·have hx:=nth_map encE hlt;have hd:=dT hlt;have hc:=(hg l[k] (List.getElem_mem _)).call trivial;simp only[encE_eq,List.map_cons,List.map_nil]at hc hx;refine zz6 ?_;refine⟨oM,wn hc ?_⟩;refine zz ?_;refine⟨sP,sO,l.length-(k+1),_,oM,Wk.less ?_,k+1,oM,rfl,rfl⟩;rw[List.take_succ_eq_append_getElem hlt,List.map_append];simp only[go_sem,wrap64s k oM,List.map_cons,List.map_nil,encE_eq,simprocAttr]
  ·have hd:=dF hlt;obtain rfl:k=l.length:=oM;exact zz21 trivial
theorem walk234(l:List Kal)(hg:∀x∈l,PT g [encCl x] (.d (encCl x))):PT 234 [.list 2 (l.map encCl),.fn (.func g) [] []] (.d (.list 2 (l.map encCl))):=by
 refine PCon.of_fits ok234.has fun hfit=>?_
 have hl:l.length≤68719476736:=by have:=(hfit _ (List.mem_cons_self)).1;simpa using this
 refine ok234.pc ?_;simp only[go_sem,ir234,List.length_map,simprocAttr];refine wpc_loop (fun n s=>∃k:Nat,k≤l.length∧n=l.length-k∧
  s=⟨[(1,.d (.fn (.func g) [] [])),(5,.ms 19 k),(8,.d (.list 2 (l.map encCl))),(9,.d (.int .i64 l.length)),(10,.d (.int .i64 k))],[(19,.row k 2 ((l.take k).map encCl))]⟩) ?_ ?_
 ·refine⟨_,_,(Wk.nilT 5 19 2 rfl rfl dC).trans (Wk.less ?_),0,Nat.zero_le _,rfl,rfl⟩;simp[put,go_sem]
 ·rintro n s ⟨k,hk,rfl,rfl⟩;by_cases hlt:k<l.length
  ·have hx:=nth_map encCl hlt;have hd:=dT hlt;have hc:=(hg l[k] (List.getElem_mem _)).call trivial;simp only[encCl,List.map_cons,List.map_nil]at hc hx;refine zz6 ?_;refine⟨oM,wn hc ?_⟩;refine zz ?_;refine⟨sP,sO,l.length-(k+1),_,oM,Wk.less ?_,k+1,oM,rfl,rfl⟩;rw[List.take_succ_eq_append_getElem hlt,List.map_append];simp only[go_sem,wrap64s k oM,List.map_cons,List.map_nil,encCl,simprocAttr]
  ·have hd:=dF hlt;obtain rfl:k=l.length:=oM;exact zz21 trivial
theorem walk236(l:List Brn)(hg:∀x∈l,PT g [encB x] (.d (encB x))):PT 236 [.list 2 (l.map encB),.fn (.func g) [] []] (.d (.list 2 (l.map encB))):=by
 refine PCon.of_fits ok236.has fun hfit=>?_
 have hl:l.length≤68719476736:=by have:=(hfit _ (List.mem_cons_self)).1;simpa using this
 refine ok236.pc ?_;simp only[go_sem,ir236,List.length_map,simprocAttr];refine wpc_loop (fun n s=>∃k:Nat,k≤l.length∧n=l.length-k∧
  s=⟨[(1,.d (.fn (.func g) [] [])),(5,.ms 19 k),(8,.d (.list 2 (l.map encB))),(9,.d (.int .i64 l.length)),(10,.d (.int .i64 k))],[(19,.row k 2 ((l.take k).map encB))]⟩) ?_ ?_
 ·refine⟨_,_,(Wk.nilT 5 19 2 rfl rfl dC).trans (Wk.less ?_),0,Nat.zero_le _,rfl,rfl⟩;simp[put,go_sem]
 ·rintro n s ⟨k,hk,rfl,rfl⟩;by_cases hlt:k<l.length
  ·have hx:=nth_map encB hlt;have hd:=dT hlt;have hc:=(hg l[k] (List.getElem_mem _)).call trivial;simp only[encB_eq,List.map_cons,List.map_nil]at hc hx;refine zz6 ?_;refine⟨oM,wn hc ?_⟩;refine zz ?_;refine⟨sP,sO,l.length-(k+1),_,oM,Wk.less ?_,k+1,oM,rfl,rfl⟩;rw[List.take_succ_eq_append_getElem hlt,List.map_append];simp only[go_sem,wrap64s k oM,List.map_cons,List.map_nil,encB_eq,simprocAttr]
  ·have hd:=dF hlt;obtain rfl:k=l.length:=oM;exact zz21 trivial
theorem walk238(l:List Ste)(hg:∀x∈l,PT g [encSt x] (.d (encSt x))):PT 238 [.list 11 (l.map encSt),.fn (.func g) [] []] (.d (.list 11 (l.map encSt))):=by
 refine PCon.of_fits ok238.has fun hfit=>?_
 have hl:l.length≤68719476736:=by have:=(hfit _ (List.mem_cons_self)).1;simpa using this
 refine ok238.pc ?_;simp only[go_sem,ir238,List.length_map,simprocAttr];refine wpc_loop (fun n s=>∃k:Nat,k≤l.length∧n=l.length-k∧
  s=⟨[(1,.d (.fn (.func g) [] [])),(5,.ms 19 k),(8,.d (.list 11 (l.map encSt))),(9,.d (.int .i64 l.length)),(10,.d (.int .i64 k))],[(19,.row k 11 ((l.take k).map encSt))]⟩) ?_ ?_
 ·refine⟨_,_,(Wk.nilT 5 19 11 rfl rfl dC).trans (Wk.less ?_),0,Nat.zero_le _,rfl,rfl⟩;simp[put,go_sem]
 ·rintro n s ⟨k,hk,rfl,rfl⟩;by_cases hlt:k<l.length
  ·have hx:=nth_map encSt hlt;have hd:=dT hlt;have hc:=(hg l[k] (List.getElem_mem _)).call trivial;simp only[encSt_eq,List.map_cons,List.map_nil]at hc hx;refine zz6 ?_;refine⟨oM,wn hc ?_⟩;refine zz ?_;refine⟨sP,sO,l.length-(k+1),_,oM,Wk.less ?_,k+1,oM,rfl,rfl⟩;rw[List.take_succ_eq_append_getElem hlt,List.map_append];simp only[go_sem,wrap64s k oM,List.map_cons,List.map_nil,encSt_eq,simprocAttr]
  ·have hd:=dF hlt;obtain rfl:k=l.length:=oM;exact zz21 trivial
theorem p235(c:Kal):PT 235 [encCl c] (.d (encCl c)):=by
 refine ok235.pc ?_;have hc:=(p233 c.rules).call trivial;simp only[encMp,List.map_cons,List.map_nil]at hc;simp only[go_sem,ir235,encCl,simprocAttr];refine wc hc trivial
theorem step237(b:Brn)(h:∀x∈b.steps,PT 184 [encSt x] (.d (encSt x))):PT 237 [encB b] (.d (encB b)):=by
 refine ok237.pc ?_;have h1:=(walk231 b.cond fun x _=>p232 x).call trivial;have h2:=(walk238 b.steps h).call trivial;rw[encB_eq];simp only[go_sem,ir237,simprocAttr];refine wpsL_call rfl h1 trivial ?_;refine zz ?_;refine wpsL_call rfl h2 trivial ?_;refine zz ?_;rfl
theorem step184(s:Ste)(h:∀b∈s.branches,PT 237 [encB b] (.d (encB b))):PT 184 [encSt s] (.d (encSt s)):=by
 refine ok184.pc ?_;have h1:=(walk231 s.exprs fun x _=>p232 x).call trivial;have h2:=(p233 s.rules).call trivial;have h3:=(walk234 s.calls fun x _=>p235 x).call trivial;have h4:=(walk236 s.branches h).call trivial;simp only[encMp,List.map_cons,List.map_nil]at h2;rw[encSt_eq];simp only[go_sem,ir184,simprocAttr];refine wc h1 ?_;refine wc h2 ?_;refine wc h3 ?_;refine wc h4 trivial
mutual
theorem p184:∀(s:Ste),PT 184 [encSt s] (.d (encSt s))
 |.mk n k u t l x c e r a b=>step184 _ (p237s b)
theorem p184s:∀(l:List Ste),∀x∈l,PT 184 [encSt x] (.d (encSt x))
 |[],x,h=>by cases h
 |v::r,x,h=>by
  by_cases e:x=v
  ·rw[e];exact p184 v
  ·exact p184s r x ((List.mem_cons.1 h).resolve_left e)
theorem p237:∀(b:Brn),PT 237 [encB b] (.d (encB b))
 |.mk w s=>step237 _ (p184s s)
theorem p237s:∀(l:List Brn),∀x∈l,PT 237 [encB x] (.d (encB x))
 |[],x,h=>by cases h
 |v::r,x,h=>by
  by_cases e:x=v
  ·rw[e];exact p237 v
  ·exact p237s r x ((List.mem_cons.1 h).resolve_left e)
end
end Go.Proofs
namespace Av
open Go
variable [Glb][Rls]
section
variable {β:Blocks}{A:Nat→Prop}{w:World}{H:Heap}{D:Nat→Prop}
theorem Stp.boxSee(hc:Core β A w H){b:Nat}{cs cs':List Av}(hb:H b=some (.box cs))(hl:cs'.length=cs.length)
  (h:∀(i:Nat) c c' u,cs[i]? =some c→cs'[i]? =some c'→VRep β A w H c u→VRep β A w H c' u):Stp β A w H β A w (upd H b (some (.box cs'))):=by
 obtain⟨bb,C,T,e1,e2,e3,e4,e5⟩:=hc.objs b _ hb;have hset:w.setRow bb C=w:=setRow_same e2;have hst2:=Stp.boxSet (cs':=cs') (C':=C) hc hb e1 e2 oM e4 (fun hall i c' v hc' hv'=>by
  have hlt:i<cs.length:=by have:=(List.getElem?_eq_some_iff.1 hc').1;omega
  exact hall _ _ (h i _ c' v (List.getElem?_eq_getElem hlt) hc' (e5 i _ v (List.getElem?_eq_getElem hlt) hv')))
 rw[hset]at hst2;exact hst2
end
theorem set_see{α:Type}{cs:List α}{j:Nat}{x y:α}(hj:cs[j]? =some x){i:Nat}{c c':α}(h1:cs[i]? =some c)(h2:(cs.set j y)[i]? =some c'):(i=j∧c=x∧c'=y)∨c'=c:=by
 rw[List.getElem?_set]at h2;split at h2
 ·rename_i e;subst e;split at h2
  ·cases h2;rw[hj]at h1;cases h1;exact .inl ⟨rfl,rfl,rfl⟩
  ·cases h2
 ·rw[h1]at h2;cases h2;exact .inr rfl
theorem Wk.subB{D:Nat→Prop}{st:St}(b j i ver sz:Nat)(xs:List Dat)(cs:List Av)(hb:get st.hp b=some (.box cs))(hj:cs[j]? =some (.ms i ver))(hi:get st.hp i=some (.row ver sz xs)):
  Wk D st ⟨st.tm,put st.hp b (.box (cs.set j (.sub i ver 0 xs.length)))⟩:=by
 refine Wk.of_stp fun β A w a hc htr=>?_
 have hst:=Stp.boxSee (cs':=cs.set j (.sub i ver 0 xs.length)) hc hb sP (fun n c c' u h1 h2 hv=>by
  rcases set_see hj h1 h2 with⟨_,rfl,rfl⟩|rfl
  ·exact hv.sub_of_ms hi
  ·exact hv)
 have e:get (put st.hp b (.box (cs.set j (.sub i ver 0 xs.length))))=upd (get st.hp) b (some (.box (cs.set j (.sub i ver 0 xs.length)))):=by
  funext m;rw[get_put];unfold upd;split<;>rfl
 refine⟨β,A,?_,?_⟩
 ·rw[e];exact hst
 ·rw[e];intro t v hv;obtain⟨u,q1,q2⟩:=htr t v hv;exact⟨u,q1,hst.vals _ _ q2⟩
theorem CallOK.frzBox{P:Program}{f:Cee}{args:List Av}{v:Av}{ups:List (Nat×Obj)}{T:List (Nat×Option Obj)}{i k sz j ver:Nat}{cs:List Av}{xs:List Dat}
  (h:CallOK P f args ((i,some (.box (cs.set j (.d (.list sz xs)))))::T) v ups)(hT:∀e∈T,e.1≠i∧e.1≠k)(hik:i≠k)(hj:cs[j]? =some (.ms k ver))
  (hui:(get ups i).isSome=true):CallOK P f args ((i,some (.box cs))::(k,some (.row ver sz xs))::T) v ((k,.frz ver sz xs)::ups):=by
 intro β A w H vs hT' hc hvs;have hi:H i=some (.box cs):=hT' (i,some (.box cs)) List.mem_cons_self;have hk:H k=some (.row ver sz xs):=hT' (k,_) (List.mem_cons_of_mem _ List.mem_cons_self);obtain⟨A1,hst1,hm⟩:∃A1,Stp β A w H β A1 w (upd H k (some (.frz ver sz xs)))∧∀n,A n→A1 n:=⟨_,Stp.freeze hc hk,fun _ h=>.inl h⟩;have hi1:upd H k (some (.frz ver sz xs)) i=some (.box cs):=by rw[upd_ne _ _ hik];exact hi
 have hst2:=Stp.boxSee (cs':=cs.set j (.d (.list sz xs))) hst1.core hi1 sP (fun n c c' u h1 h2 hv=>by
  rcases set_see hj h1 h2 with⟨_,rfl,rfl⟩|rfl
  ·cases hv with
   |ms _ _ _ hu h0 h1 h2=>exact .d _ _ (h2 sz xs (upd_same _ _ _))
  ·exact hv)
 have hst:=hst1.trans hst2;have hput:hputs (upd (upd H k (some (.frz ver sz xs))) i (some (.box (cs.set j (.d (.list sz xs)))))) ups=hputs H ((k,.frz ver sz xs)::ups):=by
  funext m;simp only[hputs];by_cases hm:(get ups m).isSome=true
  ·exact hputs_same ups _ _ m hm
  ·have hmi:m≠i:=fun e=>hm (e▸hui)
   rw[hputs_out ups _ m hm,hputs_out ups _ m hm,upd_ne _ _ hmi]
 have:=h β A1 w _ vs (fun e he=>?_) hst.core ⟨hvs.1,fun n c u h1 h2=>hst.vals c u (hvs.2 n c u h1 h2)⟩
 ·rw[hput]at this;cases f with
  |fn g=>
   rcases this with⟨a1,a2⟩|⟨u,w',a1,β',A',a2,a3⟩
   ·refine .inl ⟨a1,a2.mono ?_⟩;rintro e w' ⟨u,rfl,β',A',b1,b2⟩;exact⟨u,rfl,β',A',hst.trans b1,b2⟩
   ·exact .inr ⟨u,w',a1,β',A',hst.trans a2,a3⟩
  |yld=>
   obtain⟨l,rest,a1,fn,tmps,asg,body,a2,a3⟩:=this;refine⟨l,rest,a1,fn,tmps,asg,body,a2,a3.mono ?_⟩;rintro e w' ⟨u,rfl,β',A',b1,b2⟩;exact⟨u,rfl,β',A',hst.trans b1,b2⟩
 ·simp only[List.mem_cons]at he;rcases he with rfl|he
  ·exact upd_same _ _ _
  ·obtain⟨q1,q2⟩:=hT e he;rw[upd_ne _ _ q1,upd_ne _ _ q2];exact hT' e (List.mem_cons_of_mem _ (List.mem_cons_of_mem _ he))
end Av
namespace Go.Proofs
open Go Av
variable {d:Nat}
theorem con31(v:Nat)(a:Dat)(r:List Dat)(ha:a.canon=a)(hr:canonL r=r)(hl:r.length<68719476736)(h1:∀x∈a::r,x.cells.length=1):
  KT 31 [.ms 1000 v] [(1000,.row v 1 (a::r))] (.d (.list 1 (a::r))) []:=by
 refine ok31.con (k:=some false) (Nat.le_of_ble_eq_true rfl) (closed_of (by simp[closedH,objIn])) trivial ?_;simp only[go_sem,ir31,Nat.reduceAdd,Nat.reduceEqDiff,Nat.reduceBEq,Nat.reduceLeDiff,reduceCtorEq,↓reduceIte];exact⟨sP,⟨dC,oM,fun y hy=>h1 y hy⟩,by rw[ha,hr]⟩
theorem call31(i v:Nat)(a:Int)(p:List Int)(hl:p.length<68719476736):CT (.fn 31) [.ms i v] [(i,some (.row v 1 (.int .i64 a::p.map (.int .i64))))] (.d (.list 1 (.int .i64 a::p.map (.int .i64)))) []:=by
 have h:=con31 v (.int .i64 a) (p.map (.int .i64)) (by simp[Dat.canon]) (canonL_ints p) (sX hl) (fun x hx=>by
  rcases List.mem_cons.1 hx with rfl|hx
  ·rfl
  ·obtain⟨n,_,rfl⟩:=List.mem_map.1 hx;rfl)
 have:=h.call (fun _=>i) (fun j hj=>by simp only[Av.get]at hj;split at hj;omega;cases hj) (fun a b ha hb _=>by
   simp only[hputs,Av.get]at ha hb;split at ha
   ·split at hb
    ·omega
    ·cases hb
   ·cases ha) (by intro c hc;simp only[List.mem_singleton]at hc;subst hc;simp[idsIn,Av.get]) (closed_of (by simp[closedH,objIn])) [] sP (closed_puts (by simp[puts,put,closedH,objIn])) trivial
 simp[Av.ren,Obj.ren]at this;exact this
theorem con183(v w:Nat)(r a:Int)(p:List Int)(s:Ste)(outs:List Wlk)(hl:p.length<68719476736)(hw:outs.length<68719476736):
  KT 183 [.ms 1006 v,.d (.ptr (encSt s).cells),.ref 1004 0,.ref 1005 0] [(1004,.box [.ms 1007 w]),(1005,.box [.d (.int .i64 r)]),(1006,.row v 1 (.int .i64 a::p.map (.int .i64))),(1007,.row w 13 (outs.map encWk))] (.tup [])
   [(1004,.box [.ms 1007 (w+1)]),(1007,.row (w+1) 13 ((outs++[Wlk.mk r (a::p) s]).map encWk))]:=by
 refine ok183.con (k:=some false) (Nat.le_of_ble_eq_true rfl) (closed_puts (by simp[puts,put,closedH,objIn,idsInL,idsIn,Av.get])) trivial ?_;have h1:=call31 1006 v a p hl;have h2:=(p184 s).call trivial;rw[encSt_eq]at h2⊢;simp only[go_sem,ir183,simprocAttr];refine wpsL_call rfl h1 ⟨rfl,trivial⟩ ?_;refine zz ?_;refine wpsL_call rfl h2 trivial ?_;simp only[go_sem,List.map_append,encWk,simprocAttr];exact⟨sP,sO,rfl⟩
abbrev PO:=Nat×List Int×List Wlk
mutual
def visS(r:Int):Ste→Int→Nat→PO→PO
 |.mk n k u t l x c e ru a b,i,d,s=>visBs r b 0 (d+1) (s.1+1,s.2.1.take d++[i],s.2.2++[Wlk.mk r (s.2.1.take d++[i]) (.mk n k u t l x c e ru a b)])
def visSs(r:Int):List Ste→Int→Nat→PO→PO
 |[],_,_,s=>s
 |x::y,i,d,s=>visSs r y (i+1) d (visS r x i d s)
def visB(r:Int):Brn→Int→Nat→PO→PO
 |.mk w l,b,d,s=>visSs r l 0 (d+1) (s.1+1,s.2.1.take d++[b],s.2.2)
def visBs(r:Int):List Brn→Int→Nat→PO→PO
 |[],_,_,s=>s
 |x::y,i,d,s=>visBs r y (i+1) d (visB r x i d s)
end
theorem visS_eq(r:Int)(x:Ste)(i:Int)(d:Nat)(s:PO):visS r x i d s=visBs r x.branches 0 (d+1) (s.1+1,s.2.1.take d++[i],s.2.2++[Wlk.mk r (s.2.1.take d++[i]) x]):=by
 cases x;simp only[visS,Ste.branches]
theorem visB_eq(r:Int)(x:Brn)(i:Int)(d:Nat)(s:PO):visB r x i d s=visSs r x.steps 0 (d+1) (s.1+1,s.2.1.take d++[i],s.2.2):=by
 cases x;simp only[visB,Brn.steps]
def PKeep(d:Nat)(s t:PO):Prop:=d≤t.2.1.length∧t.2.1.take d=s.2.1.take d
theorem PKeep.refl{s:PO}(h:d≤s.2.1.length):PKeep d s s:=⟨h,rfl⟩
theorem PKeep.trans{s t u:PO}(h1:PKeep d s t)(h2:PKeep d t u):PKeep d s u:=⟨h2.1,h2.2.trans h1.2⟩
theorem PKeep.less{s t:PO}{i:Int}{v:Nat}{o:List Wlk}(hd:d≤s.2.1.length)(h:PKeep (d+1) (v,s.2.1.take d++[i],o) t):PKeep d s t:=by
 obtain⟨h1,h2⟩:=h;refine⟨oM,?_⟩;have h3:=congrArg (List.take d) h2;rw[List.take_take,List.take_take]at h3;have e:min d (d+1)=d:=oM;rw[e]at h3;simp only[]at h3;rw[h3,List.take_append_of_le_length sO,List.take_take,Nat.min_self]
mutual
theorem visS_keep(r:Int):∀(x:Ste) (i:Int) (d:Nat) (s:PO),d≤s.2.1.length→PKeep d s (visS r x i d s)
 |.mk n k u t l x c e ru a b,i,d,s,h=>by
  rw[visS];exact PKeep.less h (visBs_keep r b 0 (d+1) _ sO)
theorem visSs_keep(r:Int):∀(x:List Ste) (i:Int) (d:Nat) (s:PO),d≤s.2.1.length→PKeep d s (visSs r x i d s)
 |[],_,_,s,h=>.refl h
 |x::y,i,d,s,h=>(visS_keep r x i d s h).trans (visSs_keep r y (i+1) d _ (visS_keep r x i d s h).1)
theorem visB_keep(r:Int):∀(x:Brn) (i:Int) (d:Nat) (s:PO),d≤s.2.1.length→PKeep d s (visB r x i d s)
 |.mk w l,i,d,s,h=>by
  rw[visB];exact PKeep.less h (visSs_keep r l 0 (d+1) _ sO)
theorem visBs_keep(r:Int):∀(x:List Brn) (i:Int) (d:Nat) (s:PO),d≤s.2.1.length→PKeep d s (visBs r x i d s)
 |[],_,_,s,h=>.refl h
 |x::y,i,d,s,h=>(visB_keep r x i d s h).trans (visBs_keep r y (i+1) d _ (visB_keep r x i d s h).1)
end
mutual
theorem visS_len(r:Int):∀(x:Ste) (i:Int) (d:Nat) (s:PO),(visS r x i d s).2.2.length≤s.2.2.length+szS x
 |.mk n k u t l x c e ru a b,i,d,s=>by
  rw[visS,szS];have:=visBs_len r b 0 (d+1) (s.1+1,s.2.1.take d++[i],s.2.2++[Wlk.mk r (s.2.1.take d++[i]) (.mk n k u t l x c e ru a b)]);simp only[List.length_append,List.length_cons,List.length_nil]at this;omega
theorem visSs_len(r:Int):∀(x:List Ste) (i:Int) (d:Nat) (s:PO),(visSs r x i d s).2.2.length≤s.2.2.length+szSs x
 |[],_,_,s=>by simp[visSs]
 |x::y,i,d,s=>by
  rw[visSs,szSs];have h1:=visS_len r x i d s;have h2:=visSs_len r y (i+1) d (visS r x i d s);omega
theorem visB_len(r:Int):∀(x:Brn) (i:Int) (d:Nat) (s:PO),(visB r x i d s).2.2.length≤s.2.2.length+szB x
 |.mk w l,i,d,s=>by
  rw[visB,szB];have:=visSs_len r l 0 (d+1) (s.1+1,s.2.1.take d++[i],s.2.2);simp only[]at this;omega
theorem visBs_len(r:Int):∀(x:List Brn) (i:Int) (d:Nat) (s:PO),(visBs r x i d s).2.2.length≤s.2.2.length+szBs x
 |[],_,_,s=>by simp[visBs]
 |x::y,i,d,s=>by
  rw[visBs,szBs];have h1:=visB_len r x i d s;have h2:=visBs_len r y (i+1) d (visB r x i d s);omega
end
abbrev TV8(r:Int)(c:Av)(v:Nat)(xs:List Int)(o:List Wlk):List (Nat×Av.Obj):=[(1001,.box [c]),(1002,.box [.clo (.func 183) [] [.ref 1004 0,.ref 1005 0]]),(1003,.box [.clo (.func 230) [] [.ref 1001 0,.ref 1002 0,.ref 1003 0]]),
 (1004,.box [.ms 1007 o.length]),(1005,.box [.d (.int .i64 r)]),(1006,.row v 1 (xs.map (.int .i64))),(1007,.row o.length 13 (o.map encWk))]
end Go.Proofs
namespace Go.Proofs
open Go Av
theorem rn_dat(ds:List Dat):renL (fun i=>i) (ds.map .d)=ds.map .d:=by
 induction ds with
 |nil=>rfl
 |cons x r ih=>simp[renL,Av.ren,ih]
theorem closed8(r:Int)(v v':Nat)(xs xs':List Int)(o o':List Wlk)(c:Av)(n:Nat)(hc:c=.ms 1006 n∨∃k,c=.sub 1006 n 0 k):closed (hputs (get (TV8 r (.ms 1006 v) v xs o)) (TV8 r c v' xs' o')):=by
 refine closed_puts ?_;rcases hc with rfl|⟨k,rfl⟩<;>simp[TV8,puts,put,closedH,objIn,idsInL,idsIn,idsInT,Av.get]
theorem TV8_dom{r:Int}{c:Av}{v:Nat}{xs:List Int}{o:List Wlk}{i:Nat}(h:(get (TV8 r c v xs o) i).isSome=true):1000≤i:=by
 simp only[TV8,Av.get]at h
 repeat' split at h
 all_goals first|(cases h;done)|omega
theorem nat_cast_sub(n:Nat)(h:0<n)(h2:n<9000000000000000000):IntKind.i64.wrap ((n:Int)-1)=((n-1:Nat):Int):=by
 rw[wrap64 oM oM];omega
theorem call183(v:Nat)(r:Int)(xs:List Int)(hx:0<xs.length)(s:Ste)(o:List Wlk)(c:Av)(hl:xs.length<68719476736)(hw:o.length<68719476736):
  CT (.fn 183) [.ms 1006 v,.d (.ptr (encSt s).cells),.ref 1004 0,.ref 1005 0] [(1004,some (.box [.ms 1007 o.length])),(1005,some (.box [.d (.int .i64 r)])),(1006,some (.row v 1 (xs.map (.int .i64)))),(1007,some (.row o.length 13 (o.map encWk)))] (.tup [])
   [(1004,.box [.ms 1007 (o.length+1)]),(1007,.row (o.length+1) 13 ((o++[Wlk.mk r xs s]).map encWk))]:=by
 match xs,hx with
 |a::p,_=>
  have:=(con183 v o.length r a p s o (by simp at hl;omega) hw).call (fun i=>i) (fun i hi=>by
   simp only[Av.get]at hi
   repeat' split at hi
   all_goals first|(cases hi;done)|omega) (fun i j _ _ h=>h) (by simp[idsIn,Av.get]) (closed_of (by simp[closedH,objIn,idsInL,idsIn,Av.get])) [] (by simp[Av.get]) (closed_puts (by simp[puts,put,closedH,objIn,idsInL,idsIn,Av.get])) trivial
  simp only[List.map_cons,List.map_nil,Obj.ren,Av.ren,renL,rn_dat,List.append_nil]at this⊢;exact this
def V340(r:Int)(l:List Ste):Prop:=∀(v:Nat) (xs:List Int) (o:List Wlk),xs.length+2*szSs l≤10000000000→o.length+szSs l≤10000000000→
 KT 230 [.d (.list 11 (l.map encSt)),.ref 1001 0,.ref 1002 0,.ref 1003 0] (TV8 r (.ms 1006 v) v xs o) (.tup [])
  (TV8 r (.sub 1006 (visSs r l 0 xs.length (v,xs,o)).1 0 xs.length) (visSs r l 0 xs.length (v,xs,o)).1 (visSs r l 0 xs.length (v,xs,o)).2.1 (visSs r l 0 xs.length (v,xs,o)).2.2)
theorem call230{r:Int}{l:List Ste}(h:V340 r l)(v:Nat)(xs:List Int)(o:List Wlk)(h1:xs.length+2*szSs l≤10000000000)(h2:o.length+szSs l≤10000000000):
  CT (.fn 230) [.d (.list 11 (l.map encSt)),.ref 1001 0,.ref 1002 0,.ref 1003 0] ((TV8 r (.ms 1006 v) v xs o).map fun x=>(x.1,some x.2)) (.tup [])
  (TV8 r (.sub 1006 (visSs r l 0 xs.length (v,xs,o)).1 0 xs.length) (visSs r l 0 xs.length (v,xs,o)).1 (visSs r l 0 xs.length (v,xs,o)).2.1 (visSs r l 0 xs.length (v,xs,o)).2.2):=by
 have:=(h v xs o h1 h2).call (fun i=>i) (fun i hi=>TV8_dom hi) (fun i j _ _ h=>h) (by simp[idsIn,Av.get]) (closed_of (by simp[closedH,objIn,idsInL,idsIn,idsInT,Av.get])) [] (by simp[Av.get]) (closed8 r v _ xs _ o _ _ _ (.inr ⟨_,rfl⟩)) trivial;simp only[TV8,List.map_cons,List.map_nil,Obj.ren,Av.ren,renL,rn_dat,List.append_nil]at this⊢;exact this
set_option maxHeartbeats 2000000 in
theorem step230(r:Int)(l:List Ste)(h:∀x∈l,∀b∈x.branches,V340 r b.steps):V340 r l:=by
 intro v xs o hx ho;refine Con.of_fits ok230.has fun hfit=>?_
 have hl:l.length≤68719476736:=by have:=(hfit (.list 11 (l.map encSt)) sP).1;simpa using this
 have hfs:∀x∈l,x.branches.length≤68719476736:=by
  intro x hxm;have:=fitsL_iff.1 (hfit (.list 11 (l.map encSt)) sP).2 _ (List.mem_map.2 ⟨x,hxm,rfl⟩);rw[encSt_eq]at this;simp only[fits,fitsL,List.length_map]at this;omega
 clear hfit;generalize hR:visSs r l 0 xs.length (v,xs,o)=R;refine ok230.con (k:=some false) (Nat.le_of_ble_eq_true rfl) (closed8 r v _ xs _ o _ _ _ (.inr ⟨_,rfl⟩)) trivial ?_;generalize hd:xs.length=d at*;simp only[TV8,go_sem,ir230,List.length_map,Nat.reduceAdd,Nat.reduceEqDiff,Nat.reduceBEq,Nat.reduceLeDiff,reduceCtorEq,↓reduceIte];refine wpc_loop (fun n st=>∃(k:Nat) (S:PO),k≤l.length∧n=l.length-k∧visSs r (l.drop k) k d S=R∧d≤S.2.1.length∧S.2.2.length+szSs (l.drop k)≤10000000000∧
  st=⟨[(0,.d (.list 11 (l.map encSt))),(1,.ref 1001 0),(2,.ref 1002 0),(3,.ref 1003 0),(8,.d (.int .i64 l.length)),(9,.d (.int .i64 k))],TV8 r (.sub 1006 S.1 0 d) S.1 S.2.1 S.2.2⟩) ?_ ?_
 ·refine⟨_,_,(Wk.subB 1001 0 1006 v 1 (xs.map (.int .i64)) [.ms 1006 v] rfl rfl rfl).trans (Wk.less ?_),0,(v,xs,o),Nat.zero_le _,rfl,by simpa using hR,by simp[hd],by simpa using ho,rfl⟩;simp[go_sem,TV8,hd]
 ·rintro n st ⟨k,S,hk,rfl,hinv,hS,hb,rfl⟩;by_cases hlt:k<l.length
  ·have hn:=nth_encSt hlt;have hdk:decide ((k:Int)<(l.length:Int))=true:=sO;have hbr:=hfs _ (List.getElem_mem hlt);have hV:=h _ (List.getElem_mem hlt);rw[List.drop_eq_getElem_cons hlt,szSs,szS_eq]at hb;rw[List.drop_eq_getElem_cons hlt,visSs,visS_eq]at hinv;have hszd:szS l[k]≤szSs l:=szSs_mem (List.getElem_mem hlt);rw[szS_eq]at hszd;have hdl:d+2*szBs l[k].branches+2≤10000000000:=oM;generalize hX:l[k]=x at*;have hc:=call183 (S.1+1) r (S.2.1.take d++[(k:Int)]) sP x S.2.2 (.any) sO oM;rw[encSt_eq]at hc;simp only[List.map_append,List.map_take,List.map_cons,List.map_nil]at hc;simp only[TV8,go_sem,hn,hdk,Int.toNat_natCast,List.length_map,Nat.reduceAdd,Nat.reduceEqDiff,Nat.reduceBEq,Nat.reduceLeDiff,reduceCtorEq,↓reduceIte];refine⟨sP,⟨oM,oM⟩,⟨oM,oM⟩,wps_call rfl hc ⟨rfl,rfl,rfl,rfl,trivial⟩ ?_⟩;simp only[go_sem,hn,Int.toNat_natCast,List.length_map,Nat.reduceAdd,Nat.reduceEqDiff,Nat.reduceBEq,Nat.reduceLeDiff,reduceCtorEq,↓reduceIte];refine⟨oM,dC,?_⟩;clear hc;generalize hbs:x.branches=bs at*;generalize hRB:visBs r bs 0 (d+1) _=RB at hinv;refine wpc_loop (fun n st=>∃(b:Nat) (T:PO),b≤bs.length∧n=bs.length-b∧visBs r (bs.drop b) b (d+1) T=RB∧d+1≤T.2.1.length∧T.2.2.length+szBs (bs.drop b)+szSs (l.drop (k+1))≤10000000000∧
    st=⟨[(0,.d (.list 11 (l.map encSt))),(1,.ref 1001 0),(2,.ref 1002 0),(3,.ref 1003 0),(8,.d (.int .i64 l.length)),(9,.d (.int .i64 k)),(5,.d (.int .i64 k)),(27,.d (.int .i64 bs.length)),(28,.d (.int .i64 b))],TV8 r (.sub 1006 T.1 0 (d+1)) T.1 T.2.1 T.2.2⟩) ?_ ?_
   ·refine⟨_,_,(Wk.subB 1001 0 1006 (S.1+1) 1 _ [.ms 1006 (S.1+1)] rfl rfl rfl).trans (Wk.less ?_),0,(S.1+1,S.2.1.take d++[(k:Int)],S.2.2++[Wlk.mk r (S.2.1.take d++[(k:Int)]) x]),Nat.zero_le _,rfl,by simpa using hRB,sO,sO,rfl⟩;simp[go_sem,TV8];omega
   ·rintro n st ⟨b,T,hbk,rfl,hinv2,hT,hb2,rfl⟩;by_cases hbl:b<bs.length
    ·have hbn:=nth_encB hbl;have hdb:decide ((b:Int)<(bs.length:Int))=true:=sO;have hVb:=hV _ (List.getElem_mem hbl);have hszb:szB bs[b]≤szBs bs:=szBs_mem (List.getElem_mem hbl);rw[List.drop_eq_getElem_cons hbl,szBs,szB_eq]at hb2;rw[List.drop_eq_getElem_cons hbl,visBs,visB_eq]at hinv2;rw[szB_eq]at hszb;generalize bs[b]=br at*;have hlen:(T.2.1.take (d+1)++[(b:Int)]).length=d+1+1:=sO;have hc2:=call230 hVb (T.1+1) (T.2.1.take (d+1)++[(b:Int)]) T.2.2 (by rw[hlen];omega) oM;rw[hlen]at hc2;have hU1:=visSs_len r br.steps 0 (d+1+1) (T.1+1,T.2.1.take (d+1)++[(b:Int)],T.2.2);have hU2:=(visSs_keep r br.steps 0 (d+1+1) (T.1+1,T.2.1.take (d+1)++[(b:Int)],T.2.2) (by show _≤List.length _;rw[hlen];omega)).1;generalize hU:visSs r br.steps 0 (d+1+1) (T.1+1,T.2.1.take (d+1)++[(b:Int)],T.2.2)=U at*;simp only[TV8,List.map_append,List.map_take,List.map_cons,List.map_nil]at hc2;simp only[TV8,go_sem,hn,hbn,hdb,hbs,Int.toNat_natCast,List.length_map,Nat.reduceAdd,Nat.reduceEqDiff,Nat.reduceBEq,Nat.reduceLeDiff,reduceCtorEq,↓reduceIte];refine⟨sP,⟨oM,oM⟩,⟨oM,oM⟩,dC,⟨oM,oM⟩,dC,wps_call rfl hc2 ⟨rfl,rfl,rfl,rfl,rfl,rfl,rfl,trivial⟩ ?_⟩;have e2:min (d+1+1) U.2.1.length=d+1+1:=oM;have e3:IntKind.i64.wrap (((d+1+1:Nat):Int)-1)=((d+1:Nat):Int):=nat_cast_sub (d+2) oM oM;simp only[go_sem,List.length_take,List.length_map,List.drop_zero,e2,e3,Nat.reduceAdd,Nat.reduceEqDiff,Nat.reduceBEq,Nat.reduceLeDiff,reduceCtorEq,↓reduceIte];have e4:(((d+1:Nat):Int)-0).toNat=d+1:=oM;have e5:Int.toNat 0=0:=rfl;refine⟨⟨oM,oM,oM⟩,bs.length-(b+1),_,oM,Wk.less ?_,b+1,U,oM,rfl,by simpa using hinv2,oM,by simp only at hU1;omega,rfl⟩;simp only[go_sem,e4,e5,wrap64s b oM,Nat.reduceAdd,Nat.reduceEqDiff,Nat.reduceBEq,Nat.reduceLeDiff,reduceCtorEq,↓reduceIte]
    ·have hdb:decide ((b:Int)<(bs.length:Int))=false:=sO;obtain rfl:b=bs.length:=oM;rw[List.drop_length,visBs]at hinv2;subst hinv2;rw[List.drop_length,szBs]at hb2;have e2:min (d+1) T.2.1.length=d+1:=oM;have e3:IntKind.i64.wrap (((d+1:Nat):Int)-1)=((d:Nat):Int):=nat_cast_sub (d+1) oM oM;have e4:((d:Int)-0).toNat=d:=oM;have e5:Int.toNat 0=0:=rfl;simp only[TV8,go_sem,hdb,List.length_take,List.length_map,List.drop_zero,e2,e3,Nat.reduceAdd,Nat.reduceEqDiff,Nat.reduceBEq,Nat.reduceLeDiff,reduceCtorEq,↓reduceIte];refine⟨⟨oM,oM,oM⟩,l.length-(k+1),_,oM,Wk.less ?_,k+1,T,oM,rfl,by simpa using hinv,oM,oM,rfl⟩;simp only[go_sem,TV8,e4,e5,wrap64s k oM,Nat.reduceAdd,Nat.reduceEqDiff,Nat.reduceBEq,Nat.reduceLeDiff,reduceCtorEq,↓reduceIte]
  ·have hdk:decide ((k:Int)<(l.length:Int))=false:=sO;obtain rfl:k=l.length:=oM;rw[List.drop_length,visSs]at hinv;subst hinv;simp only[TV8,go_sem,hdk,Nat.reduceAdd,Nat.reduceEqDiff,Nat.reduceBEq,Nat.reduceLeDiff,reduceCtorEq,↓reduceIte]
mutual
theorem v340s(r:Int):∀(l:List Ste),∀x∈l,∀b∈x.branches,V340 r b.steps
 |[],x,h,_,_=>by cases h
 |v::q,x,h,b,hb=>by
  by_cases e:x=v
  ·rw[e]at hb;exact v340S r v b hb
  ·exact v340s r q x ((List.mem_cons.1 h).resolve_left e) b hb
theorem v340S(r:Int):∀(x:Ste),∀b∈x.branches,V340 r b.steps
 |.mk n k u t l x c e ru a bs=>v340bs r bs
theorem v340bs(r:Int):∀(l:List Brn),∀b∈l,V340 r b.steps
 |[],b,h=>by cases h
 |v::q,b,h=>by
  by_cases e:b=v
  ·rw[e];exact v340B r v
  ·exact v340bs r q b ((List.mem_cons.1 h).resolve_left e)
theorem v340B(r:Int):∀(b:Brn),V340 r b.steps
 |.mk w s=>step230 r s (v340s r s)
end
theorem w340(r:Int)(l:List Ste):V340 r l:=step230 r l (v340s r l)
theorem CallOK.subT{P:Program}{f:Cee}{args:List Av}{T T':List (Nat×Option Av.Obj)}{v:Av}{ups:List (Nat×Av.Obj)}(h:CallOK P f args T v ups)(hs:∀e∈T,e∈T'):CallOK P f args T' v ups:=
 fun β A w H vs hT hc hv=>h β A w H vs (fun e he=>hT e (hs e he)) hc hv
def wk1(r:Int)(l:List Ste):List Wlk:=(visSs r l 0 0 (0,[],[])).2.2
abbrev ren8(i:Nat):Nat:=if i=1001 then 4 else if i=1002 then 3 else if i=1003 then 5 else if i=1006 then 6 else i
theorem TV8_dom7{r:Int}{c:Av}{v:Nat}{xs:List Int}{o:List Wlk}{c':Av}{v':Nat}{xs':List Int}{o':List Wlk}{i:Nat}(h:(hputs (get (TV8 r c v xs o)) (TV8 r c' v' xs' o') i).isSome=true):i=1001∨i=1002∨i=1003∨i=1004∨i=1005∨i=1006∨i=1007:=by
 refine Decidable.byContradiction fun hn=>?_
 simp only[not_or]at hn;obtain⟨a1,a2,a3,a4,a5,a6,a7⟩:=hn;simp[TV8,hputs,upd,Av.get,a1,a2,a3,a4,a5,a6,a7,Ne.symm a1,Ne.symm a2,Ne.symm a3,Ne.symm a4,Ne.symm a5,Ne.symm a6,Ne.symm a7]at h
theorem ren8_inj{i j:Nat}(hi:i=1001∨i=1002∨i=1003∨i=1004∨i=1005∨i=1006∨i=1007)(hj:j=1001∨j=1002∨j=1003∨j=1004∨j=1005∨j=1006∨j=1007)(h:ren8 i=ren8 j):i=j:=by
 rcases hi with rfl|rfl|rfl|rfl|rfl|rfl|rfl<;>rcases hj with rfl|rfl|rfl|rfl|rfl|rfl|rfl<;>first|rfl|(revert h;decide)
theorem call230a(r:Int)(l:List Ste)(hl:szSs l≤1000000000):
  ∃(v:Nat) (xs:List Int),CT (.fn 230) [.d (.list 11 (l.map encSt)),.ref 4 0,.ref 3 0,.ref 5 0]
   [(4,some (.box [.d (.nil 1)])),(6,none),(3,some (.box [.clo (.func 183) [] [.ref 1004 0,.ref 1005 0]])),(5,some (.box [.clo (.func 230) [] [.ref 4 0,.ref 3 0,.ref 5 0]])),(1004,some (.box [.ms 1007 0])),(1005,some (.box [.d (.int .i64 r)])),(1007,some (.row 0 13 []))] (.tup [])
   [(4,.box [.sub 6 v 0 0]),(3,.box [.clo (.func 183) [] [.ref 1004 0,.ref 1005 0]]),(5,.box [.clo (.func 230) [] [.ref 4 0,.ref 3 0,.ref 5 0]]),(1004,.box [.ms 1007 (wk1 r l).length]),(1005,.box [.d (.int .i64 r)]),(6,.row v 1 (xs.map (.int .i64))),(1007,.row (wk1 r l).length 13 ((wk1 r l).map encWk))]:=by
 have hw:=w340 r l 0 [] [] sO sO;simp only[List.length_nil]at hw;unfold wk1;generalize visSs r l 0 0 (0,[],[])=R at hw⊢;refine⟨R.1,R.2.1,?_⟩;have h:=hw.call ren8 (fun i hi=>TV8_dom hi) (fun i j hi hj=>ren8_inj (TV8_dom7 hi) (TV8_dom7 hj)) (by simp[idsIn,Av.get]) (closed_of (by simp[closedH,objIn,idsInL,idsIn,idsInT,Av.get])) [] (by simp[Av.get]) (closed8 r 0 _ [] _ [] _ _ _ (.inr ⟨_,rfl⟩)) trivial;simp only[TV8,List.map_cons,List.map_nil,List.length_nil,Obj.ren,Av.ren,renL,ren8,rn_dat,List.append_nil,Nat.reduceEqDiff,↓reduceIte]at h;refine CallOK.subT (CallOK.nilBox (j:=0) (CallOK.subT h ?_) ?_ dC rfl dC rfl rfl) (fun e he=>he)
 ·simp
 ·simp
abbrev TU(r:Int)(o:List Wlk):List (Nat×Av.Obj):=[(1004,.box [.ms 1007 o.length]),(1005,.box [.d (.int .i64 r)]),(1007,.row o.length 13 (o.map encWk))]
theorem con182(r:Int)(l:List Ste)(hl:szSs l≤1000000000):
  KT 182 [.d (.list 11 (l.map encSt)),.clo (.func 183) [] [.ref 1004 0,.ref 1005 0]] (TU r []) (.tup []) (TU r (wk1 r l)):=by
 refine ok182.con (k:=some false) (Nat.le_of_ble_eq_true rfl) (closed_puts (by simp[TU,puts,put,closedH,objIn,idsInL,idsIn,Av.get])) trivial ?_;obtain⟨v,xs,hc⟩:=call230a r l hl;simp only[TU,go_sem,ir182,simprocAttr];refine wps_call rfl hc ⟨rfl,rfl,rfl,rfl,rfl,rfl,rfl,trivial⟩ ?_;exact zz trivial
theorem call182(r:Int)(l:List Ste)(hl:szSs l≤1000000000):
  CT (.fn 182) [.d (.list 11 (l.map encSt)),.clo (.func 183) [] [.ref 5 0,.ref 3 0]] [(5,some (.box [.d (.nil 13)])),(7,none),(3,some (.box [.d (.int .i64 r)]))] (.tup [])
   [(5,.box [.ms 7 (wk1 r l).length]),(3,.box [.d (.int .i64 r)]),(7,.row (wk1 r l).length 13 ((wk1 r l).map encWk))]:=by
 have hd:∀o i,(hputs (get (TU r [])) (TU r o) i).isSome=true→i=1004∨i=1005∨i=1007:=by
  intro o i h;refine Decidable.byContradiction fun hn=>?_
  simp only[not_or]at hn;obtain⟨a1,a2,a3⟩:=hn;simp[TU,hputs,upd,Av.get,a1,a2,a3,Ne.symm a1,Ne.symm a2,Ne.symm a3]at h
 have h:=(con182 r l hl).call (fun i=>if i=1004 then 5 else if i=1005 then 3 else if i=1007 then 7 else i) (fun i hi=>by
   simp only[TU,Av.get]at hi
   repeat' split at hi
   all_goals first|(cases hi;done)|omega) (fun i j hi hj h=>by
   rcases hd _ i hi with rfl|rfl|rfl<;>rcases hd _ j hj with rfl|rfl|rfl<;>first|rfl|(revert h;decide)) (by simp[idsIn,idsInL,Av.get]) (closed_of (by simp[closedH,objIn,idsInL,idsIn,idsInT,Av.get])) [] (by simp[Av.get])
   (closed_puts (by simp[TU,puts,put,closedH,objIn,idsInL,idsIn,Av.get])) trivial
 simp only[TU,List.map_cons,List.map_nil,List.length_nil,Obj.ren,Av.ren,renL,rn_dat,List.append_nil,Nat.reduceEqDiff,↓reduceIte]at h;refine CallOK.nilBox (j:=0) (CallOK.subT h ?_) ?_ dC rfl dC rfl rfl
 ·simp
 ·simp
theorem walk145(p:Prg)(r:Nat)(hr:r<p.routes.length)(hl:szSs p.routes[r].steps≤1000000000):PT 145 [encPg p,.int .i64 r] (.d (.list 13 ((wk1 r p.routes[r].steps).map encWk))):=by
 refine ok145.pc ?_;have hc:=call182 r p.routes[r].steps hl;have hx:=nth_map encO hr;simp only[encO]at hx;generalize wk1 (r:Int) p.routes[r].steps=o at*;simp only[go_sem,ir145,encPg,hx,Int.toNat_natCast,List.length_map,Nat.reduceAdd,Nat.reduceEqDiff,Nat.reduceBEq,Nat.reduceLeDiff,reduceCtorEq,↓reduceIte];refine⟨⟨oM,oM⟩,dC,wps_call rfl hc ⟨rfl,rfl,rfl,trivial⟩ ?_⟩;exact zz trivial
def wkN(l:List Rou)(k:Nat):List Wlk:=(List.range k).flatMap fun i=>match l[i]? with|some x=>wk1 i x.steps|none=>[]
theorem wkN_succ{l:List Rou}{k:Nat}(h:k<l.length):wkN l (k+1)=wkN l k++wk1 k l[k].steps:=by
 unfold wkN;rw[List.range_succ,List.flatMap_append];simp[List.getElem?_eq_getElem h]
def szRs:List Rou→Nat
 |[]=>0
 |x::r=>szSs x.steps+szRs r
theorem szRs_mem:∀{l:List Rou} {x:Rou},x∈l→szSs x.steps≤szRs l
 |v::r,s,h=>by
  rcases List.mem_cons.1 h with rfl|h
  ·simp only[szRs];omega
  ·have:=szRs_mem h;simp only[szRs];omega
theorem wkN_len(l:List Rou):∀k:Nat,k≤l.length→(wkN l k).length≤szRs (l.take k)
 |0,_=>by simp[wkN]
 |k+1,h=>by
  rw[wkN_succ oM,List.length_append,List.take_succ_eq_append_getElem oM];have h1:=wkN_len l k oM;have h2:(wk1 k l[k].steps).length≤szSs l[k].steps:=by
   have:=visSs_len k l[k].steps 0 0 (0,[],[]);simpa[wk1]using this
  have h3:∀(a b:List Rou),szRs (a++b)=szRs a+szRs b:=by
   intro a b
   induction a with
   |nil=>simp[szRs]
   |cons x r ih=>simp only[List.cons_append,szRs,ih];omega
  rw[h3];simp only[szRs];omega
theorem szRs_take:∀(l:List Rou) (k:Nat),szRs (l.take k)≤szRs l
 |[],k=>by simp
 |x::r,0=>by simp[szRs]
 |x::r,k+1=>by
  have:=szRs_take r k;simp only[List.take_succ_cons,szRs];omega
theorem walk72(p:Prg)(hl:szRs p.routes≤1000000000):PT 72 [encPg p] (.d (.list 13 ((wkN p.routes p.routes.length).map encWk))):=by
 refine PCon.of_fits ok72.has fun hfit=>?_
 have hn:p.routes.length≤68719476736:=by
  have:=hfit _ (List.mem_cons_self);simp only[encPg,fits,fitsL,List.length_map]at this;omega
 clear hfit;refine ok72.pc ?_;simp only[go_sem,ir72,encPg,List.length_map,simprocAttr];refine wpc_loop (fun n st=>∃k:Nat,k≤p.routes.length∧n=p.routes.length-k∧
  st=⟨[(1,.ref 1 0),(3,.ms 15 k),(7,.d (.int .i64 p.routes.length)),(8,.d (.int .i64 k))],
   [(1,.box [.d (.int .i64 p.version),.d (.list 9 (p.schemas.map encC)),.d (.list 7 (p.endpoints.map encEp)),.d (.list 4 (p.services.map encX)),.d (.list 3 (p.routes.map encO))]),(15,.row k 13 ((wkN p.routes k).map encWk))]⟩) ?_ ?_
 ·refine⟨_,_,(Wk.nilT 3 15 13 rfl rfl dC).trans (Wk.less ?_),0,Nat.zero_le _,rfl,rfl⟩;simp[put,go_sem,wkN]
 ·rintro n st ⟨k,hk,rfl,rfl⟩;by_cases hlt:k<p.routes.length
  ·have hd:=dT hlt;have hsz:szSs p.routes[k].steps≤szRs p.routes:=szRs_mem (List.getElem_mem hlt);have hc:=(walk145 p k hlt oM).call trivial;have hln:=wkN_len p.routes (k+1) oM;have htk:=szRs_take p.routes (k+1);rw[wkN_succ hlt,List.length_append]at hln;simp only[encPg]at hc;refine zz5 ?_;refine wc hc ?_;refine⟨sO,p.routes.length-(k+1),_,oM,Wk.less ?_,k+1,oM,rfl,rfl⟩;rw[wkN_succ hlt,List.map_append];exact zz7 trivial
  ·have hd:=dF hlt;obtain rfl:k=p.routes.length:=oM;exact zz5 trivial
end Go.Proofs
namespace Go.Proofs
open Go Av
open Av.Y
def ir85:Ic:=q (R (ox 1 0<|ow 2 false<|N) [0,2])<|q (R (of 3 1 7<|ol 4 3<|oh 5 4<|oi 6 .eql 5 1<|om 7 6<|.sc 7 true (of 8 1 5<|ol 9 8<|cl 10 86 [t 9]<|N) (t 10) 11 (om 2 11<|N)) [1,3,4,5,6,7,11])<|.ret
theorem ok85:FT 85 12 ir85 [.tmp 2]:=.o Tryz.func85
def ir87:Ic:=q (R (ox 1 0<|ow 2 false<|N) [0,2])<|q (R (of 3 1 6<|ol 4 3<|ob 5 .sne (t 4) (.k (.str []))<|om 2 5<|N) [1,3,4,5])<|.ret
theorem ok87:FT 87 6 ir87 [.tmp 2]:=.o Tryz.func87
def ir88:Ic:=q (R (ox 1 0<|ow 2 false<|N) [0,2])<|q (R (of 3 1 5<|ol 4 3<|ob 5 .sne (t 4) (.k (.str []))<|om 6 5<|.sc 6 true (of 7 1 6<|ol 8 7<|ob 9 .sne (t 8) (.k (.str []))<|N) (t 9) 10 (om 2 10<|N)) [1,3,4,5,6,10])<|.ret
theorem ok88:FT 88 11 ir88 [.tmp 2]:=.o Tryz.func88
def ir89:Ic:=q (R (ox 1 0<|ow 2 false<|N) [0,2])<|q (R (of 3 1 7<|ol 4 3<|oh 5 4<|cl 6 75 [t 5,i 1,i 2]<|om 7 6<|.sc 7 true (of 8 1 2<|ol 9 8<|cl 10 75 [t 9,i 0,i 256]<|N) (t 10) 11 (om 12 11<|.sc 12 true (of 13 1 6<|ol 14 13<|ob 15 .sne (t 14) (.k (.str []))<|N) (t 15) 16 (om 17 16<|.sc 17 true (oL 18 11 1<|cl 19 90 [t 18]<|N) (t 19) 20 (om 2 20<|N)))) [1,3,4,5,6,7,11,12,16,17,20])<|.ret
theorem ok89:FT 89 21 ir89 [.tmp 2]:=.o Tryz.func89
def ir91:Ic:=q (R (ox 1 0<|ow 2 false<|N) [0,2])<|q (R (of 3 1 7<|ol 4 3<|oh 5 4<|oi 6 .eql 5 2<|om 7 6<|.sc 7 true (oL 8 11 1<|cl 9 90 [t 8]<|N) (t 9) 10 (om 2 10<|N)) [1,3,4,5,6,7,10])<|.ret
theorem ok91:FT 91 11 ir91 [.tmp 2]:=.o Tryz.func91
def ir92:Ic:=q (R (ox 1 0<|ow 2 false<|N) [0,2])<|q (R (of 3 1 7<|ol 4 3<|oh 5 4<|oi 6 .eql 5 1<|om 7 6<|.sc 7 true (of 8 1 2<|ol 9 8<|cl 10 75 [t 9,i 1,i 256]<|N) (t 10) 11 (om 2 11<|N)) [1,3,4,5,6,7,11])<|.ret
theorem ok92:FT 92 12 ir92 [.tmp 2]:=.o Tryz.func92
def ir93:Ic:=q (R (ox 1 0<|ow 2 false<|N) [0,2])<|q (R (of 3 1 2<|ol 4 3<|cl 5 75 [t 4,i 1,i 256]<|om 6 5<|.sc 6 true (of 7 1 3<|ol 8 7<|oi 9 .geq 8 1<|N) (t 9) 10 (om 11 10<|.sc 11 true (oL 12 11 1<|cl 13 90 [t 12]<|N) (t 13) 14 (om 2 14<|N))) [1,3,4,5,6,10,11,14])<|.ret
theorem ok93:FT 93 15 ir93 [.tmp 2]:=.o Tryz.func93
def ir94:Ic:=q (R (ox 1 0<|ow 2 false<|N) [0,2])<|q (R (of 3 1 3<|ol 4 3<|oi 5 .geq 4 1<|om 6 5<|.sc 6 true (oL 7 11 1<|cl 8 90 [t 7]<|N) (t 8) 9 (om 2 9<|N)) [1,3,4,5,6,9])<|.ret
theorem ok94:FT 94 10 ir94 [.tmp 2]:=.o Tryz.func94
def ir95:Ic:=q (R (ox 1 0<|ow 2 false<|N) [0,2])<|q (R (oL 3 11 1<|cl 4 96 [t 3,i 1]<|om 2 4<|N) [1,3,4])<|.ret
theorem ok95:FT 95 5 ir95 [.tmp 2]:=.o Tryz.func95
def ir97:Ic:=q (R (ox 1 0<|ow 2 false<|N) [0,2])<|q (R (oL 3 11 1<|cl 4 96 [t 3,i 16]<|om 2 4<|N) [1,3,4])<|.ret
theorem ok97:FT 97 5 ir97 [.tmp 2]:=.o Tryz.func97
def ir98:Ic:=q (R (ox 1 0<|ow 2 false<|N) [0,2])<|q (R (oL 3 11 1<|cl 4 99 [t 3,i 1]<|om 2 4<|N) [1,3,4])<|.ret
theorem ok98:FT 98 5 ir98 [.tmp 2]:=.o Tryz.func98
def ir100:Ic:=q (R (ox 1 0<|ow 2 false<|N) [0,2])<|q (R (oL 3 11 1<|cl 4 99 [t 3,i 0]<|om 2 4<|N) [1,3,4])<|.ret
theorem ok100:FT 100 5 ir100 [.tmp 2]:=.o Tryz.func100
def ir101:Ic:=q (R (ox 1 0<|ow 2 false<|N) [0,2])<|q (R (of 3 1 5<|ol 4 3<|ob 5 .sne (t 4) (.k (.str []))<|om 2 5<|N) [1,3,4,5])<|.ret
theorem ok101:FT 101 6 ir101 [.tmp 2]:=.o Tryz.func101
def ir102:Ic:=q (R (ox 1 0<|ow 2 false<|N) [0,2])<|q (R (of 3 1 5<|ol 4 3<|cl 5 86 [t 4]<|om 2 5<|N) [1,3,4,5])<|.ret
theorem ok102:FT 102 6 ir102 [.tmp 2]:=.o Tryz.func102
def ir147:Ic:=q (R (ow 2 false<|N) [2])<|q (R (om 3 0<|cl 4 185 [t 3]<|om 2 4<|N) [0,3,4])<|.ret
theorem ok147:FT 147 5 ir147 [.tmp 2]:=.o Tryz.func147
def ir76:Ic:=R (om 2 0<|oc 3 2<|of 4 3 5<|on (.sto none (t 4) (.k (.str [])))<|N) [0,2,3,4]
theorem ok76:FT 76 5 ir76 []:=.o Tryz.func76
def ir77:Ic:=R (om 2 0<|om 3 0<|oo 4 (.bld [.nil 6] [])<|oc 5 2<|of 6 5 8<|oS 1 6 4<|oc 7 3<|of 8 7 6<|on (.sto none (t 8) (.k (.str [])))<|N) [0,2,3,4,5,6,7,8]
theorem ok77:FT 77 9 ir77 []:=.o Tryz.func77
def ir78:Ic:=R (om 2 0<|oc 3 2<|of 4 3 7<|on (.sto none (t 4) (.k (.nil 5)))<|N) [0,2,3,4]
theorem ok78:FT 78 5 ir78 []:=.o Tryz.func78
def ir79:Ic:=R (om 2 0<|om 3 0<|oc 4 2<|of 5 4 3<|on (.sto none (t 5) (i 0))<|oc 6 3<|of 7 6 4<|on (.sto none (t 7) (i 0))<|N) [0,2,3,4,5,6,7]
theorem ok79:FT 79 8 ir79 []:=.o Tryz.func79
def ir80:Ic:=R (om 2 0<|oc 3 2<|of 4 3 10<|on (.sto none (t 4) (.k (.nil 2)))<|N) [0,2,3,4]
theorem ok80:FT 80 5 ir80 []:=.o Tryz.func80
def ir82:Ic:=q (.reg (ol 5 1<|oh 6 5<|oz 7 0<|N))<|D (.block 0<|.loop (q (.reg (ot 8 .lss 7 6<|N))<|q (D (I 8 S (E 0)) [8])<|q (D (.block 1<|q (R (oa false 9 1 5 7<|ol 10 9<|om 4 10<|N) [9,10])<|R (om 11 4<|om 12 0<|.call (some 13) (.dyn (t 11)) [t 12] N) [4,11,12,13]) [])<|R (oi 14 .add 7 1<|om 7 14<|N) [14])) [0,5,6,7,8,9,10,4,11]
theorem ok82:FT 82 15 ir82 []:=.o Tryz.func82
def ir83:Ic:=R (om 2 0<|oc 3 2<|of 4 3 2<|on (.sto none (t 4) (i 0))<|N) [0,2,3,4]
theorem ok83:FT 83 5 ir83 []:=.o Tryz.func83
def ir84:Ic:=R (om 2 0<|oc 3 2<|of 4 3 9<|on (.sto none (t 4) (.k (.nil 2)))<|N) [0,2,3,4]
theorem ok84:FT 84 5 ir84 []:=.o Tryz.func84
def ir106:Ic:=q (R (ox 2 0<|ow 4 false<|N) [0,4])<|q (R (om 8 1<|of 9 2 1<|ol 10 9<|oo 11 (.lkp .i (.agg [.nilFn,.nilFn]) (t 8) (t 10) true)<|om 7 11<|oe 12 7 0<|oe 13 7 1<|oN 5 [.nilFn,.nilFn]<|oS 2 5 12<|om 6 13<|N) [1,8,9,10,11,7,12,13])<|q (q (R (om 14 6<|og 15 14<|om 16 15<|.sc 16 false (of 17 5 1<|ol 18 17<|oL 19 11 2<|.call (some 20) (.dyn (t 18)) [t 19] (og 21 20<|N)) (t 21) 22 N) [6,14,15,16])<|D (I 22 (q (R (ow 4 false<|N) [2,5,22])<|.ret) S) [22])<|q (R (of 23 5 0<|ol 24 23<|.call (some 25) (.dyn (t 24)) [t 2] N) [5,23,24,25])<|q (R (oL 26 11 2<|cl 27 152 [t 26]<|om 4 27<|N) [2,26,27])<|.ret
theorem ok106:FT 106 28 ir106 [.tmp 4]:=.o Tryz.func106
end Go.Proofs
namespace Go.Proofs
open Go Av
open Av.Y
def ir75:Ic:=q (R (ow 6 false<|N) [6])<|q (R (om 7 0<|om 8 1<|ot 9 .geq 7 8<|om 10 9<|.sc 10 true (om 11 0<|om 12 2<|ot 13 .leq 11 12<|N) (t 13) 14 (om 6 14<|N)) [0,1,2,7,8,9,10,14])<|.ret
theorem ok75:FT 75 15 ir75 [.tmp 6]:=.o Tryz.func75
def ir90:Ic:=q (R (ox 1 0<|ow 2 false<|N) [0,2])<|q (R (of 3 1 3<|ol 4 3<|cl 5 75 [t 4,i 0,i 17592186044416]<|om 6 5<|.sc 6 true (of 7 1 4<|ol 8 7<|cl 9 75 [t 8,i 1,i 256]<|N) (t 9) 10 (om 2 10<|N)) [1,3,4,5,6,10])<|.ret
theorem ok90:FT 90 11 ir90 [.tmp 2]:=.o Tryz.func90
def ir96:Ic:=q (R (ox 2 0<|ow 4 false<|N) [0,4])<|q (R (of 5 2 9<|ol 6 5<|oh 7 6<|om 8 1<|cl 9 75 [t 7,i 1,t 8]<|om 10 9<|.sc 10 true (of 11 2 6<|ol 12 11<|ob 13 .sne (t 12) (.k (.str []))<|N) (t 13) 14 (om 15 14<|.sc 15 true (oL 16 11 2<|cl 17 90 [t 16]<|N) (t 17) 18 (om 4 18<|N))) [1,2,5,6,7,8,9,10,14,15,18])<|.ret
theorem ok96:FT 96 19 ir96 [.tmp 4]:=.o Tryz.func96
def ir86:Ic:=q (R (ow 2 false<|N) [2])<|q (R (om 3 0<|oj 4 3<|cl 5 75 [t 4,i 1,i 64]<|om 6 5<|.sc 6 true (om 7 0<|cl 8 147 [t 7]<|N) (t 8) 9 (om 2 9<|N)) [0,3,4,5,6,9])<|.ret
theorem ok86:FT 86 10 ir86 [.tmp 2]:=.o Tryz.func86
def ir99:Ic:=q (R (ox 2 0<|ow 4 false<|N) [0,4])<|q (q (R (of 8 2 10<|ol 9 8<|oh 10 9<|oz 11 0<|N) [8])<|D (.block 0<|.loop (q (.reg (ot 12 .lss 11 10<|N))<|q (D (I 12 S (E 0)) [12])<|q (D (.block 1<|q (R (om 13 11<|oa true 14 2 9 11<|oL 15 2 14<|oN 6 [.nil 5,.nil 11]<|om 5 13<|oS 2 6 15<|N) [13,14,15])<|q (R (om 16 5<|of 17 2 10<|ol 18 17<|oh 19 18<|oi 20 .sub 19 1<|ot 21 .eql 16 20<|om 22 21<|.sc 22 true (of 23 6 0<|ol 24 23<|oh 25 24<|oi 26 .eql 25 0<|N) (t 26) 27 (om 7 27<|N)) [5,16,17,18,19,20,21,22,27])<|q (R (of 28 6 0<|ol 29 28<|oh 30 29<|om 31 1<|ot 32 .neq 30 31<|om 33 32<|.sc 33 true (om 34 7<|og 35 34<|N) (t 35) 36 N) [6,7,28,29,30,31,32,33])<|D (I 36 (q (R (ow 4 false<|N) [1,2,9,10,11,36])<|.ret) S) [36]) [])<|R (oi 37 .add 11 1<|om 11 37<|N) [37])) [1,9,10,11,12,6,5,7])<|q (R (of 38 2 10<|ol 39 38<|oh 40 39<|cl 41 75 [t 40,i 1,i 64]<|om 4 41<|N) [2,38,39,40,41])<|.ret
theorem ok99:FT 99 42 ir99 [.tmp 4]:=.o Tryz.func99
def ir152:Ic:=q (R (ox 1 0<|ow 2 false<|N) [0,2])<|q (R (of 3 1 2<|ol 4 3<|oi 5 .eql 4 0<|om 6 5<|.sc 6 true (of 7 1 3<|ol 8 7<|oi 9 .eql 8 0<|N) (t 9) 10 (om 11 10<|.sc 11 true (of 12 1 4<|ol 13 12<|oi 14 .eql 13 0<|N) (t 14) 15 (om 16 15<|.sc 16 true (of 17 1 5<|ol 18 17<|ob 19 .seq (t 18) (.k (.str []))<|N) (t 19) 20 (om 21 20<|.sc 21 true (of 22 1 6<|ol 23 22<|ob 24 .seq (t 23) (.k (.str []))<|N) (t 24) 25 (om 26 25<|.sc 26 true (of 27 1 7<|ol 28 27<|oh 29 28<|oi 30 .eql 29 0<|N) (t 30) 31 (om 32 31<|.sc 32 true (of 33 1 8<|of 34 33 0<|ol 35 34<|oh 36 35<|oi 37 .eql 36 0<|N) (t 37) 38 (om 39 38<|.sc 39 true (of 40 1 9<|ol 41 40<|oh 42 41<|oi 43 .eql 42 0<|N) (t 43) 44 (om 45 44<|.sc 45 true (of 46 1 10<|ol 47 46<|oh 48 47<|oi 49 .eql 48 0<|N) (t 49) 50 (om 2 50<|N))))))))) [1,3,4,5,6,10,11,15,16,20,21,25,26,31,32,38,39,44,45,50])<|.ret
theorem ok152:FT 152 51 ir152 [.tmp 2]:=.o Tryz.func152
def ir104:Ic:=q (R (ox 1 0<|ow 2 false<|N) [0,2])<|q (q (R (of 3 1 1<|ol 4 3<|N) [3])<|D (.block 0<|q (q (R (oi 6 .eql 4 13<|om 5 6<|N) [6])<|I 5 S (R (oi 7 .eql 4 14<|om 5 7<|N) [7]))<|D (I 5 (q (R (ow 2 true<|N) [1,4,5])<|.ret) (q (q (R (oi 9 .eql 4 11<|om 8 9<|N) [5,9])<|D (I 8 S (R (oi 10 .eql 4 12<|om 8 10<|N) [4,10])) [4])<|D (I 8 (q (R (of 11 1 10<|ol 12 11<|oh 13 12<|oi 14 .gtr 13 0<|om 15 14<|.sc 15 true (of 16 1 10<|ol 17 16<|cl 18 148 [t 17,.k (.fn (.func 149) [] [])]<|og 19 18<|N) (t 19) 20 (om 2 20<|N)) [1,8,11,12,13,14,15,20])<|.ret) S) [1,8])) []) [7,10,11])<|q (.reg (ow 2 false<|N))<|.ret
theorem ok104:FT 104 21 ir104 [.tmp 2]:=.o Tryz.func104
def ir149:Ic:=q (R (ox 1 0<|ow 2 false<|N) [0,2])<|q (R (of 3 1 1<|ol 4 3<|cl 5 42 [t 4]<|og 6 5<|om 2 6<|N) [1,3,4,5,6])<|.ret
theorem ok149:FT 149 7 ir149 [.tmp 2]:=.o Tryz.func149
def ir42:Ic:=q (R (ow 2 false<|N) [2])<|q (R (om 3 0<|oh 4 3<|oi 5 .gtr 4 0<|om 6 5<|.sc 6 true (om 7 0<|om 8 0<|oh 9 8<|oi 10 .sub 9 1<|oa true 11 11 7 10<|oL 12 11 11<|cl 13 104 [t 12]<|N) (t 13) 14 (om 2 14<|N)) [0,3,4,5,6,14])<|.ret
theorem ok42:FT 42 15 ir42 [.tmp 2]:=.o Tryz.func42
def ir150:Ic:=q (R (ok 2 (.k (.str []))<|N) [2])<|q (.reg (ok 3 (.k (.str []))<|N))<|q (q (R (om 6 0<|oh 7 6<|oz 8 0<|N) [0])<|D (.block 0<|.loop (q (.reg (ot 9 .lss 8 7<|N))<|q (D (I 9 S (E 0)) [9])<|q (D (.block 1<|q (R (oa false 10 1 6 8<|ol 11 10<|om 5 11<|N) [10,11])<|q (R (om 12 5<|om 13 3<|ot 14 .sne 12 13<|N) [12,13])<|D (I 14 (q (R (om 15 5<|om 2 15<|N) [3,6,7,8,5,14,15])<|.ret) S) [5,14]) [])<|R (oi 16 .add 8 1<|om 8 16<|N) [16])) [6,7,8,9,10,11,5])<|q (R (om 17 3<|om 2 17<|N) [3,17])<|.ret
theorem ok150:FT 150 18 ir150 [.tmp 2]:=.o Tryz.func150
def ir151:Ic:=q (R (ok 4 (.k (.str []))<|N) [4])<|q (R (om 5 0<|oo 6 (.bls 1 [t 5])<|om 7 1<|oo 8 (.app 1 (t 6) (t 7))<|cl 9 187 [t 8,.k (.str [95])]<|ob 10 .cat (.k (.str [115])) (t 9)<|om 4 10<|N) [0,1,5,6,7,8,9,10])<|.ret
theorem ok151:FT 151 11 ir151 [.tmp 4]:=.o Tryz.func151
def ir187:Ic:=q (R (ok 4 (.k (.str []))<|N) [4])<|q (.reg (ok 5 (.k (.nil 1))<|N))<|q (q (R (om 8 0<|oh 9 8<|oz 10 0<|N) [0])<|D (.block 0<|.loop (q (.reg (ot 11 .lss 10 9<|N))<|q (D (I 11 S (E 0)) [11])<|q (D (.block 1<|q (R (oa false 12 1 8 10<|ol 13 12<|om 7 13<|N) [12,13])<|R (om 14 5<|om 15 7<|cl 16 167 [t 15]<|oo 17 (.bls 1 [t 16])<|oo 18 (.app 1 (t 14) (t 17))<|om 5 18<|N) [7,14,15,16,17,18]) [])<|R (oi 19 .add 10 1<|om 10 19<|N) [19])) [8,9,10,11,7])<|q (R (om 20 5<|om 21 1<|cl 22 240 [t 20,t 21]<|om 4 22<|N) [1,5,20,21,22])<|.ret
theorem ok187:FT 187 23 ir187 [.tmp 4]:=.o Tryz.func187
def ir105:Ic:=q (R (ox 1 0<|ok 2 (.k (.str []))<|N) [0,2])<|q (D (.regd [(2,7)] (of 3 1 2<|of 4 3 0<|ol 5 4<|of 6 1 0<|ol 7 6<|of 8 1 1<|ol 9 8<|cl 10 151 [t 7,t 9]<|oo 11 (.bls 1 [t 5,t 10])<|cl 12 150 [t 11]<|om 2 12<|N)) [1,3,4,5,6,7,8,9,10,11,12])<|.ret
theorem ok105:FT 105 13 ir105 [.tmp 2]:=.o Tryz.func105
end Go.Proofs
namespace Go.Proofs
open Go Av
def inR(n lo hi:Int):Bool:=decide (n≥lo)&&decide (n≤hi)
theorem walk75(n lo hi:Int):PT 75 [.int .i64 n,.int .i64 lo,.int .i64 hi] (.d (.bool (inR n lo hi))):=by
 refine ok75.pc ?_;simp only[go_sem,ir75,simprocAttr];refine sq (decide (n≤hi)) ?_ ?_
 ·exact zz trivial
 ·simp only[go_sem,inR,simprocAttr]
def heldS(s:Ste):Bool:=inR s.time 0 17592186044416&&inR s.limit 1 256
theorem walk90(s:Ste):PT 90 [encSt s] (.d (.bool (heldS s))):=by
 refine ok90.pc ?_;rw[encSt_eq];have h1:=(walk75 s.time 0 17592186044416).call trivial;have h2:=(walk75 s.limit 1 256).call trivial;simp only[go_sem,ir90,simprocAttr];refine wc h1 ?_;refine sq (inR s.limit 1 256) ?_ ?_
 ·refine zz ?_;refine wc h2 trivial
 ·simp only[go_sem,heldS,simprocAttr]
def calledS(s:Ste)(m:Int):Bool:=inR s.calls.length 1 m&& !(s.schema==[])&&heldS s
theorem walk96(s:Ste)(m:Int):PT 96 [encSt s,.int .i64 m] (.d (.bool (calledS s m))):=by
 refine ok96.pc ?_;have h1:=(walk75 s.calls.length 1 m).call trivial;have h2:=(walk90 s).call trivial;rw[encSt_eq]at h2⊢;simp only[go_sem,ir96,List.length_map,simprocAttr];refine wc h1 ?_;refine sq (!(s.schema==[])) ?_ ?_
 ·exact zz trivial
 refine zz ?_;refine sq (heldS s) ?_ ?_
 ·refine zz ?_;refine wc h2 trivial
 ·simp only[go_sem,calledS,simprocAttr]
mutual
def endsS:Ste→Bool
 |.mk _ k _ _ _ _ _ _ _ _ b=>(k==13||k==14)||((k==11||k==12)&&(decide (0<b.length)&&finBs b))
def finBs:List Brn→Bool
 |[]=>true
 |b::r=>finB b&&finBs r
def finB:Brn→Bool
 |.mk _ s=>finSs s
def finSs:List Ste→Bool
 |[]=>false
 |[x]=>endsS x
 |_::y::r=>finSs (y::r)
end
theorem endsS_eq(s:Ste):endsS s=((s.kind==13||s.kind==14)||((s.kind==11||s.kind==12)&&(decide (0<s.branches.length)&&finBs s.branches))):=by cases s;simp only[endsS,Ste.kind,Ste.branches];try rfl
theorem finB_eq(b:Brn):finB b=finSs b.steps:=by cases b;simp only[finB,Brn.steps]
theorem finBs_eq:∀l:List Brn,finBs l= !(l.any fun b=> !finB b)
 |[]=>rfl
 |b::r=>by simp only[finBs,List.any_cons,finBs_eq r];cases finB b<;>simp
theorem finSs_last:∀(l:List Ste) (h:0<l.length),finSs l=endsS (l[l.length-1]'oM)
 |[x],_=>by simp[finSs]
 |_::y::r,_=>by
  rw[finSs,finSs_last (y::r) sP];simp
theorem step42(l:List Ste)(h:∀x∈l,PT 104 [encSt x] (.d (.bool (endsS x)))):PT 42 [.list 11 (l.map encSt)] (.d (.bool (finSs l))):=by
 refine PCon.of_fits ok42.has fun hfit=>?_
 have hl:l.length≤68719476736:=by have:=(hfit _ (List.mem_cons_self)).1;simpa using this
 refine ok42.pc ?_;simp only[go_sem,ir42,List.length_map,simprocAttr];refine scQ_pure (finSs l) (fun hp=>?_) ?_
 ·have hpos:0<l.length:=by have:=of_decide_eq_true hp;omega
  have hlt:l.length-1<l.length:=oM;have hx:=nth_encSt hlt;have hc:=(h l[l.length-1] (List.getElem_mem _)).call trivial;have hw:IntKind.i64.wrap ((l.length:Int)-1)=((l.length-1:Nat):Int):=by rw[wrap64 oM oM];omega
  rw[←finSs_last l hpos]at hc;rw[encSt_eq]at hc;simp only[go_sem,hw,hx,Int.toNat_natCast,List.length_map,simprocAttr];refine⟨oM,wn hc ?_⟩;exact zz trivial
 ·have e:(decide ((l.length:Int)>0)&&finSs l)=finSs l:=by
   cases l with
   |nil=>simp[finSs]
   |cons x r=>simp<;>omega
  simp only[go_sem,e,simprocAttr]
theorem step149(b:Brn)(h:PT 42 [.list 11 (b.steps.map encSt)] (.d (.bool (finSs b.steps)))):PT 149 [encB b] (.d (.bool (!finB b))):=by
 refine ok149.pc ?_;have hc:=h.call trivial;rw[encB_eq,finB_eq];simp only[go_sem,ir149,simprocAttr];refine wc hc trivial
theorem step104(s:Ste)(h:∀b∈s.branches,PT 149 [encB b] (.d (.bool (!finB b)))):PT 104 [encSt s] (.d (.bool (endsS s))):=by
 refine PCon.of_fits ok104.has fun hfit=>?_
 have hl:s.branches.length≤68719476736:=by
  have:=hfit _ (List.mem_cons_self);rw[encSt_eq]at this;simp only[fits,fitsL,List.length_map]at this;omega
 refine ok104.pc ?_;have hc:=(walk148 (cs:=[]) s.branches h hl).call trivial;have e:=finBs_eq s.branches;generalize hE:endsS s=E;rw[endsS_eq]at hE;rw[encSt_eq];simp only[go_sem,ir104,List.length_map,simprocAttr];generalize(s.kind==13)=k13 at*;generalize(s.kind==14)=k14 at*;generalize(s.kind==11)=k11 at*;generalize(s.kind==12)=k12 at*;have fin:∀(b:Bool),(b=true→finBs s.branches=true∧0<s.branches.length)→True:=fun _ _=>trivial
 have rest:k13=false→k14=false→(k11||k12)=true→(decide ((s.branches.length:Int)>0)&& !(s.branches.any fun b=> !finB b))=E:=by
  intro a b c;rw[←hE,a,b,←e];simp only[Bool.or_self,Bool.false_or,c,Bool.true_and];congr 1;exact decide_eq_decide.2 oM
 cases k13 with
 |true=>simp at hE;subst hE;simp only[go_sem,simprocAttr]
 |false=>
  cases k14 with
  |true=>simp at hE;subst hE;simp only[go_sem,simprocAttr]
  |false=>
   cases k11 with
   |true=>
    have rest:=rest rfl rfl rfl;refine zz ?_;refine sq (!(s.branches.any fun b=> !finB b)) ?_ ?_
    ·refine zz ?_;refine wc hc trivial
    ·simp only[go_sem,rest,simprocAttr]
   |false=>
    cases k12 with
    |true=>
     have rest:=rest rfl rfl rfl;refine zz ?_;refine sq (!(s.branches.any fun b=> !finB b)) ?_ ?_
     ·refine zz ?_;refine wc hc trivial
     ·simp only[go_sem,rest,simprocAttr]
    |false=>simp at hE;subst hE;simp only[go_sem,simprocAttr]
mutual
theorem p104:∀(s:Ste),PT 104 [encSt s] (.d (.bool (endsS s)))
 |.mk n k u t l x c e r a b=>step104 _ (p149s b)
theorem p104s:∀(l:List Ste),∀x∈l,PT 104 [encSt x] (.d (.bool (endsS x)))
 |[],x,h=>by cases h
 |v::r,x,h=>by
  by_cases e:x=v
  ·rw[e];exact p104 v
  ·exact p104s r x ((List.mem_cons.1 h).resolve_left e)
theorem p149:∀(b:Brn),PT 149 [encB b] (.d (.bool (!finB b)))
 |.mk w s=>step149 _ (step42 s (p104s s))
theorem p149s:∀(l:List Brn),∀x∈l,PT 149 [encB x] (.d (.bool (!finB x)))
 |[],x,h=>by cases h
 |v::r,x,h=>by
  by_cases e:x=v
  ·rw[e];exact p149 v
  ·exact p149s r x ((List.mem_cons.1 h).resolve_left e)
end
theorem p42(l:List Ste):PT 42 [.list 11 (l.map encSt)] (.d (.bool (finSs l))):=step42 l fun x _=>p104 x
end Go.Proofs
namespace Av
open Go Go.RowKit
variable [Glb][Rls]
theorem CallOK.of_callsN{P:Program}{f:Nat}{ds:List Dat}{x:Dat}(hh:Has P f)
  (h:∀(A:Nat→Prop) (w:World) (vs:Array Value),ds.length=vs.size→(∀(i:Nat) d u,ds[i]? =some d→vs[i]? =some u→Rep A w d u)→
   Calls P f vs w fun e w'=>∃u,e=.returned u∧Below w.heap.size w w'∧Rep (fun b=>A b∨(w.heap.size≤b∧b<w'.heap.size)) w' x u):CallOK P f (ds.map .d) [] (.d x) []:=by
 intro β A w H vs _ hc hvs;have hl:ds.length=vs.size:=sX hvs.1;refine .inl ⟨hh,(h A w vs hl ?_).mono ?_⟩
 ·intro i d u hd hu;have:=hvs.2 i (.d d) u (by rw[List.getElem?_map,hd];rfl) hu;exact this.of_d
 ·rintro e w' ⟨u,rfl,hb,hr⟩;refine⟨u,rfl,β,fun b=>A b∨(w.heap.size≤b∧b<w'.heap.size),?_,.d _ _ hr⟩;refine Stp.new hc hb.os hb.tape hb.output hb.size hb.block (fun _ h=>.inl h) ?_ ?_
  ·rintro b (h|h)
   ·exact .inl h
   ·exact .inr h.1
  ·rintro b (h|h)
   ·exact Nat.lt_of_lt_of_le (hc.old b h) hb.size
   ·exact h.2
theorem rep_owns{A:Nat→Prop}{w w':World}{e:TypeId}{v:Value}{n:Nat}{ss:List (List UInt8)}(hn:n=ss.length)(hs:∀s∈ss,s.length≤68719476736)(hl:ss.length≤68719476736)
  (h:w'.ownsRow w.heap.size e 1 v n (ss.map fun s=>Value.string ⟨s.toArray⟩)):Rep (fun b=>A b∨(w.heap.size≤b∧b<w'.heap.size)) w' (.list 1 (ss.map .str)) v:=by
 obtain⟨h1,⟨rfl,h0⟩|⟨g,cap,cur,rfl,hg,hh,hcap,_,hcur,htake⟩⟩:=h
 ·have:ss=[]:=by cases ss with
   |nil=>rfl
   |cons a r=>simp at hn;omega
  subst this;exact .emp 1 none 0
 ·have hlt:g<w'.heap.size:=(Array.getElem?_eq_some_iff.1 hh).1;refine .list 1 _ g 0 n cap (ss.map fun s=>Value.string ⟨s.toArray⟩) (sX hn) (.inr ⟨hg,hlt⟩) sO (sX hl) ?_ ?_ ?_ ?_ ?_
  ·intro u hu;obtain⟨s,_,rfl⟩:=List.mem_map.1 hu;rfl
  ·intro x hx;obtain⟨s,_,rfl⟩:=List.mem_map.1 hx;rfl
  ·intro i u hu;have:(cur.toList.take (n*1))[i]? =some u:=by rw[htake];exact hu
   rw[List.getElem?_take]at this;split at this
   ·simp only[World.cell?,hh,Nat.zero_add];simpa using this
   ·cases this
  ·rw[flat_str];simp
  ·intro i c u hc hu;rw[flat_str,List.getElem?_map]at hc;rw[List.getElem?_map]at hu;cases q:ss[i]? with
   |none=>rw[q]at hc;cases hc
   |some s=>
    rw[q]at hc hu;cases hc;cases hu;exact .str s (hs s (List.mem_of_getElem? q))
end Av
namespace Go.Proofs
open Go.Shelf
def Tryz.laysJ_ren:Go.Shelf.Ren:=⟨fun|156=>240|165=>275|166=>276|169=>277|240=>328|241=>329|276=>385|277=>386|n=>n,fun|31=>37|9=>9|3=>3|4=>4|0=>0|20=>20|72=>334|76=>278|70=>332|37=>206|75=>277|127=>380|164=>409|5=>5|80=>280|n=>n,fun|n=>n⟩
theorem Tryz.laysJ:Go.Proofs.Lays.n156 Tryz.prog Tryz.laysJ_ren:={
 mixed:=kR
 f156:=Tryz.func240.trans (congrArg some kR)
 f165:=Tryz.func275.trans (congrArg some kR)
 f166:=Tryz.func276.trans (congrArg some kR)
 f169:=Tryz.func277.trans (congrArg some kR)
 f240:=Tryz.func328.trans (congrArg some kR)
 f241:=Tryz.func329.trans (congrArg some kR)
 f276:=Tryz.func385.trans (congrArg some kR)
 f277:=Tryz.func386.trans (congrArg some kR)
 t0:=Tryz.underlying0
 a0:=Tryz.isAgg0
 z0:=Tryz.sizeOf0
 v0:=Tryz.zeroValue0
 t3:=Tryz.underlying3
 a3:=Tryz.isAgg3
 z3:=Tryz.sizeOf3
 v3:=Tryz.zeroValue3
 t4:=Tryz.underlying4
 a4:=Tryz.isAgg4
 z4:=Tryz.sizeOf4
 v4:=Tryz.zeroValue4
 t9:=Tryz.underlying9
 a9:=Tryz.isAgg9
 z9:=Tryz.sizeOf9
 v9:=Tryz.zeroValue9
 t20:=Tryz.underlying20
 a20:=Tryz.isAgg20
 z20:=Tryz.sizeOf20
 v20:=Tryz.zeroValue20
 t31:=Tryz.underlying37
 a31:=Tryz.isAgg37
 z31:=Tryz.sizeOf37
 v31:=Tryz.zeroValue37
 t37:=Tryz.underlying206
 a37:=Tryz.isAgg206
 z37:=Tryz.sizeOf206
 v37:=Tryz.zeroValue206
 t70:=Tryz.underlying332
 a70:=Tryz.isAgg332
 z70:=Tryz.sizeOf332
 v70:=Tryz.zeroValue332
 t72:=Tryz.underlying334
 a72:=Tryz.isAgg334
 z72:=Tryz.sizeOf334
 v72:=Tryz.zeroValue334
 t75:=Tryz.underlying277
 a75:=Tryz.isAgg277
 z75:=Tryz.sizeOf277
 v75:=Tryz.zeroValue277
 t76:=Tryz.underlying278
 a76:=Tryz.isAgg278
 z76:=Tryz.sizeOf278
 v76:=Tryz.zeroValue278
 t127:=Tryz.underlying380
 a127:=Tryz.isAgg380
 z127:=Tryz.sizeOf380
 v127:=Tryz.zeroValue380
 t164:=Tryz.underlying409
 a164:=Tryz.isAgg409
 z164:=Tryz.sizeOf409
 v164:=Tryz.zeroValue409}
theorem Tryz.extraJ:Builder.Extra Tryz.prog Tryz.laysJ_ren:={
 sizeBuilder:=kR
 liesBuilder:=kR
 t5:=Tryz.underlying5
 a5:=Tryz.isAgg5
 z5:=Tryz.sizeOf5
 v5:=Tryz.zeroValue5
 infoByte:=kR
 cellsByte:=kR
 sizeByte:=kR
 neB5:=by decide}
end Go.Proofs
namespace Go.Proofs
open Go Av
def idxB:List UInt8→UInt8→Nat→Int
 |[],_,_=> -1
 |b::l,c,k=>if b==c then(k:Int)else idxB l c (k+1)
theorem idxB_eq(c:UInt8):∀(l:List UInt8) (k:Nat),idxB l c k=if Lib.indexByte l c= -1 then-1 else Lib.indexByte l c+k
 |[],k=>rfl
 |b::l,k=>by
  rw[idxB,Lib.indexByte,idxB_eq c l (k+1)];have hge:=Lib.indexByte_ge l c;by_cases h:(b==c)=true
  ·simp[h]
  ·simp only[h,Bool.false_eq_true,↓reduceIte,beq_iff_eq];by_cases h2:Lib.indexByte l c= -1
   ·simp[h2]
   ·simp only[h2,↓reduceIte];rw[if_neg oM];omega
theorem idxB_le(c:UInt8):∀(l:List UInt8) (k:Nat),-1≤idxB l c k∧idxB l c k≤(l.length+k:Nat)
 |[],k=>by simp only[idxB];omega
 |b::l,k=>by
  have:=idxB_le c l (k+1);simp only[idxB,List.length_cons];split
  ·omega
  ·omega
theorem ext242(s:Str)(c:Int):CT 242 [.d (.str s),.d (.int .u8 c)] [] (.d (.int .i64 (idxB s c.toNat.toUInt8 0))) []:=by
 intro β A w H vs _ hc hvs;obtain⟨hl,hv⟩:=hvs;have h2:vs.size=2:=sX hl.symm;obtain⟨x,y,rfl⟩:∃x y,vs=#[x,y]:=by
  refine⟨vs[0],vs[1],?_⟩;apply Array.ext
  ·simp[h2]
  ·intro i h1 h2';have:i=0∨i=1:=oM;rcases this with rfl|rfl<;>rfl
 have hx:=(hv 0 _ x rfl rfl).of_d;have hy:=(hv 1 _ y rfl rfl).of_d;cases hx with
 |str _ hs=>
  cases hy;have hle:=idxB_le c.toNat.toUInt8 s 0;refine .inr ⟨.int .i64 (idxB s c.toNat.toUInt8 0),w,?_,β,A,Stp.refl hc,.d _ _ (.int _ _ ?_)⟩
  ·refine ext_run (e:=Extern.BytealgIndexByte.indexByte) Tryz.func242 kR kR kR kR ?_;rw[Lib.run_indexByteString,idxB_eq];congr 2;show Lib.indexByte s _=_;have hge:=Lib.indexByte_ge s c.toNat.toUInt8;by_cases h:Lib.indexByte s c.toNat.toUInt8= -1
   ·simp[h]
   ·simp[h]
  ·have e1:IntKind.i64.min= -9223372036854775808:=dC;have e2:IntKind.i64.max=9223372036854775807:=dC;rw[e1,e2];omega
def X1:Ext:=fun f ds=>match f,ds with
 |439,[.str a,.str b]=>some (.d (.int .i64 (Extern.BytealgCompare.cmp ⟨a.toArray⟩ ⟨b.toArray⟩)))
 |242,[.str s,.int .u8 c]=>some (.d (.int .i64 (idxB s c.toNat.toUInt8 0)))
 |_,_=>none
theorem X1_ok:ExtOK Tryz.prog X1:=by
 intro f ds d h;unfold X1 at h;split at h
 ·cases h;exact ext439 _ _
 ·cases h;exact ext242 _ _
 ·cases h
def K1(f:Nat):Nat:=if f==55 then 1 else 0
mutual
def datEq:Dat→Dat→Bool
 |.bool a,.bool b=>a==b
 |.int k a,.int l b=>decide (k=l)&&a==b
 |.str a,.str b=>a==b
 |.nil a,.nil b=>a==b
 |.list a xs,.list b ys=>a==b&&datEqs xs ys
 |.agg xs,.agg ys=>datEqs xs ys
 |.nilIface,.nilIface=>true
 |_,_=>false
def datEqs:List Dat→List Dat→Bool
 |[],[]=>true
 |x::xs,y::ys=>datEq x y&&datEqs xs ys
 |_,_=>false
end
mutual
theorem datEq_eq:∀(a b:Dat),datEq a b=true→a=b
 |.bool a,.bool b,h=>by simp only[datEq,beq_iff_eq]at h;rw[h]
 |.int k a,.int l b,h=>by simp only[datEq,Bool.and_eq_true,decide_eq_true_eq,beq_iff_eq]at h;rw[h.1,h.2]
 |.str a,.str b,h=>by simp only[datEq,beq_iff_eq]at h;rw[h]
 |.nil a,.nil b,h=>by simp only[datEq,beq_iff_eq]at h;rw[h]
 |.list a xs,.list b ys,h=>by simp only[datEq,Bool.and_eq_true,beq_iff_eq]at h;rw[h.1,datEqs_eq xs ys h.2]
 |.agg xs,.agg ys,h=>by simp only[datEq]at h;rw[datEqs_eq xs ys h]
 |.nilIface,b,h=>by cases b<;>first|rfl|(simp[datEq]at h)
 |.fn ..,b,h=>by cases b<;>simp[datEq]at h
 |.ptr _,b,h=>by cases b<;>simp[datEq]at h
 |.map _,b,h=>by cases b<;>simp[datEq]at h
 |.nilFn,b,h=>by cases b<;>simp[datEq]at h
 |.nilPtr,b,h=>by cases b<;>simp[datEq]at h
 |.nilMap,b,h=>by cases b<;>simp[datEq]at h
 |.iface _ _,b,h=>by cases b<;>simp[datEq]at h
 |.opq,b,h=>by cases b<;>simp[datEq]at h
 |.bool _,.int ..,h|.bool _,.str _,h|.bool _,.nil _,h|.bool _,.list ..,h|.bool _,.agg _,h|.bool _,.fn ..,h|.bool _,.ptr _,h|.bool _,.map _,h|.bool _,.nilFn,h|.bool _,.nilPtr,h|.bool _,.nilMap,h|.bool _,.nilIface,h|.bool _,.iface ..,h|.bool _,.opq,h=>by simp[datEq]at h
 |.int ..,.bool _,h|.int ..,.str _,h|.int ..,.nil _,h|.int ..,.list ..,h|.int ..,.agg _,h|.int ..,.fn ..,h|.int ..,.ptr _,h|.int ..,.map _,h|.int ..,.nilFn,h|.int ..,.nilPtr,h|.int ..,.nilMap,h|.int ..,.nilIface,h|.int ..,.iface ..,h|.int ..,.opq,h=>by simp[datEq]at h
 |.str _,.bool _,h|.str _,.int ..,h|.str _,.nil _,h|.str _,.list ..,h|.str _,.agg _,h|.str _,.fn ..,h|.str _,.ptr _,h|.str _,.map _,h|.str _,.nilFn,h|.str _,.nilPtr,h|.str _,.nilMap,h|.str _,.nilIface,h|.str _,.iface ..,h|.str _,.opq,h=>by simp[datEq]at h
 |.nil _,.bool _,h|.nil _,.int ..,h|.nil _,.str _,h|.nil _,.list ..,h|.nil _,.agg _,h|.nil _,.fn ..,h|.nil _,.ptr _,h|.nil _,.map _,h|.nil _,.nilFn,h|.nil _,.nilPtr,h|.nil _,.nilMap,h|.nil _,.nilIface,h|.nil _,.iface ..,h|.nil _,.opq,h=>by simp[datEq]at h
 |.list ..,.bool _,h|.list ..,.int ..,h|.list ..,.str _,h|.list ..,.nil _,h|.list ..,.agg _,h|.list ..,.fn ..,h|.list ..,.ptr _,h|.list ..,.map _,h|.list ..,.nilFn,h|.list ..,.nilPtr,h|.list ..,.nilMap,h|.list ..,.nilIface,h|.list ..,.iface ..,h|.list ..,.opq,h=>by simp[datEq]at h
 |.agg _,.bool _,h|.agg _,.int ..,h|.agg _,.str _,h|.agg _,.nil _,h|.agg _,.list ..,h|.agg _,.fn ..,h|.agg _,.ptr _,h|.agg _,.map _,h|.agg _,.nilFn,h|.agg _,.nilPtr,h|.agg _,.nilMap,h|.agg _,.nilIface,h|.agg _,.iface ..,h|.agg _,.opq,h=>by simp[datEq]at h
theorem datEqs_eq:∀(a b:List Dat),datEqs a b=true→a=b
 |[],[],_=>rfl
 |[],_::_,h=>by simp[datEqs]at h
 |_::_,[],h=>by simp[datEqs]at h
 |x::xs,y::ys,h=>by
  simp only[datEqs,Bool.and_eq_true]at h;rw[datEq_eq x y h.1,datEqs_eq xs ys h.2]
end
def avEqs:List Av→List Av→Bool
 |[],[]=>true
 |.d x::xs,.d y::ys=>datEq x y&&avEqs xs ys
 |_,_=>false
theorem avEqs_eq:∀(a b:List Av),avEqs a b=true→a=b
 |[],[],_=>rfl
 |[],_::_,h=>by simp[avEqs]at h
 |x::xs,[],h=>by cases x<;>simp[avEqs]at h
 |x::xs,y::ys,h=>by
  cases x with
  |d x=>
   cases y with
   |d y=>
    simp only[avEqs,Bool.and_eq_true]at h;rw[datEq_eq x y h.1,avEqs_eq xs ys h.2]
   |_=>simp[avEqs]at h
  |_=>simp[avEqs]at h
def avEq:Av→Av→Bool
 |.d x,.d y=>datEq x y
 |.tup xs,.tup ys=>avEqs xs ys
 |_,_=>false
theorem avEq_eq{a b:Av}(h:avEq a b=true):a=b:=by
 unfold avEq at h;split at h
 ·rw[datEq_eq _ _ h]
 ·rw[avEqs_eq _ _ h]
 ·cases h
abbrev Tbl:=List (Nat×List Dat×Av)
def findT(f:Nat)(ds:List Dat):Tbl→Option Av
 |[]=>none
 |(g,l,v)::r=>match g==f with
  |true=>match datEqs ds l with
   |true=>some v
   |false=>findT f ds r
  |false=>findT f ds r
def ext(t:Tbl)(X:Ext):Ext:=fun f ds=>match findT f ds t with
 |some v=>some v
 |none=>X f ds
def tblOK(P:Program)(X:Ext):Tbl→Bool
 |[]=>true
 |(f,l,v)::r=>(match evF P (some false) (callF P X K1 500 40) 500 f (l.map .d) []with
  |some (u,_)=>pureB u&&avEq u v
  |none=>false)&&tblOK P X r
end Go.Proofs
namespace Go.Proofs
open Go Av Go.RowKit Go.Shelf Go.Lib
variable {P:Program}{X:Ext}{K:Nat→Nat}
theorem join349(ss:List Str)(sep:Str)(hne:ss≠[])(hle:(Lib.join ss sep).length≤68719476736):CT 240 [.d (.list 1 (ss.map .str)),.d (.str sep)] [] (.d (.str (Lib.join ss sep))) []:=by
 refine CallOK.of_calls (ds:=[.list 1 (ss.map .str),.str sep]) ⟨_,Tryz.func240,kR,kR⟩ fun A w vs hl hv=>?_
 have h2:vs.size=2:=sX hl.symm;obtain⟨x,y,rfl⟩:∃x y,vs=#[x,y]:=by
  refine⟨vs[0],vs[1],?_⟩;apply Array.ext
  ·simp[h2]
  ·intro i h1 h2';have:i=0∨i=1:=oM;rcases this with rfl|rfl<;>rfl
 have hx:=hv 0 _ x rfl rfl;have hy:=hv 1 _ y rfl rfl;cases hy with
 |str _ hsep=>
  generalize hD:ss.map Dat.str=D at hx;cases hx with
  |emp=>exact absurd (List.map_eq_nil_iff.1 hD) hne
  |list _ _ b o n cap vs hn hA hcap hc h1 hsz hh hvl hvv=>
   subst hD;rw[flat_str]at hvl hvv;have hcell:∀(j:Nat) (x:ByteArray),(ss.map fun s=>(⟨s.toArray⟩:ByteArray))[j]? =some x→w.cell? ⟨b,o+j,none⟩=some (.string x):=by
    intro j x hj;rw[List.getElem?_map]at hj;cases hs:ss[j]? with
    |none=>rw[hs]at hj;cases hj
    |some s=>
     rw[hs]at hj;cases hj;have hjl:j<vs.length:=by rw[←hvl,List.length_map];exact(List.getElem?_eq_some_iff.1 hs).1
     have hr:=hvv j (.str s) vs[j] (by rw[List.getElem?_map,hs];rfl) (by simp[hjl]);rw[hh j vs[j] (by simp[hjl])];generalize vs[j]=z at hr;cases hr;rfl
   have hpos:0<ss.length:=List.length_pos_iff.2 hne;have hb:b<w.heap.size:=by
    have:=hcell 0 _ (by rw[List.getElem?_map,List.getElem?_eq_getElem hpos];rfl);simp only[World.cell?]at this;split at this
    ·rename_i e;exact(Array.getElem?_eq_some_iff.1 e).1
    ·cases this
   have hmap:(ss.map fun s=>(⟨s.toArray⟩:ByteArray)).map (·.data.toList)=ss:=by
    rw[List.map_map]
    conv=>rhs;rw[←List.map_id ss]
    exact List.map_congr_left fun s _=>by simp
   have hnl:n=(ss.map fun s=>(⟨s.toArray⟩:ByteArray)).length:=sX hn;generalize hX:(ss.map fun s=>(⟨s.toArray⟩:ByteArray))=X at*;have hN:X.length≤140737488355328:=by rw[←hX];simp at hc⊢;omega
   have hL:(Lib.join (X.map (·.data.toList)) (⟨sep.toArray⟩:ByteArray).data.toList).length≤140737488355328:=by
    rw[hmap];show(Lib.join ss sep.toArray.toList).length≤_;simp only[List.toList_toArray];omega
   have hC:X.length≤cap:=by rw[←hX];simpa using hcap
   have J:=Any.strings_Join Tryz.laysJ Tryz.extraJ b o cap X ⟨sep.toArray⟩ w hcell hb hN hC hL;rw[show Tryz.laysJ_ren.f 156=240 from rfl]at J;rw[hnl];refine J.mono ?_;rintro e w' ⟨rfl,hbel⟩;refine⟨_,rfl,hbel,fun β H=>.d _ _ ?_⟩;rw[hmap];show Rep _ _ _ (.string ⟨(Lib.join ss sep.toArray.toList).toArray⟩);simp only[List.toList_toArray];exact .str _ hle
def strsOf:List Dat→Option (List Str)
 |[]=>some []
 |.str s::r=>match strsOf r with
  |some l=>some (s::l)
  |none=>none
 |_::_=>none
theorem strsOf_ok:∀{ds:List Dat} {l:List Str},strsOf ds=some l→ds=l.map .str
 |[],l,h=>by cases h;rfl
 |d::r,l,h=>by
  cases d<;>simp only[strsOf]at h<;>first|(cases h;done)|skip
  split at h
  ·rename_i e;cases h;rw[strsOf_ok e];rfl
  ·cases h
theorem wpList_append_zero{w:World}{ops:Array Oper}{rest:List Oper}{o:Oper}{a:Act}{Q:Exit→Act→World→Prop}(hgd:o.guard=none)(s x:Operand)(t:TypeId)
  (ho:o.op=.call {callee:=.builtin .append,args:=#[s,x],argTypes:=#[t,t]})(e:TypeId)(i:TypeInfo)(ht:P.underlying t=some (.slice e))(hi:P.info? e=some i)
  (b:Option Addr)(hs:a.eval s=.slice b 0 0)(ad:Option Addr)(c:Nat)(hx:a.eval x=.slice ad 0 c)(h:wpList P ops Q rest (a.put o.dst (.slice b 0 0)) w):wpList P ops Q (o::rest) a w:=by
 refine wpList_plain hgd fun _ hK=>?_
 have hr:=run_append_zero (P:=P) (w:=w) t t o.type e i ht hi b (.slice ad 0 c) (by
  cases ad with
  |none=>exact Src.ofNil w ht c
  |some ad=>exact Src.ofSlice w ht ad 0 c [] sP sP sP)
 unfold Oper.wp execOp;simp only[ho,resolve,invoke,builtin,Sem.run_bind,Sem.run_pure,Result.andThen_ok,List.map_toArray,List.map_cons,List.map_nil,hs,hx,hr];exact hK _ _ h
set_option maxHeartbeats 2000000 in
set_option maxRecDepth 1000000 in
theorem cl57(a:Option Addr)(c:Nat)(w:World):Calls Tryz.prog 31 #[.slice a 0 c] w fun e w'=>∃a',e=.returned (.slice a' 0 0)∧Below w.heap.size w w':=by
 obtain⟨i0,hi⟩:∃i0,Tryz.prog.info? 3=some i0:=Option.isSome_iff_exists.1 kR;have q:∀(w:World) (a:Option Addr) (n c n' c':Nat),(binOp .eql 29 (.slice a n c) (.slice none n' c')).run Tryz.prog w=.ok (.bool a.isNone) w:=fun w a n c n' c'=>Lib.run_eql_slice_nil w _ _ a n c n' c' Tryz.underlying29
 have mixed:Tryz.prog.follows Departure.mixedOrders=true:=kR;cases a with
 |none=>
  go_enter Tryz.func31,Tryz.ntmps31
  go_wp2
  go_ret
  exact⟨none,rfl,Below.refl _ _⟩
 |some a=>
  go_enter Tryz.func31,Tryz.ntmps31
  go_wp2_with (first|(simp only[q];done)|(at_builtin;refine wpList_append_zero rfl _ _ 29 rfl 3 i0 Tryz.underlying29 hi _ rfl (some a) c rfl ?_))
  go_wp2
  go_ret
  exact⟨_,rfl,(Below.refl _ w).alloc (Nat.le_refl _) _⟩
set_option maxHeartbeats 2000000 in
set_option maxRecDepth 1000000 in
theorem cl76(a:Option Addr)(c:Nat)(w:World):Calls Tryz.prog 222 #[.slice a 0 c] w fun e w'=>∃a',e=.returned (.slice a' 0 0)∧Below w.heap.size w w':=by
 obtain⟨i0,hi⟩:∃i0,Tryz.prog.info? 9=some i0:=Option.isSome_iff_exists.1 kR;have q:∀(w:World) (a:Option Addr) (n c n' c':Nat),(binOp .eql 37 (.slice a n c) (.slice none n' c')).run Tryz.prog w=.ok (.bool a.isNone) w:=fun w a n c n' c'=>Lib.run_eql_slice_nil w _ _ a n c n' c' Tryz.underlying37
 have mixed:Tryz.prog.follows Departure.mixedOrders=true:=kR;cases a with
 |none=>
  go_enter Tryz.func222,Tryz.ntmps222
  go_wp2
  go_ret
  exact⟨none,rfl,Below.refl _ _⟩
 |some a=>
  go_enter Tryz.func222,Tryz.ntmps222
  go_wp2_with (first|(simp only[q];done)|(at_builtin;refine wpList_append_zero rfl _ _ 37 rfl 9 i0 Tryz.underlying37 hi _ rfl (some a) c rfl ?_))
  go_wp2
  go_ret
  exact⟨_,rfl,(Below.refl _ w).alloc (Nat.le_refl _) _⟩
theorem of_cl{f:Nat}(hh:Has Tryz.prog f)(h:∀(a:Option Addr) (c:Nat) (w:World),Calls Tryz.prog f #[.slice a 0 c] w fun e w'=>∃a',e=.returned (.slice a' 0 0)∧Below w.heap.size w w'){d:Dat}(n:Nat)
  (hd:d=.nil n∨d=.list n []):CT f [.d d] [] (.d (.nil n)) []:=by
 refine CallOK.of_calls (ds:=[d]) hh fun A w vs hl hv=>?_
 obtain⟨u,rfl⟩:=size_one (sX hl);have hr:=hv 0 _ u rfl rfl;have:∃a c,u=.slice a 0 c:=by
  rcases hd with rfl|rfl
  ·cases hr with|nil _ a=>exact⟨a,0,rfl⟩
  ·cases hr with
   |emp _ a cap=>exact⟨a,cap,rfl⟩
   |list _ _ b o n cap vs hn=>exact⟨_,_,by rw[hn];rfl⟩
 obtain⟨a,c,rfl⟩:=this;refine(h a c w).mono ?_;rintro e w' ⟨a',rfl,hb⟩;exact⟨_,rfl,hb,fun β H=>.d _ _ (.nil n a')⟩
def X4:Ext:=fun f ds=>match f,ds with
 |240,[.list 1 xs,.str sep]=>match strsOf xs with
  |some (s::l)=>match Nat.ble (Lib.join (s::l) sep).length 68719476736 with
   |true=>some (.d (.str (Lib.join (s::l) sep)))
   |false=>none
  |_=>none
 |31,[.nil n]=>some (.d (.nil n))
 |31,[.list n []]=>some (.d (.nil n))
 |222,[.nil n]=>some (.d (.nil n))
 |222,[.list n []]=>some (.d (.nil n))
 |f,ds=>X1 f ds
theorem X4_ok:ExtOK Tryz.prog X4:=by
 intro f ds d h;unfold X4 at h;split at h
 ·rename_i e;split at h
  ·rename_i e;split at h
   ·rename_i hb;cases h;obtain rfl:=strsOf_ok e;exact join349 _ _ sP (Nat.le_of_ble_eq_true hb)
   ·cases h
  ·cases h
 ·cases h;exact of_cl ⟨_,Tryz.func31,kR,kR⟩ cl57 _ (.inl rfl)
 ·cases h;exact of_cl ⟨_,Tryz.func31,kR,kR⟩ cl57 _ (.inr rfl)
 ·cases h;exact of_cl ⟨_,Tryz.func222,kR,kR⟩ cl76 _ (.inl rfl)
 ·cases h;exact of_cl ⟨_,Tryz.func222,kR,kR⟩ cl76 _ (.inr rfl)
 ·exact X1_ok _ _ _ h
section
@[instance_reducible] def rlsK:Rls:={rl:=fun n=>n==1,rm:=fun n=>n==11,tr:=fun n=>n==3||(n==11||(n==2||(n==13||n==20)))}
attribute [local instance] rlsK
def findD(f:Nat)(ds:List Dat):Tbl→Option Av
 |[]=>none
 |(g,l,v)::r=>match g==f with
  |true=>match dEqs ds l with
   |true=>some v
   |false=>findD f ds r
  |false=>findD f ds r
def extD(t:Tbl)(X:Ext):Ext:=fun f ds=>match findD f ds t with
 |some v=>some v
 |none=>X f ds
def avEqsD:List Av→List Av→Bool
 |[],[]=>true
 |.d x::xs,.d y::ys=>dEq x y&&avEqsD xs ys
 |_,_=>false
theorem avEqsD_eq:∀(a b:List Av),avEqsD a b=true→a=b
 |[],[],_=>rfl
 |[],_::_,h=>by simp[avEqsD]at h
 |x::xs,[],h=>by cases x<;>simp[avEqsD]at h
 |x::xs,y::ys,h=>by
  cases x with
  |d x=>
   cases y with
   |d y=>
    simp only[avEqsD,Bool.and_eq_true]at h;rw[dEq_ok x y h.1,avEqsD_eq xs ys h.2]
   |_=>simp[avEqsD]at h
  |_=>simp[avEqsD]at h
def avEqD:Av→Av→Bool
 |.d x,.d y=>dEq x y
 |.tup xs,.tup ys=>avEqsD xs ys
 |_,_=>false
theorem avEqD_eq{a b:Av}(h:avEqD a b=true):a=b:=by
 unfold avEqD at h;split at h
 ·rw[dEq_ok _ _ h]
 ·rw[avEqsD_eq _ _ h]
 ·cases h
def entK(P:Program)(X:Ext)(K:Nat→Nat)(f:Nat)(l:List Dat)(v:Av):Bool:=match evF P (modeOf (K f)) (callF P X K 500 60) 500 f (l.map .d) []with
 |some (u,_)=>pureB u&&avEqD u v
 |none=>false
theorem entK_ok(hX:ExtOK P X){f:Nat}{l:List Dat}{v:Av}(h:entK P X K f l v=true):PCon P f l v∧pureR v:=by
 unfold entK at h;split at h
 ·rename_i u fh ev;simp only[Bool.and_eq_true]at h;obtain⟨hp,he⟩:=h;obtain rfl:=avEqD_eq he;exact⟨ev_pcon hX ev hp,pureB_ok hp⟩
 ·cases h
def tblK(P:Program)(X:Ext)(K:Nat→Nat):Tbl→Bool
 |[]=>true
 |(f,l,v)::r=>entK P X K f l v&&tblK P X K r
theorem tblK_find(hX:ExtOK P X):∀{t:Tbl} {f:Nat} {ds:List Dat} {v:Av},tblK P X K t=true→findD f ds t=some v→CallOK P (.fn f) (ds.map .d) [] v []
 |[],_,_,_,_,h=>by cases h
 |(g,l,x)::r,f,ds,v,h,hf=>by
  rw[tblK,Bool.and_eq_true]at h;rw[findD]at hf;split at hf
  ·rename_i e1;split at hf
   ·rename_i e2;cases hf;obtain rfl:=dEqs_ok _ _ e2;simp only[beq_iff_eq]at e1;subst e1;obtain⟨h1,h2⟩:=entK_ok hX h.1;exact h1.call h2
   ·exact tblK_find hX h.2 hf
  ·exact tblK_find hX h.2 hf
theorem extK_ok{t:Tbl}(hX:ExtOK P X)(h:tblK P X K t=true):ExtOK P (extD t X):=by
 intro f ds v hx;unfold extD at hx;split at hx
 ·rename_i u e;cases hx;exact tblK_find hX h e
 ·exact hX f ds v hx
end
def K24:Nat→Nat
 |31|184|231|234|235|236|237|238=>1
 |72=>2
 |_=>0
end Go.Proofs
namespace Go.Proofs
open Go Av
open Av.Y
def ir113:Ic:=q (R (ow 2 false<|N) [2])<|q (q (R (om 5 0<|ob 6 .seq (t 5) (.k (.str []))<|om 7 6<|.sc 7 false (om 8 0<|oj 9 8<|oi 10 .gtr 9 32<|N) (t 10) 11 (om 12 11<|.sc 12 false (om 13 0<|oo 14 (.ixs (t 13) (i 0))<|ob 15 .lss (t 14) (.k (.int .u8 97))<|N) (t 15) 16 (om 17 16<|.sc 17 false (om 18 0<|oo 19 (.ixs (t 18) (i 0))<|ob 20 .gtr (t 19) (.k (.int .u8 122))<|N) (t 20) 21 N))) [5,6,7,11,12,16,17])<|D (I 21 (q (R (ow 2 false<|N) [0,21])<|.ret) S) [21])<|q (q (R (om 22 0<|oo 23 (.s2b (t 22))<|oh 24 23<|oz 25 0<|N) [0,22])<|D (.block 0<|.loop (q (.reg (ot 26 .lss 25 24<|N))<|q (D (I 26 S (E 0)) [26])<|q (D (.block 1<|q (R (oa false 27 1 23 25<|ol 28 27<|om 4 28<|N) [27,28])<|q (R (om 29 4<|ob 30 .lss (t 29) (.k (.int .u8 97))<|om 31 30<|.sc 31 false (om 32 4<|ob 33 .gtr (t 32) (.k (.int .u8 122))<|N) (t 33) 34 (om 35 34<|.sc 35 true (om 36 4<|ob 37 .lss (t 36) (.k (.int .u8 48))<|om 38 37<|.sc 38 false (om 39 4<|ob 40 .gtr (t 39) (.k (.int .u8 57))<|N) (t 40) 41 N) (t 41) 42 (om 43 42<|.sc 43 true (om 44 4<|ob 45 .neq (t 44) (.k (.int .u8 95))<|N) (t 45) 46 N))) [4,29,30,31,34,35,42,43])<|D (I 46 (q (R (ow 2 false<|N) [23,24,25,46])<|.ret) S) [46]) [])<|R (oi 47 .add 25 1<|om 25 47<|N) [47])) [23,24,25,26,4])<|q (.reg (ow 2 true<|N))<|.ret
theorem ok113:FT 113 48 ir113 [.tmp 2]:=.o Tryz.func113
end Go.Proofs
namespace Go.Proofs
open Go Av
theorem tbl_one{P:Program}{X:Ext}(hX:ExtOK P X){f:Nat}{ds:List Dat}{v:Av}(h:tblOK P X [(f,ds,v)]=true):PCon P f ds v:=by
 rw[tblOK,tblOK,Bool.and_true]at h;cases ev:evF P false (callF P X K1 500 40) 500 f (ds.map .d) []with
 |none=>rw[ev]at h;cases h
 |some y=>
  obtain⟨u,fh⟩:=y;rw[ev]at h;simp only[Bool.and_eq_true]at h;obtain⟨hp,he⟩:=h;obtain rfl:=avEq_eq he;exact ev_pcon (X:=X) (K:=K1) (L:=500) (n:=40) hX ev hp
theorem idsInL_d{G:Nat→Option Av.Obj}:∀cs:List Dat,idsInL G (cs.map .d)
 |[]=>trivial
 |_::r=>⟨trivial,idsInL_d r⟩
theorem renL_d(ρ:Nat→Nat):∀cs:List Dat,renL ρ (cs.map .d)=cs.map .d
 |[]=>rfl
 |_::r=>by simp only[List.map_cons,renL,Av.ren,renL_d ρ r]
theorem closed_box(i:Nat)(cs:List Dat):closed (get [(i,.box (cs.map .d))]):=by
 refine closed_of ?_;simp only[closedH,objIn,idsInL_d,and_true]
theorem Con.ro{P:Program}{f:Nat}{ds cs:List Dat}{r:Dat}(h:Con P f (.ref 1000 0::ds.map .d) [(1000,.box (cs.map .d))] (.d r) [])(i:Nat):
  CallOK P f (.ref i 0::ds.map .d) [(i,some (.box (cs.map .d)))] (.d r) []:=by
 have h1:∀j,(get [(1000,Obj.box (cs.map .d))] j).isSome=true→j=1000:=by
  intro j hj;simp only[Av.get]at hj;split at hj
  ·rename_i e;exact e.symm
  ·cases hj
 have:=h.call (fun _=>i) (fun j hj=>by rw[h1 j hj];decide) (fun a b ha hb _=>by rw[h1 a ha,h1 b hb]) ?_ (closed_box _ _) [] sP (closed_box _ _) trivial
 ·have e:(ds.map Av.d).map (Av.ren fun _=>i)=ds.map Av.d:=by
   rw[List.map_map];exact List.map_congr_left fun x _=>by simp[Av.ren]
  simpa[Av.ren,Obj.ren,renL_d,e]using this
 ·intro c hc;rcases List.mem_cons.1 hc with rfl|hc
  ·rfl
  ·obtain⟨x,_,rfl⟩:=List.mem_map.1 hc;trivial
theorem t0':Int.toNat 0=0:=rfl
def nameC(c:UInt8):Bool:= !((decide ((c.toNat:Int)<97)||decide ((c.toNat:Int)>122))&&(decide ((c.toNat:Int)<48)||decide ((c.toNat:Int)>57))&&((c.toNat:Int)!=95))
def nameS(s:Str):Bool:= !(s==[]||decide ((s.length:Int)>32)||decide (((s.getD 0 0).toNat:Int)<97)||decide (((s.getD 0 0).toNat:Int)>122))&&s.all nameC
theorem walk113(s:Str)(hs:s.length≤68719476736):PT 113 [.str s] (.d (.bool (nameS s))):=by
 refine ok113.pc ?_;cases s with
 |nil=>
  simp only[go_sem,ir113,Nat.reduceAdd,Nat.reduceEqDiff,Nat.reduceBEq,Nat.reduceLeDiff,reduceCtorEq,↓reduceIte];rfl
 |cons c t=>
  have e0:((c::t:Str)==[])=false:=rfl;have e1:(c::t).getD 0 0=c:=rfl;simp only[go_sem,ir113,e0,e1,t0',Nat.reduceAdd,Nat.reduceEqDiff,Nat.reduceBEq,Nat.reduceLeDiff,reduceCtorEq,↓reduceIte];generalize hb:(c::t:Str)=s at*;have hl:0<s.length:=by rw[←hb];simp
  have hlen:(t.length+1:Nat)=s.length:=by rw[←hb];simp
  have hc0:s.getD 0 0=c:=by rw[←hb];rfl
  have e0':(s==[])=false:=by rw[←hb];rfl
  rw[hlen];refine sq (decide ((c.toNat:Int)<97)) ?_ ?_
  ·simp only[go_sem,t0',hc0,Nat.reduceAdd,Nat.reduceEqDiff,Nat.reduceBEq,Nat.reduceLeDiff,reduceCtorEq,↓reduceIte];omega
  refine zz ?_;refine sq (decide ((c.toNat:Int)>122)) ?_ ?_
  ·simp only[go_sem,t0',hc0,Nat.reduceAdd,Nat.reduceEqDiff,Nat.reduceBEq,Nat.reduceLeDiff,reduceCtorEq,↓reduceIte];omega
  refine zz ?_;apply ik<;>intro h
  ·have:nameS s=false:=by unfold nameS;rw[e0',hc0,Bool.false_or,h];rfl
   rw[this]
  have hn:nameS s=s.all nameC:=by unfold nameS;rw[e0',hc0,Bool.false_or,h];rfl
  rw[hn];refine zz4 ?_;refine wpc_loop (fun n st=>∃k:Nat,k≤s.length∧n=s.length-k∧s.all nameC=(s.drop k).all nameC∧
   st=⟨[(23,.d (.list 1 (s.map fun b=>.int .u8 b.toNat))),(24,.d (.int .i64 s.length)),(25,.d (.int .i64 k))],[]⟩) ?_ ?_
  ·exact⟨_,_,Wk.refl _,0,Nat.zero_le _,rfl,rfl,rfl⟩
  ·rintro n st ⟨k,hk,rfl,hinv,rfl⟩;by_cases hlt:k<s.length
   ·have hd:=dT hlt;have hg:nth (s.map fun b=>Dat.int .u8 b.toNat) k=.int .u8 s[k].toNat:=by rw[nth_eq (sX hlt)];simp
    rw[List.drop_eq_getElem_cons hlt,List.all_cons]at hinv;simp only[go_sem,hd,hg,Int.toNat_natCast,List.length_map,Nat.reduceAdd,Nat.reduceEqDiff,Nat.reduceBEq,Nat.reduceLeDiff,reduceCtorEq,↓reduceIte];generalize hx:(s[k].toNat:Int)=x at*;refine⟨oM,oM,?_⟩;refine sq (decide (x>122)) ?_ ?_
    ·exact zz trivial
    refine zz ?_;refine sq (decide (x<48)||decide (x>57)) ?_ ?_
    ·refine zz ?_;refine sq (decide (x>57)) ?_ ?_
     ·exact zz trivial
     exact zz trivial
    refine zz ?_;refine sq (x !=95) ?_ ?_
    ·exact zz trivial
    refine zz ?_;have hcx:nameC s[k]= !((decide (x<97)||decide (x>122))&&(decide (x<48)||decide (x>57))&&(x !=95)):=by rw[←hx];rfl
    apply ik<;>intro hf
    ·rw[hcx,hf,Bool.not_true,Bool.false_and]at hinv;rw[hinv]
    ·rw[hcx,hf,Bool.not_false,Bool.true_and]at hinv;refine⟨s.length-(k+1),_,oM,Wk.less ?_,k+1,oM,rfl,hinv,rfl⟩;exact zz7 trivial
   ·have hd:=dF hlt;obtain rfl:k=s.length:=oM;rw[List.drop_length,List.all_nil]at hinv;simp only[go_sem,hd,hinv,Nat.reduceAdd,Nat.reduceEqDiff,Nat.reduceBEq,Nat.reduceLeDiff,reduceCtorEq,↓reduceIte]
structure Part where
 kind:Int
 index:Int
 name:Str
def encP(p:Part):Dat:=.agg [.int .i64 p.kind,.int .i64 p.index,.str p.name]
end Go.Proofs
namespace Go.Proofs
open Go.Shelf
def Tryz.laysM171_ren:Go.Shelf.Ren:=⟨fun|171=>167|243=>210|246=>260|283=>314|284=>315|285=>316|286=>317|129=>370|317=>369|318=>371|319=>372|320=>373|337=>400|338=>401|n=>n,fun|3=>3|9=>9|2=>2|4=>4|171=>364|0=>0|53=>331|37=>206|5=>5|173=>367|212=>401|51=>388|20=>20|213=>402|46=>298|232=>444|233=>445|n=>n,fun|17=>3|18=>6|19=>7|n=>n⟩
theorem Tryz.laysM171:Go.Proofs.LaysM.n171 Tryz.prog Tryz.laysM171_ren:={
 mixed:=kR
 f129:=Tryz.func370.trans (congrArg some kR)
 f171:=Tryz.func167.trans (congrArg some kR)
 f243:=Tryz.func210.trans (congrArg some kR)
 f246:=Tryz.func260.trans (congrArg some kR)
 f283:=Tryz.func314.trans (congrArg some kR)
 f284:=Tryz.func315.trans (congrArg some kR)
 f285:=Tryz.func316.trans (congrArg some kR)
 f286:=Tryz.func317.trans (congrArg some kR)
 f317:=Tryz.func369.trans (congrArg some kR)
 f318:=Tryz.func371.trans (congrArg some kR)
 f319:=Tryz.func372.trans (congrArg some kR)
 f320:=Tryz.func373.trans (congrArg some kR)
 f337:=Tryz.func400.trans (congrArg some kR)
 f338:=Tryz.func401.trans (congrArg some kR)
 t0:=Tryz.underlying0
 a0:=Tryz.isAgg0
 z0:=Tryz.sizeOf0
 v0:=Tryz.zeroValue0
 t2:=Tryz.underlying2
 a2:=Tryz.isAgg2
 z2:=Tryz.sizeOf2
 v2:=Tryz.zeroValue2
 t3:=Tryz.underlying3
 a3:=Tryz.isAgg3
 z3:=Tryz.sizeOf3
 v3:=Tryz.zeroValue3
 t4:=Tryz.underlying4
 a4:=Tryz.isAgg4
 z4:=Tryz.sizeOf4
 v4:=Tryz.zeroValue4
 t5:=Tryz.underlying5
 a5:=Tryz.isAgg5
 z5:=Tryz.sizeOf5
 v5:=Tryz.zeroValue5
 t9:=Tryz.underlying9
 a9:=Tryz.isAgg9
 z9:=Tryz.sizeOf9
 v9:=Tryz.zeroValue9
 t20:=Tryz.underlying20
 a20:=Tryz.isAgg20
 z20:=Tryz.sizeOf20
 v20:=Tryz.zeroValue20
 t37:=Tryz.underlying206
 a37:=Tryz.isAgg206
 z37:=Tryz.sizeOf206
 v37:=Tryz.zeroValue206
 t46:=Tryz.underlying298
 a46:=Tryz.isAgg298
 z46:=Tryz.sizeOf298
 v46:=Tryz.zeroValue298
 t51:=Tryz.underlying388
 a51:=Tryz.isAgg388
 z51:=Tryz.sizeOf388
 v51:=Tryz.zeroValue388
 t53:=Tryz.underlying331
 a53:=Tryz.isAgg331
 z53:=Tryz.sizeOf331
 v53:=Tryz.zeroValue331
 t171:=Tryz.underlying364
 a171:=Tryz.isAgg364
 z171:=Tryz.sizeOf364
 v171:=Tryz.zeroValue364
 t173:=Tryz.underlying367
 a173:=Tryz.isAgg367
 z173:=Tryz.sizeOf367
 v173:=Tryz.zeroValue367
 t212:=Tryz.underlying401
 a212:=Tryz.isAgg401
 z212:=Tryz.sizeOf401
 v212:=Tryz.zeroValue401
 t213:=Tryz.underlying402
 a213:=Tryz.isAgg402
 z213:=Tryz.sizeOf402
 t232:=Tryz.underlying444
 a232:=Tryz.isAgg444
 z232:=Tryz.sizeOf444
 v232:=Tryz.zeroValue444
 t233:=Tryz.underlying445
 a233:=Tryz.isAgg445
 z233:=Tryz.sizeOf445
 v233:=Tryz.zeroValue445
 g17:=kR
 g18:=kR
 g19:=kR
 i0:=kR
 i2:=kR
 i3:=kR
 i4:=kR
 i5:=kR
 i9:=kR
 i20:=kR
 i37:=kR
 i46:=kR
 i51:=kR
 i53:=kR
 i171:=kR
 i173:=kR
 i212:=kR
 i232:=kR
 i233:=kR
 m17:=kR
 m18:=kR
 m19:=by kernel_rfl}
end Go.Proofs
namespace Go.Proofs
open Go Av Go.RowKit
theorem hasT{f:Nat}{fn:Func}(h:Tryz.prog.funcs[f]? =some fn)(h1:fn.body.isSome=true)(h2:(fn.name== "runtime.NumGoroutine")=false):Has Tryz.prog f:=⟨fn,h,h1,h2⟩
theorem one_arg{vs:Array Value}(h:1=vs.size):∃x,vs=#[x]:=by
 refine⟨vs[0],?_⟩;apply Array.ext
 ·simp[←h]
 ·intro i h1 h2;have:i=0:=oM;subst this;rfl
theorem tabI{A:Nat→Prop}{w:World}(hg:∀g cs,globOf g=some cs→GRep A w g cs):Lib.TabIs Tryz.prog w "internal/strconv.uint64pow10" .u64 Lib.pow10Tab:=by
 obtain⟨h0,C,T,fr,h1,h2,h3,h4⟩:=hg 3 tab3 rfl;have hn:Tryz.prog.globalNamed "internal/strconv.uint64pow10" =some 3:=kR;unfold Lib.TabIs World.var?;rw[hn];simp only[Option.bind_some,h1,Option.some.injEq];have hlen:tab3.length=20:=by simp[tab3]
 apply Array.ext
 ·rw[←h2,hlen];simp[Lib.pow10Tab]
 ·intro i hi hi';have hi20:i<20:=by rw[←h2,hlen]at hi;exact hi
  have e1:tab3[i]? =some (.int .u64 ((10^i:Nat):Int)):=by simp[tab3,hi20]
  have:=h4 i _ C[i] e1 sP;generalize C[i]=v at this;cases this;simp[Lib.pow10Tab]
theorem call167(n:Int)(h0: -9223372036854775808≤n)(h1:n≤9223372036854775807):CT 167 [.d (.int .i64 n)] [] (.d (.str (Lib.itoa n))) []:=by
 refine CallOK.of_callsG (ds:=[.int .i64 n]) (hasT Tryz.func167 kR kR) ?_;intro A w vs hg hl hv;obtain⟨x,rfl⟩:=one_arg hl;have hx:=hv 0 _ x rfl rfl;cases hx with
 |int=>
  refine(Any.strconv_Itoa Tryz.laysM171 n h0 h1 w (tabI hg)).mono ?_;rintro e w' ⟨rfl,k,os,rfl⟩;refine⟨_,rfl,?_,fun β H=>.d _ _ (.str _ ?_)⟩
  ·refine⟨rfl,rfl,rfl,by simp[Sort.grow],fun i hi=>?_⟩;show((w.drewN k).heap++os)[i]? =_;rw[Array.getElem?_append_left (by show i<w.heap.size;omega)];rfl
  ·have:=Lib.itoa_length_le n h0 h1;omega
end Go.Proofs
namespace Go.Proofs
open Go Av
open Av.Y
end Go.Proofs
namespace Go.Proofs
open Go Av
theorem Con.rl{P:Program}{f:Nat}{ds cs:List Dat}{r:Dat}(h:Con P f (ds.map .d++[.ref 1000 0]) [(1000,.box (cs.map .d))] (.d r) [])(i:Nat):
  CallOK P f (ds.map .d++[.ref i 0]) [(i,some (.box (cs.map .d)))] (.d r) []:=by
 have h1:∀j,(get [(1000,Obj.box (cs.map .d))] j).isSome=true→j=1000:=by
  intro j hj;simp only[Av.get]at hj;split at hj
  ·rename_i e;exact e.symm
  ·cases hj
 have:=h.call (fun _=>i) (fun j hj=>by rw[h1 j hj];decide) (fun a b ha hb _=>by rw[h1 a ha,h1 b hb]) ?_ (closed_box _ _) [] sP (closed_box _ _) trivial
 ·have e:(ds.map Av.d).map (Av.ren fun _=>i)=ds.map Av.d:=by
   rw[List.map_map];exact List.map_congr_left fun x _=>by simp[Av.ren]
  simpa[Av.ren,Obj.ren,renL_d,e]using this
 ·intro c hc;rcases List.mem_append.1 hc with hc|hc
  ·obtain⟨x,_,rfl⟩:=List.mem_map.1 hc;trivial
  ·rw[List.mem_singleton.1 hc];rfl
theorem canonL_parts(l:List Part):canonL (l.map encP)=l.map encP:=by
 rw[canonL_map,List.map_map];exact List.map_congr_left fun p _=>by simp[encP,Dat.canon,canonL]
attribute [go_sem] canonL_parts
end Go.Proofs
namespace Go.Proofs
open Go Av
open Av.Y
def ir346:Ic:=q (R (ox 2 0<|ox 3 1<|oz 4 0<|N) [0,1,4])<|q (R (of 5 2 5<|ol 6 5<|oo 7 (.fnv (.func 389) [] [t 3])<|cl 8 388 [t 6,t 7]<|om 4 8<|N) [2,3,5,6,7,8])<|.ret
theorem ok346:FT 346 9 ir346 [.tmp 4]:=.o Tryz.func346
def ir389:Ic:=q (R (ox 2 0<|ow 3 false<|N) [0,3])<|q (R (of 4 2 0<|ol 5 4<|ol 6 1<|ot 7 .seq 5 6<|om 3 7<|N) [2,4,5,6,7])<|.ret
theorem ok389:FT 389 8 ir389 [.tmp 3]:=.o Tryz.func389
def ir388:Ic:=q (R (oz 4 0<|N) [4])<|q (q (R (om 6 0<|oh 7 6<|oz 8 0<|N) [6])<|D (.block 0<|.loop (q (.reg (ot 9 .lss 8 7<|N))<|q (D (I 9 S (E 0)) [9])<|q (D (.block 1<|q (R (om 10 8<|om 5 10<|N) [10])<|q (R (om 11 1<|om 12 0<|om 13 5<|oa true 14 7 12 13<|oL 15 7 14<|.call (some 16) (.dyn (t 11)) [t 15] N) [11,12,13,14,15])<|D (I 16 (q (R (om 17 5<|om 4 17<|N) [0,1,7,8,5,16,17])<|.ret) S) [5,16]) [])<|R (oi 18 .add 8 1<|om 8 18<|N) [18])) [0,1,7,8,9,10,5,11])<|q (.reg (oz 4 (-1)<|N))<|.ret
theorem ok388:FT 388 19 ir388 [.tmp 4]:=.o Tryz.func388
def ir287:Ic:=q (R (ox 2 0<|oN 4 y6<|ow 5 false<|N) [0,5])<|q (R (oL 7 6 2<|om 8 1<|cl 9 346 [t 7,t 8]<|om 6 9<|N) [1,7,8,9])<|q (q (R (of 10 2 0<|ol 11 10<|oi 12 .neq 11 9<|om 13 12<|.sc 13 false (om 14 6<|oi 15 .lss 14 0<|N) (t 15) 16 N) [10,11,12,13])<|D (I 16 (q (R (oo 17 (.bld y6 [])<|oS 6 4 17<|ow 5 false<|N) [2,6,16,17])<|.ret) S) [16])<|q (R (of 18 2 5<|ol 19 18<|om 20 6<|oa true 21 7 19 20<|of 22 21 1<|oL 23 6 22<|cl 24 264 [t 23]<|oS 6 4 24<|ow 5 true<|N) [2,6,18,19,20,21,22,23,24])<|.ret
theorem ok287:FT 287 25 ir287 [.cell 4 (some 6),.tmp 5]:=.o Tryz.func287
def ir229:Ic:=q (R (ox 2 0<|ox 3 1<|oN 4 yG<|ow 5 false<|N) [0,1,5])<|q (R (oL 6 7 2<|oo 7 (.fnv (.func 274) [] [t 3])<|cl 8 273 [t 6,t 7]<|oe 9 8 0<|oe 10 8 1<|oS 11 4 9<|om 5 10<|N) [2,3,6,7,8,9,10])<|.ret
theorem ok229:FT 229 11 ir229 [.cell 4 (some 11),.tmp 5]:=.o Tryz.func229
def ir273:Ic:=q (R (ox 2 0<|oN 4 yG<|ow 5 false<|N) [0,5])<|q (q (R (of 7 2 0<|ol 8 7<|oi 9 .neq 8 9<|om 10 9<|.sc 10 true (of 11 2 0<|ol 12 11<|oi 13 .neq 12 10<|N) (t 13) 14 N) [7,8,9,10])<|D (I 14 (q (R (oo 15 (.bld yG [])<|oS 11 4 15<|ow 5 false<|N) [1,2,14,15])<|.ret) S) [14])<|q (R (of 16 2 6<|ol 17 16<|om 18 1<|cl 19 195 [t 17,t 18]<|om 6 19<|N) [1,16,17,18,19])<|q (q (R (om 20 6<|oi 21 .lss 20 0<|N) [20])<|D (I 21 (q (R (oo 22 (.bld yG [])<|oS 11 4 22<|ow 5 false<|N) [2,6,21,22])<|.ret) S) [21])<|q (R (of 23 2 6<|ol 24 23<|om 25 6<|oa true 26 11 24 25<|oL 27 11 26<|cl 28 221 [t 27]<|oS 11 4 28<|ow 5 true<|N) [2,6,23,24,25,26,27,28])<|.ret
theorem ok273:FT 273 29 ir273 [.cell 4 (some 11),.tmp 5]:=.o Tryz.func273
def ir274:Ic:=q (R (ox 2 0<|ow 3 false<|N) [0,3])<|q (R (of 4 2 1<|ol 5 4<|ol 6 1<|ot 7 .seq 5 6<|om 3 7<|N) [2,4,5,6,7])<|.ret
theorem ok274:FT 274 8 ir274 [.tmp 3]:=.o Tryz.func274
end Go.Proofs
namespace Go.Proofs
open Go Av
def ixF(q:Fld→Bool)(l:List Fld):Int:=match l.findIdx? q with
 |some k=>(k:Int)
 |none=> -1
theorem walk388{g:Nat}{cs:List Dat}{q:Fld→Bool}(hq:∀x,PT g [encF x,.ptr cs] (.d (.bool (q x))))(l:List Fld)(hl:l.length≤68719476736):
  PT 388 [.list 7 (l.map encF),cloD g cs] (.d (.int .i64 (ixF q l))):=by
 refine ok388.pc ?_;simp only[go_sem,ir388,List.length_map,simprocAttr];refine wpc_loop (fun n s=>∃k:Nat,k≤l.length∧n=l.length-k∧(∀(j:Nat) (h1:j<l.length),j<k→q l[j]=false)∧
  s=⟨[(0,.d (.list 7 (l.map encF))),(1,.d (cloD g cs)),(7,.d (.int .i64 l.length)),(8,.d (.int .i64 k))],[]⟩) ?_ ?_
 ·exact⟨_,_,Wk.refl _,0,Nat.zero_le _,rfl,sP,rfl⟩
 ·rintro n s ⟨k,hk,rfl,hinv,rfl⟩;by_cases hlt:k<l.length
  ·have hx:=nth_encF hlt;have hd:=dT hlt;have hc:=(hq l[k]).call trivial;rw[encF_eq]at hc;refine zz6 ?_;refine⟨oM,wn hc ?_⟩;refine zz ?_;apply ik<;>intro hf
   ·have:l.findIdx? q=some k:=by
     rw[List.findIdx?_eq_some_iff_getElem];exact⟨hlt,hf,fun j hj=>by rw[hinv j oM hj];decide⟩
    simp only[ixF,this]
   ·refine⟨l.length-(k+1),_,oM,Wk.less ?_,k+1,oM,rfl,?_,rfl⟩
    ·exact zz7 trivial
    ·intro j h1 hj;by_cases e:j=k
     ·subst e;exact hf
     ·exact hinv j h1 oM
  ·have hd:=dF hlt;refine zz5 ?_;have:l.findIdx? q=none:=by
    rw[List.findIdx?_eq_none_iff];intro x hx;obtain⟨j,hj,rfl⟩:=List.getElem_of_mem hx;exact hinv j hj oM
   simp only[ixF,this]
theorem ixF_bd{q:Fld→Bool}{l:List Fld}: -1≤ixF q l∧ixF q l<l.length:=by
 unfold ixF;cases e:l.findIdx? q with
 |none=>simp only;omega
 |some k=>
  obtain⟨h,_⟩:=List.findIdx?_eq_some_iff_getElem.1 e;simp only;omega
theorem walk389(x:Fld)(n:Str):PT 389 [encF x,.ptr [.str n]] (.d (.bool (x.name==n))):=by
 refine ok389.pc ?_;rw[encF_eq];simp only[go_sem,ir389,Nat.reduceAdd,Nat.reduceEqDiff,Nat.reduceBEq,Nat.reduceLeDiff,reduceCtorEq,↓reduceIte];exact Nat.one_pos
def ixN(n:Str)(l:List Fld):Int:=ixF (fun f=>f.name==n) l
theorem walk346(v:Val)(n:Str)(hl:v.fields.length≤68719476736):PT 346 [encV v,.str n] (.d (.int .i64 (ixN n v.fields))):=by
 refine ok346.pc ?_;have hc:=CallOK.clo (ds:=[.list 7 (v.fields.map encF)]) (walk388 (fun x=>walk389 x n) v.fields hl) rfl 3;simp only[List.map_cons,List.map_nil,List.cons_append,List.nil_append]at hc;rw[encV_eq];simp only[go_sem,ir346,simprocAttr];refine wn hc ?_;simp only[go_sem,ixN,simprocAttr]
theorem nameS_len{s:Str}(h:nameS s=true):s.length≤32:=by
 simp only[nameS,Bool.and_eq_true,Bool.not_eq_true',Bool.or_eq_false_iff,decide_eq_false_iff_not]at h;omega
mutual
def szV:Val→Nat
 |.mk _ _ _ _ l f=>1+szVs l+szFs f
def szVs:List Val→Nat
 |[]=>0
 |v::r=>szV v+szVs r
def szFs:List Fld→Nat
 |[]=>0
 |.mk _ v::r=>szV v+szFs r
end
theorem szV_eq(v:Val):szV v=1+szVs v.list+szFs v.fields:=by cases v;rfl
theorem szVs_mem:∀{l:List Val} {x:Val},x∈l→szV x≤szVs l
 |v::r,x,h=>by
  rcases List.mem_cons.1 h with rfl|h
  ·simp only[szVs];omega
  ·have:=szVs_mem h;simp only[szVs];omega
end Go.Proofs
namespace Go.Proofs
open Go Av
open Av.Y
def ir282:Ic:=q (R (ox 1 0<|ow 2 false<|N) [0,2])<|q (R (of 3 1 0<|ol 4 3<|oi 5 .eql 4 0<|om 6 5<|.sc 6 true (of 7 1 1<|ol 8 7<|oi 9 .eql 8 0<|N) (t 9) 10 (om 11 10<|.sc 11 true (of 12 1 2<|ol 13 12<|oi 14 .eql 13 0<|N) (t 14) 15 (om 16 15<|.sc 16 true (of 17 1 3<|ol 18 17<|ob 19 .seq (t 18) (.k (.str []))<|N) (t 19) 20 (om 21 20<|.sc 21 true (of 22 1 4<|ol 23 22<|oh 24 23<|oi 25 .eql 24 0<|N) (t 25) 26 (om 27 26<|.sc 27 true (of 28 1 5<|ol 29 28<|oh 30 29<|oi 31 .eql 30 0<|N) (t 31) 32 (om 2 32<|N)))))) [1,3,4,5,6,10,11,15,16,20,21,26,27,32])<|.ret
theorem ok282:FT 282 33 ir282 [.tmp 2]:=.o Tryz.func282
def asg247:Ic:=q (R (om 5 11<|N) [10,11])<|R (oN 6 y6<|oS 6 6 12<|N) [12]
def body247:Ic:=D (.block 1<|q (R (ol 13 4<|oi 14 .add 13 1<|os 4 14<|N) [13,14])<|q (D (.block 2<|q (R (ol 16 4<|oi 17 .gtr 16 4096<|om 15 17<|N) [4,16,17])<|I 15 (q (R (on (.sto none (t 2) (i 9))<|N) [2,3,5,6,15])<|.ret) (q (R (om 19 5<|oi 20 .gtr 19 8<|om 18 20<|N) [5,15,19,20])<|I 18 (q (R (on (.sto none (t 2) (i 23))<|N) [2,3,6,18])<|.ret) (q (R (oL 22 6 6<|cl 23 282 [t 22]<|om 21 23<|N) [18,22,23])<|I 21 (q (R (on (.sto none (t 2) (i 19))<|N) [2,3,6,21])<|.ret) (q (R (of 25 6 0<|ol 26 25<|oi 27 .lss 26 1<|om 28 27<|.sc 28 false (of 29 6 0<|ol 30 29<|oi 31 .gtr 30 10<|N) (t 31) 32 (om 24 32<|N)) [21,25,26,27,28,29,30,31,32])<|I 24 (q (R (on (.sto none (t 2) (i 11))<|N) [2,3,6,24])<|.ret) (q (R (oL 34 6 6<|cl 35 283 [t 34]<|og 36 35<|om 33 36<|N) [24,34,35,36])<|D (I 33 (q (R (on (.sto none (t 2) (i 3))<|N) [2,3,6,33])<|.ret) S) [33]))))) [4,5,16,17,15,19,20,18,22,23,21,25,26,27,28,29,30,31,32,24,34,35,36,33])<|q (R (of 37 6 0<|ol 38 37<|oo 39 (.ixr 11 1 (t 3) (t 38))<|ol 40 39<|oL 41 6 6<|.call (some 42) (.dyn (t 40)) [t 41] (om 7 42<|N)) [3,6,37,38,39,40,41,42])<|q (R (om 43 7<|oi 44 .neq 43 0<|N) [43])<|D (I 44 (q (R (om 45 7<|os 2 45<|N) [2,7,44,45])<|.ret) S) [2,7,44]) [2,3,4,5,6,13,14,16,17,15,19,20,18,22,23,21,25,26,27,28,29,30,31,32,24,34,35,36,33,37,38,39,40,41,42,7,43,44,45]
noncomputable def ir247:Ic:=q (R (ox 1 0<|oN 2 [.int .i64 0]<|N) [0])<|q (R (cl 8 280 []<|oN 3 [.nilFn,.nilFn,.nilFn,.nilFn,.nilFn,.nilFn,.nilFn,.nilFn,.nilFn,.nilFn,.nilFn]<|oS 11 3 8<|N) [8])<|q (.reg (oN 4 [.int .i64 0]<|on (.sto none (t 4) (i 0))<|N))<|q (q (R (oL 9 6 1<|cl 10 281 [t 9]<|N) [1,9])<|D (.block 0<|D (.rng (t 10) 46 57 #[11,12] (subC (codeOf Tryz.f247) [1,1,1,0,1,0,0]) (subC (codeOf Tryz.f247) [1,1,1,0,1,0,1]) asg247 body247) [3,4,10]) [3,4,10])<|q (.reg (on (.sto none (t 2) (i 0))<|N))<|.ret
theorem ok247:FT 247 46 ir247 [.cell 2 none]:=.o Tryz.func247
def ir280:Ic:=q (.reg (oN 0 [.nilFn,.nilFn,.nilFn,.nilFn,.nilFn,.nilFn,.nilFn,.nilFn,.nilFn,.nilFn,.nilFn]<|N))<|q (R (oo 1 (.bld [.nilFn,.nilFn,.nilFn,.nilFn,.nilFn,.nilFn,.nilFn,.nilFn,.nilFn,.nilFn,.nilFn] [(1,1,.k (.fn (.func 330) [] [])),(2,1,.k (.fn (.func 332) [] [])),(3,1,.k (.fn (.func 333) [] [])),(4,1,.k (.fn (.func 335) [] [])),(5,1,.k (.fn (.func 337) [] [])),(6,1,.k (.fn (.func 338) [] [])),(7,1,.k (.fn (.func 339) [] [])),(8,1,.k (.fn (.func 340) [] [])),(9,1,.k (.fn (.func 341) [] [])),(10,1,.k (.fn (.func 342) [] []))])<|oS 11 0 1<|N) [1])<|.ret
theorem ok280:FT 280 2 ir280 [.cell 0 (some 11)]:=.o Tryz.func280
def ir281:Ic:=q (R (ox 1 0<|ok 2 (.k .nilFn)<|N) [0,2])<|q (R (oo 3 (.fnv (.func 343) [] [t 1])<|om 2 3<|N) [1,3])<|.ret
theorem ok281:FT 281 4 ir281 [.tmp 2]:=.o Tryz.func281
def ir283:Ic:=q (R (ox 1 0<|ow 2 false<|N) [0,2])<|q (R (of 6 1 0<|ol 7 6<|oi 8 .eql 7 1<|om 9 8<|.sc 9 false (of 10 1 0<|ol 11 10<|oi 12 .eql 11 2<|N) (t 12) 13 (om 14 13<|.sc 14 false (of 15 1 0<|ol 16 15<|oi 17 .eql 16 6<|N) (t 17) 18 (om 19 18<|.sc 19 false (of 20 1 0<|ol 21 20<|oi 22 .eql 21 7<|N) (t 22) 23 (om 24 23<|.sc 24 false (of 25 1 0<|ol 26 25<|oi 27 .eql 26 3<|N) (t 27) 28 (om 3 28<|N))))) [6,7,8,9,13,14,18,19,23,24,28])<|q (R (of 29 1 0<|ol 30 29<|oi 31 .eql 30 4<|om 32 31<|.sc 32 false (of 33 1 0<|ol 34 33<|oi 35 .eql 34 5<|N) (t 35) 36 (om 37 36<|.sc 37 false (of 38 1 0<|ol 39 38<|oi 40 .eql 39 10<|N) (t 40) 41 (om 4 41<|N))) [29,30,31,32,36,37,41])<|q (R (of 42 1 0<|ol 43 42<|oi 44 .eql 43 8<|om 45 44<|.sc 45 false (of 46 1 0<|ol 47 46<|oi 48 .eql 47 10<|N) (t 48) 49 (om 5 49<|N)) [42,43,44,45,49])<|q (R (om 50 3<|om 51 50<|.sc 51 false (of 52 1 1<|ol 53 52<|oi 54 .eql 53 0<|N) (t 54) 55 (om 56 55<|.sc 56 true (of 57 1 0<|ol 58 57<|oi 59 .eql 58 3<|om 60 59<|.sc 60 false (of 61 1 2<|ol 62 61<|oi 63 .eql 62 0<|N) (t 63) 64 N) (t 64) 65 (om 66 65<|.sc 66 true (om 67 4<|om 68 67<|.sc 68 false (of 69 1 3<|ol 70 69<|ob 71 .seq (t 70) (.k (.str []))<|N) (t 71) 72 N) (t 72) 73 (om 74 73<|.sc 74 true (om 75 5<|om 76 75<|.sc 76 false (of 77 1 4<|ol 78 77<|oh 79 78<|oi 80 .eql 79 0<|N) (t 80) 81 N) (t 81) 82 (om 83 82<|.sc 83 true (of 84 1 0<|ol 85 84<|oi 86 .eql 85 9<|om 87 86<|.sc 87 false (of 88 1 5<|ol 89 88<|oh 90 89<|oi 91 .eql 90 0<|N) (t 91) 92 N) (t 92) 93 (om 2 93<|N)))))) [1,3,4,5,50,51,55,56,65,66,73,74,82,83,93])<|.ret
theorem ok283:FT 283 94 ir283 [.tmp 2]:=.o Tryz.func283
def ir330:Ic:=q (R (ox 1 0<|oz 2 0<|N) [0,2])<|q (R (of 3 1 1<|ol 4 3<|cl 5 331 [t 4,i 0,i 1]<|om 2 5<|N) [1,3,4,5])<|.ret
theorem ok330:FT 330 6 ir330 [.tmp 2]:=.o Tryz.func330
def ir331:Ic:=q (R (oz 6 0<|N) [6])<|q (q (R (om 7 0<|om 8 1<|ot 9 .lss 7 8<|om 10 9<|.sc 10 false (om 11 0<|om 12 2<|ot 13 .gtr 11 12<|N) (t 13) 14 N) [0,1,2,7,8,9,10])<|D (I 14 (q (R (oz 6 2<|N) [14])<|.ret) S) [14])<|q (.reg (oz 6 0<|N))<|.ret
theorem ok331:FT 331 15 ir331 [.tmp 6]:=.o Tryz.func331
def ir332:Ic:=q (R (ox 1 0<|oz 2 0<|N) [0,2])<|q (R (of 3 1 1<|ol 4 3<|cl 5 331 [t 4,i (-999999999999999),i 999999999999999]<|om 2 5<|N) [1,3,4,5])<|.ret
theorem ok332:FT 332 6 ir332 [.tmp 2]:=.o Tryz.func332
def ir333:Ic:=q (R (ox 1 0<|oz 2 0<|N) [0,2])<|q (D (.regd [(2,4)] (of 3 1 1<|ol 4 3<|cl 5 331 [t 4,i (-999999999999999),i 999999999999999]<|of 6 1 2<|ol 7 6<|cl 8 331 [t 7,i 0,i 12]<|oo 9 (.bls 1 [t 5,t 8])<|cl 10 334 [t 9]<|om 2 10<|N)) [1,3,4,5,6,7,8,9,10])<|.ret
theorem ok333:FT 333 11 ir333 [.tmp 2]:=.o Tryz.func333
def ir334:Ic:=q (R (oz 2 0<|N) [2])<|q (q (R (om 5 0<|oh 6 5<|oz 7 0<|N) [0])<|D (.block 0<|.loop (q (.reg (ot 8 .lss 7 6<|N))<|q (D (I 8 S (E 0)) [8])<|q (D (.block 1<|q (R (oa false 9 1 5 7<|ol 10 9<|om 4 10<|N) [9,10])<|q (R (om 11 4<|oi 12 .neq 11 0<|N) [11])<|D (I 12 (q (R (om 13 4<|om 2 13<|N) [5,6,7,4,12,13])<|.ret) S) [4,12]) [])<|R (oi 14 .add 7 1<|om 7 14<|N) [14])) [5,6,7,8,9,10,4,11])<|q (.reg (oz 2 0<|N))<|.ret
theorem ok334:FT 334 15 ir334 [.tmp 2]:=.o Tryz.func334
def ir335:Ic:=q (R (ox 1 0<|oz 2 0<|N) [0,2])<|q (R (of 4 1 3<|ol 5 4<|oj 6 5<|cl 7 336 [t 6,i 1024,i 5]<|om 3 7<|N) [4,5,6,7])<|q (q (R (om 8 3<|oi 9 .eql 8 0<|om 10 9<|.sc 10 true (of 11 1 3<|ol 12 11<|cl 13 185 [t 12]<|og 14 13<|N) (t 14) 15 N) [1,8,9,10])<|D (I 15 (R (oz 3 16<|N) [15]) S) [15])<|q (R (om 16 3<|om 2 16<|N) [3,16])<|.ret
theorem ok335:FT 335 17 ir335 [.tmp 2]:=.o Tryz.func335
def ir336:Ic:=q (R (oz 6 0<|N) [6])<|q (q (R (om 7 0<|om 8 1<|ot 9 .gtr 7 8<|N) [0,1,7,8])<|D (I 9 (q (R (om 10 2<|om 6 10<|N) [2,9,10])<|.ret) S) [2,9])<|q (.reg (oz 6 0<|N))<|.ret
theorem ok336:FT 336 11 ir336 [.tmp 6]:=.o Tryz.func336
def ir337:Ic:=q (R (ox 1 0<|oz 2 0<|N) [0,2])<|q (R (of 3 1 3<|ol 4 3<|oj 5 4<|cl 6 336 [t 5,i 1024,i 5]<|om 2 6<|N) [1,3,4,5,6])<|.ret
theorem ok337:FT 337 7 ir337 [.tmp 2]:=.o Tryz.func337
def ir338:Ic:=q (R (ox 1 0<|oz 2 0<|N) [0,2])<|q (R (of 3 1 1<|ol 4 3<|cl 5 331 [t 4,i (-719162),i 2932896]<|om 2 5<|N) [1,3,4,5])<|.ret
theorem ok338:FT 338 6 ir338 [.tmp 2]:=.o Tryz.func338
def ir339:Ic:=q (R (ox 1 0<|oz 2 0<|N) [0,2])<|q (R (of 3 1 1<|ol 4 3<|cl 5 331 [t 4,i (-62135596800000),i 253402300799999]<|om 2 5<|N) [1,3,4,5])<|.ret
theorem ok339:FT 339 6 ir339 [.tmp 2]:=.o Tryz.func339
def ir340:Ic:=q (R (ox 1 0<|oz 2 0<|N) [0,2])<|q (R (of 3 1 4<|ol 4 3<|oh 5 4<|cl 6 336 [t 5,i 256,i 9]<|om 2 6<|N) [1,3,4,5,6])<|.ret
theorem ok340:FT 340 7 ir340 [.tmp 2]:=.o Tryz.func340
def ir341:Ic:=q (R (ox 1 0<|oz 2 0<|N) [0,2])<|q (q (R (of 6 1 5<|ol 7 6<|oh 8 7<|cl 9 336 [t 8,i 64,i 9]<|om 3 9<|N) [6,7,8,9])<|q (R (om 10 3<|oi 11 .neq 10 0<|N) [10])<|D (I 11 (q (R (om 12 3<|om 2 12<|N) [1,3,11,12])<|.ret) S) [3,11])<|q (q (R (of 13 1 5<|ol 14 13<|oh 15 14<|oz 16 0<|N) [13])<|D (.block 0<|.loop (q (.reg (ot 17 .lss 16 15<|N))<|q (D (I 17 S (E 0)) [17])<|q (D (.block 1<|q (R (om 18 16<|oa true 19 7 14 16<|oL 20 7 19<|oN 5 y7<|om 4 18<|oS 7 5 20<|N) [18,19,20])<|D (.block 2<|q (R (of 22 5 0<|ol 23 22<|cl 24 113 [t 23]<|og 25 24<|om 21 25<|N) [22,23,24,25])<|D (I 21 (q (R (oz 2 12<|N) [1,14,15,16,5,4,21])<|.ret) (q (R (om 27 4<|oi 28 .gtr 27 0<|om 29 28<|.sc 29 true (of 30 5 0<|ol 31 30<|of 32 1 5<|ol 33 32<|om 34 4<|oi 35 .sub 34 1<|oa true 36 7 33 35<|of 37 36 0<|ol 38 37<|ot 39 .seq 31 38<|N) (t 39) 40 (om 26 40<|N)) [21,27,28,29,40])<|D (I 26 (q (R (oz 2 7<|N) [1,14,15,16,5,4,26])<|.ret) (q (R (om 42 4<|oi 43 .gtr 42 0<|om 44 43<|.sc 44 true (of 45 5 0<|ol 46 45<|of 47 1 5<|ol 48 47<|om 49 4<|oi 50 .sub 49 1<|oa true 51 7 48 50<|of 52 51 0<|ol 53 52<|ot 54 .slt 46 53<|N) (t 54) 55 (om 41 55<|N)) [5,4,26,42,43,44,55])<|D (I 41 (q (R (oz 2 24<|N) [1,14,15,16,41])<|.ret) S) [41])) [])) []) []) [])<|R (oi 56 .add 16 1<|om 16 56<|N) [56])) [1,14,15,16,17,5,4])<|q (.reg (oz 2 0<|N))<|.ret
theorem ok341:FT 341 57 ir341 [.tmp 2]:=.o Tryz.func341
def ir342:Ic:=q (R (ox 1 0<|oz 2 0<|N) [0,2])<|q (D (.block 0<|q (R (of 4 1 3<|ol 5 4<|cl 6 113 [t 5]<|og 7 6<|om 3 7<|N) [4,5,6,7])<|D (I 3 (q (R (oz 2 12<|N) [1,3])<|.ret) (q (R (of 9 1 4<|ol 10 9<|oh 11 10<|oi 12 .eql 11 0<|om 8 12<|N) [3,9,10,11,12])<|D (I 8 (q (R (oz 2 4<|N) [1,8])<|.ret) S) [8])) []) [])<|q (R (of 13 1 4<|ol 14 13<|oh 15 14<|cl 16 336 [t 15,i 1,i 3]<|om 2 16<|N) [1,13,14,15,16])<|.ret
theorem ok342:FT 342 17 ir342 [.tmp 2]:=.o Tryz.func342
def ir343:Ic:=R (oL 3 6 1<|om 4 0<|cl 5 344 [t 3,i 1,t 4]<|N) [0,3,4,5]
theorem ok343:FT 343 6 ir343 []:=.o Tryz.func343
def ir344:Ic:=q (R (ox 3 0<|ow 6 false<|N) [0,6])<|q (q (R (om 9 2<|om 10 1<|oL 11 6 3<|.call (some 12) (.dyn (t 9)) [t 10,t 11] (og 13 12<|N)) [9,10,11,12])<|D (I 13 (q (R (ow 6 false<|N) [1,2,3,13])<|.ret) S) [13])<|q (q (R (oL 14 6 3<|cl 15 387 [t 14]<|oh 16 15<|oz 17 0<|N) [3,14])<|D (.block 0<|.loop (q (.reg (ot 18 .lss 17 16<|N))<|q (D (I 18 S (E 0)) [18])<|q (D (.block 1<|q (R (oa true 19 6 15 17<|oL 20 6 19<|oN 8 y6<|oS 6 8 20<|N) [19,20])<|q (R (oL 21 6 8<|om 22 1<|oi 23 .add 22 1<|om 24 2<|cl 25 344 [t 21,t 23,t 24]<|og 26 25<|N) [8,21,22,23,24,25])<|D (I 26 (q (R (ow 6 false<|N) [1,2,15,16,17,26])<|.ret) S) [26]) [])<|R (oi 27 .add 17 1<|om 17 27<|N) [27])) [1,2,15,16,17,18,8])<|q (.reg (ow 6 true<|N))<|.ret
theorem ok344:FT 344 28 ir344 [.tmp 6]:=.o Tryz.func344
def ir387:Ic:=q (R (ox 1 0<|ok 2 (.k (.nil 6))<|N) [0,2])<|q (q (R (of 6 1 0<|ol 7 6<|N) [6])<|D (.block 0<|q (q (R (oi 9 .eql 7 8<|om 8 9<|N) [9])<|I 8 S (R (oi 10 .eql 7 10<|om 8 10<|N) [10]))<|D (I 8 (q (R (of 11 1 4<|ol 12 11<|om 2 12<|N) [1,7,8,11,12])<|.ret) (q (R (oi 14 .eql 7 9<|om 13 14<|N) [7,8,14])<|D (I 13 (q (R (ok 3 (.k (.nil 6))<|N) [13])<|q (q (R (of 15 1 5<|ol 16 15<|oh 17 16<|oz 18 0<|N) [1,15])<|D (.block 1<|.loop (q (.reg (ot 19 .lss 18 17<|N))<|q (D (I 19 S (E 1)) [19])<|q (D (.block 2<|q (R (oa true 20 7 16 18<|oL 21 7 20<|oN 5 y7<|oS 7 5 21<|N) [20,21])<|R (om 22 3<|of 23 5 1<|oL 24 6 23<|oo 25 (.bls 6 [t 24])<|oo 26 (.app 6 (t 22) (t 25))<|om 3 26<|N) [5,22,23,24,25,26]) [])<|R (oi 27 .add 18 1<|om 18 27<|N) [27])) [16,17,18,19,5])<|q (R (om 28 3<|om 2 28<|N) [3,28])<|.ret) S) [1,13])) []) [10,11,3,5])<|q (.reg (ok 2 (.k (.nil 6))<|N))<|.ret
theorem ok387:FT 387 29 ir387 [.tmp 2]:=.o Tryz.func387
end Go.Proofs
namespace Go.Proofs
open Go Av Go.RowKit
def btw(n lo hi:Int):Int:=if decide (n<lo)||decide (n>hi)then 2 else 0
theorem walk331(n lo hi:Int):PT 331 [.int .i64 n,.int .i64 lo,.int .i64 hi] (.d (.int .i64 (btw n lo hi))):=by
 refine ok331.pc ?_;simp only[go_sem,ir331,simprocAttr];refine sq (decide (n>hi)) ?_ ?_
 ·exact zz trivial
 refine zz ?_;apply ik<;>intro h
 ·rw[btw,if_pos h]
 ·rw[btw,if_neg (by simp[h])]
def szE(n m e:Int):Int:=if decide (n>m)then e else 0
theorem walk336(n m e:Int):PT 336 [.int .i64 n,.int .i64 m,.int .i64 e] (.d (.int .i64 (szE n m e))):=by
 refine ok336.pc ?_;simp only[go_sem,ir336,simprocAttr];apply ik<;>intro h
 ·rw[szE,if_pos h]
 ·rw[szE,if_neg (by simp[h])]
theorem walk330(v:Val):PT 330 [encV v] (.d (.int .i64 (btw v.int 0 1))):=by
 refine ok330.pc ?_;rw[encV_eq];simp only[go_sem,ir330,List.length_map,simprocAttr];refine wc ((walk331 _ _ _).call trivial) trivial
theorem walk332(v:Val):PT 332 [encV v] (.d (.int .i64 (btw v.int (-999999999999999) 999999999999999))):=by
 refine ok332.pc ?_;rw[encV_eq];simp only[go_sem,ir332,List.length_map,simprocAttr];refine wc ((walk331 _ _ _).call trivial) trivial
theorem walk338(v:Val):PT 338 [encV v] (.d (.int .i64 (btw v.int (-719162) 2932896))):=by
 refine ok338.pc ?_;rw[encV_eq];simp only[go_sem,ir338,List.length_map,simprocAttr];refine wc ((walk331 _ _ _).call trivial) trivial
theorem walk339(v:Val):PT 339 [encV v] (.d (.int .i64 (btw v.int (-62135596800000) 253402300799999))):=by
 refine ok339.pc ?_;rw[encV_eq];simp only[go_sem,ir339,List.length_map,simprocAttr];refine wc ((walk331 _ _ _).call trivial) trivial
theorem walk337(v:Val):PT 337 [encV v] (.d (.int .i64 (szE v.text.length 1024 5))):=by
 refine ok337.pc ?_;rw[encV_eq];simp only[go_sem,ir337,List.length_map,simprocAttr];refine wc ((walk336 _ _ _).call trivial) trivial
theorem walk340(v:Val):PT 340 [encV v] (.d (.int .i64 (szE v.list.length 256 9))):=by
 refine ok340.pc ?_;rw[encV_eq];simp only[go_sem,ir340,List.length_map,simprocAttr];refine wc ((walk336 _ _ _).call trivial) trivial
def fstE:List Int→Int
 |[]=>0
 |x::r=>if x !=0 then x else fstE r
theorem walk334(l:List Int)(hl:l.length≤68719476736):PT 334 [.list 1 (l.map fun x=>.int .i64 x)] (.d (.int .i64 (fstE l))):=by
 refine ok334.pc ?_;simp only[go_sem,ir334,List.length_map,simprocAttr];generalize hR:fstE l=R;refine wpc_loop (fun n s=>∃k:Nat,k≤l.length∧n=l.length-k∧R=fstE (l.drop k)∧
  s=⟨[(5,.d (.list 1 (l.map fun x=>.int .i64 x))),(6,.d (.int .i64 l.length)),(7,.d (.int .i64 k))],[]⟩) ?_ ?_
 ·exact⟨_,_,Wk.refl _,0,Nat.zero_le _,rfl,hR.symm,rfl⟩
 ·rintro n s ⟨k,hk,rfl,hinv,rfl⟩;by_cases hlt:k<l.length
  ·have hx:nth (l.map fun x=>Dat.int .i64 x) k=.int .i64 l[k]:=by rw[nth_eq (sX hlt)];simp
   have hd:=dT hlt;rw[List.drop_eq_getElem_cons hlt,fstE]at hinv;refine zz6 ?_;refine⟨oM,dC,fun hf=>?_,fun hf=>?_⟩
   ·rw[if_pos hf]at hinv;rw[hinv]
   ·rw[if_neg (by simp[hf])]at hinv;refine⟨l.length-(k+1),_,oM,Wk.less ?_,k+1,oM,rfl,hinv,rfl⟩;exact zz7 trivial
  ·have hd:=dF hlt;obtain rfl:k=l.length:=oM;rw[List.drop_length,fstE]at hinv;simp only[go_sem,hd,hinv,simprocAttr]
theorem walk333(v:Val):PT 333 [encV v] (.d (.int .i64 (fstE [btw v.int (-999999999999999) 999999999999999,btw v.scale 0 12]))):=by
 refine ok333.pc ?_;rw[encV_eq];simp only[go_sem,ir333,simprocAttr];refine wpsL_call rfl ((walk331 _ _ _).call trivial) trivial ?_;refine zz ?_;refine wpsL_call rfl ((walk331 _ _ _).call trivial) trivial ?_;refine zz ?_;refine⟨sP,?_⟩;refine wpsL_call rfl ((walk334 [btw v.int (-999999999999999) 999999999999999,btw v.scale 0 12] sP).call trivial) trivial ?_;refine zz ?_;rfl
def nullV(v:Val):Bool:=(v.kind==0)&&(v.int==0)&&(v.scale==0)&&(v.text==[])&&(((v.list.length:Nat):Int)==0)&&(((v.fields.length:Nat):Int)==0)
theorem walk282(v:Val):PT 282 [encV v] (.d (.bool (nullV v))):=by
 refine ok282.pc ?_;rw[encV_eq];simp only[go_sem,ir282,simprocAttr];refine sq (v.int==0) ?_ ?_
 ·exact zz trivial
 refine zz ?_;refine sq (v.scale==0) ?_ ?_
 ·exact zz trivial
 refine zz ?_;refine sq (v.text==[]) ?_ ?_
 ·exact zz trivial
 refine zz ?_;refine sq (((v.list.length:Nat):Int)==0) ?_ ?_
 ·exact zz4 trivial
 refine zz ?_;refine sq (((v.fields.length:Nat):Int)==0) ?_ ?_
 ·exact zz4 trivial
 simp only[go_sem,nullV,simprocAttr]
def useN(v:Val):Bool:=(v.kind==1)||(v.kind==2)||(v.kind==6)||(v.kind==7)||(v.kind==3)
def useT(v:Val):Bool:=(v.kind==4)||(v.kind==5)||(v.kind==10)
def useL(v:Val):Bool:=(v.kind==8)||(v.kind==10)
def usesV(v:Val):Bool:=(useN v||(v.int==0))&&((v.kind==3)||(v.scale==0))&&(useT v||(v.text==[]))&&(useL v||(((v.list.length:Nat):Int)==0))&&((v.kind==9)||(((v.fields.length:Nat):Int)==0))
theorem walk283(v:Val):PT 283 [encV v] (.d (.bool (usesV v))):=by
 refine ok283.pc ?_;rw[encV_eq];simp only[go_sem,ir283,simprocAttr];refine sq (v.kind==2) ?_ ?_
 ·exact zz trivial
 refine zz ?_;refine sq (v.kind==6) ?_ ?_
 ·exact zz trivial
 refine zz ?_;refine sq (v.kind==7) ?_ ?_
 ·exact zz trivial
 refine zz ?_;refine sq (v.kind==3) ?_ ?_
 ·exact zz trivial
 refine zz ?_;refine sq (v.kind==5) ?_ ?_
 ·exact zz trivial
 refine zz ?_;refine sq (v.kind==10) ?_ ?_
 ·exact zz trivial
 refine zz ?_;refine sq (v.kind==10) ?_ ?_
 ·exact zz trivial
 refine zz ?_;refine sq (v.int==0) ?_ ?_
 ·exact zz trivial
 refine zz ?_;refine sq ((v.kind==3)||(v.scale==0)) ?_ ?_
 ·refine zz ?_;refine sq (v.scale==0) ?_ ?_
  ·exact zz trivial
  exact zz trivial
 refine zz ?_;refine sq (useT v||(v.text==[])) ?_ ?_
 ·refine zz ?_;refine sq (v.text==[]) ?_ ?_
  ·exact zz trivial
  simp only[go_sem,useT,simprocAttr]
 refine zz ?_;refine sq (useL v||(((v.list.length:Nat):Int)==0)) ?_ ?_
 ·refine zz ?_;refine sq (((v.list.length:Nat):Int)==0) ?_ ?_
  ·exact zz4 trivial
  simp only[go_sem,useL,simprocAttr]
 refine zz ?_;refine sq ((v.kind==9)||(((v.fields.length:Nat):Int)==0)) ?_ ?_
 ·refine zz ?_;refine sq (((v.fields.length:Nat):Int)==0) ?_ ?_
  ·exact zz4 trivial
  exact zz trivial
 simp only[go_sem,usesV,useN,simprocAttr]
def partsV(v:Val):List Val:=if v.kind=8∨v.kind=10 then v.list else if v.kind=9 then v.fields.map Fld.value else[]
theorem partsV_len(v:Val)(h:v.list.length≤68719476736)(h2:v.fields.length≤68719476736):(partsV v).length≤68719476736:=by
 unfold partsV;split
 ·exact h
 ·split
  ·simpa using h2
  ·simp
theorem walk387(v:Val)(h2:v.fields.length≤68719476736):PT 387 [encV v] (.d (.list 6 ((partsV v).map encV))):=by
 refine ok387.pc ?_;rw[encV_eq];by_cases h:v.kind=8∨v.kind=10
 ·have hp:partsV v=v.list:=by unfold partsV;rw[if_pos h]
  rw[hp];rcases h with h|h
  ·rw[h];simp only[go_sem,ir387,beq_self_eq_true,simprocAttr]
  ·rw[h];have q:((10:Int)==8)=false:=rfl;simp only[go_sem,ir387,q,beq_self_eq_true,simprocAttr]
 ·have q8:(v.kind==8)=false:=sO;have q10:(v.kind==10)=false:=sO;by_cases h9:v.kind=9
  ·have hp:partsV v=v.fields.map Fld.value:=by unfold partsV;rw[if_neg h,if_pos h9]
   rw[hp];have q9:(v.kind==9)=true:=by simp[h9]
   simp only[go_sem,ir387,q8,q9,q10,List.length_map,simprocAttr];refine wpc_loop (fun n s=>∃k:Nat,k≤v.fields.length∧n=v.fields.length-k∧
    s=⟨[(3,.ms 26 k),(16,.d (.list 7 (v.fields.map encF))),(17,.d (.int .i64 v.fields.length)),(18,.d (.int .i64 k))],[(26,.row k 6 (((v.fields.take k).map Fld.value).map encV))]⟩) ?_ ?_
   ·refine⟨_,_,(Wk.nilT 3 26 6 rfl rfl dC).trans (Wk.less ?_),0,Nat.zero_le _,rfl,rfl⟩;simp[put,go_sem]
   ·rintro n s ⟨k,hk,rfl,rfl⟩;by_cases hlt:k<v.fields.length
    ·have hx:=nth_encF hlt;have hd:=dT hlt;refine zz6 ?_;refine⟨⟨oM,oM⟩,sP,sO,v.fields.length-(k+1),_,oM,Wk.less ?_,k+1,oM,rfl,rfl⟩;simp only[go_sem,wrap64s k oM,List.take_succ_eq_append_getElem hlt,List.map_append,List.map_cons,List.map_nil,encV_eq,simprocAttr]
    ·have hd:=dF hlt;obtain rfl:k=v.fields.length:=oM;exact zz14 trivial
  ·have hp:partsV v=[]:=by unfold partsV;rw[if_neg h,if_neg h9]
   rw[hp];have q9:(v.kind==9)=false:=by simp[h9]
   simp only[go_sem,ir387,q8,q9,q10,List.map_nil,simprocAttr]
end Go.Proofs
namespace Go.Proofs
open Go Av
open Av.Y
end Go.Proofs
namespace Go.Proofs
open Go Av
open Av.Y
end Go.Proofs
namespace Go.Proofs
open Go Av
def zeroV:Val:=.mk 0 0 0 [] [] []
end Go.Proofs
namespace Go.Proofs
open Go Av
open Av.Y
end Go.Proofs
namespace Go.Proofs
open Go Av
end Go.Proofs
namespace Go.Proofs
open Go Av
open Av.Y
end Go.Proofs
namespace Go.Proofs
open Go Av
end Go.Proofs
namespace Go.Proofs
open Go Av
open Av.Y
def ir278:Ic:=q (.reg (oN 2 y6<|N))<|q (R (om 3 0<|oo 4 (.bld y6 [(0,1,i 4),(3,1,t 3)])<|oS 6 2 4<|N) [0,3,4])<|.ret
theorem ok278:FT 278 5 ir278 [.cell 2 (some 6)]:=.o Tryz.func278
end Go.Proofs
namespace Go.Proofs
open Go Av
theorem fits_V3{v:Val}(h:fits (encV v)):v.text.length≤68719476736∧v.list.length≤68719476736∧v.fields.length≤68719476736:=by
 rw[encV_eq]at h;simp only[fits,fitsL,List.length_map,and_true]at h;exact⟨h.2.2.2.1,h.2.2.2.2.1.1,h.2.2.2.2.2.1⟩
theorem walk278(s:Str):PT 278 [.str s] (.d (encV (.mk 4 0 0 s [] []))):=by
 refine ok278.pc ?_;simp only[go_sem,ir278,simprocAttr];rfl
end Go.Proofs
namespace Go.Proofs
open Go Av
open Av.Y
end Go.Proofs
namespace Go.Proofs
open Go Av
end Go.Proofs
namespace Go.Proofs
open Go Av Go.RowKit
theorem fits_V{v:Val}(h:fits (encV v)):v.text.length≤68719476736∧v.list.length≤68719476736∧v.fields.length≤68719476736∧(∀x∈v.list,fits (encV x))∧∀f∈v.fields,f.name.length≤68719476736∧fits (encV f.value):=by
 rw[encV_eq]at h;simp only[fits,fitsL,List.length_map,and_true]at h;obtain⟨_,_,_,h1,⟨h2,h3⟩,h4,h5⟩:=h;refine⟨h1,h2,h4,fun x hx=>fitsL_iff.1 h3 _ (List.mem_map.2 ⟨x,hx,rfl⟩),fun f hf=>?_⟩;have:=fitsL_iff.1 h5 _ (List.mem_map.2 ⟨f,hf,rfl⟩);rw[encF_eq]at this;simp only[fits,fitsL,and_true]at this;refine⟨this.1,?_⟩;rw[encV_eq];simp only[fits,fitsL,and_true];exact this.2
theorem u8Of{A:Nat→Prop}{w:World}{g:Nat}{cs:List Dat}(h:GRep A w g cs)(j:Nat)(n:Int)(hj:cs[j]? =some (.int .u8 n)):w.cell? ⟨g,j,none⟩=some (.int .u8 n):=by
 obtain⟨h0,C,T,fr,h1,h2,h3,h4⟩:=h;have hlt:j<C.size:=by rw[←h2];exact(List.getElem?_eq_some_iff.1 hj).1
 have:=h4 j _ C[j] hj (by simp[hlt]);generalize hz:C[j]=z at this;cases this;simp[World.cell?,h1,hlt,hz]
theorem utabs{A:Nat→Prop}{w:World}(hg:∀g cs,globOf g=some cs→GRep A w g cs):Lib.Utf8Tabs 0 1 w:=by
 have h0:=hg 0 tab0 rfl;have h1:=hg 1 tab1 rfl;refine⟨fun c hc=>u8Of h0 c _ (by simp[tab0,hc]),fun i hi=>?_⟩;have e0:tab1[2*i]? =some (.int .u8 (Lib.accLo i))∧tab1[2*i+1]? =some (.int .u8 (Lib.accHi i)):=by
  match i,hi with
  |0,_|1,_|2,_|3,_|4,_|5,_|6,_|7,_|8,_|9,_|10,_|11,_|12,_|13,_|14,_|15,_=>exact⟨rfl,rfl⟩
  |n+16,h=>omega
 exact⟨u8Of h1 _ _ e0.1,u8Of h1 _ _ e0.2⟩
def validS(s:Str):Bool:=Lib.validD s
theorem call185(s:Str):CT 185 [.d (.str s)] [] (.d (.bool (validS s))) []:=by
 refine CallOK.of_callsG (ds:=[.str s]) (hasT Tryz.func185 kR kR) ?_;intro A w vs hg hl hv;obtain⟨x,rfl⟩:=one_arg hl;have hx:=hv 0 _ x rfl rfl;cases hx with
 |str _ h=>
  have e:(⟨s.toArray⟩:ByteArray).data.toList=s:=sP;have hsz:(⟨s.toArray⟩:ByteArray).size=s.length:=by simp[ByteArray.size]
  refine(Any.utf8_ValidString Tryz.laysValid ⟨s.toArray⟩ w oM (utabs hg)).mono ?_;rintro e' w' ⟨rfl,hb⟩;rw[e];exact⟨_,rfl,hb,fun β H=>.d _ _ (.bool _)⟩
def textE(v:Val):Int:=if szE v.text.length 1024 5==0&& !validS v.text then 16 else szE v.text.length 1024 5
theorem walk335(v:Val):PT 335 [encV v] (.d (.int .i64 (textE v))):=by
 refine ok335.pc ?_;rw[encV_eq];simp only[go_sem,ir335,simprocAttr];refine wc ((walk336 _ _ _).call trivial) ?_;refine sq (!validS v.text) ?_ ?_
 ·refine zz ?_;refine wc (call185 _) trivial
 refine zz ?_;apply ik<;>intro h
 ·rw[textE,if_pos h]
 ·rw[textE,if_neg (by simp[h])]
theorem walk113'(s:Str):PT 113 [.str s] (.d (.bool (nameS s))):=PCon.of_fits ok113.has fun h=>walk113 s (h _ (List.mem_singleton.2 rfl))
def varE(v:Val):Int:=if !nameS v.text then 12 else if((v.list.length:Nat):Int)==0 then 4 else szE v.list.length 1 3
theorem walk342(v:Val):PT 342 [encV v] (.d (.int .i64 (varE v))):=by
 refine ok342.pc ?_;rw[encV_eq];simp only[go_sem,ir342,simprocAttr];refine wn ((walk113' _).call trivial) ?_;refine zz4 ?_;refine⟨fun h=>?_,fun h=>⟨fun h2=>?_,fun h2=>?_⟩⟩
 ·rw[varE,if_pos h]
 ·rw[varE,if_neg (by simp[h]),if_pos h2]
 ·rw[varE,if_neg (by simp[h]),if_neg (by simp[h2])];refine wc ((walk336 _ _ _).call trivial) trivial
def recE:Option Str→List Fld→Int
 |_,[]=>0
 |none,f::r=>if !nameS f.name then 12 else recE (some f.name) r
 |some p,f::r=>if !nameS f.name then 12 else if f.name==p then 7 else if strLt f.name p then 24 else recE (some f.name) r
def recV(v:Val):Int:=if szE v.fields.length 64 9 !=0 then szE v.fields.length 64 9 else recE none v.fields
def prevN(l:List Fld):Nat→Option Str
 |0=>none
 |k+1=>l[k]?.map Fld.name
theorem walk341(v:Val):PT 341 [encV v] (.d (.int .i64 (recV v))):=by
 refine PCon.of_fits ok341.has fun hfit=>?_
 obtain⟨_,_,hfl,_,_⟩:=fits_V (hfit _ (List.mem_singleton.2 rfl));refine ok341.pc ?_;rw[encV_eq];simp only[go_sem,ir341,List.length_map,Nat.reduceAdd,Nat.reduceEqDiff,Nat.reduceBEq,Nat.reduceLeDiff,reduceCtorEq,↓reduceIte];refine wc ((walk336 _ _ _).call trivial) ?_;apply ik<;>intro h
 ·rw[recV,if_pos h]
 rw[recV,if_neg (by simp[h])];refine zz4 ?_;generalize hR:recE none v.fields=R;refine wpc_loop (fun n s=>∃k:Nat,k≤v.fields.length∧n=v.fields.length-k∧R=recE (prevN v.fields k) (v.fields.drop k)∧
  s=⟨[(1,.ref 1 0),(14,.d (.list 7 (v.fields.map encF))),(15,.d (.int .i64 v.fields.length)),(16,.d (.int .i64 k))],
   [(1,.box [.d (.int .i64 v.kind),.d (.int .i64 v.int),.d (.int .i64 v.scale),.d (.str v.text),.d (.list 6 (v.list.map encV)),.d (.list 7 (v.fields.map encF))])]⟩) ?_ ?_
 ·exact⟨_,_,Wk.refl _,0,Nat.zero_le _,rfl,hR.symm,rfl⟩
 ·rintro n s ⟨k,hk,rfl,hinv,rfl⟩;by_cases hlt:k<v.fields.length
  ·have hx:=nth_encF hlt;have hd:=dT hlt;rw[List.drop_eq_getElem_cons hlt]at hinv;refine zz6 ?_;refine⟨oM,wn ((walk113' _).call trivial) ?_⟩;refine zz ?_;apply ik<;>intro h12
   ·have:R=12:=by
     rw[hinv];cases prevN v.fields k<;>simp only[recE,h12,↓reduceIte]
    rw[this]
   cases k with
   |zero=>
    simp only[prevN,recE,h12,Bool.false_eq_true,↓reduceIte]at hinv;have hg:decide (((0:Nat):Int)>0)=false:=rfl;simp only[go_sem,hg,Nat.reduceAdd,Nat.reduceEqDiff,Nat.reduceBEq,Nat.reduceLeDiff,reduceCtorEq,↓reduceIte];have hp:prevN v.fields (0+1)=some v.fields[0].name:=by simp[prevN,hlt]
    refine⟨v.fields.length-1,_,oM,Wk.less ?_,0+1,oM,rfl,by rw[hp];exact hinv,rfl⟩;simp only[go_sem,wrap64s 0 oM,Nat.reduceAdd,Nat.reduceEqDiff,Nat.reduceBEq,Nat.reduceLeDiff,reduceCtorEq,↓reduceIte]
   |succ k=>
    have hlt':k<v.fields.length:=oM;have hx':=nth_encF hlt';have hp:prevN v.fields (k+1)=some v.fields[k].name:=by simp[prevN,hlt']
    have hp2:prevN v.fields (k+1+1)=some v.fields[k+1].name:=by simp[prevN,hlt]
    rw[hp]at hinv;simp only[recE,h12,Bool.false_eq_true,↓reduceIte]at hinv;have hg:decide (((k+1:Nat):Int)>0)=true:=sP;have hw:IntKind.i64.wrap (((k+1:Nat):Int)-1)=k:=by rw[wrap64 oM oM];omega
    simp only[go_sem,hg,hw,hx',Int.toNat_natCast,List.length_map,Nat.reduceAdd,Nat.reduceEqDiff,Nat.reduceBEq,Nat.reduceLeDiff,reduceCtorEq,↓reduceIte];refine⟨⟨oM,oM⟩,dC,fun q=>?_,fun q=>⟨⟨oM,oM⟩,dC,fun q2=>?_,fun q2=>?_⟩⟩
    ·rw[if_pos q]at hinv;rw[hinv]
    ·rw[if_neg (by simp[q]),if_pos q2]at hinv;rw[hinv]
    ·rw[if_neg (by simp[q]),if_neg (by simp[q2])]at hinv;refine⟨v.fields.length-(k+1+1),_,oM,Wk.less ?_,k+1+1,oM,rfl,by rw[hp2];exact hinv,rfl⟩;simp only[go_sem,wrap64s (k+1) oM,Nat.reduceAdd,Nat.reduceEqDiff,Nat.reduceBEq,Nat.reduceLeDiff,reduceCtorEq,↓reduceIte]
  ·have hd:=dF hlt;obtain rfl:k=v.fields.length:=oM;rw[List.drop_length]at hinv;have:R=0:=by rw[hinv];cases prevN v.fields v.fields.length<;>rfl
   simp only[go_sem,hd,this,Nat.reduceAdd,Nat.reduceEqDiff,Nat.reduceBEq,Nat.reduceLeDiff,reduceCtorEq,↓reduceIte]
end Go.Proofs
namespace Go.Proofs
open Go.Shelf
end Go.Proofs
namespace Go.Proofs
open Go Av
open Av.Y
def ir195:Ic:=q (R (oz 4 0<|N) [4])<|q (q (R (om 6 0<|oh 7 6<|oz 8 0<|N) [6])<|D (.block 0<|.loop (q (.reg (ot 9 .lss 8 7<|N))<|q (D (I 9 S (E 0)) [9])<|q (D (.block 1<|q (R (om 10 8<|om 5 10<|N) [10])<|q (R (om 11 1<|om 12 0<|om 13 5<|oa true 14 11 12 13<|oL 15 11 14<|.call (some 16) (.dyn (t 11)) [t 15] N) [11,12,13,14,15])<|D (I 16 (q (R (om 17 5<|om 4 17<|N) [0,1,7,8,5,16,17])<|.ret) S) [5,16]) [])<|R (oi 18 .add 8 1<|om 8 18<|N) [18])) [0,1,7,8,9,10,5,11])<|q (.reg (oz 4 (-1)<|N))<|.ret
theorem ok195:FT 195 19 ir195 [.tmp 4]:=.o Tryz.func195
def ir161:Ic:=q (R (ow 4 false<|N) [4])<|q (R (om 5 0<|om 6 1<|cl 7 205 [t 5,t 6]<|oi 8 .geq 7 0<|om 4 8<|N) [0,1,5,6,7,8])<|.ret
theorem ok161:FT 161 9 ir161 [.tmp 4]:=.o Tryz.func161
def ir205:Ic:=q (R (oz 4 0<|N) [4])<|q (q (R (om 6 0<|oh 7 6<|oz 8 0<|N) [6])<|D (.block 0<|.loop (q (.reg (ot 9 .lss 8 7<|N))<|q (D (I 9 S (E 0)) [9])<|q (D (.block 1<|q (R (om 10 8<|om 5 10<|N) [10])<|q (R (om 11 1<|om 12 0<|om 13 5<|oa false 14 1 12 13<|ol 15 14<|ot 16 .seq 11 15<|N) [11,12,13,14,15])<|D (I 16 (q (R (om 17 5<|om 4 17<|N) [0,1,7,8,5,16,17])<|.ret) S) [5,16]) [])<|R (oi 18 .add 8 1<|om 8 18<|N) [18])) [0,1,7,8,9,10,5,11])<|q (.reg (oz 4 (-1)<|N))<|.ret
theorem ok205:FT 205 19 ir205 [.tmp 4]:=.o Tryz.func205
end Go.Proofs
namespace Go.Proofs
open Go Av Go.RowKit
end Go.Proofs
namespace Go.Proofs
open Go Av
def ruleE(v:Val):Int:=
 if v.kind=1 then btw v.int 0 1 else if v.kind=2 then btw v.int (-999999999999999) 999999999999999
 else if v.kind=3 then fstE [btw v.int (-999999999999999) 999999999999999,btw v.scale 0 12]else if v.kind=4 then textE v else if v.kind=5 then szE v.text.length 1024 5
 else if v.kind=6 then btw v.int (-719162) 2932896 else if v.kind=7 then btw v.int (-62135596800000) 253402300799999 else if v.kind=8 then szE v.list.length 256 9
 else if v.kind=9 then recV v else varE v
def chkE(n level:Int)(v:Val):Int:=
 if decide (n>4096)then 9 else if decide (level>8)then 23 else if nullV v then 19 else if decide (v.kind<1)||decide (v.kind>10)then 11 else if !usesV v then 3 else ruleE v
def rulesD:List Dat:=[.nilFn,.fn (.func 330) [] [],.fn (.func 332) [] [],.fn (.func 333) [] [],.fn (.func 335) [] [],.fn (.func 337) [] [],.fn (.func 338) [] [],.fn (.func 339) [] [],.fn (.func 340) [] [],.fn (.func 341) [] [],.fn (.func 342) [] []]
theorem walk280:PT 280 [] (.d (.agg rulesD)):=by
 refine ok280.pc ?_;simp only[go_sem,ir280,simprocAttr];rfl
theorem walk281(v:Val):PT 281 [encV v] (.d (.fn (.func 343) [] [.ptr (encV v).cells])):=by
 refine ok281.pc ?_;rw[encV_eq];simp only[go_sem,ir281,simprocAttr];simp only[go_sem,decide_eq_true_eq,reduceCtorEq,↓reduceIte]
noncomputable def lpL(tm:List (Nat×Av))(s:LoopState)(j:Option Code):Lp:=⟨tm,46,#[11,12],subC (codeOf Tryz.f247) [1,1,1,0,1,0,0],subC (codeOf Tryz.f247) [1,1,1,0,1,0,1],s,j⟩
def tmL(c:Dat):List (Nat×Av):=[(2,.ref 1002 0),(3,.ref 1003 0),(4,.ref 1004 0),(10,.d c)]
noncomputable abbrev TL(c:Dat)(e n:Int):List (Nat×Av.Obj):=[(1000,.lp (lpL (tmL c) .ready none)),(1002,.box [.d (.int .i64 e)]),(1003,.box (rulesD.map .d)),(1004,.box [.d (.int .i64 n)])]
noncomputable def afterL(c:Dat)(x:Int):Av.Obj:=if x=0 then .lp (lpL (tmL c) .ready none)else .lp (lpL (tmL c) .done (some .ret))
theorem round30(c:Dat)(e n level:Int)(v:Val)(hn:0≤n∧n≤4096):
  RCon Tryz.prog 1000 [.d (.int .i64 level),.d (encV v)] (TL c e n) (.d (.bool (chkE (n+1) level v==0)))
   [(1000,afterL c (chkE (n+1) level v)),(1002,.box [.d (.int .i64 (if chkE (n+1) level v=0 then e else chkE (n+1) level v))]),(1004,.box [.d (.int .i64 (n+1))])]:=by
 refine RCon.of_code (asg:=asg247) (body:=body247) rfl rfl kR kR rfl (show∀p∈[11,12],p<46 by decide) ?_ ?_
 ·refine closed_puts ?_;unfold afterL;split<;>simp[TL,puts,put,closedH,objIn,idsInL,idsIn,idsInT,tmL,lpL,rulesD,Av.get]
 ·rw[encV_eq];generalize hx:chkE (n+1) level v=x;generalize hD:(fun i=>(get (TL c e n) i).isSome=true)=D;generalize hK:RoundEnds 1000 (TL c e n) D (.d (.bool (x==0))) _=K;have hw:IntKind.i64.wrap (n+1)=n+1:=wrap64 oM oM;have leaf:x≠0→∀cs,K .ret ⟨[],[(1000,.lp (lpL (tmL c) .busy none)),(1002,.box [.d (.int .i64 x)]),(1003,.box (rulesD.map .d)),(1004,.box [.d (.int .i64 (n+1))]),(6,.box cs)]⟩:=by
   intro h0 cs;have hb:(x==0)=false:=by simp[h0]
   rw[←hK,←hD,hb];refine⟨_,_,rfl,rfl,⟨[],[(1000,.lp (lpL (tmL c) .done (some .ret))),(1002,.box [.d (.int .i64 x)]),(1003,.box (rulesD.map .d)),(1004,.box [.d (.int .i64 (n+1))])]⟩,Wk.less ?_,?_⟩
   ·simp[put,tmL,lpL,rulesD,go_sem]
   ·intro i o h;rw[←h,←get_puts];simp[puts,put,afterL,h0]
  have leaf0:x=0→∀cs,K .normal ⟨[],[(1000,.lp (lpL (tmL c) .busy none)),(1002,.box [.d (.int .i64 e)]),(1003,.box (rulesD.map .d)),(1004,.box [.d (.int .i64 (n+1))]),(6,.box cs)]⟩:=by
   intro h0 cs;have hb:(x==0)=true:=by simp[h0]
   rw[←hK,←hD,hb];refine⟨_,_,rfl,rfl,⟨[],[(1000,.lp (lpL (tmL c) .ready none)),(1002,.box [.d (.int .i64 e)]),(1003,.box (rulesD.map .d)),(1004,.box [.d (.int .i64 (n+1))])]⟩,Wk.less ?_,?_⟩
   ·simp[put,tmL,lpL,rulesD,go_sem]
   ·intro i o h;rw[←h,←get_puts];simp[puts,put,afterL,h0]
  clear hK hD;simp only[TL,lpL,tmL,asg247,body247,hw,go_sem,simprocAttr];refine⟨_,rfl,rfl,?_⟩;have cOLD21:=(walk282 v).call trivial;rw[encV_eq]at cOLD21;refine⟨fun h1=>?_,fun h1=>⟨fun h2=>?_,fun h2=>wn cOLD21 ?_⟩⟩
  ·obtain rfl:x=9:=by rw[←hx,chkE,if_pos h1]
   exact leaf dC _
  ·obtain rfl:x=23:=by rw[←hx,chkE,if_neg (by simp[h1]),if_pos h2]
   exact leaf dC _
  rw[chkE,if_neg (by simp[h1]),if_neg (by simp[h2])]at hx;refine zz ?_;apply ik<;>intro h3
  ·obtain rfl:x=19:=by rw[←hx,if_pos h3]
   exact leaf dC _
  rw[if_neg (by simp[h3])]at hx;refine sq (decide (v.kind>10)) ?_ ?_
  ·exact zz trivial
  have cOLD96:=(walk283 v).call trivial;rw[encV_eq]at cOLD96;refine zz ?_;refine⟨fun h4=>?_,fun h4=>wn cOLD96 ?_⟩
  ·obtain rfl:x=11:=by rw[←hx,if_pos h4]
   exact leaf dC _
  rw[if_neg (by simp only[h4];decide)]at hx;refine zz ?_;apply ik<;>intro h5
  ·obtain rfl:x=3:=by rw[←hx,if_pos h5]
   exact leaf dC _
  rw[if_neg (by simp[h5])]at hx;obtain⟨k1,k2⟩:1≤v.kind∧v.kind≤10:=by simp at h4;omega
  have hk:v.kind=1∨v.kind=2∨v.kind=3∨v.kind=4∨v.kind=5∨v.kind=6∨v.kind=7∨v.kind=8∨v.kind=9∨v.kind=10:=oM;rcases hk with hk|hk|hk|hk|hk|hk|hk|hk|hk|hk
  ·have cr:=(walk330 v).call trivial;have hr:ruleE v=btw v.int 0 1:=by simp[ruleE,hk]
   rw[encV_eq,hk,←hr,hx]at cr;refine zz10 ?_;refine⟨⟨dC,dC⟩,wn cr ?_⟩;refine zz ?_;exact⟨fun h6=>leaf (sX h6) _,fun h6=>leaf0 (sX h6) _⟩
  ·have cr:=(walk332 v).call trivial;have hr:ruleE v=btw v.int (-999999999999999) 999999999999999:=by simp[ruleE,hk]
   rw[encV_eq,hk,←hr,hx]at cr;refine zz10 ?_;refine⟨⟨dC,dC⟩,wn cr ?_⟩;refine zz ?_;exact⟨fun h6=>leaf (sX h6) _,fun h6=>leaf0 (sX h6) _⟩
  ·have cr:=(walk333 v).call trivial;have hr:ruleE v=fstE [btw v.int (-999999999999999) 999999999999999,btw v.scale 0 12]:=by simp[ruleE,hk]
   rw[encV_eq,hk,←hr,hx]at cr;refine zz10 ?_;refine⟨⟨dC,dC⟩,wn cr ?_⟩;refine zz ?_;exact⟨fun h6=>leaf (sX h6) _,fun h6=>leaf0 (sX h6) _⟩
  ·have cr:=(walk335 v).call trivial;have hr:ruleE v=textE v:=by simp[ruleE,hk]
   rw[encV_eq,hk,←hr,hx]at cr;refine zz10 ?_;refine⟨⟨dC,dC⟩,wn cr ?_⟩;refine zz ?_;exact⟨fun h6=>leaf (sX h6) _,fun h6=>leaf0 (sX h6) _⟩
  ·have cr:=(walk337 v).call trivial;have hr:ruleE v=szE v.text.length 1024 5:=by simp[ruleE,hk]
   rw[encV_eq,hk,←hr,hx]at cr;refine zz10 ?_;refine⟨⟨dC,dC⟩,wn cr ?_⟩;refine zz ?_;exact⟨fun h6=>leaf (sX h6) _,fun h6=>leaf0 (sX h6) _⟩
  ·have cr:=(walk338 v).call trivial;have hr:ruleE v=btw v.int (-719162) 2932896:=by simp[ruleE,hk]
   rw[encV_eq,hk,←hr,hx]at cr;refine zz10 ?_;refine⟨⟨dC,dC⟩,wn cr ?_⟩;refine zz ?_;exact⟨fun h6=>leaf (sX h6) _,fun h6=>leaf0 (sX h6) _⟩
  ·have cr:=(walk339 v).call trivial;have hr:ruleE v=btw v.int (-62135596800000) 253402300799999:=by simp[ruleE,hk]
   rw[encV_eq,hk,←hr,hx]at cr;refine zz10 ?_;refine⟨⟨dC,dC⟩,wn cr ?_⟩;refine zz ?_;exact⟨fun h6=>leaf (sX h6) _,fun h6=>leaf0 (sX h6) _⟩
  ·have cr:=(walk340 v).call trivial;have hr:ruleE v=szE v.list.length 256 9:=by simp[ruleE,hk]
   rw[encV_eq,hk,←hr,hx]at cr;refine zz10 ?_;refine⟨⟨dC,dC⟩,wn cr ?_⟩;refine zz ?_;exact⟨fun h6=>leaf (sX h6) _,fun h6=>leaf0 (sX h6) _⟩
  ·have cr:=(walk341 v).call trivial;have hr:ruleE v=recV v:=by simp[ruleE,hk]
   rw[encV_eq,hk,←hr,hx]at cr;refine zz10 ?_;refine⟨⟨dC,dC⟩,wn cr ?_⟩;refine zz ?_;exact⟨fun h6=>leaf (sX h6) _,fun h6=>leaf0 (sX h6) _⟩
  ·have cr:=(walk342 v).call trivial;have hr:ruleE v=varE v:=by simp[ruleE,hk]
   rw[encV_eq,hk,←hr,hx]at cr;refine zz10 ?_;refine⟨⟨dC,dC⟩,wn cr ?_⟩;refine zz ?_;exact⟨fun h6=>leaf (sX h6) _,fun h6=>leaf0 (sX h6) _⟩
end Go.Proofs
