/- Part T of a proof. -/
import Derived.Test.YtjcljkgafcdbgaaGreatDoorFrS
import Derived.Test.YtjcljkgafcdbgaaGreatDoorFrC
import Derived.Test.YtjcljkgafcdbgaaGreatDoorFrA
import Derived.Test.YtjcljkgafcdbgaaGreatDoorFrQ
import Derived.Test.YtjcljkgafcdbgaaGreatDoorFrN
import Derived.Shelf.SlMaps.Clone
import Derived.Shelf.SlGeneric
import Derived.Ground.SlmcProg
import Derived.Test.YtjcljkgafcdbgaaGreatDoorProg
import Derived.Shelf.SlIter.Sorted
import Derived.Ground.GgzProg
import Derived.Lib.Bytealg
import Derived.Shelf.Slices.Clone
set_option linter.unusedVariables false
set_option linter.unusedSimpArgs false
set_option linter.unusedSectionVars false
set_option linter.constructorNameAsVariable false
set_option linter.unnecessarySimpa false
set_option maxRecDepth 100000
namespace Go.Proofs
open Go Av
def JX(s:Ste):Bool:=(((((((((s.number==0)&&(s.time==0))&&(s.limit==0))&&(s.text==[]))&&(s.schema==[]))&&((s.exprs.length:Int)==0))&&((s.rules.length:Int)==0))&&((s.calls.length:Int)==0))&&((s.branches.length:Int)==0))
theorem U1(s:Ste):PT 259 [JL s] (.d (.bool (JX s))):=by
 refine ok259.pc ?_;rw[JE];simp only[go_sem,ir259,simprocAttr];refine sq (s.time==0) ?_ ?_
 ·exact zz4 trivial
 refine zz ?_;refine sq (s.limit==0) ?_ ?_
 ·exact zz4 trivial
 refine zz ?_;refine sq (s.text==[]) ?_ ?_
 ·exact zz4 trivial
 refine zz ?_;refine sq (s.schema==[]) ?_ ?_
 ·exact zz4 trivial
 refine zz ?_;refine sq ((s.exprs.length:Int)==0) ?_ ?_
 ·exact zz4 trivial
 refine zz ?_;refine sq ((s.rules.length:Int)==0) ?_ ?_
 ·exact zz4 trivial
 refine zz ?_;refine sq ((s.calls.length:Int)==0) ?_ ?_
 ·exact zz4 trivial
 refine zz ?_;refine sq ((s.branches.length:Int)==0) ?_ ?_
 ·exact zz4 trivial
 refine zz ?_;rfl
def JCq(n:Int)(m:Nat):Nat→List Brn→Bool
 |_,[]=>true
 |j,b::r=> !((b.cond.length:Int)!=n&& !(((j:Int)==(m:Int)-1)&&((b.cond.length:Int)==0)))&&JCq n m (j+1) r
def JAr(s:Ste)(n:Int):Bool:=JCq n s.branches.length 0 s.branches&&inR s.branches.length 1 64
theorem JLL(s:Ste)(n:Int):PT 174 [JL s,.int .i64 n] (.d (.bool (JAr s n))):=by
 refine Jz.Ja ok174.has fun hfit=>?_
 have hl:s.branches.length≤68719476736:=by
  have:=hfit _ (Vh);rw[JE]at this;simp only[fits,Ue,Vc]at this;omega
 clear hfit;refine ok174.pc ?_;have hc:=(X2 s.branches.length 1 64).call trivial;rw[JE];unfold JAr;generalize inR (s.branches.length:Int) 1 64=c at*;simp only[go_sem,ir174,Vc,simprocAttr];generalize hL:s.branches=l at*;refine JH (fun r st=>∃k:Nat,k≤l.length∧r=l.length-k∧JCq n l.length k (l.drop k)=JCq n l.length 0 l∧
  st=⟨[(1,.d (.int .i64 n)),(2,.ref 2 0),(9,.d (.list 2 (l.map Jw))),(10,.d (.int .i64 l.length)),(11,.d (.int .i64 k))],
   [(2,.box [.d (.str s.name),.d (.int .i64 s.kind),.d (.int .i64 s.number),.d (.int .i64 s.time),.d (.int .i64 s.limit),.d (.str s.text),.d (.str s.schema),.d (.list 5 (s.exprs.map Jd)),.d (.list 6 (s.rules.map Uf)),.d (.list 2 (s.calls.map Jm)),.d (.list 2 (l.map Jw))])]⟩) ?_ ?_
 ·refine⟨_,_,Wk.less ?_,0,Nat.zero_le _,rfl,rfl,rfl⟩;simp[go_sem]
 ·rintro r st ⟨k,hk,rfl,hinv,rfl⟩;by_cases hlt:k<l.length
  ·have hx:=JEW hlt;have hd:=dT hlt;have hw:IntKind.i64.wrap ((l.length:Int)-1)=(l.length:Int)-1:=wrap64 oM oM;rw[Vq hlt,JCq]at hinv;simp only[go_sem,hx,hd,hw,Vv,Vc,simprocAttr];refine⟨oM,?_⟩;refine sq ((l[k].cond.length:Int)==0) ?_ ?_
   ·exact zz4 trivial
   refine zz4 ?_;refine sq (!(((k:Int)==(l.length:Int)-1)&&((l[k].cond.length:Int)==0))) ?_ ?_
   ·exact zz4 trivial
   refine zz4 ?_;generalize((l[k].cond.length:Int)!=n&& !(((k:Int)==(l.length:Int)-1)&&((l[k].cond.length:Int)==0)))=q at*;cases q with
   |true=>
    simp only[Vr,Bool.false_and]at hinv;rw[←hinv];simp only[go_sem,Bool.false_and,simprocAttr]
   |false=>
    simp only[Vs,Vt]at hinv;refine zz ?_;refine⟨l.length-(k+1),_,oM,Wk.less ?_,k+1,oM,rfl,hinv,rfl⟩;exact zz7 trivial
  ·have hd:=dF hlt;obtain rfl:k=l.length:=oM;rw[List.drop_length,JCq]at hinv;rw[←hinv];refine zz22 ?_;refine wn hc ?_;simp only[go_sem,Vt,simprocAttr]
def orS(a b:Str):Str:=if a==[]then b else a
theorem walk257(a b:Str):PT 257 [.list 1 [.str a,.str b]] (.d (.str (orS a b))):=by
 refine ok257.pc ?_;simp only[go_sem,ir257,Nat.reduceAdd,Nat.reduceEqDiff,Nat.reduceBEq,Nat.reduceLeDiff,reduceCtorEq,↓reduceIte];refine JH (fun r st=>∃k:Nat,k≤2∧r=2-k∧(0<k→a=[])∧(1<k→b=[])∧
  st=⟨[(3,.d (.str [])),(6,.d (.list 1 [.str a,.str b])),(7,.d (.int .i64 2)),(8,.d (.int .i64 k))],[]⟩) ?_ ?_
 ·refine⟨_,_,Wk.less ?_,0,oM,rfl,oM,oM,rfl⟩;simp[go_sem]
 ·rintro r st ⟨k,hk,rfl,h0,h1,rfl⟩;obtain rfl|rfl|rfl:k=0∨k=1∨k=2:=oM
  ·have e0:((0:Nat):Int)=0:=rfl;have e1:decide ((0:Int)<2)=true:=rfl;have e2:(0:Int).toNat=0:=rfl;have e3:nth [Dat.str a,Dat.str b] 0=.str a:=rfl;simp only[go_sem,e0,e1,e2,e3,Nat.reduceAdd,Nat.reduceEqDiff,Nat.reduceBEq,Nat.reduceLeDiff,reduceCtorEq,↓reduceIte];refine⟨dC,dC,fun h=>?_,fun h=>?_⟩
   ·have:(a==[])=false:=sX h;simp only[go_sem,orS,this,Nat.reduceAdd,Nat.reduceEqDiff,Nat.reduceBEq,Nat.reduceLeDiff,reduceCtorEq,↓reduceIte]
   ·have:a=[]:=sX h;refine⟨1,_,oM,Wk.less ?_,1,oM,rfl,fun _=>this,oM,rfl⟩;simp[go_sem];decide
  ·have e0:((1:Nat):Int)=1:=rfl;have e1:decide ((1:Int)<2)=true:=rfl;have e2:(1:Int).toNat=1:=rfl;have e3:nth [Dat.str a,Dat.str b] 1=.str b:=rfl;obtain rfl:=h0 oM;simp only[go_sem,e0,e1,e2,e3,Nat.reduceAdd,Nat.reduceEqDiff,Nat.reduceBEq,Nat.reduceLeDiff,reduceCtorEq,↓reduceIte];refine⟨dC,dC,fun h=>?_,fun h=>?_⟩
   ·simp[orS]
   ·have hb:b=[]:=sX h;refine⟨0,_,oM,Wk.less ?_,2,oM,rfl,fun _=>hb,rfl⟩;simp[go_sem];decide
  ·have e0:((2:Nat):Int)=2:=rfl;have e1:decide ((2:Int)<2)=false:=rfl;have e2:(2:Int).toNat=2:=rfl;obtain rfl:=h0 oM;obtain rfl:=h1 oM;simp only[go_sem,e0,e1,Nat.reduceAdd,Nat.reduceEqDiff,Nat.reduceBEq,Nat.reduceLeDiff,reduceCtorEq,↓reduceIte];simp[orS]
theorem walk202(s:Str):PT 202 [.str s] (.d (.bool (JCn s))):=by
 refine ok202.pc ?_;simp only[go_sem,ir202,simprocAttr];refine wc (call292 s) trivial
def JCL(s:Str):Bool:=inR s.length 1 64&&JCn s
theorem JLM(s:Str):PT 161 [.str s] (.d (.bool (JCL s))):=by
 refine ok161.pc ?_;have h1:=(X2 s.length 1 64).call trivial;have h2:=(walk202 s).call trivial;simp only[go_sem,ir161,simprocAttr];refine wc h1 ?_;refine sq (JCn s) ?_ ?_
 ·refine zz ?_;refine wc h2 trivial
 simp only[go_sem,JCL,simprocAttr]
def JIf(s:Ste):Bool:=(((s.exprs.length:Int)==1)&&(JCL s.text))
theorem walk160(s:Ste):PT 160 [JL s] (.d (.bool (JIf s))):=by
 refine ok160.pc ?_;have h1:=(JLM s.text).call trivial;unfold JIf;rw[JE];simp only[go_sem,ir160,Vc,simprocAttr];refine sq (JCL s.text) ?_ ?_
 ·refine zz4 ?_;refine wc h1 trivial
 exact zz4 trivial
def JIg(s:Ste):Bool:=(!(s.schema==[]))
theorem walk162(s:Ste):PT 162 [JL s] (.d (.bool (JIg s))):=by
 refine ok162.pc ?_;unfold JIg;rw[JE];simp only[go_sem,ir162,Vc,simprocAttr]
def JIh(s:Ste):Bool:=((!(s.text==[]))&&(!(s.schema==[])))
theorem walk163(s:Ste):PT 163 [JL s] (.d (.bool (JIh s))):=by
 refine ok163.pc ?_;unfold JIh;rw[JE];simp only[go_sem,ir163,Vc,simprocAttr];refine sq (!(s.schema==[])) ?_ ?_
 ·exact zz4 trivial
 exact zz4 trivial
def JIi(s:Ste):Bool:=((((inR s.exprs.length 1 2)&&(inR s.number 0 256))&&(!(s.schema==[])))&&(Z1 s))
theorem walk164(s:Ste):PT 164 [JL s] (.d (.bool (JIi s))):=by
 refine ok164.pc ?_;have h0:=(X2 s.exprs.length 1 2).call trivial;have h1:=(X2 s.number 0 256).call trivial;have h3:=(JCH s).call trivial;unfold JIi;rw[JE]at h3⊢;simp only[go_sem,ir164,Vc,simprocAttr];refine wc h0 ?_;refine sq (inR s.number 0 256) ?_ ?_
 ·refine zz4 ?_;refine wc h1 trivial
 refine zz4 ?_;refine sq (!(s.schema==[])) ?_ ?_
 ·exact zz4 trivial
 refine zz4 ?_;refine sq (Z1 s) ?_ ?_
 ·refine zz4 ?_;refine wc h3 trivial
 exact zz4 trivial
def JIj(s:Ste):Bool:=(((s.exprs.length:Int)==2)&&(Z1 s))
theorem walk166(s:Ste):PT 166 [JL s] (.d (.bool (JIj s))):=by
 refine ok166.pc ?_;have h1:=(JCH s).call trivial;unfold JIj;rw[JE]at h1⊢;simp only[go_sem,ir166,Vc,simprocAttr];refine sq (Z1 s) ?_ ?_
 ·refine zz4 ?_;refine wc h1 trivial
 exact zz4 trivial
def JIk(s:Ste):Bool:=(((s.exprs.length:Int)==1)&&(inR s.number 1 256))
theorem walk167(s:Ste):PT 167 [JL s] (.d (.bool (JIk s))):=by
 refine ok167.pc ?_;have h1:=(X2 s.number 1 256).call trivial;unfold JIk;rw[JE];simp only[go_sem,ir167,Vc,simprocAttr];refine sq (inR s.number 1 256) ?_ ?_
 ·refine zz4 ?_;refine wc h1 trivial
 exact zz4 trivial
def JIl(s:Ste):Bool:=(((inR s.number 1 256)&&(decide (s.time≥1)))&&(Z1 s))
theorem walk168(s:Ste):PT 168 [JL s] (.d (.bool (JIl s))):=by
 refine ok168.pc ?_;have h0:=(X2 s.number 1 256).call trivial;have h2:=(JCH s).call trivial;unfold JIl;rw[JE]at h2⊢;simp only[go_sem,ir168,Vc,simprocAttr];refine wc h0 ?_;refine sq (decide (s.time≥1)) ?_ ?_
 ·exact zz4 trivial
 refine zz4 ?_;refine sq (Z1 s) ?_ ?_
 ·refine zz4 ?_;refine wc h2 trivial
 exact zz4 trivial
def JIm(s:Ste):Bool:=((decide (s.time≥1))&&(Z1 s))
theorem walk169(s:Ste):PT 169 [JL s] (.d (.bool (JIm s))):=by
 refine ok169.pc ?_;have h1:=(JCH s).call trivial;unfold JIm;rw[JE]at h1⊢;simp only[go_sem,ir169,Vc,simprocAttr];refine sq (Z1 s) ?_ ?_
 ·refine zz4 ?_;refine wc h1 trivial
 exact zz4 trivial
def JIn(s:Ste):Bool:=(JDo s 1)
theorem walk170(s:Ste):PT 170 [JL s] (.d (.bool (JIn s))):=by
 refine ok170.pc ?_;have h0:=(JK2 s 1).call trivial;unfold JIn;rw[JE]at h0⊢;simp only[go_sem,ir170,Vc,simprocAttr];refine wc h0 trivial
def JIo(s:Ste):Bool:=(JDo s 16)
theorem walk172(s:Ste):PT 172 [JL s] (.d (.bool (JIo s))):=by
 refine ok172.pc ?_;have h0:=(JK2 s 16).call trivial;unfold JIo;rw[JE]at h0⊢;simp only[go_sem,ir172,Vc,simprocAttr];refine wc h0 trivial
def JIp(s:Ste):Bool:=(JAr s 1)
theorem walk173(s:Ste):PT 173 [JL s] (.d (.bool (JIp s))):=by
 refine ok173.pc ?_;have h0:=(JLL s 1).call trivial;unfold JIp;rw[JE]at h0⊢;simp only[go_sem,ir173,Vc,simprocAttr];refine wc h0 trivial
def JIq(s:Ste):Bool:=(JAr s 0)
theorem walk175(s:Ste):PT 175 [JL s] (.d (.bool (JIq s))):=by
 refine ok175.pc ?_;have h0:=(JLL s 0).call trivial;unfold JIq;rw[JE]at h0⊢;simp only[go_sem,ir175,Vc,simprocAttr];refine wc h0 trivial
def JIr(s:Ste):Bool:=(!(s.text==[]))
theorem walk176(s:Ste):PT 176 [JL s] (.d (.bool (JIr s))):=by
 refine ok176.pc ?_;unfold JIr;rw[JE];simp only[go_sem,ir176,Vc,simprocAttr]
def JIs(s:Ste):Bool:=(JCL s.text)
theorem walk177(s:Ste):PT 177 [JL s] (.d (.bool (JIs s))):=by
 refine ok177.pc ?_;have h0:=(JLM s.text).call trivial;unfold JIs;rw[JE];simp only[go_sem,ir177,Vc,simprocAttr];refine wc h0 trivial
def CL(f:Nat)(caps:List Dat)(φ:List Dat→List Dat):Prop:=∀x0 x1 x2 x3 x4 x5 x6 x7 x8 x9 x10:Dat,
 KT f (.ref 1000 0::caps.map .d) [(1000,.box ([x0,x1,x2,x3,x4,x5,x6,x7,x8,x9,x10].map .d))] (.tup []) [(1000,.box ((φ [x0,x1,x2,x3,x4,x5,x6,x7,x8,x9,x10]).map .d))]
theorem JAs(G:Nat→Option Av.Obj):∀xs:List Dat,JR G (xs.map .d)
 |[]=>trivial
 |x::r=>⟨trivial,JAs G r⟩
theorem Us(xs ys:List Dat):closed (JA (get [(1000,.box (xs.map .d))]) [(1000,.box (ys.map .d))]):=Jf (by
 simp only[UH,put,↓reduceIte];exact⟨JAs _ ys,trivial⟩)
def JA8(xs:List Dat):List Dat:=(xs.set 5 (.str []))
theorem JJ3:CL 151 [] JA8:=by
 intro x0 x1 x2 x3 x4 x5 x6 x7 x8 x9 x10;refine ok151.con (k:=some false) (Nat.le_of_ble_eq_true rfl) (Us _ _) trivial ?_;simp only[JA8,go_sem,ir151,List.set_cons_zero,List.set_cons_succ,simprocAttr]
def JA9(xs:List Dat):List Dat:=((xs.set 8 (.nil 6)).set 6 (.str []))
theorem JOY:CL 152 [] JA9:=by
 intro x0 x1 x2 x3 x4 x5 x6 x7 x8 x9 x10;refine ok152.con (k:=some false) (Nat.le_of_ble_eq_true rfl) (Us _ _) trivial ?_;simp only[JA9,go_sem,ir152,List.set_cons_zero,List.set_cons_succ,simprocAttr]
def JDT(xs:List Dat):List Dat:=(xs.set 7 (.nil 5))
theorem clr150:CL 153 [] JDT:=by
 intro x0 x1 x2 x3 x4 x5 x6 x7 x8 x9 x10;refine ok153.con (k:=some false) (Nat.le_of_ble_eq_true rfl) (Us _ _) trivial ?_;simp only[JDT,go_sem,ir153,List.set_cons_zero,List.set_cons_succ,simprocAttr]
def JAQ(xs:List Dat):List Dat:=((xs.set 3 (.int .i64 0)).set 4 (.int .i64 0))
theorem JOZ:CL 154 [] JAQ:=by
 intro x0 x1 x2 x3 x4 x5 x6 x7 x8 x9 x10;refine ok154.con (k:=some false) (Nat.le_of_ble_eq_true rfl) (Us _ _) trivial ?_;simp only[JAQ,go_sem,ir154,List.set_cons_zero,List.set_cons_succ,simprocAttr]
def JDU(xs:List Dat):List Dat:=(xs.set 10 (.nil 2))
theorem JJ4:CL 155 [] JDU:=by
 intro x0 x1 x2 x3 x4 x5 x6 x7 x8 x9 x10;refine ok155.con (k:=some false) (Nat.le_of_ble_eq_true rfl) (Us _ _) trivial ?_;simp only[JDU,go_sem,ir155,List.set_cons_zero,List.set_cons_succ,simprocAttr]
def JEv(xs:List Dat):List Dat:=(xs.set 2 (.int .i64 0))
theorem clr155:CL 158 [] JEv:=by
 intro x0 x1 x2 x3 x4 x5 x6 x7 x8 x9 x10;refine ok158.con (k:=some false) (Nat.le_of_ble_eq_true rfl) (Us _ _) trivial ?_;simp only[JEv,go_sem,ir158,List.set_cons_zero,List.set_cons_succ,simprocAttr]
def JGE(xs:List Dat):List Dat:=(xs.set 9 (.nil 2))
theorem clr156:CL 159 [] JGE:=by
 intro x0 x1 x2 x3 x4 x5 x6 x7 x8 x9 x10;refine ok159.con (k:=some false) (Nat.le_of_ble_eq_true rfl) (Us _ _) trivial ?_;simp only[JGE,go_sem,ir159,List.set_cons_zero,List.set_cons_succ,simprocAttr]
end Go.Proofs
namespace Go.Proofs
open Go Av
variable {f:Nat}
abbrev fnD(f:Nat):Dat:=.fn (.func f) [] []
def Xh(l:List Nat):Dat:=.fn (.func 157) [] [.ptr [.list 1 (l.map fnD)]]
def Jt:List (Dat×Dat):=[(.int .i64 1,.agg [Xh [151,153],fnD 160]),(.int .i64 2,.agg [fnD 152,fnD 162]),(.int .i64 3,.agg [Xh [151,152],fnD 163]),(.int .i64 4,.agg [Xh [153,158,154,152],fnD 164]),(.int .i64 5,.agg [Xh [153,154],fnD 166]),
 (.int .i64 6,.agg [Xh [153,158],fnD 167]),(.int .i64 7,.agg [Xh [158,154],fnD 168]),(.int .i64 8,.agg [fnD 154,fnD 169]),(.int .i64 9,.agg [Xh [152,154,159],fnD 170]),(.int .i64 10,.agg [Xh [152,154,159],fnD 172]),
 (.int .i64 11,.agg [fnD 155,fnD 173]),(.int .i64 12,.agg [fnD 155,fnD 175]),(.int .i64 13,.agg [fnD 151,fnD 176]),(.int .i64 14,.agg [fnD 151,fnD 177])]
def JDV:List (Dat×Dat)→List Dat
 |[]=>[]
 |e::r=>e.1::e.2::JDV r
theorem JGF:∀(a b:List (Dat×Dat)),JDV a=JDV b→a=b
 |[],[],_=>rfl
 |[],_::_,h=>by simp[JDV]at h
 |_::_,[],h=>by simp[JDV]at h
 |(x,y)::r,(z,w)::s,h=>by
  simp only[JDV,List.cons.injEq]at h;rw[h.1,h.2.1,JGF r s h.2.2]
def entM(P:Program)(X:Ext)(f:Nat)(es:List (Dat×Dat)):Bool:=match evF P (ZE 0) (Yp P X (fun _=>0) 500 60) 500 f [] []with
 |some (u,_)=>Z0 u&&(match u with|.d (.map l)=>Zj (JDV l) (JDV es)|_=>false)
 |none=>false
theorem entM_ok{P:Program}{X:Ext}(hX:JS P X){es:List (Dat×Dat)}(h:entM P X f es=true):Jz P f [] (.d (.map es)):=by
 unfold entM at h;split at h
 ·rename_i u fh ev;simp only[Vi]at h;obtain⟨hp,he⟩:=h;split at he
  ·rw[JGF _ _ (JB6 _ _ he)]at ev hp;exact JKu hX ev hp
  ·cases he
 ·cases h
theorem k80:entM Tryz.prog X1 93 Jt=true:=kR
theorem walk93:PT 93 [] (.d (.map Jt)):=entM_ok JOM k80
theorem CL.gen{caps:List Dat}{φ:List Dat→List Dat}(h:CL f caps φ){xs:List Dat}(hx:xs.length=11):
  KT f (.ref 1000 0::caps.map .d) [(1000,.box (xs.map .d))] (.tup []) [(1000,.box ((φ xs).map .d))]:=by
 match xs,hx with
 |[x0,x1,x2,x3,x4,x5,x6,x7,x8,x9,x10],_=>exact h x0 x1 x2 x3 x4 x5 x6 x7 x8 x9 x10
def clF:Nat→List Dat→List Dat
 |151=>JA8|152=>JA9|153=>JDT|154=>JAQ|155=>JDU|158=>JEv|159=>JGE
 |_=>id
def clN(f:Nat):Prop:=f=151∨f=152∨f=153∨f=154∨f=155∨f=158∨f=159
theorem clF_ok(h:clN f):CL f [] (clF f):=by
 rcases h with rfl|rfl|rfl|rfl|rfl|rfl|rfl
 ·exact JJ3
 ·exact JOY
 ·exact clr150
 ·exact JOZ
 ·exact JJ4
 ·exact clr155
 ·exact clr156
theorem clF_len(f:Nat)(xs:List Dat):(clF f xs).length=xs.length:=by
 unfold clF;split<;>simp[JA8,JA9,JDT,JAQ,JDU,JEv,JGE]
def clA(l:List Nat)(xs:List Dat):List Dat:=l.foldl (fun xs f=>clF f xs) xs
theorem JLN:∀(l:List Nat) (xs:List Dat),(clA l xs).length=xs.length
 |[],xs=>rfl
 |f::r,xs=>by
  show(clA r (clF f xs)).length=_;rw[JLN r,clF_len]
theorem JOa{l:List Nat}{k:Nat}(h:k<l.length)(xs:List Dat):clA (l.take (k+1)) xs=clF l[k] (clA (l.take k) xs):=by
 unfold clA;rw[List.take_succ_eq_append_getElem h,List.foldl_append];rfl
theorem JIt(l:List Nat)(hl:∀f∈l,clN f)(hn:l.length≤100):CL 157 [.ptr [.list 1 (l.map fnD)]] (clA l):=by
 intro x0 x1 x2 x3 x4 x5 x6 x7 x8 x9 x10;generalize hX:[x0,x1,x2,x3,x4,x5,x6,x7,x8,x9,x10]=xs;have hlen:xs.length=11:=by rw[←hX];rfl
 refine ok157.con (k:=some false) (Nat.le_of_ble_eq_true rfl) (Us _ _) trivial ?_;simp only[go_sem,ir157,Vc,Nat.reduceAdd,Nat.reduceEqDiff,Nat.reduceBEq,Nat.reduceLeDiff,reduceCtorEq,↓reduceIte];refine⟨dC,JH (fun r st=>∃k:Nat,k≤l.length∧r=l.length-k∧
  st=⟨[(0,.ref 1000 0),(1,.d (.ptr [.list 1 (l.map fnD)])),(5,.d (.list 1 (l.map fnD))),(6,.d (.int .i64 l.length)),(7,.d (.int .i64 k))],[(1000,.box ((clA (l.take k) xs).map .d))]⟩) ?_ ?_⟩
 ·refine⟨_,_,Wk.less ?_,0,Nat.zero_le _,rfl,rfl⟩;simp[go_sem,clA];exact JAs _ _
 ·rintro r st ⟨k,hk,rfl,rfl⟩;by_cases hlt:k<l.length
  ·have hx:=J0 fnD hlt;have hd:=dT hlt;have hc:=Con.rw1 ((clF_ok (hl _ (Vk hlt))).gen (xs:=clA (l.take k) xs) (by rw[JLN,hlen])) (by simp[J5]) 1000;rw[←JOa hlt]at hc;refine zz6 ?_;refine⟨oM,dC,wn hc ?_⟩;refine zz ?_;refine⟨l.length-(k+1),_,oM,Wk.less ?_,k+1,oM,rfl,rfl⟩;refine zz7 ?_;exact JAs _ _
  ·have hd:=dF hlt;obtain rfl:k=l.length:=oM;exact JDe trivial
def sc1(s:Ste):Ste:=.mk s.name s.kind s.number s.time s.limit [] s.schema [] s.rules s.calls s.branches
def sc2(s:Ste):Ste:=.mk s.name s.kind s.number s.time s.limit s.text [] s.exprs [] s.calls s.branches
def sc3(s:Ste):Ste:=.mk s.name s.kind s.number s.time s.limit [] [] s.exprs [] s.calls s.branches
def sc4(s:Ste):Ste:=.mk s.name s.kind 0 0 0 s.text [] [] [] s.calls s.branches
def sc5(s:Ste):Ste:=.mk s.name s.kind s.number 0 0 s.text s.schema [] s.rules s.calls s.branches
def sc6(s:Ste):Ste:=.mk s.name s.kind 0 s.time s.limit s.text s.schema [] s.rules s.calls s.branches
def sc7(s:Ste):Ste:=.mk s.name s.kind 0 0 0 s.text s.schema s.exprs s.rules s.calls s.branches
def sc8(s:Ste):Ste:=.mk s.name s.kind s.number 0 0 s.text s.schema s.exprs s.rules s.calls s.branches
def sc9(s:Ste):Ste:=.mk s.name s.kind s.number 0 0 s.text [] s.exprs [] [] s.branches
def sc10(s:Ste):Ste:=.mk s.name s.kind s.number 0 0 s.text [] s.exprs [] [] s.branches
def sc11(s:Ste):Ste:=.mk s.name s.kind s.number s.time s.limit s.text s.schema s.exprs s.rules s.calls []
def sc12(s:Ste):Ste:=.mk s.name s.kind s.number s.time s.limit s.text s.schema s.exprs s.rules s.calls []
def sc13(s:Ste):Ste:=.mk s.name s.kind s.number s.time s.limit [] s.schema s.exprs s.rules s.calls s.branches
def sc14(s:Ste):Ste:=.mk s.name s.kind s.number s.time s.limit [] s.schema s.exprs s.rules s.calls s.branches
def JIu(s:Ste):Bool:=if s.kind==1 then JIf s&&JX (sc1 s)else if s.kind==2 then JIg s&&JX (sc2 s)else if s.kind==3 then JIh s&&JX (sc3 s)else if s.kind==4 then JIi s&&JX (sc4 s)else if s.kind==5 then JIj s&&JX (sc5 s)else if s.kind==6 then JIk s&&JX (sc6 s)else if s.kind==7 then JIl s&&JX (sc7 s)else if s.kind==8 then JIm s&&JX (sc8 s)else if s.kind==9 then JIn s&&JX (sc9 s)else if s.kind==10 then JIo s&&JX (sc10 s)else if s.kind==11 then JIp s&&JX (sc11 s)else if s.kind==12 then JIq s&&JX (sc12 s)else if s.kind==13 then JIr s&&JX (sc13 s)else if s.kind==14 then JIs s&&JX (sc14 s)else false
theorem JOb(kd:Int)(h:(kd==1)=false∧(kd==2)=false∧(kd==3)=false∧(kd==4)=false∧(kd==5)=false∧(kd==6)=false∧(kd==7)=false∧(kd==8)=false∧(kd==9)=false∧(kd==10)=false∧(kd==11)=false∧(kd==12)=false∧(kd==13)=false∧(kd==14)=false):UM .i Jt (.int .i64 kd)=some none:=by
 obtain⟨h1,h2,h3,h4,h5,h6,h7,h8,h9,h10,h11,h12,h13,h14⟩:=h;simp only[UM,Jt,UQ,JMm,↓reduceIte,h1,h2,h3,h4,h5,h6,h7,h8,h9,h10,h11,h12,h13,h14]
theorem form1(s:Ste)(hk:s.kind=1):PT 180 [JL s,.map Jt] (.d (.bool (JIf s&&JX (sc1 s)))):=by
 refine Yt.pc ?_;have h1:=(walk160 s).call trivial;have h2:=Con.rw1 ((JIt [151,153] (by simp[clN]) dC).gen (xs:=[.str s.name,.int .i64 s.kind,.int .i64 s.number,.int .i64 s.time,.int .i64 s.limit,.str s.text,.str s.schema,.list 5 (s.exprs.map Jd),.list 6 (s.rules.map Uf),.list 2 (s.calls.map Jm),.list 2 (s.branches.map Jw)]) rfl) (by simp[J5]) 2;have h3:CT (.fn 259) [.d (.agg [.str s.name,.int .i64 s.kind,.int .i64 s.number,.int .i64 s.time,.int .i64 s.limit,.str [],.str s.schema,.list 5 [],.list 6 (s.rules.map Uf),.list 2 (s.calls.map Jm),.list 2 (s.branches.map Jw)])] [] (.d (.bool (JX (sc1 s)))) []:=by
  have:=(U1 (sc1 s)).call trivial;rw[JE]at this;exact this
 have hf:UM .i Jt (.int .i64 1)=some (some (.agg [Xh [151,153],fnD 160])):=rfl;simp only[clA,clF,List.foldl_cons,List.foldl_nil,JA8,JDT,List.set_cons_zero,List.set_cons_succ,Va,Vb]at h2;rw[JE]at h1⊢;generalize JX _=E at*;generalize JIf s=R at*;rw[hk]at h1 h2 h3⊢;simp only[go_sem,YQ,hf,Xh,fnD,Vr,simprocAttr];refine wc h1 ?_;cases R with
 |false=>simp only[go_sem,Vs,Bool.false_and,simprocAttr]
 |true=>
  simp only[go_sem,Vr,Vt,simprocAttr];refine wc h2 ?_;refine UO rfl (v:=.d (.bool E)) (by simp only[go_sem,simprocAttr];exact h3) ?_;exact zz trivial
theorem form2(s:Ste)(hk:s.kind=2):PT 180 [JL s,.map Jt] (.d (.bool (JIg s&&JX (sc2 s)))):=by
 refine Yt.pc ?_;have h1:=(walk162 s).call trivial;have h2:=Con.rw1 (JOY.gen (xs:=[.str s.name,.int .i64 s.kind,.int .i64 s.number,.int .i64 s.time,.int .i64 s.limit,.str s.text,.str s.schema,.list 5 (s.exprs.map Jd),.list 6 (s.rules.map Uf),.list 2 (s.calls.map Jm),.list 2 (s.branches.map Jw)]) rfl) (by simp[J5]) 2;have h3:CT (.fn 259) [.d (.agg [.str s.name,.int .i64 s.kind,.int .i64 s.number,.int .i64 s.time,.int .i64 s.limit,.str s.text,.str [],.list 5 (s.exprs.map Jd),.list 6 [],.list 2 (s.calls.map Jm),.list 2 (s.branches.map Jw)])] [] (.d (.bool (JX (sc2 s)))) []:=by
  have:=(U1 (sc2 s)).call trivial;rw[JE]at this;exact this
 have hf:UM .i Jt (.int .i64 2)=some (some (.agg [fnD 152,fnD 162])):=rfl;simp only[JA9,JA9,List.set_cons_zero,List.set_cons_succ,Va,Vb]at h2;rw[JE]at h1⊢;generalize JX _=E at*;generalize JIg s=R at*;rw[hk]at h1 h2 h3⊢;simp only[go_sem,YQ,hf,Xh,fnD,Vr,simprocAttr];refine wc h1 ?_;cases R with
 |false=>simp only[go_sem,Vs,Bool.false_and,simprocAttr]
 |true=>
  simp only[go_sem,Vr,Vt,simprocAttr];refine wc h2 ?_;refine UO rfl (v:=.d (.bool E)) (by simp only[go_sem,simprocAttr];exact h3) ?_;exact zz trivial
theorem form3(s:Ste)(hk:s.kind=3):PT 180 [JL s,.map Jt] (.d (.bool (JIh s&&JX (sc3 s)))):=by
 refine Yt.pc ?_;have h1:=(walk163 s).call trivial;have h2:=Con.rw1 ((JIt [151,152] (by simp[clN]) dC).gen (xs:=[.str s.name,.int .i64 s.kind,.int .i64 s.number,.int .i64 s.time,.int .i64 s.limit,.str s.text,.str s.schema,.list 5 (s.exprs.map Jd),.list 6 (s.rules.map Uf),.list 2 (s.calls.map Jm),.list 2 (s.branches.map Jw)]) rfl) (by simp[J5]) 2;have h3:CT (.fn 259) [.d (.agg [.str s.name,.int .i64 s.kind,.int .i64 s.number,.int .i64 s.time,.int .i64 s.limit,.str [],.str [],.list 5 (s.exprs.map Jd),.list 6 [],.list 2 (s.calls.map Jm),.list 2 (s.branches.map Jw)])] [] (.d (.bool (JX (sc3 s)))) []:=by
  have:=(U1 (sc3 s)).call trivial;rw[JE]at this;exact this
 have hf:UM .i Jt (.int .i64 3)=some (some (.agg [Xh [151,152],fnD 163])):=rfl;simp only[clA,clF,List.foldl_cons,List.foldl_nil,JA8,JA9,List.set_cons_zero,List.set_cons_succ,Va,Vb]at h2;rw[JE]at h1⊢;generalize JX _=E at*;generalize JIh s=R at*;rw[hk]at h1 h2 h3⊢;simp only[go_sem,YQ,hf,Xh,fnD,Vr,simprocAttr];refine wc h1 ?_;cases R with
 |false=>simp only[go_sem,Vs,Bool.false_and,simprocAttr]
 |true=>
  simp only[go_sem,Vr,Vt,simprocAttr];refine wc h2 ?_;refine UO rfl (v:=.d (.bool E)) (by simp only[go_sem,simprocAttr];exact h3) ?_;exact zz trivial
theorem form4(s:Ste)(hk:s.kind=4):PT 180 [JL s,.map Jt] (.d (.bool (JIi s&&JX (sc4 s)))):=by
 refine Yt.pc ?_;have h1:=(walk164 s).call trivial;have h2:=Con.rw1 ((JIt [153,158,154,152] (by simp[clN]) dC).gen (xs:=[.str s.name,.int .i64 s.kind,.int .i64 s.number,.int .i64 s.time,.int .i64 s.limit,.str s.text,.str s.schema,.list 5 (s.exprs.map Jd),.list 6 (s.rules.map Uf),.list 2 (s.calls.map Jm),.list 2 (s.branches.map Jw)]) rfl) (by simp[J5]) 2;have h3:CT (.fn 259) [.d (.agg [.str s.name,.int .i64 s.kind,.int .i64 0,.int .i64 0,.int .i64 0,.str s.text,.str [],.list 5 [],.list 6 [],.list 2 (s.calls.map Jm),.list 2 (s.branches.map Jw)])] [] (.d (.bool (JX (sc4 s)))) []:=by
  have:=(U1 (sc4 s)).call trivial;rw[JE]at this;exact this
 have hf:UM .i Jt (.int .i64 4)=some (some (.agg [Xh [153,158,154,152],fnD 164])):=rfl;simp only[clA,clF,List.foldl_cons,List.foldl_nil,JDT,JEv,JAQ,JA9,List.set_cons_zero,List.set_cons_succ,Va,Vb]at h2;rw[JE]at h1⊢;generalize JX _=E at*;generalize JIi s=R at*;rw[hk]at h1 h2 h3⊢;simp only[go_sem,YQ,hf,Xh,fnD,Vr,simprocAttr];refine wc h1 ?_;cases R with
 |false=>simp only[go_sem,Vs,Bool.false_and,simprocAttr]
 |true=>
  simp only[go_sem,Vr,Vt,simprocAttr];refine wc h2 ?_;refine UO rfl (v:=.d (.bool E)) (by simp only[go_sem,simprocAttr];exact h3) ?_;exact zz trivial
theorem form5(s:Ste)(hk:s.kind=5):PT 180 [JL s,.map Jt] (.d (.bool (JIj s&&JX (sc5 s)))):=by
 refine Yt.pc ?_;have h1:=(walk166 s).call trivial;have h2:=Con.rw1 ((JIt [153,154] (by simp[clN]) dC).gen (xs:=[.str s.name,.int .i64 s.kind,.int .i64 s.number,.int .i64 s.time,.int .i64 s.limit,.str s.text,.str s.schema,.list 5 (s.exprs.map Jd),.list 6 (s.rules.map Uf),.list 2 (s.calls.map Jm),.list 2 (s.branches.map Jw)]) rfl) (by simp[J5]) 2;have h3:CT (.fn 259) [.d (.agg [.str s.name,.int .i64 s.kind,.int .i64 s.number,.int .i64 0,.int .i64 0,.str s.text,.str s.schema,.list 5 [],.list 6 (s.rules.map Uf),.list 2 (s.calls.map Jm),.list 2 (s.branches.map Jw)])] [] (.d (.bool (JX (sc5 s)))) []:=by
  have:=(U1 (sc5 s)).call trivial;rw[JE]at this;exact this
 have hf:UM .i Jt (.int .i64 5)=some (some (.agg [Xh [153,154],fnD 166])):=rfl;simp only[clA,clF,List.foldl_cons,List.foldl_nil,JDT,JAQ,List.set_cons_zero,List.set_cons_succ,Va,Vb]at h2;rw[JE]at h1⊢;generalize JX _=E at*;generalize JIj s=R at*;rw[hk]at h1 h2 h3⊢;simp only[go_sem,YQ,hf,Xh,fnD,Vr,simprocAttr];refine wc h1 ?_;cases R with
 |false=>simp only[go_sem,Vs,Bool.false_and,simprocAttr]
 |true=>
  simp only[go_sem,Vr,Vt,simprocAttr];refine wc h2 ?_;refine UO rfl (v:=.d (.bool E)) (by simp only[go_sem,simprocAttr];exact h3) ?_;exact zz trivial
theorem form6(s:Ste)(hk:s.kind=6):PT 180 [JL s,.map Jt] (.d (.bool (JIk s&&JX (sc6 s)))):=by
 refine Yt.pc ?_;have h1:=(walk167 s).call trivial;have h2:=Con.rw1 ((JIt [153,158] (by simp[clN]) dC).gen (xs:=[.str s.name,.int .i64 s.kind,.int .i64 s.number,.int .i64 s.time,.int .i64 s.limit,.str s.text,.str s.schema,.list 5 (s.exprs.map Jd),.list 6 (s.rules.map Uf),.list 2 (s.calls.map Jm),.list 2 (s.branches.map Jw)]) rfl) (by simp[J5]) 2;have h3:CT (.fn 259) [.d (.agg [.str s.name,.int .i64 s.kind,.int .i64 0,.int .i64 s.time,.int .i64 s.limit,.str s.text,.str s.schema,.list 5 [],.list 6 (s.rules.map Uf),.list 2 (s.calls.map Jm),.list 2 (s.branches.map Jw)])] [] (.d (.bool (JX (sc6 s)))) []:=by
  have:=(U1 (sc6 s)).call trivial;rw[JE]at this;exact this
 have hf:UM .i Jt (.int .i64 6)=some (some (.agg [Xh [153,158],fnD 167])):=rfl;simp only[clA,clF,List.foldl_cons,List.foldl_nil,JDT,JEv,List.set_cons_zero,List.set_cons_succ,Va,Vb]at h2;rw[JE]at h1⊢;generalize JX _=E at*;generalize JIk s=R at*;rw[hk]at h1 h2 h3⊢;simp only[go_sem,YQ,hf,Xh,fnD,Vr,simprocAttr];refine wc h1 ?_;cases R with
 |false=>simp only[go_sem,Vs,Bool.false_and,simprocAttr]
 |true=>
  simp only[go_sem,Vr,Vt,simprocAttr];refine wc h2 ?_;refine UO rfl (v:=.d (.bool E)) (by simp only[go_sem,simprocAttr];exact h3) ?_;exact zz trivial
theorem form7(s:Ste)(hk:s.kind=7):PT 180 [JL s,.map Jt] (.d (.bool (JIl s&&JX (sc7 s)))):=by
 refine Yt.pc ?_;have h1:=(walk168 s).call trivial;have h2:=Con.rw1 ((JIt [158,154] (by simp[clN]) dC).gen (xs:=[.str s.name,.int .i64 s.kind,.int .i64 s.number,.int .i64 s.time,.int .i64 s.limit,.str s.text,.str s.schema,.list 5 (s.exprs.map Jd),.list 6 (s.rules.map Uf),.list 2 (s.calls.map Jm),.list 2 (s.branches.map Jw)]) rfl) (by simp[J5]) 2;have h3:CT (.fn 259) [.d (.agg [.str s.name,.int .i64 s.kind,.int .i64 0,.int .i64 0,.int .i64 0,.str s.text,.str s.schema,.list 5 (s.exprs.map Jd),.list 6 (s.rules.map Uf),.list 2 (s.calls.map Jm),.list 2 (s.branches.map Jw)])] [] (.d (.bool (JX (sc7 s)))) []:=by
  have:=(U1 (sc7 s)).call trivial;rw[JE]at this;exact this
 have hf:UM .i Jt (.int .i64 7)=some (some (.agg [Xh [158,154],fnD 168])):=rfl;simp only[clA,clF,List.foldl_cons,List.foldl_nil,JEv,JAQ,List.set_cons_zero,List.set_cons_succ,Va,Vb]at h2;rw[JE]at h1⊢;generalize JX _=E at*;generalize JIl s=R at*;rw[hk]at h1 h2 h3⊢;simp only[go_sem,YQ,hf,Xh,fnD,Vr,simprocAttr];refine wc h1 ?_;cases R with
 |false=>simp only[go_sem,Vs,Bool.false_and,simprocAttr]
 |true=>
  simp only[go_sem,Vr,Vt,simprocAttr];refine wc h2 ?_;refine UO rfl (v:=.d (.bool E)) (by simp only[go_sem,simprocAttr];exact h3) ?_;exact zz trivial
theorem form8(s:Ste)(hk:s.kind=8):PT 180 [JL s,.map Jt] (.d (.bool (JIm s&&JX (sc8 s)))):=by
 refine Yt.pc ?_;have h1:=(walk169 s).call trivial;have h2:=Con.rw1 (JOZ.gen (xs:=[.str s.name,.int .i64 s.kind,.int .i64 s.number,.int .i64 s.time,.int .i64 s.limit,.str s.text,.str s.schema,.list 5 (s.exprs.map Jd),.list 6 (s.rules.map Uf),.list 2 (s.calls.map Jm),.list 2 (s.branches.map Jw)]) rfl) (by simp[J5]) 2;have h3:CT (.fn 259) [.d (.agg [.str s.name,.int .i64 s.kind,.int .i64 s.number,.int .i64 0,.int .i64 0,.str s.text,.str s.schema,.list 5 (s.exprs.map Jd),.list 6 (s.rules.map Uf),.list 2 (s.calls.map Jm),.list 2 (s.branches.map Jw)])] [] (.d (.bool (JX (sc8 s)))) []:=by
  have:=(U1 (sc8 s)).call trivial;rw[JE]at this;exact this
 have hf:UM .i Jt (.int .i64 8)=some (some (.agg [fnD 154,fnD 169])):=rfl;simp only[JAQ,JAQ,List.set_cons_zero,List.set_cons_succ,Va,Vb]at h2;rw[JE]at h1⊢;generalize JX _=E at*;generalize JIm s=R at*;rw[hk]at h1 h2 h3⊢;simp only[go_sem,YQ,hf,Xh,fnD,Vr,simprocAttr];refine wc h1 ?_;cases R with
 |false=>simp only[go_sem,Vs,Bool.false_and,simprocAttr]
 |true=>
  simp only[go_sem,Vr,Vt,simprocAttr];refine wc h2 ?_;refine UO rfl (v:=.d (.bool E)) (by simp only[go_sem,simprocAttr];exact h3) ?_;exact zz trivial
theorem form9(s:Ste)(hk:s.kind=9):PT 180 [JL s,.map Jt] (.d (.bool (JIn s&&JX (sc9 s)))):=by
 refine Yt.pc ?_;have h1:=(walk170 s).call trivial;have h2:=Con.rw1 ((JIt [152,154,159] (by simp[clN]) dC).gen (xs:=[.str s.name,.int .i64 s.kind,.int .i64 s.number,.int .i64 s.time,.int .i64 s.limit,.str s.text,.str s.schema,.list 5 (s.exprs.map Jd),.list 6 (s.rules.map Uf),.list 2 (s.calls.map Jm),.list 2 (s.branches.map Jw)]) rfl) (by simp[J5]) 2;have h3:CT (.fn 259) [.d (.agg [.str s.name,.int .i64 s.kind,.int .i64 s.number,.int .i64 0,.int .i64 0,.str s.text,.str [],.list 5 (s.exprs.map Jd),.list 6 [],.list 2 [],.list 2 (s.branches.map Jw)])] [] (.d (.bool (JX (sc9 s)))) []:=by
  have:=(U1 (sc9 s)).call trivial;rw[JE]at this;exact this
 have hf:UM .i Jt (.int .i64 9)=some (some (.agg [Xh [152,154,159],fnD 170])):=rfl;simp only[clA,clF,List.foldl_cons,List.foldl_nil,JA9,JAQ,JGE,List.set_cons_zero,List.set_cons_succ,Va,Vb]at h2;rw[JE]at h1⊢;generalize JX _=E at*;generalize JIn s=R at*;rw[hk]at h1 h2 h3⊢;simp only[go_sem,YQ,hf,Xh,fnD,Vr,simprocAttr];refine wc h1 ?_;cases R with
 |false=>simp only[go_sem,Vs,Bool.false_and,simprocAttr]
 |true=>
  simp only[go_sem,Vr,Vt,simprocAttr];refine wc h2 ?_;refine UO rfl (v:=.d (.bool E)) (by simp only[go_sem,simprocAttr];exact h3) ?_;exact zz trivial
theorem form10(s:Ste)(hk:s.kind=10):PT 180 [JL s,.map Jt] (.d (.bool (JIo s&&JX (sc10 s)))):=by
 refine Yt.pc ?_;have h1:=(walk172 s).call trivial;have h2:=Con.rw1 ((JIt [152,154,159] (by simp[clN]) dC).gen (xs:=[.str s.name,.int .i64 s.kind,.int .i64 s.number,.int .i64 s.time,.int .i64 s.limit,.str s.text,.str s.schema,.list 5 (s.exprs.map Jd),.list 6 (s.rules.map Uf),.list 2 (s.calls.map Jm),.list 2 (s.branches.map Jw)]) rfl) (by simp[J5]) 2;have h3:CT (.fn 259) [.d (.agg [.str s.name,.int .i64 s.kind,.int .i64 s.number,.int .i64 0,.int .i64 0,.str s.text,.str [],.list 5 (s.exprs.map Jd),.list 6 [],.list 2 [],.list 2 (s.branches.map Jw)])] [] (.d (.bool (JX (sc10 s)))) []:=by
  have:=(U1 (sc10 s)).call trivial;rw[JE]at this;exact this
 have hf:UM .i Jt (.int .i64 10)=some (some (.agg [Xh [152,154,159],fnD 172])):=rfl;simp only[clA,clF,List.foldl_cons,List.foldl_nil,JA9,JAQ,JGE,List.set_cons_zero,List.set_cons_succ,Va,Vb]at h2;rw[JE]at h1⊢;generalize JX _=E at*;generalize JIo s=R at*;rw[hk]at h1 h2 h3⊢;simp only[go_sem,YQ,hf,Xh,fnD,Vr,simprocAttr];refine wc h1 ?_;cases R with
 |false=>simp only[go_sem,Vs,Bool.false_and,simprocAttr]
 |true=>
  simp only[go_sem,Vr,Vt,simprocAttr];refine wc h2 ?_;refine UO rfl (v:=.d (.bool E)) (by simp only[go_sem,simprocAttr];exact h3) ?_;exact zz trivial
theorem form11(s:Ste)(hk:s.kind=11):PT 180 [JL s,.map Jt] (.d (.bool (JIp s&&JX (sc11 s)))):=by
 refine Yt.pc ?_;have h1:=(walk173 s).call trivial;have h2:=Con.rw1 (JJ4.gen (xs:=[.str s.name,.int .i64 s.kind,.int .i64 s.number,.int .i64 s.time,.int .i64 s.limit,.str s.text,.str s.schema,.list 5 (s.exprs.map Jd),.list 6 (s.rules.map Uf),.list 2 (s.calls.map Jm),.list 2 (s.branches.map Jw)]) rfl) (by simp[J5]) 2;have h3:CT (.fn 259) [.d (.agg [.str s.name,.int .i64 s.kind,.int .i64 s.number,.int .i64 s.time,.int .i64 s.limit,.str s.text,.str s.schema,.list 5 (s.exprs.map Jd),.list 6 (s.rules.map Uf),.list 2 (s.calls.map Jm),.list 2 []])] [] (.d (.bool (JX (sc11 s)))) []:=by
  have:=(U1 (sc11 s)).call trivial;rw[JE]at this;exact this
 have hf:UM .i Jt (.int .i64 11)=some (some (.agg [fnD 155,fnD 173])):=rfl;simp only[JDU,JDU,List.set_cons_zero,List.set_cons_succ,Va,Vb]at h2;rw[JE]at h1⊢;generalize JX _=E at*;generalize JIp s=R at*;rw[hk]at h1 h2 h3⊢;simp only[go_sem,YQ,hf,Xh,fnD,Vr,simprocAttr];refine wc h1 ?_;cases R with
 |false=>simp only[go_sem,Vs,Bool.false_and,simprocAttr]
 |true=>
  simp only[go_sem,Vr,Vt,simprocAttr];refine wc h2 ?_;refine UO rfl (v:=.d (.bool E)) (by simp only[go_sem,simprocAttr];exact h3) ?_;exact zz trivial
theorem form12(s:Ste)(hk:s.kind=12):PT 180 [JL s,.map Jt] (.d (.bool (JIq s&&JX (sc12 s)))):=by
 refine Yt.pc ?_;have h1:=(walk175 s).call trivial;have h2:=Con.rw1 (JJ4.gen (xs:=[.str s.name,.int .i64 s.kind,.int .i64 s.number,.int .i64 s.time,.int .i64 s.limit,.str s.text,.str s.schema,.list 5 (s.exprs.map Jd),.list 6 (s.rules.map Uf),.list 2 (s.calls.map Jm),.list 2 (s.branches.map Jw)]) rfl) (by simp[J5]) 2;have h3:CT (.fn 259) [.d (.agg [.str s.name,.int .i64 s.kind,.int .i64 s.number,.int .i64 s.time,.int .i64 s.limit,.str s.text,.str s.schema,.list 5 (s.exprs.map Jd),.list 6 (s.rules.map Uf),.list 2 (s.calls.map Jm),.list 2 []])] [] (.d (.bool (JX (sc12 s)))) []:=by
  have:=(U1 (sc12 s)).call trivial;rw[JE]at this;exact this
 have hf:UM .i Jt (.int .i64 12)=some (some (.agg [fnD 155,fnD 175])):=rfl;simp only[JDU,JDU,List.set_cons_zero,List.set_cons_succ,Va,Vb]at h2;rw[JE]at h1⊢;generalize JX _=E at*;generalize JIq s=R at*;rw[hk]at h1 h2 h3⊢;simp only[go_sem,YQ,hf,Xh,fnD,Vr,simprocAttr];refine wc h1 ?_;cases R with
 |false=>simp only[go_sem,Vs,Bool.false_and,simprocAttr]
 |true=>
  simp only[go_sem,Vr,Vt,simprocAttr];refine wc h2 ?_;refine UO rfl (v:=.d (.bool E)) (by simp only[go_sem,simprocAttr];exact h3) ?_;exact zz trivial
theorem form13(s:Ste)(hk:s.kind=13):PT 180 [JL s,.map Jt] (.d (.bool (JIr s&&JX (sc13 s)))):=by
 refine Yt.pc ?_;have h1:=(walk176 s).call trivial;have h2:=Con.rw1 (JJ3.gen (xs:=[.str s.name,.int .i64 s.kind,.int .i64 s.number,.int .i64 s.time,.int .i64 s.limit,.str s.text,.str s.schema,.list 5 (s.exprs.map Jd),.list 6 (s.rules.map Uf),.list 2 (s.calls.map Jm),.list 2 (s.branches.map Jw)]) rfl) (by simp[J5]) 2;have h3:CT (.fn 259) [.d (.agg [.str s.name,.int .i64 s.kind,.int .i64 s.number,.int .i64 s.time,.int .i64 s.limit,.str [],.str s.schema,.list 5 (s.exprs.map Jd),.list 6 (s.rules.map Uf),.list 2 (s.calls.map Jm),.list 2 (s.branches.map Jw)])] [] (.d (.bool (JX (sc13 s)))) []:=by
  have:=(U1 (sc13 s)).call trivial;rw[JE]at this;exact this
 have hf:UM .i Jt (.int .i64 13)=some (some (.agg [fnD 151,fnD 176])):=rfl;simp only[JA8,JA8,List.set_cons_zero,List.set_cons_succ,Va,Vb]at h2;rw[JE]at h1⊢;generalize JX _=E at*;generalize JIr s=R at*;rw[hk]at h1 h2 h3⊢;simp only[go_sem,YQ,hf,Xh,fnD,Vr,simprocAttr];refine wc h1 ?_;cases R with
 |false=>simp only[go_sem,Vs,Bool.false_and,simprocAttr]
 |true=>
  simp only[go_sem,Vr,Vt,simprocAttr];refine wc h2 ?_;refine UO rfl (v:=.d (.bool E)) (by simp only[go_sem,simprocAttr];exact h3) ?_;exact zz trivial
theorem form14(s:Ste)(hk:s.kind=14):PT 180 [JL s,.map Jt] (.d (.bool (JIs s&&JX (sc14 s)))):=by
 refine Yt.pc ?_;have h1:=(walk177 s).call trivial;have h2:=Con.rw1 (JJ3.gen (xs:=[.str s.name,.int .i64 s.kind,.int .i64 s.number,.int .i64 s.time,.int .i64 s.limit,.str s.text,.str s.schema,.list 5 (s.exprs.map Jd),.list 6 (s.rules.map Uf),.list 2 (s.calls.map Jm),.list 2 (s.branches.map Jw)]) rfl) (by simp[J5]) 2;have h3:CT (.fn 259) [.d (.agg [.str s.name,.int .i64 s.kind,.int .i64 s.number,.int .i64 s.time,.int .i64 s.limit,.str [],.str s.schema,.list 5 (s.exprs.map Jd),.list 6 (s.rules.map Uf),.list 2 (s.calls.map Jm),.list 2 (s.branches.map Jw)])] [] (.d (.bool (JX (sc14 s)))) []:=by
  have:=(U1 (sc14 s)).call trivial;rw[JE]at this;exact this
 have hf:UM .i Jt (.int .i64 14)=some (some (.agg [fnD 151,fnD 177])):=rfl;simp only[JA8,JA8,List.set_cons_zero,List.set_cons_succ,Va,Vb]at h2;rw[JE]at h1⊢;generalize JX _=E at*;generalize JIs s=R at*;rw[hk]at h1 h2 h3⊢;simp only[go_sem,YQ,hf,Xh,fnD,Vr,simprocAttr];refine wc h1 ?_;cases R with
 |false=>simp only[go_sem,Vs,Bool.false_and,simprocAttr]
 |true=>
  simp only[go_sem,Vr,Vt,simprocAttr];refine wc h2 ?_;refine UO rfl (v:=.d (.bool E)) (by simp only[go_sem,simprocAttr];exact h3) ?_;exact zz trivial
theorem walk180(s:Ste):PT 180 [JL s,.map Jt] (.d (.bool (JIu s))):=by
 unfold JIu;by_cases h1:s.kind=1
 ·rw[if_pos (by simp[h1])];exact form1 s h1
 rw[if_neg (sX h1)];by_cases h2:s.kind=2
 ·rw[if_pos (by simp[h2])];exact form2 s h2
 rw[if_neg (sX h2)];by_cases h3:s.kind=3
 ·rw[if_pos (by simp[h3])];exact form3 s h3
 rw[if_neg (sX h3)];by_cases h4:s.kind=4
 ·rw[if_pos (by simp[h4])];exact form4 s h4
 rw[if_neg (sX h4)];by_cases h5:s.kind=5
 ·rw[if_pos (by simp[h5])];exact form5 s h5
 rw[if_neg (sX h5)];by_cases h6:s.kind=6
 ·rw[if_pos (by simp[h6])];exact form6 s h6
 rw[if_neg (sX h6)];by_cases h7:s.kind=7
 ·rw[if_pos (by simp[h7])];exact form7 s h7
 rw[if_neg (sX h7)];by_cases h8:s.kind=8
 ·rw[if_pos (by simp[h8])];exact form8 s h8
 rw[if_neg (sX h8)];by_cases h9:s.kind=9
 ·rw[if_pos (by simp[h9])];exact form9 s h9
 rw[if_neg (sX h9)];by_cases h10:s.kind=10
 ·rw[if_pos (by simp[h10])];exact form10 s h10
 rw[if_neg (sX h10)];by_cases h11:s.kind=11
 ·rw[if_pos (by simp[h11])];exact form11 s h11
 rw[if_neg (sX h11)];by_cases h12:s.kind=12
 ·rw[if_pos (by simp[h12])];exact form12 s h12
 rw[if_neg (sX h12)];by_cases h13:s.kind=13
 ·rw[if_pos (by simp[h13])];exact form13 s h13
 rw[if_neg (sX h13)];by_cases h14:s.kind=14
 ·rw[if_pos (by simp[h14])];exact form14 s h14
 rw[if_neg (sX h14)];refine Yt.pc ?_;have hf:=JOb s.kind (by simp[h1,h2,h3,h4,h5,h6,h7,h8,h9,h10,h11,h12,h13,h14]);rw[JE];simp only[go_sem,YQ,hf,Vs,simprocAttr]
end Go.Proofs
namespace Go.Proofs
open Go Av
def XW(t:Typ):List Typ:=if t.kind=8 then t.elem else if t.kind=9∨t.kind=10 then t.fields.map TFl.type else[]
theorem JEw(t:Typ):(Jp t).cells=[.int .i64 t.kind,.int .i64 t.min,.int .i64 t.max,.int .i64 t.scale,.list 1 (t.words.map .str),.list 7 (t.elem.map Jp),.list 11 (t.fields.map UE)]:=by rw[JZ];rfl
theorem walk232(t:Typ)(hf:t.fields.length≤68719476736):PT 232 [Jp t] (.d (.list 7 ((XW t).map Jp))):=by
 refine ok232.pc ?_;generalize hR:XW t=R;unfold XW at hR;rw[JZ];simp only[go_sem,ir232,simprocAttr];apply ik<;>intro h
 ·rw[if_pos (sX h)]at hR;subst hR;exact zz trivial
 rw[if_neg (sX h)]at hR;by_cases h9:t.kind=9∨t.kind=10
 ·rw[if_pos h9]at hR;have e:(t.kind==9)=true∨(t.kind==9)=false∧(t.kind==10)=true:=by
   rcases h9 with h9|h9
   ·exact .inl (by rw[h9];rfl)
   ·exact .inr ⟨by rw[h9];rfl,by rw[h9];rfl⟩
  rcases e with e|⟨e,e'⟩
  all_goals
   simp only[go_sem,e,Vc,simprocAttr]
   try simp only[go_sem,e',Vc,simprocAttr]
   refine⟨oM,?_⟩;refine JH (fun n s=>∃k:Nat,k≤t.fields.length∧n=t.fields.length-k∧
    s=⟨[(3,.ms 18 k),(20,.d (.list 11 (t.fields.map UE))),(21,.d (.int .i64 t.fields.length)),(22,.d (.int .i64 k))],[(18,.row k 7 (((t.fields.take k).map TFl.type).map Jp))]⟩) ?_ ?_
   ·refine⟨_,_,Wk.less ?_,0,Nat.zero_le _,rfl,rfl⟩;simp[put,go_sem]
   ·rintro n s ⟨k,hk,rfl,rfl⟩;by_cases hlt:k<t.fields.length
    ·have hx:=U7 hlt;have hd:=dT hlt;refine zz6 ?_;refine⟨oM,by simp[Dat.cells],sO,t.fields.length-(k+1),_,oM,Wk.less ?_,k+1,oM,rfl,rfl⟩;rw[List.take_succ_eq_append_getElem hlt,Vw,Vw];simp only[go_sem,Jg k oM,Va,Vb,JZ t.fields[k].type,Nat.reduceAdd,Nat.reduceEqDiff,Nat.reduceBEq,Nat.reduceLeDiff,reduceCtorEq,↓reduceIte]
    ·have hd:=dF hlt;obtain rfl:k=t.fields.length:=oM;subst hR;exact zz14 trivial
 ·rw[if_neg h9]at hR;subst hR;have e1:(t.kind==9)=false:=sO;have e2:(t.kind==10)=false:=sO;simp only[go_sem,e1,e2,simprocAttr]
theorem ix203{g:Nat}{cs:List Dat}{q:TFl→Bool}(l:List TFl)(hq:∀x∈l,PT g [UE x,.ptr cs] (.d (.bool (q x))))(hl:l.length≤68719476736):
  PT 206 [.list 11 (l.map UE),JBY g cs] (.d (.int .i64 (ixG q l))):=by
 refine ok206.pc ?_;simp only[go_sem,JOT,Vc,simprocAttr];refine JH (fun n s=>∃k:Nat,k≤l.length∧n=l.length-k∧(∀(j:Nat) (h1:j<l.length),j<k→q l[j]=false)∧
  s=⟨[(0,.d (.list 11 (l.map UE))),(1,.d (JBY g cs)),(7,.d (.int .i64 l.length)),(8,.d (.int .i64 k))],[]⟩) ?_ ?_
 ·exact⟨_,_,Wk.refl _,0,Nat.zero_le _,rfl,sP,rfl⟩
 ·rintro n s ⟨k,hk,rfl,hinv,rfl⟩;by_cases hlt:k<l.length
  ·have hx:=U7 hlt;have hd:=dT hlt;have hc:=(hq l[k] (Vk _)).call trivial;rw[Ud]at hc;refine zz6 ?_;refine⟨oM,wn hc ?_⟩;refine zz ?_;apply ik<;>intro hf
   ·have:l.findIdx? q=some k:=by
     rw[List.findIdx?_eq_some_iff_getElem];exact⟨hlt,hf,fun j hj=>by rw[hinv j oM hj];decide⟩
    simp only[ixG,this]
   ·refine⟨l.length-(k+1),_,oM,Wk.less ?_,k+1,oM,rfl,?_,rfl⟩
    ·exact zz7 trivial
    ·intro j h1 hj;by_cases e:j=k
     ·subst e;exact hf
     ·exact hinv j h1 oM
  ·have hd:=dF hlt;refine zz5 ?_;have:l.findIdx? q=none:=by
    rw[List.findIdx?_eq_none_iff];intro x hx;obtain⟨j,hj,rfl⟩:=List.getElem_of_mem hx;exact hinv j hj oM
   simp only[ixG,this]
theorem ixG_any(q:TFl→Bool)(l:List TFl):decide (ixG q l≥0)=l.any q:=by
 unfold ixG;cases e:l.findIdx? q with
 |none=>
  rw[List.findIdx?_eq_none_iff]at e;have:l.any q=false:=by rw[List.any_eq_false];intro x hx;rw[e x hx];decide
  rw[this];rfl
 |some k=>
  obtain⟨h1,h2,_⟩:=List.findIdx?_eq_some_iff_getElem.1 e;have:l.any q=true:=List.any_eq_true.2 ⟨_,Vk h1,h2⟩;rw[this];simp
theorem JLO{g:Nat}{cs:List Dat}{q:TFl→Bool}(l:List TFl)(hq:∀x∈l,PT g [UE x,.ptr cs] (.d (.bool (q x))))(hl:l.length≤68719476736):
  PT 346 [.list 11 (l.map UE),JBY g cs] (.d (.bool (l.any q))):=by
 refine ok346.pc ?_;have c:=(ix203 l hq hl).call trivial;rw[←ixG_any];simp only[go_sem,ir346,simprocAttr];refine wc c trivial
theorem JEx(f:TFl):(UE f).cells=[.int .i64 f.number,.str f.name,.int .i64 f.need,.int .i64 f.type.kind,.int .i64 f.type.min,.int .i64 f.type.max,.int .i64 f.type.scale,
  .list 1 (f.type.words.map .str),.list 7 (f.type.elem.map Jp),.list 11 (f.type.fields.map UE),.list 6 (f.dflt.map JQ)]:=by rw[Ud];rfl
def samG(f g:TFl):Bool:=g.name==f.name||g.number==f.number
theorem walk416(g f:TFl):PT 416 [UE g,.ptr (UE f).cells] (.d (.bool (samG f g))):=by
 refine ok416.pc ?_;rw[JEx,Ud];simp only[go_sem,ir416,Nat.reduceAdd,Nat.reduceEqDiff,Nat.reduceBEq,Nat.reduceLeDiff,reduceCtorEq,↓reduceIte];refine⟨dC,?_⟩;refine sq (g.number==f.number) ?_ ?_
 ·refine zz ?_;decide
 simp only[go_sem,samG,Nat.reduceAdd,Nat.reduceEqDiff,Nat.reduceBEq,Nat.reduceLeDiff,reduceCtorEq,↓reduceIte]
def JEy(t:Typ)(i:Nat)(f:TFl):Int:=
 if(!YG f.name)=true then 12 else if(!inI f.number 1 9999)=true then 2 else if((t.fields.take i).any (samG f))=true then 7
 else if(!inI f.need 1 3||(t.kind==10&&f.need !=1))=true then 11
 else if(f.need==3&&((f.dflt.length:Nat):Int)==0)=true then 4
 else if(decide (((f.dflt.length:Nat):Int)>1)||(f.need !=3&&decide (((f.dflt.length:Nat):Int)>0)))=true then 3 else 0
theorem walk327(t:Typ)(i:Nat)(hi:i<t.fields.length)(hf:t.fields.length≤68719476736):PT 327 [Jp t,.int .i64 i] (.d (.int .i64 (JEy t i t.fields[i]))):=by
 refine ok327.pc ?_;have hx:=U7 hi;have c255:=(p255 t.fields[i].name).call trivial;have cn:=(Y7 t.fields[i].number 1 9999).call trivial;have cd:=(Y7 t.fields[i].need 1 3).call trivial;have cu:=JC.clo (ds:=[.list 11 ((t.fields.take i).map UE)]) (JLO (t.fields.take i) (fun x _=>walk416 x t.fields[i]) sO) rfl 5;have hsl:(List.drop (Int.toNat 0) (t.fields.map UE)).take ((i:Int)-0).toNat=(t.fields.take i).map UE:=by
  have:((i:Int)-0).toNat=i:=oM;rw[this,List.map_take];rfl
 generalize hR:JEy t i t.fields[i]=R;unfold JEy at hR;generalize t.fields[i]=f at*;rw[JEx]at cu;simp only[Va,Vb,List.cons_append,List.nil_append]at cu;rw[JZ];simp only[go_sem,ir327,hx,Vv,Vc,Nat.reduceAdd,Nat.reduceEqDiff,Nat.reduceBEq,Nat.reduceLeDiff,reduceCtorEq,↓reduceIte];refine⟨oM,wn c255 ?_⟩;refine zz ?_;apply ik<;>intro h
 ·rw[if_pos h]at hR;subst hR;rfl
 rw[if_neg (nF h)]at hR;clear h
 try refine zz ?_
 refine wc cn ?_;apply ik<;>intro h
 ·rw[if_pos h]at hR;subst hR;rfl
 rw[if_neg (nF h)]at hR;clear h
 try simp only[go_sem,hsl,Vv,Vc,Nat.reduceAdd,Nat.reduceEqDiff,Nat.reduceBEq,Nat.reduceLeDiff,reduceCtorEq,↓reduceIte]
 refine⟨oM,wn cu ?_⟩;refine zz ?_;apply ik<;>intro h
 ·rw[if_pos h]at hR;subst hR;rfl
 rw[if_neg (nF h)]at hR;clear h
 try refine zz ?_
 refine wc cd ?_;refine sq (t.kind==10&&f.need !=1) ?_ ?_
 ·refine zz ?_;refine sq (f.need !=1) ?_ ?_
  all_goals simp only[go_sem,Nat.reduceAdd,Nat.reduceEqDiff,Nat.reduceBEq,Nat.reduceLeDiff,reduceCtorEq,↓reduceIte]
 refine zz ?_;apply ik<;>intro h
 ·rw[if_pos h]at hR;subst hR;rfl
 rw[if_neg (nF h)]at hR;clear h
 try refine zz ?_
 refine sq (((f.dflt.length:Nat):Int)==0) ?_ ?_
 ·exact zz4 trivial
 refine zz ?_;apply ik<;>intro h
 ·rw[if_pos h]at hR;subst hR;rfl
 rw[if_neg (nF h)]at hR;clear h
 try refine zz4 ?_
 refine sq (f.need !=3&&decide (((f.dflt.length:Nat):Int)>0)) ?_ ?_
 ·refine zz4 ?_;refine sq (decide (((f.dflt.length:Nat):Int)>0)) ?_ ?_
  all_goals simp only[go_sem,Vc,Nat.reduceAdd,Nat.reduceEqDiff,Nat.reduceBEq,Nat.reduceLeDiff,reduceCtorEq,↓reduceIte]
 refine zz4 ?_;apply ik<;>intro h
 ·rw[if_pos h]at hR;subst hR;rfl
 ·rw[if_neg (nF h)]at hR;subst hR;rfl
def JEz(t:Typ):Nat→List TFl→Int
 |_,[]=>0
 |i,f::r=>if(JEy t i f !=0)=true then JEy t i f else JEz t (i+1) r
def JMS(t:Typ):Int:=
 if((t.kind==8&&((t.elem.length:Nat):Int)==0)||(t.kind==10&&((t.fields.length:Nat):Int)==0))=true then 4
 else if(t.kind==8&&decide (((t.elem.length:Nat):Int)>1))=true then 3
 else if decide (((t.fields.length:Nat):Int)>64)=true then 9 else JEz t 0 t.fields
def bndC(t:Typ)(L:Lim):Bool:=(L.bounds&&((decide (t.min>t.max)||decide (t.min<L.low))||decide (t.max>L.high)))||(L.scale&& !inI t.scale 0 12)
def JIv(t:Typ):Int:=
 if(!inI t.kind 1 10)=true then 11 else if JGD t (JMQ t.kind)=true then 3
 else if(t.kind==4&&decide (((t.words.length:Nat):Int)>0))=true then(if(JEu t !=0)=true then JEu t else JMS t)
 else if bndC t (JMQ t.kind)=true then 2 else JMS t
theorem walk231(t:Typ):PT 231 [Jp t] (.d (.int .i64 (JIv t))):=by
 refine Jz.Ja ok231.has fun hfit=>?_
 obtain⟨hw,he,hf⟩:=JBb (hfit _ (Vh));refine ok231.pc ?_;have ci:=(Y7 t.kind 1 10).call trivial;have c324:=walk324.call trivial;have c325:=(walk325 t (JMQ t.kind)).call trivial;have c326:=(walk326 t hw).call trivial;have cs:=(Y7 t.scale 0 12).call trivial;have c327:=fun i (hi:i<t.fields.length)=>(walk327 t i hi hf).call trivial
 have hlen:=JJ2;generalize hR:JIv t=R;unfold JIv at hR;have hkk:=fun h0 h1=>JMR (k:=t.kind) h0 h1
 simp only[JEt]at hkk c325;rw[JZ]at c325 c326;simp only[JZ t]at c327;rw[JZ];simp only[go_sem,ir231,simprocAttr];refine wc ci ?_;apply ik<;>intro h
 ·rw[if_pos h]at hR;subst hR;rfl
 rw[if_neg (nF h)]at hR;have hk:1≤t.kind∧t.kind≤10:=by
  simp only[inI,Bool.not_eq_false',Vi,decide_eq_true_eq]at h;omega
 clear h;have hkk:=hkk hk.1 hk.2;generalize JMQ t.kind=L at*
 try refine zz ?_
 refine JP rfl c324 trivial ?_;simp only[go_sem,hkk,hlen,simprocAttr];refine⟨oM,dC,?_⟩;by_cases hc:JGD t L=true
 ·rw[if_pos hc]at c325 hR;subst hR;refine wn c325 ?_;exact zz9 trivial
 rw[if_neg hc]at c325 hR;refine wn c325 ?_;refine zz9 ?_;refine sq (decide (((t.words.length:Nat):Int)>0)) ?_ ?_
 ·exact zz4 trivial
 refine zz9 ?_;apply ik<;>intro h;rw[if_pos h]at hR;clear h
 try refine zz9 ?_
 refine wn c326 ?_;refine zz9 ?_;apply ik<;>intro h
 ·rw[if_pos h]at hR;subst hR;rfl
 rw[if_neg (nF h)]at hR;clear h
 rotate_left
 rw[if_neg (nF h)]at hR;clear h;unfold bndC at hR;refine sq ((decide (t.min>t.max)||decide (t.min<L.low))||decide (t.max>L.high)) ?_ ?_
 ·refine zz9 ?_;refine sq (decide (t.min<L.low)) ?_ ?_
  ·exact zz9 trivial
  refine zz9 ?_;refine sq (decide (t.max>L.high)) ?_ ?_
  all_goals simp only[go_sem,Int.reduceBNe,bne_self_eq_false,simprocAttr]
 refine zz9 ?_;apply ik<;>intro h
 ·simp only[h,Bool.true_or,↓reduceIte]at hR;subst hR;simp only[go_sem,h,↓reduceIte]
 rw[h,Bool.false_or]at hR;clear h;refine sq (!inI t.scale 0 12) ?_ ?_
 ·refine zz9 ?_;refine wn cs ?_;exact zz9 trivial
 refine zz9 ?_;apply ik<;>intro h
 ·rw[if_pos h]at hR;subst hR;simp only[go_sem,h,↓reduceIte]
 rw[if_neg (nF h)]at hR
 try simp only[go_sem,h,Vu,↓reduceIte]
 clear h
 all_goals
  clear c325 c326 cs ci c324 hkk;unfold JMS at hR;refine sq (((t.elem.length:Nat):Int)==0) ?_ ?_
  ·exact JFQ trivial
  refine JFQ ?_;apply ik<;>intro h
  ·simp only[h,Bool.true_or,↓reduceIte]at hR;subst hR;simp only[go_sem,h,↓reduceIte]
  rw[h,Bool.false_or]at hR;clear h
  try refine JFQ ?_
  refine sq (((t.fields.length:Nat):Int)==0) ?_ ?_
  ·exact JFQ trivial
  refine JFQ ?_;apply ik<;>intro h
  ·rw[if_pos h]at hR;subst hR;simp only[go_sem,h,↓reduceIte]
  rw[if_neg (nF h)]at hR
  try simp only[go_sem,h,Vu,↓reduceIte]
  clear h;refine sq (decide (((t.elem.length:Nat):Int)>1)) ?_ ?_
  ·exact JFQ trivial
  refine JFQ ?_;apply ik<;>intro h
  ·rw[if_pos h]at hR;subst hR;rfl
  rw[if_neg (nF h)]at hR;clear h
  try refine JFQ ?_
  apply ik<;>intro h
  ·rw[if_pos h]at hR;subst hR;rfl
  rw[if_neg (nF h)]at hR;clear h
  try refine JFQ ?_
  refine JH (fun n s=>∃k:Nat,k≤t.fields.length∧n=t.fields.length-k∧JEz t k (t.fields.drop k)=R∧
   s=⟨[(1,.ref 1 0),(105,.d (.int .i64 t.fields.length)),(106,.d (.int .i64 k))],[(1,.box [.d (.int .i64 t.kind),.d (.int .i64 t.min),.d (.int .i64 t.max),.d (.int .i64 t.scale),.d (.list 1 (t.words.map .str)),.d (.list 7 (t.elem.map Jp)),.d (.list 11 (t.fields.map UE))])]⟩) ?_ ?_
  ·refine⟨_,_,Wk.less ?_,0,Nat.zero_le _,rfl,hR,rfl⟩;simp[put,go_sem]
  ·clear hR;rintro n s ⟨k,hk2,rfl,hinv,rfl⟩;by_cases hlt:k<t.fields.length
   ·have hd:=dT hlt;have c:=c327 k hlt;rw[Vq hlt,JEz]at hinv;generalize JEy t k t.fields[k]=e at*;refine zz5 ?_;refine wn c ?_;refine JFQ ?_;apply ik<;>intro h
    ·rw[if_pos h]at hinv;subst hinv;rfl
    rw[if_neg (nF h)]at hinv;clear h;refine⟨t.fields.length-(k+1),_,oM,Wk.less ?_,k+1,oM,rfl,hinv,rfl⟩;exact zz7 trivial
   ·have hd:=dF hlt;rw[List.drop_eq_nil_of_le oM,JEz]at hinv;subst hinv;exact zz5 trivial
end Go.Proofs
namespace Go.Proofs
open Go Av
open Av.Y
def ir420:Ic:=q (R (ow 4 false<|N) [4])<|q (R (om 5 0<|om 6 1<|cl 7 523 [t 5,t 6]<|oi 8 .geq 7 0<|om 4 8<|N) [0,1,5,6,7,8])<|.ret
theorem ok420:FT 420 9 ir420 [.tmp 4]:=.o Tryz.func420
def ir523:Ic:=q (R (oz 4 0<|N) [4])<|q (q (R (om 6 0<|oh 7 6<|oz 8 0<|N) [6])<|D (.block 0<|.loop (q (.reg (ot 9 .lss 8 7<|N))<|q (D (I 9 S (E 0)) [9])<|q (D (.block 1<|q (R (om 10 8<|om 5 10<|N) [10])<|q (R (om 11 1<|om 12 0<|om 13 5<|oa true 14 6 12 13<|oL 15 6 14<|.call (some 16) (.dyn (t 11)) [t 15] N) [11,12,13,14,15])<|D (I 16 (q (R (om 17 5<|om 4 17<|N) [0,1,7,8,5,16,17])<|.ret) S) [5,16]) [])<|R (oi 18 .add 8 1<|om 8 18<|N) [18])) [0,1,7,8,9,10,5,11])<|q (.reg (oz 4 (-1)<|N))<|.ret
theorem ok523:FT 523 19 ir523 [.tmp 4]:=.o Tryz.func523
end Go.Proofs
namespace Go.Proofs
open Go Av
def ixV(q:Val→Bool)(l:List Val):Int:=match l.findIdx? q with
 |some k=>(k:Int)
 |none=> -1
theorem ix419{g:Nat}{cs:List Dat}{q:Val→Bool}(l:List Val)(hq:∀x∈l,PT g [JQ x,.ptr cs] (.d (.bool (q x))))(hl:l.length≤68719476736):
  PT 523 [.list 6 (l.map JQ),JBY g cs] (.d (.int .i64 (ixV q l))):=by
 refine ok523.pc ?_;simp only[go_sem,ir523,Vc,simprocAttr];refine JH (fun n s=>∃k:Nat,k≤l.length∧n=l.length-k∧(∀(j:Nat) (h1:j<l.length),j<k→q l[j]=false)∧
  s=⟨[(0,.d (.list 6 (l.map JQ))),(1,.d (JBY g cs)),(7,.d (.int .i64 l.length)),(8,.d (.int .i64 k))],[]⟩) ?_ ?_
 ·exact⟨_,_,Wk.refl _,0,Nat.zero_le _,rfl,sP,rfl⟩
 ·rintro n s ⟨k,hk,rfl,hinv,rfl⟩;by_cases hlt:k<l.length
  ·have hx:=Xm hlt;have hd:=dT hlt;have hc:=(hq l[k] (Vk _)).call trivial;rw[JG]at hc;refine zz6 ?_;refine⟨oM,wn hc ?_⟩;refine zz ?_;apply ik<;>intro hf
   ·have:l.findIdx? q=some k:=by
     rw[List.findIdx?_eq_some_iff_getElem];exact⟨hlt,hf,fun j hj=>by rw[hinv j oM hj];decide⟩
    simp only[ixV,this]
   ·refine⟨l.length-(k+1),_,oM,Wk.less ?_,k+1,oM,rfl,?_,rfl⟩
    ·exact zz7 trivial
    ·intro j h1 hj;by_cases e:j=k
     ·subst e;exact hf
     ·exact hinv j h1 oM
  ·have hd:=dF hlt;refine zz5 ?_;have:l.findIdx? q=none:=by
    rw[List.findIdx?_eq_none_iff];intro x hx;obtain⟨j,hj,rfl⟩:=List.getElem_of_mem hx;exact hinv j hj oM
   simp only[ixV,this]
theorem ixV_any(q:Val→Bool)(l:List Val):decide (ixV q l≥0)=l.any q:=by
 unfold ixV;cases e:l.findIdx? q with
 |none=>
  rw[List.findIdx?_eq_none_iff]at e;have:l.any q=false:=by rw[List.any_eq_false];intro x hx;rw[e x hx];decide
  rw[this];rfl
 |some k=>
  obtain⟨h1,h2,_⟩:=List.findIdx?_eq_some_iff_getElem.1 e;have:l.any q=true:=List.any_eq_true.2 ⟨_,Vk h1,h2⟩;rw[this];simp
theorem walk420{g:Nat}{cs:List Dat}{q:Val→Bool}(l:List Val)(hq:∀x∈l,PT g [JQ x,.ptr cs] (.d (.bool (q x))))(hl:l.length≤68719476736):
  PT 420 [.list 6 (l.map JQ),JBY g cs] (.d (.bool (l.any q))):=by
 refine ok420.pc ?_;have c:=(ix419 l hq hl).call trivial;rw[←ixV_any];simp only[go_sem,ir420,simprocAttr];refine wc c trivial
theorem tfR_mem{t:Typ}{n:Str}(h:(tfR t n).2=true):(tfR t n).1∈t.fields:=by
 unfold tfR at h⊢;cases e:JOV n t.fields with
 |none=>rw[e]at h;cases h
 |some i=>
  have hil:i<t.fields.length:=by
   obtain⟨h,_⟩:=List.findIdx?_eq_some_iff_getElem.1 e;exact h
  simp only[Vl hil,Vp];exact Vk hil
mutual
def szT:Typ→Nat
 |.mk _ _ _ _ _ e f=>1+JBc e+JE0 f
def JBc:List Typ→Nat
 |[]=>0
 |v::r=>szT v+JBc r
def JE0:List TFl→Nat
 |[]=>0
 |.mk _ _ _ t _::r=>szT t+JE0 r
end
theorem JBd(t:Typ):szT t=1+JBc t.elem+JE0 t.fields:=by cases t;rfl
theorem JCM:∀{l:List Typ},∀x∈l,szT x≤JBc l
 |v::r,x,hx=>by
  simp only[JBc];rcases VA.1 hx with rfl|hx
  ·omega
  ·have:=JCM x hx;omega
theorem JAR:∀{l:List TFl},∀x∈l,szT x.type≤JE0 l
 |.mk a b c t d::r,x,hx=>by
  simp only[JE0];rcases VA.1 hx with rfl|hx
  ·show szT t≤_;omega
  ·have:=JAR x hx;omega
end Go.Proofs
namespace Go.Proofs
open Go Av
open Av.Y
end Go.Proofs
namespace Go.Proofs
open Go Av
abbrev TF(b:Bool):List (Nat×Av.Obj):=[(1000,.box [.clo (.func 0) [] [.ref 1001 0],.d (.bool (!b))]),(1001,.box [.d (.bool b)])]
theorem JOc(b c:Bool):closed (JA (Av.get (TF b)) (TF c)):=by
 refine Jf ?_;simp[TF,UH,put,Je,J8,JR,JV,Av.get]
theorem JOd(b:Bool):closed (Av.get (TF b)):=by
 refine UK ?_;simp[TF,Je,J8,JR,JV,Av.get]
theorem JJ5{b:Bool}{i:Nat}(h:(Av.get (TF b) i).isSome=true):i=1000∨i=1001:=by
 simp only[TF,Av.get]at h
 repeat' split at h
 all_goals first|(cases h;done)|skip
 all_goals rename_i e
 all_goals first|omega|skip
theorem TF_put(b c:Bool):UH (TF b) (TF c)=TF c:=by simp[TF,UH,put]
theorem TF_hput(b c:Bool):JA (Av.get (TF b)) (TF c)=Av.get (TF c):=by rw[←UA,TF_put]
abbrev FCon(f:Nat)(ds:List Dat)(b c:Bool):Prop:=KT f (.ref 1000 0::ds.map .d) (TF b) (.tup []) (TF c)
theorem FCon.at{f:Nat}{ds:List Dat}{b c:Bool}(h:FCon f ds b c)(i j:Nat)(hij:i≠j):
  CT f (.ref i 0::ds.map .d) [(i,some (.box [.clo (.func 0) [] [.ref j 0],.d (.bool (!b))])),(j,some (.box [.d (.bool b)]))] (.tup []) [(i,.box [.clo (.func 0) [] [.ref j 0],.d (.bool (!c))]),(j,.box [.d (.bool c)])]:=by
 have:=Con.call h (fun m=>if m=1000 then i else j) (fun m hm=>by rcases JJ5 hm with rfl|rfl<;>omega)
  (fun a b' ha hb e=>by
   rw[TF_hput]at ha hb;rcases JJ5 ha with rfl|rfl<;>rcases JJ5 hb with rfl|rfl
   ·rfl
   ·simp at e;exact absurd e hij
   ·simp at e;exact absurd e.symm hij
   ·rfl)
  (by
   intro c hc;rcases VA.1 hc with rfl|hc
   ·simp[inT,TF,Av.get,JV]
   ·obtain⟨x,_,rfl⟩:=VC.1 hc;trivial) (JOd b) [] (by simp[TF,Av.get]) (JOc b c) trivial
 have e:(ds.map Av.d).map (Av.ren fun m=>if m=1000 then i else j)=ds.map Av.d:=by
  rw[List.map_map];exact List.map_congr_left fun x _=>by simp[Av.ren]
 simp only[TF,Va,Vb,Obj.ren,Av.ren,J3,List.append_nil,e,simprocAttr]at this;exact this
def inB(t:Typ)(n:Int):Bool:= !(decide (n<t.min)||decide (n>t.max))
theorem walk203(l:List Str)(s:Str)(hl:l.length≤68719476736):∃n:Int,(n≥0↔s∈l)∧PT 203 [.list 1 (l.map .str),.str s] (.d (.int .i64 n)):=by
 refine⟨match l.findIdx? (fun x=>s==x)with|some k=>(k:Int)|none=> -1,?_,?_⟩
 ·cases e:l.findIdx? (fun x=>s==x)with
  |none=>
   rw[List.findIdx?_eq_none_iff]at e;refine⟨fun h=>absurd h sP,fun h=>?_⟩;have:=e s h;simp at this
  |some k=>
   obtain⟨h1,h2,_⟩:=List.findIdx?_eq_some_iff_getElem.1 e;refine⟨fun _=>?_,fun _=>by simp⟩;have:s=l[k]:=sX h2;rw[this];exact Vk h1
 generalize hR:(match l.findIdx? (fun x=>s==x)with|some k=>(k:Int)|none=> -1)=R;refine ok203.pc ?_;simp only[go_sem,ir203,Vc,Nat.reduceAdd,Nat.reduceEqDiff,Nat.reduceBEq,Nat.reduceLeDiff,Int.reduceBEq,reduceCtorEq,↓reduceIte];refine JH (fun n z=>∃k:Nat,k≤l.length∧n=l.length-k∧(∀(j:Nat) (h1:j<l.length),j<k→(s==l[j])=false)∧
  z=⟨[(0,.d (.list 1 (l.map .str))),(1,.d (.str s)),(7,.d (.int .i64 l.length)),(8,.d (.int .i64 k))],[]⟩) ?_ ?_
 ·exact⟨_,_,Wk.refl _,0,Nat.zero_le _,rfl,sP,rfl⟩
 ·rintro n z ⟨k,hk,rfl,hinv,rfl⟩;by_cases hlt:k<l.length
  ·have hx:nth (l.map Dat.str) k=.str l[k]:=by rw[U3 (sX hlt),List.getElem_map]
   have hd:=dT hlt;simp only[go_sem,hx,hd,Vv,Vc,Nat.reduceAdd,Nat.reduceEqDiff,Nat.reduceBEq,Nat.reduceLeDiff,Int.reduceBEq,reduceCtorEq,↓reduceIte];refine⟨oM,dC,?_⟩;apply ik<;>intro hf
   ·have e:l.findIdx? (fun x=>s==x)=some k:=by
     rw[List.findIdx?_eq_some_iff_getElem];exact⟨hlt,hf,fun j hj=>by rw[hinv j oM hj];decide⟩
    rw[e]at hR;rw[←hR]
   ·refine⟨l.length-(k+1),_,oM,Wk.less ?_,k+1,oM,rfl,?_,rfl⟩
    ·simp only[go_sem,Jg k oM,Nat.reduceAdd,Nat.reduceEqDiff,Nat.reduceBEq,Nat.reduceLeDiff,Int.reduceBEq,reduceCtorEq,↓reduceIte]
    ·intro j h1 hj;by_cases e:j=k
     ·subst e;exact hf
     ·exact hinv j h1 oM
  ·have hd:=dF hlt;simp only[go_sem,hd,Nat.reduceAdd,Nat.reduceEqDiff,Nat.reduceBEq,Nat.reduceLeDiff,Int.reduceBEq,reduceCtorEq,↓reduceIte];have e:l.findIdx? (fun x=>s==x)=none:=by
    rw[List.findIdx?_eq_none_iff];intro x hx;obtain⟨j,hj,rfl⟩:=List.getElem_of_mem hx;exact hinv j hj oM
   rw[e]at hR;rw[←hR]
theorem walk109(l:List Str)(s:Str)(hl:l.length≤68719476736):PT 109 [.list 1 (l.map .str),.str s] (.d (.bool (decide (s∈l)))):=by
 refine ok109.pc ?_;obtain⟨n,hn,hc⟩:=walk203 l s hl;have c:=hc.call trivial;simp only[go_sem,ir109,Nat.reduceAdd,Nat.reduceEqDiff,Nat.reduceBEq,Nat.reduceLeDiff,Int.reduceBEq,reduceCtorEq,↓reduceIte];refine wn c ?_;simp only[go_sem,hn,Nat.reduceAdd,Nat.reduceEqDiff,Nat.reduceBEq,Nat.reduceLeDiff,Int.reduceBEq,reduceCtorEq,↓reduceIte]
theorem JE1(v:Val):(JQ v).cells=[.int .i64 v.kind,.int .i64 v.int,.int .i64 v.scale,.str v.text,.list 6 (v.list.map JQ),.list 7 (v.fields.map Xf)]:=by rw[JG];rfl
def JGG(v:Val)(g:TFl):Bool:= !(JCo v g.name).2&&g.need !=2
theorem walk423(g:TFl)(v:Val):PT 423 [UE g,.ptr (JQ v).cells] (.d (.bool (JGG v g))):=by
 refine ok423.pc ?_;have c:=(walk25 v g.name).call (by simp[J5]);generalize hR:JGG v g=R;unfold JGG at hR;generalize JCo v g.name=F at*;rw[JG v,JG F.1]at c;rw[Ud,JE1];simp only[go_sem,ir423,simprocAttr];refine wc c ?_;refine sq (g.need !=2) ?_ ?_
 ·exact zz trivial
 simp only[go_sem,hR,simprocAttr]
theorem walk421(e:Typ)(b:Bool)(t:Typ)(x:Val)(he:t.elem=[e])(h:PT 329 [Jp e,JQ x] (.d (.bool b))):PT 421 [JQ x,.ptr (Jp t).cells] (.d (.bool (!b))):=by
 refine ok421.pc ?_;have c:=h.call trivial;have h0:0<t.elem.length:=by rw[he];simp
 have hx:=JAI h0;have e0:t.elem[0]=e:=by simp[he]
 rw[e0]at hx;rw[JZ,JG]at c;rw[JG,JEw];simp only[go_sem,ir421,hx,Int.toNat_zero,Vc,Nat.reduceAdd,Nat.reduceEqDiff,Nat.reduceBEq,Nat.reduceLeDiff,reduceCtorEq,↓reduceIte];refine⟨oM,⟨oM,oM⟩,wn c ?_⟩;exact zz trivial
def hasS(ft:Typ→Val→Bool)(t:Typ)(v:Val):Bool:=
 if(v.kind !=t.kind)=true then false
 else if t.kind=2∨t.kind=6∨t.kind=7∨t.kind=3 then inI v.int t.min t.max&&v.scale==t.scale
 else if t.kind=4 then(if decide (((t.words.length:Nat):Int)>0)=true then decide (v.text∈t.words)else inI v.text.length t.min t.max)
 else if t.kind=5 then inI v.text.length t.min t.max
 else if t.kind=8 then inI v.list.length t.min t.max&& !(v.list.any fun x=> !ft ((t.elem[0]?).getD ty0) x)
 else if t.kind=10 then(YY t v.text).2&&ft (YY t v.text).1.type ((v.list[0]?).getD zeroV)
 else if t.kind=9 then(v.fields.all fun x=> !(!(YY t x.name).2|| !ft (YY t x.name).1.type x.value))&& !(t.fields.any (JGG v))
 else true
theorem JIw{t:Typ}{n:Str}(h:(YY t n).2=true):(YY t n).1∈t.fields:=by
 unfold YY at h⊢;split
 ·rename_i e;rw[if_pos e]at h;cases h
 ·rename_i e;rw[if_neg e]at h;exact tfR_mem h
theorem step329(ft:Typ→Val→Bool)(t:Typ)(v:Val)(hk:1≤t.kind∧t.kind≤10)(h8e:t.kind=8→t.elem.length=1)(h10v:v.kind=10→v.list.length=1)
  (h8:t.kind=8→∀e∈t.elem,∀x∈v.list,PT 329 [Jp e,JQ x] (.d (.bool (ft e x))))
  (h9:t.kind=9→∀g∈t.fields,∀x∈v.fields,PT 329 [Jp g.type,JQ x.value] (.d (.bool (ft g.type x.value))))
  (h10:t.kind=10→∀g∈t.fields,∀x∈v.list,PT 329 [Jp g.type,JQ x] (.d (.bool (ft g.type x)))):
  PT 329 [Jp t,JQ v] (.d (.bool (hasS ft t v))):=by
 refine Jz.Ja ok329.has fun hfit=>?_
 obtain⟨hw,he,hf⟩:=JBb (hfit (Jp t) sP);obtain⟨v1,v2,v3⟩:=JG4 (hfit (JQ v) sP);refine ok329.pc ?_;generalize hR:hasS ft t v=R;unfold hasS at hR;rw[JZ t,JG v];simp only[go_sem,ir329,simprocAttr];apply ik<;>intro h
 ·rw[if_pos h]at hR;subst hR;rfl
 rw[if_neg (nF h)]at hR;have hvk:v.kind=t.kind:=sX h;clear h;have hks:t.kind=1∨t.kind=2∨t.kind=3∨t.kind=4∨t.kind=5∨t.kind=6∨t.kind=7∨t.kind=8∨t.kind=9∨t.kind=10:=oM;have ci:=(Y7 v.int t.min t.max).call trivial;have ct:=(Y7 v.text.length t.min t.max).call trivial;have cl:=(Y7 v.list.length t.min t.max).call trivial;have c109:=(walk109 t.words v.text hw).call trivial;rcases hks with hk|hk|hk|hk|hk|hk|hk|hk|hk|hk
 all_goals
  have e2:(t.kind==2)=decide (t.kind=2):=rfl;have e3:(t.kind==3)=decide (t.kind=3):=rfl;have e4:(t.kind==4)=decide (t.kind=4):=rfl;have e5:(t.kind==5)=decide (t.kind=5):=rfl;have e6:(t.kind==6)=decide (t.kind=6):=rfl;have e7:(t.kind==7)=decide (t.kind=7):=rfl;have e8:(t.kind==8)=decide (t.kind=8):=rfl;have e9:(t.kind==9)=decide (t.kind=9):=rfl;have e10:(t.kind==10)=decide (t.kind=10):=rfl;rw[hk]at e2 e3 e4 e5 e6 e7 e8 e9 e10;simp only[Int.reduceEq,decide_false,decide_true,hk]at e2 e3 e4 e5 e6 e7 e8 e9 e10;simp only[hk,Int.reduceEq,or_false,or_true,false_or,true_or,↓reduceIte]at hR;refine zz34 ?_
  try (subst hR;rfl)
 ·subst hR;refine wn ci ?_;refine zz1 ?_;refine sq (v.scale==t.scale) ?_ ?_
  all_goals simp only[go_sem,Int.reduceBEq,Vc,simprocAttr]
 ·subst hR;refine wn ci ?_;refine zz1 ?_;refine sq (v.scale==t.scale) ?_ ?_
  all_goals simp only[go_sem,Int.reduceBEq,Vc,simprocAttr]
 ·apply ik<;>intro h
  ·rw[if_pos h]at hR;subst hR
   try refine zz1 ?_
   refine wn c109 ?_;exact zz1 trivial
  ·rw[if_neg (nF h)]at hR;subst hR
   try refine zz1 ?_
   refine wn ct ?_;exact zz1 trivial
 ·subst hR;refine wn ct ?_;exact zz1 trivial
 ·subst hR;refine wn ci ?_;refine zz1 ?_;refine sq (v.scale==t.scale) ?_ ?_
  all_goals simp only[go_sem,Int.reduceBEq,Vc,simprocAttr]
 ·subst hR;refine wn ci ?_;refine zz1 ?_;refine sq (v.scale==t.scale) ?_ ?_
  all_goals simp only[go_sem,Int.reduceBEq,Vc,simprocAttr]
 ·have hl1:=h8e hk;obtain⟨e,hee⟩:∃e,t.elem=[e]:=List.length_eq_one_iff.1 hl1;have hmem:e∈t.elem:=by rw[hee];exact List.mem_singleton.2 rfl
  have cw:=JC.clo (ds:=[.list 6 (v.list.map JQ)]) (walk420 (q:=fun x=> !ft e x) v.list (fun x hx=>walk421 e (ft e x) t x hee (h8 hk e hmem x hx)) v2) rfl 2;rw[JEw,hk]at cw;simp only[Va,Vb,List.cons_append,List.nil_append]at cw;have e0:(t.elem[0]?).getD ty0=e:=by simp[hee]
  rw[e0]at hR;subst hR;refine wn cl ?_;refine zz1 ?_;refine sq (!(v.list.any fun x=> !ft e x)) ?_ ?_
  ·refine zz1 ?_;refine wn cw ?_;exact zz1 trivial
  exact zz1 trivial
 ·have cw:=JC.clo (ds:=[.list 11 (t.fields.map UE)]) (JLO (q:=JGG v) t.fields (fun g _=>walk423 g v) hf) rfl 3;rw[JE1]at cw;simp only[Va,Vb,List.cons_append,List.nil_append]at cw;refine JH (fun n s=>∃k:Nat,k≤v.fields.length∧n=v.fields.length-k∧(((v.fields.drop k).all fun x=> !(!(YY t x.name).2|| !ft (YY t x.name).1.type x.value))&& !(t.fields.any (JGG v)))=R∧
   s=⟨[(2,.ref 2 0),(3,.ref 3 0),(105,.d (.list 7 (v.fields.map Xf))),(106,.d (.int .i64 v.fields.length)),(107,.d (.int .i64 k))],
    [(2,.box [.d (.int .i64 9),.d (.int .i64 t.min),.d (.int .i64 t.max),.d (.int .i64 t.scale),.d (.list 1 (t.words.map .str)),.d (.list 7 (t.elem.map Jp)),.d (.list 11 (t.fields.map UE))]),
     (3,.box [.d (.int .i64 v.kind),.d (.int .i64 v.int),.d (.int .i64 v.scale),.d (.str v.text),.d (.list 6 (v.list.map JQ)),.d (.list 7 (v.fields.map Xf))])]⟩) ?_ ?_
  ·exact⟨_,_,Wk.refl _,0,Nat.zero_le _,rfl,hR,rfl⟩
  ·clear hR;rintro n s ⟨k,hk2,rfl,hinv,rfl⟩;by_cases hlt:k<v.fields.length
   ·have hx:=Yq hlt;have hd:=dT hlt;have hmem:=Vk hlt;have c422:=(JLI t v.fields[k].name).call (by simp[J5]);have cr:(YY t v.fields[k].name).2=true→CT 329 [.d (Jp (YY t v.fields[k].name).1.type),.d (JQ v.fields[k].value)] [] (.d (.bool (ft (YY t v.fields[k].name).1.type v.fields[k].value))) []:=fun h=>(h9 hk _ (JIw h) v.fields[k] hmem).call trivial
    rw[Vq hlt,List.all_cons]at hinv;generalize YY t v.fields[k].name=F at*;generalize hB:ft F.1.type v.fields[k].value=B at*;rw[JZ t,Ud F.1,hk]at c422;rw[JZ,JG]at cr;refine zz6 ?_;refine⟨oM,wn c422 ?_⟩;refine zz1 ?_;refine J9 (!B) (fun h=>?_) ?_
    ·refine zz1 ?_;refine wn (cr (sX h)) ?_;exact zz1 trivial
    refine zz1 ?_;apply ik<;>intro h
    ·rw[h,Vr,Bool.false_and,Bool.false_and]at hinv;subst hinv;rfl
    ·rw[h,Vs,Vt]at hinv;clear h;refine⟨v.fields.length-(k+1),_,oM,Wk.less ?_,k+1,oM,rfl,hinv,rfl⟩;exact zz7 trivial
   ·have hd:=dF hlt;rw[List.drop_eq_nil_of_le oM,List.all_nil,Vt]at hinv;subst hinv;refine zz5 ?_;refine wn cw ?_;exact zz1 trivial
 ·have hl1:=h10v (hvk.trans hk);have h0:0<v.list.length:=oM;have hx0:=Xm h0;have c422:=(JLI t v.text).call (by simp[J5]);have cr:(YY t v.text).2=true→CT 329 [.d (Jp (YY t v.text).1.type),.d (JQ v.list[0])] [] (.d (.bool (ft (YY t v.text).1.type v.list[0]))) []:=fun h=>(h10 hk _ (JIw h) v.list[0] (Vk h0)).call trivial
  rw[Vl h0,Vp]at hR;generalize YY t v.text=F at*;rw[JZ t,Ud F.1,hk]at c422;rw[JZ,JG]at cr;subst hR;refine wn c422 ?_;refine zz1 ?_;refine J9 (ft F.1.type v.list[0]) (fun h=>?_) ?_
  ·simp only[go_sem,hx0,Int.toNat_zero,Int.reduceBEq,Vc,simprocAttr];refine⟨oM,wn (cr h) ?_⟩;exact zz1 trivial
  exact zz1 trivial
def JMT:Nat→Typ→Val→Bool
 |0,_,_=>true
 |k+1,t,v=>hasS (JMT k) t v
def flatV(w:Val):Prop:=w.list=[]∧w.fields=[]
mutual
def okT:Val→Prop
 |.mk _ _ _ t l f=>t.length≤4096∧JJ6 l∧okTf f
def JJ6:List Val→Prop
 |[]=>True
 |v::r=>okT v∧JJ6 r
def okTf:List Fld→Prop
 |[]=>True
 |.mk n v::r=>n.length≤4096∧okT v∧okTf r
end
theorem okT_eq(v:Val):okT v↔v.text.length≤4096∧JJ6 v.list∧okTf v.fields:=by cases v;rfl
mutual
def nmV:Val→Prop
 |.mk _ _ _ _ l f=>nmVs l∧nmVf f
def nmVs:List Val→Prop
 |[]=>True
 |v::r=>nmV v∧nmVs r
def nmVf:List Fld→Prop
 |[]=>True
 |.mk n v::r=>n.length≤4096∧nmV v∧nmVf r
end
theorem nmV_eq(v:Val):nmV v↔nmVs v.list∧nmVf v.fields:=by cases v;rfl
theorem flat_nm{v:Val}(h1:v.list=[]∧v.fields=[]):nmV v:=by
 rw[nmV_eq,h1.1,h1.2];exact⟨trivial,trivial⟩
theorem flat_sz{w:Val}(h:flatV w):szV w≤1000000:=by
 rw[JG1,h.1,h.2];simp[ZG,JIV]
def goodV(B:Nat)(v:Val):Prop:=szV v≤1000000∧v.text.length≤B∧nmV v
theorem goodV.flat{B:Nat}{v:Val}(h:flatV v)(ht:v.text=[]):goodV B v:=⟨flat_sz h,by rw[ht];exact Nat.zero_le _,flat_nm h⟩
end Go.Proofs
namespace Go.Proofs
open Go Av
variable {v:Val}
theorem JJ7{n m e:Int}(he:e≠0)(h:szE n m e=0):n≤m:=by
 unfold szE at h;split at h
 ·exact absurd h he
 ·rename_i h1;simpa using h1
theorem JLP{n level:Int}(h:YH n level v=0):JEo v=true∧Uj v=0:=by
 unfold YH at h;split at h
 ·cases h
 split at h
 ·cases h
 split at h
 ·cases h
 split at h
 ·cases h
 split at h
 ·cases h
 ·rename_i hu;exact⟨by simpa using hu,h⟩
theorem JBe:∀{l:List Fld} {o:Option Str},JEr o l=0→∀f∈l,YG f.name=true
 |[],_,_,f,hf=>by cases hf
 |g::r,none,h,f,hf=>by
  simp only[JEr]at h;split at h
  ·cases h
  ·rename_i hn;rcases VA.1 hf with rfl|hf
   ·simpa using hn
   ·exact JBe h f hf
 |g::r,some p,h,f,hf=>by
  simp only[JEr]at h;split at h
  ·cases h
  split at h
  ·cases h
  split at h
  ·cases h
  ·rename_i hn _ _;rcases VA.1 hf with rfl|hf
   ·simpa using hn
   ·exact JBe h f hf
theorem JG8(h:JEo v=true):((v.kind=8∨v.kind=10)∨v.list=[])∧(v.kind=9∨v.fields=[])∧(v.kind=4∨v.kind=5∨v.kind=10∨v.text=[]):=by
 simp only[JEo,useT,useL,Vi,Vx,beq_iff_eq]at h;obtain⟨⟨⟨_,h1⟩,h2⟩,h3⟩:=h;refine⟨?_,?_,?_⟩
 ·rcases h2 with h2|h2
  ·exact .inl h2
  ·exact .inr (List.length_eq_zero_iff.1 oM)
 ·rcases h3 with h3|h3
  ·exact .inl h3
  ·exact .inr (List.length_eq_zero_iff.1 oM)
 ·rcases h1 with((h1|h1)|h1)|h1
  ·exact .inl h1
  ·exact .inr (.inl h1)
  ·exact .inr (.inr (.inl h1))
  ·exact .inr (.inr (.inr h1))
theorem JMU(hu:JEo v=true)(h:Uj v=0):v.text.length≤4096:=by
 obtain⟨_,_,h3⟩:=JG8 hu;unfold Uj at h;rcases h3 with e|e|e|e
 ·rw[if_neg oM,if_neg oM,if_neg oM,if_pos e]at h;unfold JGA at h;split at h
  ·cases h
  ·have:=JJ7 dC h;omega
 ·rw[if_neg oM,if_neg oM,if_neg oM,if_neg oM,if_pos e]at h;have:=JJ7 dC h;omega
 ·rw[if_neg oM,if_neg oM,if_neg oM,if_neg oM,if_neg oM,if_neg oM,if_neg oM,if_neg oM,if_neg oM]at h;unfold JIa at h;split at h
  ·cases h
  ·rename_i hn;have:=JF9 (s:=v.text) (sX hn);omega
 ·rw[e];exact Nat.zero_le _
theorem JJ8(e:v.kind=9)(h:Uj v=0):∀f∈v.fields,f.name.length≤4096:=by
 unfold Uj at h;rw[if_neg oM,if_neg oM,if_neg oM,if_neg oM,if_neg oM,if_neg oM,if_neg oM,if_neg oM,if_pos e]at h;unfold JMO at h;split at h
 ·rename_i h1;rw[h]at h1;cases h1
 ·intro f hf;have:=JF9 (JBe h f hf);omega
theorem JIx{f:Int→Val→Int×Int}(hf:∀n v,(f n v).1=0→(f n v).2=n+szV v∧okT v):∀(l:List Val) (n:Int),(YI f n l).1=0→(YI f n l).2=n+ZG l∧JJ6 l
 |[],n,_=>by simp[YI,ZG,JJ6]
 |v::r,n,h=>by
  simp only[YI]at h⊢;split at h
  ·rename_i hx;exact absurd h hx
  ·rename_i hx;rw[if_neg hx];simp only[ne_eq,Decidable.not_not]at hx;obtain⟨h1,h2⟩:=hf n v hx;obtain⟨h3,h4⟩:=JIx hf r _ h;simp only[ZG,JJ6];exact⟨by rw[h3,h1];push_cast;omega,h2,h4⟩
theorem JE2:∀l:List Fld,JIV l=ZG (l.map Fld.value)
 |[]=>rfl
 |.mk n v::r=>by simp only[JIV,Va,ZG,JE2 r,Fld.value]
theorem JLQ:∀{l:List Fld},(∀f∈l,f.name.length≤4096)→JJ6 (l.map Fld.value)→okTf l
 |[],_,_=>trivial
 |.mk n v::r,h,h2=>⟨h _ Vh,h2.1,JLQ (fun f hf=>h f (Vn _ hf)) h2.2⟩
theorem JLR:∀(k:Nat) (n:Int) (v:Val),(Xg k n v).1=0→(Xg k n v).2=n+szV v∧okT v
 |0,n,v,h=>absurd h (JOU _ _)
 |k+1,n,v,h=>by
  simp only[Xg]at h⊢;split at h
  ·rename_i hx;exact absurd h hx
  ·rename_i hx;rw[if_neg hx];simp only[ne_eq,Decidable.not_not]at hx;obtain⟨hu,hr⟩:=JLP hx;obtain⟨u1,u2,u3⟩:=JG8 hu;obtain⟨h1,h2⟩:=JIx (JLR k) _ _ h;have ht:=JMU hu hr;rw[h1,JG1,okT_eq];unfold Uq at h2⊢;by_cases e:v.kind=8∨v.kind=10
   ·have hf:v.fields=[]:=by rcases u2 with u2|u2<;>first|exact u2|omega
    rw[if_pos e]at h2⊢;rw[hf];refine⟨by simp only[JIV];push_cast;omega,ht,h2,trivial⟩
   ·have hl:v.list=[]:=by rcases u1 with u1|u1<;>first|exact u1|exact absurd u1 e
    rw[if_neg e]at h2⊢;rw[hl];by_cases e9:v.kind=9
    ·rw[if_pos e9]at h2⊢;rw[JE2];exact⟨by simp only[ZG];push_cast;omega,ht,trivial,JLQ (JJ8 e9 hr) h2⟩
    ·have hf:v.fields=[]:=by rcases u2 with u2|u2<;>first|exact u2|omega
     rw[if_neg e9]at h2⊢;rw[hf];exact⟨by simp only[ZG,JIV];push_cast;omega,ht,trivial,trivial⟩
theorem chkV_sz(h:JAy v=0):szV v≤4096∧okT v:=by
 obtain⟨h1,h2⟩:=JLR 8 0 v h;have h3:=(JJ0 8 0 v oM oM h).2;exact⟨oM,h2⟩
end Go.Proofs
namespace Go.Proofs
open Go Av
mutual
def okW:Val→Prop
 |.mk k _ _ _ l f=>(k=10→l.length=1)∧JMV l∧JOe f
def JMV:List Val→Prop
 |[]=>True
 |v::r=>okW v∧JMV r
def JOe:List Fld→Prop
 |[]=>True
 |.mk _ v::r=>okW v∧JOe r
end
theorem JOf(v:Val):okW v↔(v.kind=10→v.list.length=1)∧JMV v.list∧JOe v.fields:=by cases v;rfl
theorem JE3:∀{l:List Val},JMV l→∀x∈l,okW x
 |v::r,h,x,hx=>by
  rcases VA.1 hx with rfl|hx
  ·exact h.1
  ·exact JE3 h.2 x hx
theorem JIy:∀{l:List Fld},JOe l→∀x∈l,okW x.value
 |.mk n v::r,h,x,hx=>by
  rcases VA.1 hx with rfl|hx
  ·exact h.1
  ·exact JIy h.2 x hx
theorem JLS:∀{l:List Fld},JMV (l.map Fld.value)→JOe l
 |[],_=>trivial
 |.mk n v::r,h=>⟨h.1,JLS h.2⟩
theorem JIz{f:Int→Val→Int×Int}(hf:∀n v,(f n v).1=0→okW v):∀(l:List Val) (n:Int),(YI f n l).1=0→JMV l
 |[],n,_=>trivial
 |v::r,n,h=>by
  simp only[YI]at h;split at h
  ·rename_i hx;exact absurd h hx
  ·rename_i hx;simp only[ne_eq,Decidable.not_not]at hx;exact⟨hf n v hx,JIz hf r _ h⟩
theorem JOg{v:Val}(e:v.kind=10)(h:Uj v=0):v.list.length=1:=by
 unfold Uj at h;rw[if_neg oM,if_neg oM,if_neg oM,if_neg oM,if_neg oM,if_neg oM,if_neg oM,if_neg oM,if_neg oM]at h;unfold JIa at h;split at h
 ·cases h
 split at h
 ·cases h
 ·rename_i h2;have:=JJ7 dC h;simp only[beq_iff_eq]at h2;omega
theorem JLT:∀(k:Nat) (n:Int) (v:Val),(Xg k n v).1=0→okW v
 |0,n,v,h=>absurd h (JOU _ _)
 |k+1,n,v,h=>by
  simp only[Xg]at h;split at h
  ·rename_i hx;exact absurd h hx
  ·rename_i hx;simp only[ne_eq,Decidable.not_not]at hx;obtain⟨hu,hr⟩:=JLP hx;obtain⟨u1,u2,u3⟩:=JG8 hu;have h2:=JIz (JLT k) _ _ h;rw[JOf];refine⟨fun e=>JOg e hr,?_⟩;unfold Uq at h2;by_cases e:v.kind=8∨v.kind=10
   ·have hf:v.fields=[]:=by rcases u2 with u2|u2<;>first|exact u2|omega
    rw[if_pos e]at h2;rw[hf];exact⟨h2,trivial⟩
   ·have hl:v.list=[]:=by rcases u1 with u1|u1<;>first|exact u1|exact absurd u1 e
    rw[if_neg e]at h2;rw[hl];by_cases e9:v.kind=9
    ·rw[if_pos e9]at h2;exact⟨trivial,JLS h2⟩
    ·have hf:v.fields=[]:=by rcases u2 with u2|u2<;>first|exact u2|omega
     rw[hf];exact⟨trivial,trivial⟩
theorem JOh{v:Val}(h:JAy v=0):okW v:=JLT 8 0 v h
mutual
def vT:Typ→Prop
 |.mk k _ _ s _ e f=>(1≤k∧k≤10)∧(k=8→e.length=1)∧(k=10→f≠[])∧(0≤s∧s≤12)∧vTs e∧vTf k f
def vTs:List Typ→Prop
 |[]=>True
 |v::r=>vT v∧vTs r
def vTf:Int→List TFl→Prop
 |_,[]=>True
 |k,.mk _ _ d t df::r=>((d=3→df.length=1∧∀x∈df,JAy x=0)∧(k=10→d=1)∧vT t)∧vTf k r
end
theorem JLU(t:Typ):vT t↔(1≤t.kind∧t.kind≤10)∧(t.kind=8→t.elem.length=1)∧(t.kind=10→t.fields≠[])∧(0≤t.scale∧t.scale≤12)∧vTs t.elem∧vTf t.kind t.fields:=by cases t;rfl
theorem JDp:∀{l:List Typ},vTs l→∀x∈l,vT x
 |v::r,h,x,hx=>by
  rcases VA.1 hx with rfl|hx
  ·exact h.1
  ·exact JDp h.2 x hx
theorem JAt:∀{k:Int} {l:List TFl},vTf k l→∀x∈l,(x.need=3→x.dflt.length=1∧∀y∈x.dflt,JAy y=0)∧(k=10→x.need=1)∧vT x.type
 |k,.mk a n d t df::r,h,x,hx=>by
  rcases VA.1 hx with rfl|hx
  ·exact h.1
  ·exact JAt h.2 x hx
theorem JOi:∀{l:List Typ},(∀x∈l,vT x)→vTs l
 |[],_=>trivial
 |v::r,h=>⟨h _ Vh,JOi fun x hx=>h x (Vn _ hx)⟩
theorem JOj:∀{k:Int} {l:List TFl},(∀x∈l,(x.need=3→x.dflt.length=1∧∀y∈x.dflt,JAy y=0)∧(k=10→x.need=1)∧vT x.type)→vTf k l
 |_,[],_=>trivial
 |_,.mk a n d t df::r,h=>⟨h _ Vh,JOj fun x hx=>h x (Vn _ hx)⟩
theorem JDq:∀(k:Nat) (t:Typ) (v:Val),szT t≤k→vT t→okW v→PT 329 [Jp t,JQ v] (.d (.bool (JMT k t v)))
 |0,t,v,h,_,_=>by rw[JBd]at h;omega
 |k+1,t,v,h,ht,hv=>by
  have e:=JBd t;obtain⟨t1,t2,t3,t4,t5,t6⟩:=(JLU t).1 ht;obtain⟨v1,v2,v3⟩:=(JOf v).1 hv;refine step329 (JMT k) t v t1 t2 v1 (fun h8 e he x hx=>?_) (fun h9 g hg x hx=>?_) (fun h10 g hg x hx=>?_)
  ·have:=JCM e he;exact JDq k e x oM (JDp t5 e he) (JE3 v2 x hx)
  ·have:=JAR g hg;exact JDq k g.type x.value oM (JAt t6 g hg).2.2 (JIy v3 x hx)
  ·have:=JAR g hg;exact JDq k g.type x oM (JAt t6 g hg).2.2 (JE3 v2 x hx)
def JJ9(t:Typ)(v:Val):Bool:=JAy v==0&&JMT (szT t) t v
theorem walk233(t:Typ)(v:Val)(ht:vT t):PT 233 [Jp t,JQ v] (.d (.bool (JJ9 t v))):=by
 refine ok233.pc ?_;have c328:=(JLH v).call trivial;have c329:JAy v=0→CT 329 [.d (Jp t),.d (JQ v)] [] (.d (.bool (JMT (szT t) t v))) []:=fun h=>(JDq (szT t) t v (Nat.le_refl _) ht (JOh h)).call trivial
 generalize hR:JJ9 t v=R;unfold JJ9 at hR;generalize JMT (szT t) t v=H at*;generalize JAy v=E at*;rw[JG v]at c328 c329;rw[JZ t]at c329;rw[JZ t,JG v];simp only[go_sem,ir233,simprocAttr];refine wc c328 ?_;refine J9 H (fun h=>?_) ?_
 ·refine zz ?_;refine wc (c329 (sX h)) trivial
 simp only[go_sem,hR,simprocAttr]
end Go.Proofs
namespace Go.Proofs
open Go Av
variable {t:Typ}
theorem JI0:∀(l:List TFl) (i:Nat),JEz t i l=0→∀(j:Nat) (hj:j<l.length),JEy t (i+j) l[j]=0
 |[],_,_,j,hj=>by simp at hj
 |f::r,i,h,j,hj=>by
  rw[JEz]at h;split at h
  ·rename_i h1;rw[h]at h1;cases h1
  ·rename_i h1;cases j with
   |zero=>simpa using h1
   |succ j=>
    have:=JI0 r (i+1) h j (sX hj);rw[Nat.add_assoc,Nat.add_comm 1 j]at this;simpa using this
theorem own2_ok(h:JMS t=0):(t.kind=8→t.elem.length=1)∧(t.kind=10→t.fields≠[])∧t.fields.length≤64∧∀(j:Nat) (hj:j<t.fields.length),JEy t j t.fields[j]=0:=by
 unfold JMS at h;split at h
 ·cases h
 rename_i h1;split at h
 ·cases h
 rename_i h2;split at h
 ·cases h
 rename_i h3;simp only[Vx,Vi,beq_iff_eq,decide_eq_true_eq,not_or,not_and]at h1 h2 h3;refine⟨fun e=>?_,fun e e2=>?_,oM,fun j hj=>?_⟩
 ·have a:=h1.1 e;have b:=h2 e;omega
 ·have:=h1.2 e;rw[e2]at this;exact this rfl
 ·have:=JI0 t.fields 0 h j hj;rwa[Nat.zero_add]at this
theorem len0{α:Type}{l:List α}(h:¬((l.length:Nat):Int)>0):l=[]:=by
 apply List.eq_nil_of_length_eq_zero;omega
theorem JOk(h:JIv t=0):(1≤t.kind∧t.kind≤10)∧(t.kind=8→t.elem.length=1)∧(t.kind≠8→t.elem=[])∧(t.kind=10→t.fields≠[])∧(t.kind≠9→t.kind≠10→t.fields=[])∧
  (0≤t.scale∧t.scale≤12)∧t.fields.length≤64∧∀(j:Nat) (hj:j<t.fields.length),JEy t j t.fields[j]=0:=by
 unfold JIv at h;split at h
 ·cases h
 rename_i h1;split at h
 ·cases h
 rename_i h2;have hk:1≤t.kind∧t.kind≤10:=by
  simp only[inI,Bool.not_eq_true',Bool.and_eq_false_iff,decide_eq_false_iff_not,not_or]at h1;omega
 have key:JMS t=0∧(t.kind=3→inI t.scale 0 12=true):=by
  split at h
  ·rename_i h3;simp only[Vi,beq_iff_eq]at h3;split at h
   ·rename_i h4;rw[h]at h4;cases h4
   ·exact⟨h,fun e=>by omega⟩
  ·split at h
   ·cases h
   ·rename_i h4;refine⟨h,fun e=>?_⟩;unfold bndC at h4;rw[e]at h4;simp only[Vx,not_or]at h4;have:=h4.2;simpa[JMQ,limA]using this
 obtain⟨o1,o2,o3,o4⟩:=own2_ok key.1;have hsc:=key.2;unfold JGD at h2;simp only[Vx,Vi,not_or,not_and,bne_iff_ne,ne_eq,Decidable.not_not,decide_eq_true_eq,Bool.not_eq_true',Bool.not_eq_eq_eq_not,Vr]at h2;obtain⟨⟨⟨⟨f1,f2⟩,f3⟩,f4⟩,f5⟩:=h2;have hks:t.kind=1∨t.kind=2∨t.kind=3∨t.kind=4∨t.kind=5∨t.kind=6∨t.kind=7∨t.kind=8∨t.kind=9∨t.kind=10:=oM;refine⟨hk,o1,fun e=>?_,o2,fun e e2=>?_,?_,o3,o4⟩
 ·refine len0 (f4 ?_);rcases hks with h|h|h|h|h|h|h|h|h|h<;>first|omega|(rw[h];rfl)
 ·refine len0 (f5 ?_);rcases hks with h|h|h|h|h|h|h|h|h|h<;>first|omega|(rw[h];rfl)
 ·by_cases e:t.kind=3
  ·have:=hsc e;simp only[inI,Vi,decide_eq_true_eq]at this;omega
  ·have:=f2 (by rcases hks with h|h|h|h|h|h|h|h|h|h<;>first|omega|(rw[h];rfl));omega
def JE4(g:TFl):Val:=(g.dflt[0]?).getD zeroV
def JAS(f:Int→Typ→Int×Int)(t:Typ):Nat→Int→List Typ→Int×Int
 |_,n,[]=>(0,n)
 |i,n,p::r=>
  if((f n p).1 !=0)=true then f n p
  else if((t.kind==9&&(t.fields.getD i tf0).need==3)&& !JJ9 p (JE4 (t.fields.getD i tf0)))=true then(18,(f n p).2)
  else JAS f t (i+1) (f n p).2 r
def JAT:Nat→Int→Typ→Int×Int
 |0,n,t=>if(n==0)=true then(9,n)else(23,n)
 |k+1,n,t=>if(n==0)=true then(9,n)else if(JIv t !=0)=true then(JIv t,n-1)else JAS (JAT k) t 0 (n-1) (XW t)
theorem JI1{f:Int→Typ→Int×Int}(hf:∀n p,0≤n→(f n p).1=0→vT p∧(f n p).2+szT p=n∧0≤(f n p).2):∀(l:List Typ) (i:Nat) (n:Int),0≤n→(JAS f t i n l).1=0→
  (∀x∈l,vT x)∧(JAS f t i n l).2+JBc l=n∧0≤(JAS f t i n l).2∧∀(j:Nat) (hj:j<l.length),t.kind=9→(t.fields.getD (i+j) tf0).need=3→JJ9 l[j] (JE4 (t.fields.getD (i+j) tf0))=true
 |[],i,n,hn,h=>⟨sP,by simp[JAS,JBc],by simpa[JAS]using hn,fun j hj=>by simp at hj⟩
 |p::r,i,n,hn,h=>by
  rw[JAS]at h⊢;split at h
  ·rename_i h1;rw[h]at h1;cases h1
  rename_i h1;split at h
  ·cases h
  rename_i h2;rw[if_neg h1,if_neg h2];obtain⟨a1,a2,a3⟩:=hf n p hn (sX h1);obtain⟨b1,b2,b3,b4⟩:=JI1 hf r (i+1) (f n p).2 a3 h;refine⟨fun x hx=>?_,?_,b3,fun j hj e9 hn3=>?_⟩
  ·rcases VA.1 hx with rfl|hx
   ·exact a1
   ·exact b1 x hx
  ·simp only[JBc];push_cast;omega
  ·cases j with
   |zero=>
    simp only[Nat.add_zero]at hn3⊢;simp only[e9,beq_self_eq_true,Vt,Vi,beq_iff_eq,Bool.not_eq_true',not_and,Bool.not_eq_false]at h2;exact h2 hn3
   |succ j=>
    have:=b4 j (sX hj) e9;rw[Nat.add_assoc,Nat.add_comm 1 j]at this;exact this hn3
theorem JI2:∀l:List TFl,JBc (l.map TFl.type)≤JE0 l∧JE0 l≤JBc (l.map TFl.type)
 |[]=>by simp[JBc,JE0]
 |.mk a n d t df::r=>by
  have:=JI2 r;simp only[Va,JBc,JE0,TFl.type];omega
theorem JOl{i:Nat}{f:TFl}(h:JEy t i f=0):YG f.name=true∧(1≤f.need∧f.need≤3)∧(t.kind=10→f.need=1)∧(f.need=3→f.dflt.length=1)∧(f.need≠3→f.dflt=[]):=by
 unfold JEy at h;split at h
 ·cases h
 rename_i h1;split at h
 ·cases h
 split at h
 ·cases h
 split at h
 ·cases h
 rename_i h4;split at h
 ·cases h
 rename_i h5;split at h
 ·cases h
 rename_i h6;simp only[inI,Vx,Vi,Bool.not_eq_true',Bool.and_eq_false_iff,decide_eq_false_iff_not,beq_iff_eq,bne_iff_ne,ne_eq,decide_eq_true_eq,not_or,not_and,Decidable.not_not]at h4 h5 h6;refine⟨by simpa using h1,oM,h4.2,fun e=>?_,fun e=>?_⟩
 ·have:=h5 e;omega
 ·exact len0 (h6.2 e)
theorem JG9:∀(k:Nat) (n:Int) (t:Typ),0≤n→(JAT k n t).1=0→vT t∧(JAT k n t).2+szT t=n∧0≤(JAT k n t).2
 |0,n,t,hn,h=>by
  rw[JAT]at h;split at h<;>cases h
 |k+1,n,t,hn,h=>by
  rw[JAT]at h⊢;split at h
  ·cases h
  rename_i h1;split at h
  ·rename_i h2;rw[show JIv t=0 from h]at h2;cases h2
  rename_i h2;rw[if_neg h1,if_neg h2];obtain⟨o1,o2,o3,o4,o5,o6,o7,o8⟩:=JOk (t:=t) (sX h2);have hn0:n≠0:=sX h1;obtain⟨b1,b2,b3,b4⟩:=JI1 (JG9 k) (XW t) 0 (n-1) oM h;have e:=JBd t;have hsz:JBc (XW t)+1=szT t:=by
   unfold XW;by_cases e8:t.kind=8
   ·rw[if_pos e8,e,o5 oM oM];simp[JE0];omega
   ·rw[if_neg e8,e,o3 e8];by_cases e9:t.kind=9∨t.kind=10
    ·rw[if_pos e9];have:=JI2 t.fields;simp[JBc];omega
    ·rw[if_neg e9,o5 oM oM];simp[JBc,JE0]
  refine⟨(JLU t).2 ⟨o1,o2,o4,o6,?_,?_⟩,oM,b3⟩
  ·by_cases e8:t.kind=8
   ·refine JOi fun x hx=>b1 x ?_
    rw[XW,if_pos e8];exact hx
   ·rw[o3 e8];trivial
  ·by_cases e9:t.kind=9∨t.kind=10
   case neg=>rw[o5 oM oM];trivial
   have hp:XW t=t.fields.map TFl.type:=by rw[XW,if_neg oM,if_pos e9]
   refine JOj fun x hx=>?_
   obtain⟨j,hj,rfl⟩:=List.getElem_of_mem hx;obtain⟨g1,g2,g3,g4,g5⟩:=JOl (o8 j hj);refine⟨fun hn3=>⟨g4 hn3,fun y hy=>?_⟩,g3,b1 _ (by rw[hp];exact List.mem_map_of_mem (Vk hj))⟩;have h9:t.kind=9:=by
    rcases e9 with h|h
    ·exact h
    ·have:=g3 h;omega
   have hgd:t.fields.getD j tf0=t.fields[j]:=by rw[List.getD_eq_getElem?_getD,Vl hj];rfl
   have:=b4 j (by rw[hp,Vc];exact hj) h9 (by rw[Nat.zero_add,hgd];exact hn3);rw[Nat.zero_add,hgd]at this;have hl:=g4 hn3;obtain⟨d,hd⟩:=List.length_eq_one_iff.1 hl;rw[hd]at hy;rw[List.mem_singleton.1 hy];unfold JJ9 JE4 at this;rw[hd]at this;simp only[List.getElem?_cons_zero,Vp,Vi,beq_iff_eq]at this;exact this.1
theorem JLV:∀(k:Nat) (n:Int) (t:Typ),k≤8→0≤n→n≤4096→
  KT 134 [.d (Jp t),.d (.int .i64 (9-k)),.ref 1000 0] [(1000,.box [.d (.int .i64 n)])] (.d (.int .i64 (JAT k n t).1)) [(1000,.box [.d (.int .i64 (JAT k n t).2)])]
 |0,n,t,hk,h0,h1=>by
  refine Con.Ja JLJ.has fun hfit=>?_
  refine JLJ.co (k:=false) (Jf (by simp[UH,put,Je,J8,JR,JV])) trivial ?_;generalize hR:JAT 0 n t=R;rw[JAT]at hR;rw[JZ];simp only[go_sem,JOX,Nat.reduceAdd,Nat.reduceEqDiff,Nat.reduceBEq,Nat.reduceLeDiff,reduceCtorEq,↓reduceIte];apply ik<;>intro h
  ·rw[if_pos h]at hR;subst hR;exact zz trivial
  ·rw[if_neg (nF h)]at hR;subst hR;have h9:decide ((9:Int)-((0:Nat):Int)>8)=true:=dC;simp only[go_sem,h9,Nat.reduceAdd,Nat.reduceEqDiff,Nat.reduceBEq,Nat.reduceLeDiff,reduceCtorEq,↓reduceIte]
 |k+1,n,t,hk,h0,h1=>by
  refine Con.Ja JLJ.has fun hfit=>?_
  obtain⟨hw,he,hf⟩:=JBb (hfit (Jp t) sP);refine JLJ.co (k:=false) (Jf (by simp[UH,put,Je,J8,JR,JV])) trivial ?_;have c231:=(walk231 t).call trivial;have c232:=(walk232 t hf).call trivial;generalize hR:JAT (k+1) n t=R;rw[JAT]at hR;have hown:= @JOk t;have h9:decide ((9:Int)-((k+1:Nat):Int)>8)=false:=sO;rw[JZ t]at c231 c232;rw[JZ];simp only[go_sem,JOX,Nat.reduceAdd,Nat.reduceEqDiff,Nat.reduceBEq,Nat.reduceLeDiff,reduceCtorEq,↓reduceIte];apply ik<;>intro h
  ·rw[if_pos h]at hR;subst hR;exact zz trivial
  rw[if_neg (nF h)]at hR;have hn0:n≠0:=sX h;have hw1:IntKind.i64.wrap (n-1)=n-1:=wrap64 oM oM;clear h;simp only[go_sem,h9,hw1,Nat.reduceAdd,Nat.reduceEqDiff,Nat.reduceBEq,Nat.reduceLeDiff,reduceCtorEq,↓reduceIte];refine wn c231 ?_;refine zz1 ?_;apply ik<;>intro h
  ·rw[if_pos h]at hR;subst hR;exact zz1 trivial
  rw[if_neg (nF h)]at hR;obtain⟨o1,o2,o3,o4,o5,o6,o7,o8⟩:=hown (sX h);clear h hown
  try refine zz1 ?_
  refine wn c232 ?_;refine zz1 ?_;have hpl:(XW t).length≤68719476736:=by
   unfold XW;split
   ·exact he
   split
   ·rw[Vc];exact hf
   ·exact Nat.zero_le _
  have hp9:t.kind=9→(XW t).length=t.fields.length:=by
   intro e9;rw[XW,if_neg oM,if_pos (.inl e9),Vc]
  generalize XW t=ps at*;refine JH (fun r s=>∃(j:Nat) (m:Int),j≤ps.length∧r=ps.length-j∧0≤m∧m≤4096∧JAS (JAT k) t j m (ps.drop j)=R∧
   s=⟨[(1,.d (.int .i64 (9-((k+1:Nat):Int)))),(2,.ref 1000 0),(3,.ref 3 0),(30,.d (.list 7 (ps.map Jp))),(31,.d (.int .i64 ps.length)),(32,.d (.int .i64 j))],
    [(1000,.box [.d (.int .i64 m)]),(3,.box [.d (.int .i64 t.kind),.d (.int .i64 t.min),.d (.int .i64 t.max),.d (.int .i64 t.scale),.d (.list 1 (t.words.map .str)),.d (.list 7 (t.elem.map Jp)),.d (.list 11 (t.fields.map UE))])]⟩) ?_ ?_
  ·exact⟨_,_,Wk.refl _,0,n-1,Nat.zero_le _,rfl,oM,oM,hR,rfl⟩
  ·clear hR;rintro r s ⟨j,m,hj,rfl,hm0,hm1,hinv,rfl⟩;by_cases hlt:j<ps.length
   ·have hx:=JAI hlt;have hd:=dT hlt;have hwl:IntKind.i64.wrap (9-((k+1:Nat):Int)+1)=9-k:=by rw[wrap64 oM oM];push_cast;omega
    have hc:=(JLV k m ps[j] oM hm0 hm1).cnt (ds:=[Jp ps[j],.int .i64 (9-k)]) 1000;have hok:=JG9 k m ps[j] hm0;rw[Vq hlt,JAS]at hinv;have c233:=fun(h:vT ps[j])=>(walk233 ps[j] (JE4 (t.fields.getD j tf0)) h).call trivial
    have hfd:t.kind=9→∃h:j<t.fields.length,t.fields.getD j tf0=t.fields[j]:=by
     intro e9;have:=hp9 e9;exact⟨oM,by rw[List.getD_eq_getElem?_getD,Vl oM];rfl⟩
    generalize hX:JAT k m ps[j]=X at*;generalize hB:JJ9 ps[j] (JE4 (t.fields.getD j tf0))=B at*;simp only[Va,Vb,List.cons_append,List.nil_append]at hc;rw[JZ]at hc c233;simp only[go_sem,hx,hd,hwl,Vv,Vc,Nat.reduceAdd,Nat.reduceEqDiff,Nat.reduceBEq,Nat.reduceLeDiff,reduceCtorEq,↓reduceIte];refine⟨oM,wn hc ?_⟩;refine zz1 ?_;apply ik<;>intro h
    ·rw[if_pos h]at hinv;subst hinv;exact zz1 trivial
    rw[if_neg (nF h)]at hinv;obtain⟨w1,w2,w3⟩:=hok (sX h);clear h hok
    try refine zz1 ?_
    refine J9 ((t.fields.getD j tf0).need==3) (fun h=>?_) ?_
    ·obtain⟨hjf,hgd⟩:=hfd (sX h);have hx2:=U7 hjf;simp only[go_sem,hgd,hx2,Vv,Vc,Nat.reduceAdd,Nat.reduceEqDiff,Nat.reduceBEq,Nat.reduceLeDiff,reduceCtorEq,↓reduceIte];omega
    refine zz1 ?_;refine J9 (!B) (fun h=>?_) ?_
    ·simp only[Vi,beq_iff_eq]at h;obtain⟨hjf,hgd⟩:=hfd h.1;have hx2:=U7 hjf;have hn3:=h.2;rw[hgd]at hn3;have hl1:=(JOl (o8 j hjf)).2.2.2.1 hn3;have h0:0<t.fields[j].dflt.length:=oM;have hx3:=Xm h0;have hc2:=c233 w1;rw[hgd]at hc2;have hdf:JE4 t.fields[j]=t.fields[j].dflt[0]:=by rw[JE4,Vl h0];rfl
     rw[hdf,JG]at hc2;simp only[go_sem,hx2,hx3,Vv,Int.toNat_zero,Vc,Nat.reduceAdd,Nat.reduceEqDiff,Nat.reduceBEq,Nat.reduceLeDiff,reduceCtorEq,↓reduceIte];refine⟨oM,oM,⟨oM,oM⟩,wn hc2 ?_⟩;exact zz1 trivial
    refine zz1 ?_;apply ik<;>intro h
    ·rw[if_pos h]at hinv;subst hinv;exact zz1 trivial
    rw[if_neg (nF h)]at hinv;clear h;refine⟨ps.length-(j+1),_,oM,Wk.less ?_,j+1,X.2,oM,rfl,w3,oM,hinv,rfl⟩;exact JMA trivial
   ·have hd:=dF hlt;rw[List.drop_eq_nil_of_le oM,JAS]at hinv;subst hinv;exact zz5 trivial
end Go.Proofs
namespace Go.Proofs
open Go Av
open Av.Y
def JKA:Ic:=S
def JHA:Ic:=D (.block 1<|R (ol 8 3<|oi 9 .add 8 1<|os 3 9<|N) [2,3,5,6,7,8,9]) [2,3,5,6,7,8,9]
noncomputable def ir330:Ic:=q (R (ox 1 0<|oz 2 0<|N) [0])<|q (.reg (oN 3 [.int .i64 0]<|on (.sto none (t 3) (i 0))<|N))<|q (q (R (oL 4 6 1<|cl 5 418 [t 4]<|N) [1,4])<|D (.block 0<|D (.rng (t 5) 11 17 #[6,7] (ZD (YO Tryz.f330) [1,1,0,1,0,0]) (ZD (YO Tryz.f330) [1,1,0,1,0,1]) JKA JHA) [2,5]) [2,5])<|q (R (ol 10 3<|om 2 10<|N) [3,10])<|.ret
theorem ok330:FT 330 11 ir330 [.tmp 2]:=.o Tryz.func330
end Go.Proofs
namespace Go.Proofs
open Go Av
variable {c:Dat}{n:Int}
def JCN:Nat→Val→Nat
 |0,_=>0
 |k+1,v=>1+((Uq v).map (JCN k)).sum
theorem JI3(v:Val):ZG (Uq v)+1≤szV v:=by
 have e:=JG1 v;unfold Uq;split
 ·omega
 split
 ·rw[←JE2];omega
 ·simp only[ZG];omega
theorem JOm{f:Val→Nat}(hf:∀v,f v≤szV v):∀l:List Val,(l.map f).sum≤ZG l
 |[]=>by simp
 |v::r=>by
  have:=hf v;have:=JOm hf r;simp only[Va,List.sum_cons,ZG];omega
theorem JLW:∀(k:Nat) (v:Val),JCN k v≤szV v
 |0,v=>Nat.zero_le _
 |k+1,v=>by
  have:=JOm (JLW k) (Uq v);have:=JI3 v;rw[JCN];omega
noncomputable def lpS(tm:List (Nat×Av))(s:LoopState)(j:Option Code):Lp:=⟨tm,11,#[6,7],ZD (YO Tryz.f330) [1,1,0,1,0,0],ZD (YO Tryz.f330) [1,1,0,1,0,1],s,j⟩
def tmS(c:Dat):List (Nat×Av):=[(2,.d (.int .i64 0)),(3,.ref 1003 0),(5,.d c)]
noncomputable abbrev TS(c:Dat)(n:Int):List (Nat×Av.Obj):=[(1000,.lp (lpS (tmS c) .ready none)),(1003,.box [.d (.int .i64 n)])]
theorem JHB(c:Dat)(n:Int):closed (get (TS c n)):=by
 refine UK ?_;simp[TS,Je,J8,JR,JV,Uz,tmS,lpS,Av.get]
theorem ZV(c:Dat)(n m:Int):closed (JA (get (TS c n)) (TS c m)):=by
 refine Jf ?_;simp[TS,UH,put,Je,J8,JR,JV,Uz,tmS,lpS,Av.get]
theorem JKB{i:Nat}(h:(get (TS c n) i).isSome=true):i=1000∨i=1003:=by
 simp only[TS,Av.get]at h;split at h
 ·rename_i e;exact .inl e.symm
 ·split at h
  ·rename_i e;exact .inr e.symm
  ·cases h
theorem JLX{m:Int}{i:Nat}(h:(JA (get (TS c n)) (TS c m) i).isSome=true):i=1000∨i=1003:=by
 simp only[TS,JA,upd]at h;split at h
 ·exact .inr (by assumption)
 ·split at h
  ·exact .inl (by assumption)
  ·exact JKB h
theorem JOn(c:Dat)(n level:Int)(v:Val)(h0:0≤n)(h1:n≤1000000000000):
  JFN Tryz.prog 1000 [.d (.int .i64 level),.d (JQ v)] (TS c n) (.d (.bool true)) (TS c (n+1)):=by
 refine JFN.JAu (asg:=JKA) (body:=JHA) rfl rfl kR kR rfl (show∀p∈[6,7],p<11 by decide) (ZV c n _) ?_;have hw:IntKind.i64.wrap (n+1)=n+1:=wrap64 oM oM;generalize hD:(fun i=>(get (TS c n) i).isSome=true)=D;generalize hK:JCb 1000 (TS c n) D (.d (.bool true)) _=K;have leaf:K .normal ⟨[],[(1000,.lp (lpS (tmS c) .busy none)),(1003,.box [.d (.int .i64 (n+1))])]⟩:=by
  rw[←hK,←hD];refine⟨_,_,rfl,rfl,⟨[],[(1000,.lp (lpS (tmS c) .ready none)),(1003,.box [.d (.int .i64 (n+1))])]⟩,Wk.less ?_,?_⟩
  ·simp[put,tmS,lpS,go_sem]
  ·intro i o h;rw[←h,←UA];simp[UH,put]
 clear hK hD;simp only[TS,lpS,tmS,JKA,JHA,hw,go_sem,simprocAttr];exact⟨_,rfl,rfl,leaf⟩
theorem JOo(c:Dat)(n level:Int)(v:Val)(h0:0≤n)(h1:n≤1000000000000):
  CT .yld [.mp 1000,.d (.int .i64 level),.d (JQ v)] ((TS c n).map fun x=>(x.1,some x.2)) (.d (.bool true)) (TS c (n+1)):=by
 have:=(JOn c n level v h0 h1).call (fun i=>i) ⟨_,rfl⟩ (fun i j _ _ h=>h) (by simp[JV]) (JHB c n) [] (by simp[Av.get]) (ZV c n _) trivial;simp only[TS,Va,Vb]at this;simp only[TS,Va,Vb,Obj.ren,Av.ren,J3,Zs,lpS,tmS,X9,List.append_nil]at this⊢;exact this
theorem JI4{level m:Int}{v:Val}(h:KT 522 [.d (JQ v),.d (.int .i64 level),.mp 1000] (TS c n) (.d (.bool true)) (TS c m)):
  CT 522 [.d (JQ v),.d (.int .i64 level),.mp 1000] ((TS c n).map fun x=>(x.1,some x.2)) (.d (.bool true)) (TS c m):=by
 have:=h.call (fun i=>i) (fun i hi=>by rcases JKB hi with rfl|rfl<;>decide) (fun i j _ _ h=>h) (by simp[JV,Av.get]) (JHB c n) [] (by simp[Av.get]) (ZV c n _) trivial;simp only[TS,Va,Vb]at this;simp only[TS,Va,Vb,Obj.ren,Av.ren,J3,Zs,lpS,tmS,X9,List.append_nil]at this⊢;exact this
theorem JI5(c:Dat):∀(k:Nat) (level n:Int) (v:Val),szV v≤k→0≤level→level+k≤1000000000000→0≤n→n+szV v≤1000000000000→
  KT 522 [.d (JQ v),.d (.int .i64 level),.mp 1000] (TS c n) (.d (.bool true)) (TS c (n+JCN k v))
 |0,level,n,v,h,_,_,_,_=>by have:=JG1 v;omega
 |k+1,level,n,v,h,hl,hlk,h0,h1=>by
  refine Con.Ja JIY.has fun hfit=>?_
  obtain⟨_,f2,f3,_⟩:=JJy (hfit (JQ v) sP);have hps:=JI3 v;generalize hF:n+(JCN (k+1) v:Int)=F;rw[JCN]at hF;refine JIY.co (k:=false) (ZV c n _) trivial ?_;have hy:=JOo c n level v h0 oM;have h217:=(JLC v f3).call trivial;have hpl:=JEp v f2 f3;rw[JG]at hy h217⊢;simp only[TS,go_sem,JLB,simprocAttr];refine wn hy ?_;refine JSu ?_;refine wc h217 ?_;clear h217 hy hfit;generalize hP:Uq v=ps at*;simp only[Vc];refine JH (fun r s=>∃(j:Nat) (m:Int),j≤ps.length∧r=ps.length-j∧0≤m∧m+ZG (ps.drop j)≤1000000000000∧m+(((ps.drop j).map (JCN k)).sum:Nat)=F∧
   s=⟨[(1,.d (.int .i64 level)),(2,.mp 1000),(15,.d (.list 6 (ps.map JQ))),(16,.d (.int .i64 ps.length)),(17,.d (.int .i64 j))],
    [(1000,.lp (lpS (tmS c) .ready none)),(1003,.box [.d (.int .i64 m)])]⟩) ?_ ?_
  ·refine⟨_,_,Wk.less ?_,0,n+1,Nat.zero_le _,rfl,oM,by rw[List.drop_zero];omega,by rw[←hF,List.drop_zero];push_cast;omega,rfl⟩;simp[go_sem,lpS,tmS]
  ·rintro r s ⟨j,m,hj,rfl,hm0,hm1,hinv,rfl⟩;by_cases hlt:j<ps.length
   ·have hx':=Xm hlt;have hd:=dT hlt;have hw:IntKind.i64.wrap (level+1)=level+1:=wrap64 oM oM;rw[Vq hlt,ZG]at hm1;rw[Vq hlt,Va,List.sum_cons]at hinv;have hmem:szV ps[j]≤k:=by
     have:szV ps[j]≤ZG ps:=JIW (Vk hlt);omega
    have hc:=JI4 (JI5 c k (level+1) m ps[j] hmem oM (by push_cast at hlk;omega) hm0 (by push_cast at hm1;omega));have hle:=JLW k ps[j];generalize JCN k ps[j]=V at*;rw[JG]at hc;refine zz38 ?_;refine⟨oM,wn hc ?_⟩;refine JSu ?_;refine⟨ps.length-(j+1),_,oM,Wk.less ?_,j+1,m+V,oM,rfl,oM,by push_cast at hm1;omega,by rw[←hinv];push_cast;omega,rfl⟩;simp[go_sem,Jg j oM,lpS,tmS]
   ·have hd:=dF hlt;obtain rfl:j=ps.length:=oM;rw[List.drop_length]at hinv;simp only[Vb,List.sum_nil]at hinv;obtain rfl:m=F:=oM;exact zz5 trivial
theorem JOp(v:Val)(c:Dat)(hv:szV v≤1000000):KT 521 [.mp 1000,.d (.ptr (JQ v).cells)] (TS c 0) (.tup []) (TS c (0+JCN (szV v) v)):=by
 refine JIX.co (k:=false) (ZV c 0 _) trivial ?_;have hc:=JI4 (JI5 c (szV v) 1 0 v (Nat.le_refl _) dC oM dC oM);generalize JCN (szV v) v=V at*;rw[JG]at hc⊢;simp only[TS,go_sem,JOQ,simprocAttr];refine wc hc trivial
noncomputable def lp358(c:Dat):Av.Obj:=.lp ⟨[(2,.d (.int .i64 0)),(3,.ref 3 0),(5,.d c)],11,#[6,7],ZD (YO Tryz.f330) [1,1,0,1,0,0],ZD (YO Tryz.f330) [1,1,0,1,0,1],.ready,none⟩
theorem JOq(v:Val)(c:Dat)(hv:szV v≤1000000):
  CT 521 [.mp 17,.d (.ptr (JQ v).cells)] [(17,some (lp358 c)),(3,some (.box [.d (.int .i64 0)]))] (.tup []) [(17,lp358 c),(3,.box [.d (.int .i64 (0+JCN (szV v) v))])]:=by
 have:=(JOp v c hv).call (fun i=>if i=1000 then 17 else i-1000) (fun i hi=>by rcases JKB hi with rfl|rfl<;>decide)
  (fun i j hi hj h=>by rcases JLX hi with rfl|rfl<;>rcases JLX hj with rfl|rfl<;>first|rfl|simp at h) (by simp[JV,Av.get]) (JHB c 0) [] (by simp[Av.get]) (ZV c 0 _) trivial
 simp only[TS,Va,Vb]at this;simp only[Obj.ren,Av.ren,J3,lpS,tmS,X9,List.append_nil,Nat.reduceSub,simprocAttr]at this;exact this
theorem walk330(v:Val)(hv:szV v≤1000000):PT 330 [JQ v] (.d (.int .i64 (JCN (szV v) v))):=by
 refine ok330.pc ?_;have h91:=(JLD v).call trivial;have h180:=JOq v (.fn (.func 521) [] [.ptr (JQ v).cells]) hv;rw[Int.zero_add]at h180;generalize JCN (szV v) v=V at*;rw[JG]at h91 h180⊢;simp only[go_sem,ir330,simprocAttr];refine wc h91 ?_;refine JG6 rfl rfl JIX.has h180 ⟨rfl,rfl,trivial⟩ rfl sP (.inl ⟨rfl,?_⟩);exact zz trivial
end Go.Proofs
namespace Go.Proofs
open Go Av
abbrev w64(n:Int):Int:=IntKind.i64.wrap n
def szD(g:TFl):Int:=(JCN (szV (JE4 g)) (JE4 g):Nat)
def lsR(f:Typ→Int):Int→List TFl→Int
 |n,[]=>n
 |n,g::r=>lsR f (if g.need=1 then w64 (n+f g.type)else if g.need=3 then w64 (n+szD g)else n) r
def lsB(f:Typ→Int)(t:Typ):Int:=
 if t.kind=8 then(if decide (t.min>0)=true then w64 (1+w64 (t.min*f ((t.elem[0]?).getD ty0)))else 1)
 else if t.kind=10 then w64 (1+f ((t.fields[0]?).getD tf0).type)
 else if t.kind=9 then lsR f 1 t.fields else 1
def lsF:Nat→Typ→Int
 |0,_=>0
 |k+1,t=>if 4097<lsB (lsF k) t then 4097 else lsB (lsF k) t
theorem JHC:∀(k:Nat) (t:Typ),szT t≤k→vT t→PT 234 [Jp t] (.d (.int .i64 (lsF k t)))
 |0,t,h,_=>by rw[JBd]at h;omega
 |k+1,t,h,ht=>by
  refine Jz.Ja ok234.has fun hfit=>?_
  obtain⟨hw,he,hf⟩:=JBb (hfit (Jp t) sP);have e:=JBd t;obtain⟨t1,t2,t3,t4,t5,t6⟩:=(JLU t).1 ht;refine ok234.pc ?_;generalize hR:lsF (k+1) t=R;rw[lsF]at hR;have cE:∀x∈t.elem,CT 234 [.d (Jp x)] [] (.d (.int .i64 (lsF k x))) []:=fun x hx=>(JHC k x (by have:=JCM x hx;omega) (JDp t5 x hx)).call trivial
  have cG:∀g∈t.fields,CT 234 [.d (Jp g.type)] [] (.d (.int .i64 (lsF k g.type))) []:=fun g hg=>(JHC k g.type (by have:=JAR g hg;omega) (JAt t6 g hg).2.2).call trivial
  have hD:=fun g (hg:g∈t.fields)=>(JAt t6 g hg).1
  generalize hB:lsB (lsF k) t=B at*;unfold lsB at hB;rw[JZ];have hks:t.kind=8∨t.kind=9∨t.kind=10∨(t.kind≠8∧t.kind≠9∧t.kind≠10):=oM;rcases hks with hk|hk|hk|⟨k8,k9,k10⟩
  ·rw[if_pos hk]at hB;have hl:=t2 hk;have h0:0<t.elem.length:=oM;have hx:=JAI h0;rw[Vl h0,Vp]at hB;have c:=cE t.elem[0] (Vk h0);generalize lsF k t.elem[0]=X at*;rw[JZ]at c;simp only[go_sem,JIc,hk,hx,Int.reduceBEq,Int.toNat_zero,Vc,Nat.reduceAdd,Nat.reduceEqDiff,Nat.reduceBEq,Nat.reduceLeDiff,reduceCtorEq,↓reduceIte];apply ik<;>intro h
   ·rw[if_pos h]at hB;subst hB;subst hR;refine⟨oM,JP rfl c trivial ?_⟩;refine zz ?_;decide
   ·rw[if_neg (nF h)]at hB;subst hB;subst hR
    try refine zz ?_
    exact zf
  ·rw[if_neg oM,if_neg oM,if_pos hk]at hB;have e8:(t.kind==8)=false:=by rw[hk];rfl
   have e9:(t.kind==9)=true:=by rw[hk];rfl
   have e10:(t.kind==10)=false:=by rw[hk];rfl
   simp only[go_sem,JIc,e8,e9,e10,Vc,Nat.reduceAdd,Nat.reduceEqDiff,Nat.reduceBEq,Nat.reduceLeDiff,reduceCtorEq,↓reduceIte];refine JH (fun n s=>∃(j:Nat) (m:Int),j≤t.fields.length∧n=t.fields.length-j∧lsR (lsF k) m (t.fields.drop j)=B∧
    s=⟨[(3,.d (.int .i64 m)),(36,.d (.list 11 (t.fields.map UE))),(37,.d (.int .i64 t.fields.length)),(38,.d (.int .i64 j))],[]⟩) ?_ ?_
   ·refine⟨_,_,Wk.less ?_,0,1,Nat.zero_le _,rfl,hB,rfl⟩;simp[put,go_sem]
   ·clear hB;rintro n s ⟨j,m,hj,rfl,hinv,rfl⟩;by_cases hlt:j<t.fields.length
    ·have hx:=U7 hlt;have hd:=dT hlt;have hmem:=Vk hlt;rw[Vq hlt,lsR]at hinv;have c:=cG t.fields[j] hmem;have hd3:=hD t.fields[j] hmem;generalize t.fields[j]=g at*;generalize lsF k g.type=X at*;rw[JZ]at c;refine zz6 ?_;refine⟨oM,⟨fun h=>?_,fun h=>⟨fun h2=>?_,fun h2=>?_⟩⟩⟩
     ·rw[if_pos (sX h)]at hinv;refine wc c ?_;refine⟨t.fields.length-(j+1),_,oM,Wk.less ?_,j+1,_,oM,rfl,hinv,rfl⟩;exact JMA trivial
     ·rw[if_neg (sX h),if_pos (sX h2)]at hinv;obtain⟨q1,q2⟩:=hd3 (sX h2);have h0:0<g.dflt.length:=oM;have hx3:=Xm h0;have hdf:JE4 g=g.dflt[0]:=by rw[JE4,Vl h0];rfl
      have hsz:=(chkV_sz (q2 _ (Vk h0))).1;have cs:=(walk330 g.dflt[0] oM).call trivial;unfold szD at hinv;rw[hdf]at hinv;rw[JG]at cs;simp only[go_sem,hx3,Int.toNat_zero,Vc,Nat.reduceAdd,Nat.reduceEqDiff,Nat.reduceBEq,Nat.reduceLeDiff,reduceCtorEq,↓reduceIte];refine⟨oM,wn cs ?_⟩;refine zz ?_;refine⟨t.fields.length-(j+1),_,oM,Wk.less ?_,j+1,_,oM,rfl,hinv,rfl⟩;exact JMA trivial
     ·rw[if_neg (sX h),if_neg (sX h2)]at hinv
      try refine zz ?_
      refine⟨t.fields.length-(j+1),_,oM,Wk.less ?_,j+1,_,oM,rfl,hinv,rfl⟩;exact JMA trivial
    ·have hd:=dF hlt;rw[List.drop_eq_nil_of_le oM,lsR]at hinv;subst hinv;subst hR;exact zz5 trivial
  ·rw[if_neg oM,if_pos hk]at hB;have hne:=t3 hk;have h0:0<t.fields.length:=List.length_pos_iff.2 hne;have hx:=U7 h0;rw[Vl h0,Vp]at hB;have c:=cG t.fields[0] (Vk h0);generalize lsF k t.fields[0].type=X at*;rw[JZ]at c;have e8:(t.kind==8)=false:=by rw[hk];rfl
   have e10:(t.kind==10)=true:=by rw[hk];rfl
   simp only[go_sem,JIc,e8,e10,hx,Int.toNat_zero,Vc,Nat.reduceAdd,Nat.reduceEqDiff,Nat.reduceBEq,Nat.reduceLeDiff,reduceCtorEq,↓reduceIte];subst hB;subst hR;refine⟨⟨oM,oM⟩,wn c ?_⟩;exact zz trivial
  ·rw[if_neg k8,if_neg k10,if_neg k9]at hB;have e8:(t.kind==8)=false:=sX k8;have e9:(t.kind==9)=false:=sX k9;have e10:(t.kind==10)=false:=sX k10;subst hB;subst hR;simp only[go_sem,JIc,e8,e9,e10,Nat.reduceAdd,Nat.reduceEqDiff,Nat.reduceBEq,Nat.reduceLeDiff,reduceCtorEq,↓reduceIte]
   try rfl
def gsR(f:Typ→Int):Int→List Typ→Int
 |n,[]=>n
 |n,x::r=>gsR f (if f x>n then f x else n) r
def gsF:Nat→Typ→Int
 |0,_=>0
 |k+1,t=>gsR (gsF k) (gsR (gsF k) (lsF (szT t) t) t.elem) (t.fields.map TFl.type)
theorem JHD:∀(k:Nat) (t:Typ),szT t≤k→vT t→PT 135 [Jp t] (.d (.int .i64 (gsF k t)))
 |0,t,h,_=>by rw[JBd]at h;omega
 |k+1,t,h,ht=>by
  refine Jz.Ja ok135.has fun hfit=>?_
  obtain⟨hw,he,hf⟩:=JBb (hfit (Jp t) sP);have e:=JBd t;obtain⟨t1,t2,t3,t4,t5,t6⟩:=(JLU t).1 ht;refine ok135.pc ?_;generalize hR:gsF (k+1) t=R;rw[gsF]at hR;have c0:=(JHC (szT t) t (Nat.le_refl _) ht).call trivial;have cE:∀x∈t.elem,CT 135 [.d (Jp x)] [] (.d (.int .i64 (gsF k x))) []:=fun x hx=>(JHD k x (by have:=JCM x hx;omega) (JDp t5 x hx)).call trivial
  have cG:∀g∈t.fields,CT 135 [.d (Jp g.type)] [] (.d (.int .i64 (gsF k g.type))) []:=fun g hg=>(JHD k g.type (by have:=JAR g hg;omega) (JAt t6 g hg).2.2).call trivial
  generalize lsF (szT t) t=L at*;rw[JZ]at c0;rw[JZ];simp only[go_sem,ir135,Vc,simprocAttr];refine wn c0 ?_;refine zz4 ?_;refine JH (fun n s=>∃(j:Nat) (m:Int),j≤t.elem.length∧n=t.elem.length-j∧gsR (gsF k) (gsR (gsF k) m (t.elem.drop j)) (t.fields.map TFl.type)=R∧
   s=⟨[(1,.ref 1 0),(3,.d (.int .i64 m)),(11,.d (.list 7 (t.elem.map Jp))),(12,.d (.int .i64 t.elem.length)),(13,.d (.int .i64 j))],[(1,.box [.d (.int .i64 t.kind),.d (.int .i64 t.min),.d (.int .i64 t.max),.d (.int .i64 t.scale),.d (.list 1 (t.words.map .str)),.d (.list 7 (t.elem.map Jp)),.d (.list 11 (t.fields.map UE))])]⟩) ?_ ?_
  ·exact⟨_,_,Wk.refl _,0,L,Nat.zero_le _,rfl,hR,rfl⟩
  ·clear hR c0;rintro n s ⟨j,m,hj,rfl,hinv,rfl⟩;by_cases hlt:j<t.elem.length
   ·have hx:=JAI hlt;have hd:=dT hlt;rw[Vq hlt,gsR]at hinv;have c:=cE t.elem[j] (Vk hlt);generalize gsF k t.elem[j]=X at*;rw[JZ]at c;refine zz6 ?_;refine⟨oM,wn c ?_⟩;refine zz ?_;refine⟨t.elem.length-(j+1),_,oM,Wk.less ?_,j+1,_,oM,rfl,hinv,rfl⟩;exact JMA trivial
   ·have hd:=dF hlt;rw[List.drop_eq_nil_of_le oM,gsR]at hinv;refine zz22 ?_;refine JH (fun n s=>∃(j:Nat) (m:Int),j≤t.fields.length∧n=t.fields.length-j∧gsR (gsF k) m ((t.fields.drop j).map TFl.type)=R∧
     s=⟨[(3,.d (.int .i64 m)),(23,.d (.list 11 (t.fields.map UE))),(24,.d (.int .i64 t.fields.length)),(25,.d (.int .i64 j))],[]⟩) ?_ ?_
    ·refine⟨_,_,Wk.less ?_,0,m,Nat.zero_le _,rfl,hinv,rfl⟩;simp[put,go_sem]
    ·clear hinv;rintro n s ⟨j,m,hj,rfl,hinv,rfl⟩;by_cases hlt:j<t.fields.length
     ·have hx:=U7 hlt;have hd:=dT hlt;rw[Vq hlt,Va,gsR]at hinv;have c:=cG t.fields[j] (Vk hlt);generalize gsF k t.fields[j].type=X at*;rw[JZ]at c;refine zz6 ?_;refine⟨oM,wn c ?_⟩;refine zz ?_;refine⟨t.fields.length-(j+1),_,oM,Wk.less ?_,j+1,_,oM,rfl,hinv,rfl⟩;exact JMA trivial
     ·have hd:=dF hlt;rw[List.drop_eq_nil_of_le oM,Vb,gsR]at hinv;subst hinv;exact zz5 trivial
def chkY(t:Typ):Int:=if((JAT 8 4096 t).1 !=0)=true then(JAT 8 4096 t).1 else if decide (gsF (szT t) t>4096)=true then 9 else 0
theorem walk83(t:Typ):PT 83 [Jp t] (.d (.int .i64 (chkY t))):=by
 refine ok83.pc ?_;have hc:=(JLV 8 4096 t dC dC dC).cnt (ds:=[Jp t,.int .i64 1]) 3;have hok:=JG9 8 4096 t dC;have hg:=fun h=>(JHD (szT t) t (Nat.le_refl _) h).call trivial
 generalize hR:chkY t=R;unfold chkY at hR;generalize JAT 8 4096 t=X at*;generalize gsF (szT t) t=G at*;simp only[Va,Vb,List.cons_append,List.nil_append]at hc;rw[JZ]at hc hg;rw[JZ];simp only[go_sem,ir83,simprocAttr];refine wc hc ?_;apply ik<;>intro h
 ·rw[if_pos h]at hR;subst hR;exact zz trivial
 rw[if_neg (nF h)]at hR;obtain⟨a,b,c⟩:=hok (sX h);clear h
 try refine zz ?_
 refine wc (hg a) ?_;apply ik<;>intro h
 ·rw[if_pos h]at hR;subst hR;rfl
 ·rw[if_neg (nF h)]at hR;subst hR;rfl
def JLY(i:Int)(c:Int):Bool:= !(decide (c≥97)&&decide (c≤122))&&(i==0||(c !=95&&(decide (c<48)||decide (c>57))))
def JMW:Nat→Str→Bool
 |_,[]=>true
 |i,c::r=> !JLY i c.toNat&&JMW (i+1) r
def cnS(s:Str):Bool:= !(decide ((s.length:Int)<1)||decide ((s.length:Int)>32))&&JMW 0 s
theorem JKC(s:Str):PT 95 [.str s] (.d (.bool (cnS s))):=by
 refine ok95.pc ?_;simp only[go_sem,ir95,simprocAttr];refine sq (decide ((s.length:Int)>32)) ?_ ?_
 ·exact zz trivial
 unfold cnS;refine zz ?_;cases hb:(decide ((s.length:Int)<1)||decide ((s.length:Int)>32))with
 |true=>simp only[go_sem,Vr,Bool.false_and,simprocAttr]
 |false=>
  simp only[Bool.or_eq_false_iff,decide_eq_false_iff_not]at hb;simp only[go_sem,Vs,Vt,simprocAttr];refine JH (fun r st=>∃k:Nat,k≤s.length∧r=s.length-k∧JMW k (s.drop k)=JMW 0 s∧
   st=⟨[(0,.d (.str s)),(15,.d (.int .i64 s.length)),(16,.d (.int .i64 k))],[]⟩) ?_ ?_
  ·refine⟨_,_,Wk.less ?_,0,Nat.zero_le _,rfl,rfl,rfl⟩;simp[go_sem]
  ·rintro r st ⟨k,hk,rfl,hinv,rfl⟩;by_cases hlt:k<s.length
   ·have hd:=dT hlt;have hg:s.getD k 0=s[k]:=by simp[List.getD,Vl hlt]
    rw[Vq hlt,JMW]at hinv;simp only[go_sem,hd,hg,Vv,simprocAttr];generalize((s[k].toNat:Nat):Int)=c at*;refine⟨⟨oM,oM⟩,?_⟩;refine sq (decide (c≤122)) ?_ ?_
    ·exact zz trivial
    refine zz ?_;refine sq ((k:Int)==0||(c !=95&&(decide (c<48)||decide (c>57)))) ?_ ?_
    ·refine zz ?_;refine sq (c !=95&&(decide (c<48)||decide (c>57))) ?_ ?_
     ·refine zz ?_;refine sq (decide (c<48)||decide (c>57)) ?_ ?_
      ·refine zz ?_;refine sq (decide (c>57)) ?_ ?_
       ·exact zz trivial
       exact zz trivial
      exact zz trivial
     exact zz trivial
    refine zz ?_;cases hq:JLY k c with
    |true=>
     rw[hq]at hinv;unfold JLY at hq;simp only[Vr,Bool.false_and]at hinv;rw[←hinv];simp only[go_sem,hq,simprocAttr]
    |false=>
     rw[hq]at hinv;unfold JLY at hq;simp only[Vs,Vt]at hinv;simp only[go_sem,hq,simprocAttr];refine⟨s.length-(k+1),_,oM,Wk.less ?_,k+1,oM,rfl,hinv,rfl⟩;exact zz7 trivial
   ·have hd:=dF hlt;obtain rfl:k=s.length:=oM;rw[List.drop_length,JMW]at hinv;rw[←hinv];exact zz5 trivial
def csY(c:Sch):Int:=if YG c.name then(if inI c.version 1 999 then(if c.type.kind !=9 then 11 else chkY c.type)else 2)else 12
theorem walk149(c:Sch):PT 149 [Uk c] (.d (.int .i64 (csY c))):=by
 refine ok149.pc ?_;have h1:=(JEq c.name).call trivial;have h2:=(Y7 c.version 1 999).call trivial;have h3:=(walk83 c.type).call trivial;rw[JZ]at h3;unfold csY;simp only[go_sem,ir149,Uk,simprocAttr];refine wn h1 ?_;cases YG c.name with
 |false=>simp only[go_sem,Vs,Vr,simprocAttr]
 |true=>
  refine JSu ?_;refine wn h2 ?_;cases inI c.version 1 999 with
  |false=>simp only[go_sem,Vs,simprocAttr]
  |true=>
   refine JSu ?_;cases c.type.kind !=9 with
   |true=>simp only[go_sem,simprocAttr]
   |false=>
    refine zz ?_;refine wc h3 trivial
theorem walk97(x:Rou)(cs:List Dat)(n:Str):PT 97 [U8 x,.ptr (.str n::cs)] (.d (.bool (x.name==n))):=by
 refine ok97.pc ?_;simp only[go_sem,ir97,U8,simprocAttr];simp
theorem walk98(x:Rou)(a:Dat)(cs:List Dat)(n:Str):PT 98 [U8 x,.ptr (a::.str n::cs)] (.d (.bool (x.src==n))):=by
 refine ok98.pc ?_;simp only[go_sem,ir98,U8,simprocAttr];simp
def JDW(x:Wlk):Bool:=decide ((((x.place.length+1)/2:Nat):Int)>4)
theorem walk147(x:Wlk)(h:x.place.length≤68719476736):PT 147 [Uc x] (.d (.bool (JDW x))):=by
 refine ok147.pc ?_;have hw:IntKind.i64.wrap ((x.place.length:Int)+1)=(x.place.length:Int)+1:=wrap64 oM oM;simp only[go_sem,ir147,Uc,Vc,hw,Nat.reduceAdd,Nat.reduceEqDiff,Nat.reduceBEq,Nat.reduceLeDiff,reduceCtorEq,↓reduceIte];have e:((x.place.length:Int)+1).tdiv 2=(((x.place.length+1)/2:Nat):Int):=(Int.ofNat_tdiv (x.place.length+1) 2).symm;rw[e,wrap64 oM oM];exact⟨dC,rfl⟩
theorem JKD(a b:Str)(r:List Str)(sep:Str):Lib.join (a::b::r) sep=a++(sep++Lib.join (b::r) sep):=by
 simp[Lib.join,List.intercalate,List.intersperse]
theorem join_one(a:Str)(sep:Str):Lib.join [a] sep=a:=by simp[Lib.join,List.intercalate]
theorem JI6(sep:Str)(M:Nat):∀ss:List Str,(∀s∈ss,s.length≤M)→(Lib.join ss sep).length≤ss.length*(M+sep.length)
 |[],_=>by simp[Lib.join,List.intercalate]
 |[a],h=>by
  rw[join_one];have:=h a (List.mem_singleton.2 rfl);simp only[List.length_singleton];omega
 |a::b::r,h=>by
  rw[JKD];have h1:=h a Vh;have h2:=JI6 sep M (b::r) (fun s hs=>h s (Vn _ hs));simp only[Vg,Vf]at h2⊢;rw[Nat.add_mul (r.length+1) 1];omega
def Y8(l:List Int):List Str:=l.map Lib.itoa
def JLZ(l:List Int):Prop:=∀n∈l,-9223372036854775808≤n∧n≤9223372036854775807
theorem JGH{l:List Int}(h:JLZ l)(sep:Str)(hs:sep.length≤1):(Lib.join (Y8 l) sep).length≤l.length*22:=by
 have:=JI6 sep 21 (Y8 l) (fun s hs=>by
  obtain⟨n,hn,rfl⟩:=VC.1 hs;exact Lib.itoa_length_le n (h n hn).1 (h n hn).2)
 have e:(Y8 l).length=l.length:=by simp[Y8]
 rw[e]at this;refine Nat.le_trans this (Nat.mul_le_mul_left _ oM)
theorem JGI{l:List Int}(h:fits (.list 1 (l.map (.int .i64)))):JLZ l:=by
 intro n hn;have:=UC.1 h.2 (.int .i64 n) (VC.2 ⟨n,hn,rfl⟩);have e1:IntKind.i64.min= -9223372036854775808:=dC;have e2:IntKind.i64.max=9223372036854775807:=dC;simpa only[fits,e1,e2]using this
theorem fits_int{n:Int}(h:fits (.int .i64 n)): -9223372036854775808≤n∧n≤9223372036854775807:=by
 have e1:IntKind.i64.min= -9223372036854775808:=dC;have e2:IntKind.i64.max=9223372036854775807:=dC;simpa only[fits,e1,e2]using h
theorem walk78(l:List Int)(hne:l≠[])(hl:l.length≤1000000000)(sep:Str)(hs:sep.length≤1):PT 78 [.list 1 (l.map (.int .i64)),.str sep] (.d (.str (Lib.join (Y8 l) sep))):=by
 refine Jz.Ja ok78.has fun hfit=>?_
 have hok:JLZ l:=JGI (hfit _ (Vh));clear hfit;refine ok78.pc ?_;have hj:=JK8 (Y8 l) sep (by simpa[Y8]using hne) (by have:=JGH hok sep hs;omega);simp only[go_sem,ir78,Vc,simprocAttr];refine JH (fun n s=>∃k:Nat,k≤l.length∧n=l.length-k∧
  s=⟨[(1,.d (.str sep)),(5,.ms 18 k),(8,.d (.list 1 (l.map (.int .i64)))),(9,.d (.int .i64 l.length)),(10,.d (.int .i64 k))],[(18,.row k 1 ((Y8 (l.take k)).map .str))]⟩) ?_ ?_
 ·refine⟨_,_,(Wk.JJM 5 18 1 rfl rfl dC).trans (Wk.less ?_),0,Nat.zero_le _,rfl,rfl⟩;simp[put,go_sem,Y8]
 ·rintro n s ⟨k,hk,rfl,rfl⟩;by_cases hlt:k<l.length
  ·have hx:=J0 (fun n=>Dat.int .i64 n) hlt;have hd:=dT hlt;have hc:=call110 l[k] (hok _ (Vk hlt)).1 (hok _ (Vk hlt)).2;refine zz6 ?_;refine⟨oM,dC,wn hc ?_⟩;refine zz ?_;refine⟨sP,by simp[Y8];omega,l.length-(k+1),_,oM,Wk.less ?_,k+1,oM,rfl,rfl⟩;rw[List.take_succ_eq_append_getElem hlt];simp only[go_sem,Y8,Jg k oM,Vw,Va,Vb,simprocAttr]
  ·have hd:=dF hlt;obtain rfl:k=l.length:=oM;have hc2:=JC.JKR (hp:=[(18,.row l.length 1 ((Y8 (l.take l.length)).map .str))]) (vs:=[.ms 18 l.length,.d (.str sep)]) rfl ⟨rfl,trivial,trivial⟩ (by rw[List.take_length];exact hj);refine zz5 ?_;refine wc hc2 trivial
def JLa(r:Int)(l:List Int):Str:=115::Lib.join (Y8 (r::l)) [95]
theorem walk258(r:Int)(l:List Int)(hl:l.length≤500000000):PT 258 [.int .i64 r,.list 1 (l.map (.int .i64))] (.d (.str (JLa r l))):=by
 refine Jz.Ja ok258.has fun hfit=>?_
 have hb:(Lib.join (Y8 (r::l)) [95]).length≤68719476735:=by
  have h0:JLZ (r::l):=fun n hn=>by
   rcases VA.1 hn with rfl|hn
   ·exact fits_int (hfit _ (Vh))
   ·exact JGI (hfit (.list 1 (l.map (.int .i64))) sP) n hn
  have:=JGH h0 [95] dC;simp only[Vf]at this;omega
 refine ok258.pc ?_;have hc:=(walk78 (r::l) sP sO [95] dC).call trivial;have hc2:=JC.JKR (hp:=[(6,.row 1 1 (.int .i64 r::l.map (.int .i64)))]) (vs:=[.ms 6 1,.d (.str [95])]) rfl ⟨rfl,trivial,trivial⟩ hc;simp only[go_sem,ir258,simprocAttr];refine⟨sP,sO,wn hc2 ?_⟩;simp only[go_sem,JLa,hb,simprocAttr]
def JAU(x:Wlk):Str:=orS x.step.name (JLa x.route x.place)
theorem walk179(x:Wlk)(hl:x.place.length≤500000000):PT 179 [Uc x] (.d (.str (JAU x))):=by
 refine ok179.pc ?_;have h1:=(walk258 x.route x.place hl).call trivial;have h2:=(walk257 x.step.name (JLa x.route x.place)).call trivial;unfold JAU;simp only[go_sem,ir179,Uc,simprocAttr];refine JP rfl h1 trivial ?_;refine zz ?_;refine⟨sP,JP rfl h2 trivial ?_⟩;refine zz ?_;rfl
end Go.Proofs
namespace Go.Proofs
open Go Av
variable {pd:Dat}{l:List Int}
theorem JC.JSK{P:Program}{f:Nat}{args:List Av}{T:List (Nat×Option Av.Obj)}{v:Av}{ups:List (Nat×Av.Obj)}(h:JC P (.fn f) args T v ups):JC P (.fn f) args T v.canon ups:=by
 intro β A w H vs hT hc hvs;rcases h β A w H vs hT hc hvs with⟨a1,a2⟩|⟨u,w',a1,β',A',a2,a3⟩
 ·refine .inl ⟨a1,a2.mono ?_⟩;rintro e w' ⟨u,rfl,β',A',b1,b2⟩;exact⟨u,rfl,β',A',b1,b2.JKN⟩
 ·exact .inr ⟨u,w',a1,β',A',a2,a3.JKN⟩
theorem JC.JSL{P:Program}{f:Nat}{args:List Av}{sz:Nat}(h:JC P (.fn f) args [] (.d (.nil sz)) [])(hsz:0<sz)(t:Nat):JC P (.fn f) args [(t,none)] (.ms t 0) [(t,.row 0 sz [])]:=by
 intro β A w H vs hT hc hvs;have ht:H t=none:=hT (t,none) (List.mem_singleton.2 rfl);rcases h β A w H vs (by intro e he;cases he) hc hvs with⟨a1,a2⟩|⟨u,w',a1,β',A',a2,a3⟩
 ·refine .inl ⟨a1,a2.mono ?_⟩;rintro e w' ⟨u,rfl,β',A',b1,b2⟩;have hst:=Stp.Yu (β:=β') b1.core ht hsz;exact⟨u,rfl,_,A',b1.trans hst,VRep.Yu b2.JU⟩
 ·have hst:=Stp.Yu (β:=β') a2.core ht hsz;exact .inr ⟨u,w',a1,_,A',a2.trans hst,VRep.Yu a3.JU⟩
def PD(pd:Dat)(l:List Int):Prop:=pd=.list 1 (l.map (.int .i64))∨(pd=.nil 1∧l=[])
theorem walk38(a:Dat)(r:List Dat)(ha:a.canon=a)(hr:JK r=r)(h1:∀x∈a::r,x.cells.length=1):PT 38 [.list 1 (a::r)] (.d (.list 1 (a::r))):=by
 refine Jz.Ja JOF.has fun hfit=>?_
 have hl:r.length≤68719476735:=by have:=(hfit _ (Vh)).1;simpa using this
 clear hfit;refine JOF.pc ?_;simp only[go_sem,JTH,Nat.reduceAdd,Nat.reduceEqDiff,Nat.reduceBEq,Nat.reduceLeDiff,reduceCtorEq,↓reduceIte];exact⟨sP,⟨dC,oM,fun y hy=>h1 y hy⟩,by rw[ha,hr]⟩
theorem JLb:Has Tryz.prog 38:=⟨_,Tryz.func38,kR,kR⟩
theorem call38d(hp:PD pd l):CT (.fn 38) [.d pd] [] (.d (.list 1 (l.map (.int .i64)))) []:=by
 rcases hp with rfl|⟨rfl,rfl⟩
 ·cases l with
  |nil=>exact JC.JSK (JCI JLb JMN (n:=1) (.inr rfl))
  |cons a r=>exact(walk38 (.int .i64 a) (r.map (.int .i64)) (by simp[Dat.canon]) (Xc r) (fun x hx=>by
    rcases VA.1 hx with rfl|hx
    ·rfl
    ·obtain⟨n,_,rfl⟩:=VC.1 hx;rfl)).call trivial
 ·exact JC.JSK (JCI JLb JMN (n:=1) (.inl rfl))
theorem con38f(a:Dat)(r:List Dat)(h1:∀x∈a::r,x.cells.length=1):KT 38 [.d (.list 1 (a::r))] [] (.ms 7 0) [(7,.row 0 1 (a::r))]:=by
 refine Con.Ja JOF.has fun hfit=>?_
 have hl:r.length≤68719476735:=by have:=(hfit (.list 1 (a::r)) sP).1;simpa using this
 clear hfit;refine JOF.con (k:=some true) (Nat.le_of_ble_eq_true rfl) (Jf (by simp[UH,put,Je,J8])) (by simp[JA,upd,inT,JV]) ?_;simp only[go_sem,JTH,Nat.reduceAdd,Nat.reduceEqDiff,Nat.reduceBEq,Nat.reduceLeDiff,reduceCtorEq,↓reduceIte];exact⟨sP,⟨dC,oM,fun y hy=>h1 y hy⟩⟩
theorem JLc(hp:PD pd l)(t:Nat):CT (.fn 38) [.d pd] [(t,none)] (.ms t 0) [(t,.row 0 1 (l.map (.int .i64)))]:=by
 have hcons:∀(a:Int) (r:List Int),CT (.fn 38) [.d (.list 1 ((a::r).map (.int .i64)))] [(t,none)] (.ms t 0) [(t,.row 0 1 ((a::r).map (.int .i64)))]:=by
  intro a r;have h:=(con38f (.int .i64 a) (r.map (.int .i64)) (fun x hx=>by
    rcases VA.1 hx with rfl|hx
    ·rfl
    ·obtain⟨n,_,rfl⟩:=VC.1 hx;rfl)).call (fun _=>t) (by intro j h;cases h) ?_ ?_ (by intro j o h;cases h) [7] ?_ ?_ ?_
  ·simp only[Av.ren,Obj.ren,J3,Va,Vb,List.nil_append]at h;exact h
  ·intro a b ha hb _;simp only[JA,upd,Av.get]at ha hb;split at ha
   ·split at hb
    ·omega
    ·cases hb
   ·cases ha
  ·intro c hc;simp only[List.mem_singleton]at hc;subst hc;trivial
  ·intro e he;simp only[List.mem_singleton]at he;subst he;exact .inr sP
  ·exact Jf (by simp[UH,put,Je,J8])
  ·simp[JA,upd,inT,JV]
 rcases hp with rfl|⟨rfl,rfl⟩
 ·cases l with
  |nil=>exact JC.JSL (JCI JLb JMN (n:=1) (.inr rfl)) dC t
  |cons a r=>exact hcons a r
 ·exact JC.JSL (JCI JLb JMN (n:=1) (.inl rfl)) dC t
def JO(is:Bool)(x:Prb)(o:List Prb):List Prb:=if is then o++[x]else o
abbrev LT(ro:Str)(pd:Dat)(o:List Prb):List (Nat×Av.Obj):=[(1000,.box [.d (.str ro),.d pd,.ms 1001 o.length]),(1001,.row o.length 4 (o.map Z3))]
theorem ZW(ro ro':Str)(pd pd':Dat)(o o':List Prb):closed (JA (get (LT ro pd o)) (LT ro' pd' o')):=Jf (by simp[LT,UH,put,Je,J8,JR,JV,Av.get])
theorem con94(ro:Str)(hp:PD pd l)(o:List Prb)(is:Bool)(code:Int)(nm:Str)(ho:o.length<68719476736):
  KT 94 [.ref 1000 0,.d (.bool is),.d (.int .i64 code),.d (.str nm)] (LT ro pd o) (.tup []) (LT ro pd (JO is ⟨code,ro,l,nm⟩ o)):=by
 refine ok94.con (k:=some false) (Nat.le_of_ble_eq_true rfl) (ZW _ _ _ _ _ _) trivial ?_;have hc:=call38d hp;cases is with
 |false=>simp only[LT,JO,go_sem,ir94,Vu,simprocAttr]
 |true=>
  simp only[LT,JO,go_sem,ir94,simprocAttr];refine JP rfl hc trivial ?_;refine zz ?_;exact⟨sP,sO,rfl,sP,by simp[Z3],sP,by simp[Z3]⟩
theorem JHE{ro ro':Str}{pd':Dat}{o o':List Prb}{i:Nat}(h:(JA (get (LT ro pd o)) (LT ro' pd' o') i).isSome=true):i=1000∨i=1001:=by
 refine Decidable.byContradiction fun hn=>?_
 simp only[not_or]at hn;obtain⟨a1,a2⟩:=hn;simp[LT,JA,upd,Av.get,a1,a2,Ne.symm a1,Ne.symm a2]at h
theorem JKE{ro:Str}{o:List Prb}{i:Nat}(h:(get (LT ro pd o) i).isSome=true):1000≤i:=by
 simp only[LT,Av.get]at h
 repeat' split at h
 all_goals first|(cases h;done)|omega
theorem JCr(ro:Str)(pd:Dat)(o:List Prb):closed (get (LT ro pd o)):=UK (by simp[LT,Je,J8,JR,JV,Av.get])
theorem call94(i k:Nat)(hik:i≠k)(ro:Str)(hp:PD pd l)(o:List Prb)(is:Bool)(code:Int)(nm:Str)(ho:o.length<68719476736):
  CT (.fn 94) [.ref i 0,.d (.bool is),.d (.int .i64 code),.d (.str nm)] [(i,some (.box [.d (.str ro),.d pd,.ms k o.length])),(k,some (.row o.length 4 (o.map Z3)))] (.tup [])
   [(i,.box [.d (.str ro),.d pd,.ms k (JO is ⟨code,ro,l,nm⟩ o).length]),(k,.row (JO is ⟨code,ro,l,nm⟩ o).length 4 ((JO is ⟨code,ro,l,nm⟩ o).map Z3))]:=by
 have hc:=con94 ro hp o is code nm ho;generalize JO is ⟨code,ro,l,nm⟩ o=o' at*;have h:=hc.call (fun j=>if j=1000 then i else if j=1001 then k else j) (fun j hj=>JKE hj) (fun a b ha hb h=>by
  rcases JHE ha with rfl|rfl<;>rcases JHE hb with rfl|rfl<;>first|rfl|(simp at h;omega)) (by simp[JV,Av.get]) (JCr _ _ _) [] (by simp[Av.get]) (ZW _ _ _ _ _ _) trivial
 simp only[LT,Va,Vb,Obj.ren,Av.ren,J3,ZF,List.append_nil,Nat.reduceEqDiff,↓reduceIte]at h;exact h
end Go.Proofs
namespace Go.Proofs
open Go Av
theorem JF(is:Bool)(x:Prb)(o:List Prb):(JO is x o).length≤o.length+1:=by
 unfold JO;split<;>simp
theorem p147(x:Wlk):PT 147 [Uc x] (.d (.bool (JDW x))):=Jz.Ja ok147.has fun h=>walk147 x (by
 have:=h _ (Vh);simp only[Uc,fits,Ue,Vc]at this
 omega)
theorem Zt{p:Prg}(h:fits (Jb p)):p.schemas.length≤68719476736∧p.endpoints.length≤68719476736∧p.services.length≤68719476736∧p.routes.length≤68719476736:=by
 simp only[Jb,fits,Ue,Vc]at h;omega
theorem p28(p:Prg)(n:Str)(v:Int):PT 28 [Jb p,.str n,.int .i64 v] (.tup [.d (.int .i64 (fdQ (fun x:Sch=>x.name==n&&x.version==v) p.schemas)),.d (.bool (p.schemas.any fun x=>x.name==n&&x.version==v))]):=
 Jz.Ja ok28.has fun h=>walk28 p n v (Zt (h _ (Vh))).1
theorem p27(p:Prg)(n:Str):PT 27 [Jb p,.str n] (.tup [.d (.int .i64 (fdQ (fun x:Epd=>x.name==n) p.endpoints)),.d (.bool (p.endpoints.any fun x=>x.name==n))]):=
 Jz.Ja ok27.has fun h=>walk27 p n (Zt (h _ (Vh))).2.1
theorem p260(p:Prg)(n:Str):PT 260 [Jb p,.str n] (.tup [.d (.int .i64 (fdQ (fun x:Svc=>x.name==n) p.services)),.d (.bool (p.services.any fun x=>x.name==n))]):=
 Jz.Ja ok260.has fun h=>JS9 p n (Zt (h _ (Vh))).2.2.1
theorem p150(p:Prg)(n:Str):PT 150 [Jb p,.str n] (.tup [.d (.int .i64 (Xq p.schemas n).1),.d (.bool (Xq p.schemas n).2)]):=
 Jz.Ja ok150.has fun h=>JTA p n (Zt (h _ (Vh))).1
def JOr(ro:Str)(l:List Int)(p:Prg)(w:List Wlk)(o:List Prb):List Prb:=JO (decide ((p.endpoints.length:Int)+(p.services.length:Int)+(w.length:Int)>128)) ⟨16,ro,l,[110,111,100,101,115]⟩ (JO (w.any JDW) ⟨16,ro,l,[108,101,118,101,108,115]⟩ (JO (decide ((w.length:Int)>64)) ⟨16,ro,l,[115,116,101,112,115]⟩ (JO (decide ((p.routes.length:Int)>64)) ⟨16,ro,l,[114,111,117,116,101,115]⟩ (JO (decide ((p.services.length:Int)>64)) ⟨16,ro,l,[115,101,114,118,105,99,101,115]⟩ (JO (decide ((p.endpoints.length:Int)>64)) ⟨16,ro,l,[101,110,100,112,111,105,110,116,115]⟩ (JO (decide ((p.schemas.length:Int)>64)) ⟨16,ro,l,[115,99,104,101,109,97,115]⟩ o))))))
theorem con91(ro:Str){pd:Dat}{l:List Int}(hp:PD pd l)(p:Prg)(o:List Prb)(ho:o.length≤10000000000)(hsz:Ys p.routes≤1000000000):
  KT 91 [.ref 1000 0,.d (Jb p)] (LT ro pd o) (.tup []) (LT ro pd (JOr ro l p (wkN p.routes p.routes.length) o)):=by
 refine Con.Ja ok91.has fun hfit=>?_
 obtain⟨f1,f2,f3,f4⟩:=Zt (hfit (Jb p) sP);clear hfit;have hw:=(walk41 p hsz).call trivial;have hwl:(wkN p.routes p.routes.length).length≤1000000000:=Nat.le_trans (JGy p.routes _ (Nat.le_refl _)) (Nat.le_trans (JCl _ _) hsz);generalize wkN p.routes p.routes.length=w at*;have hd:=(JS7 (cs:=[]) w (fun x _=>p147 x) oM).call trivial;unfold JOr;have w1:IntKind.i64.wrap ((p.endpoints.length:Int)+(p.services.length:Int))=(p.endpoints.length:Int)+(p.services.length:Int):=wrap64 oM oM;have w2:IntKind.i64.wrap ((p.endpoints.length:Int)+(p.services.length:Int)+(w.length:Int))=(p.endpoints.length:Int)+(p.services.length:Int)+(w.length:Int):=wrap64 oM oM;have b0:=JF (decide ((p.schemas.length:Int)>64)) ⟨16,ro,l,[115,99,104,101,109,97,115]⟩ o;have c0:=call94 1000 1001 dC ro hp o (decide ((p.schemas.length:Int)>64)) 16 [115,99,104,101,109,97,115] oM;generalize JO (decide ((p.schemas.length:Int)>64)) ⟨16,ro,l,[115,99,104,101,109,97,115]⟩ o=o0 at*;have b1:=JF (decide ((p.endpoints.length:Int)>64)) ⟨16,ro,l,[101,110,100,112,111,105,110,116,115]⟩ o0;have c1:=call94 1000 1001 dC ro hp o0 (decide ((p.endpoints.length:Int)>64)) 16 [101,110,100,112,111,105,110,116,115] oM;generalize JO (decide ((p.endpoints.length:Int)>64)) ⟨16,ro,l,[101,110,100,112,111,105,110,116,115]⟩ o0=o1 at*;have b2:=JF (decide ((p.services.length:Int)>64)) ⟨16,ro,l,[115,101,114,118,105,99,101,115]⟩ o1;have c2:=call94 1000 1001 dC ro hp o1 (decide ((p.services.length:Int)>64)) 16 [115,101,114,118,105,99,101,115] oM;generalize JO (decide ((p.services.length:Int)>64)) ⟨16,ro,l,[115,101,114,118,105,99,101,115]⟩ o1=o2 at*;have b3:=JF (decide ((p.routes.length:Int)>64)) ⟨16,ro,l,[114,111,117,116,101,115]⟩ o2;have c3:=call94 1000 1001 dC ro hp o2 (decide ((p.routes.length:Int)>64)) 16 [114,111,117,116,101,115] oM;generalize JO (decide ((p.routes.length:Int)>64)) ⟨16,ro,l,[114,111,117,116,101,115]⟩ o2=o3 at*;have b4:=JF (decide ((w.length:Int)>64)) ⟨16,ro,l,[115,116,101,112,115]⟩ o3;have c4:=call94 1000 1001 dC ro hp o3 (decide ((w.length:Int)>64)) 16 [115,116,101,112,115] oM;generalize JO (decide ((w.length:Int)>64)) ⟨16,ro,l,[115,116,101,112,115]⟩ o3=o4 at*;have b5:=JF (w.any JDW) ⟨16,ro,l,[108,101,118,101,108,115]⟩ o4;have c5:=call94 1000 1001 dC ro hp o4 (w.any JDW) 16 [108,101,118,101,108,115] oM;generalize JO (w.any JDW) ⟨16,ro,l,[108,101,118,101,108,115]⟩ o4=o5 at*;have b6:=JF (decide ((p.endpoints.length:Int)+(p.services.length:Int)+(w.length:Int)>128)) ⟨16,ro,l,[110,111,100,101,115]⟩ o5;have c6:=call94 1000 1001 dC ro hp o5 (decide ((p.endpoints.length:Int)+(p.services.length:Int)+(w.length:Int)>128)) 16 [110,111,100,101,115] oM;generalize JO (decide ((p.endpoints.length:Int)+(p.services.length:Int)+(w.length:Int)>128)) ⟨16,ro,l,[110,111,100,101,115]⟩ o5=o6 at*;refine ok91.con (k:=some false) (Nat.le_of_ble_eq_true rfl) (ZW _ _ _ _ _ _) trivial ?_;simp only[Jb]at hw;simp only[LT,go_sem,ir91,Jb,simprocAttr];refine wn hw ?_;simp only[go_sem,Vc,w1,w2,simprocAttr];refine wn c0 ?_;simp only[go_sem,Vc,w1,w2,simprocAttr];refine wn c1 ?_;simp only[go_sem,Vc,w1,w2,simprocAttr];refine wn c2 ?_;simp only[go_sem,Vc,w1,w2,simprocAttr];refine wn c3 ?_;simp only[go_sem,Vc,w1,w2,simprocAttr];refine wn c4 ?_;simp only[go_sem,Vc,w1,w2,simprocAttr];refine wn hd ?_;simp only[go_sem,Vc,w1,w2,simprocAttr];refine wn c5 ?_;simp only[go_sem,Vc,w1,w2,simprocAttr];refine wn c6 ?_;simp only[go_sem,Vc,w1,w2,simprocAttr]
theorem JOs(ro:Str)(l:List Int)(p:Prg)(w:List Wlk)(o:List Prb):(JOr ro l p w o).length≤o.length+7:=by
 unfold JOr;have:=JF (decide ((p.schemas.length:Int)>64)) ⟨16,ro,l,[115,99,104,101,109,97,115]⟩ o;have:=JF (decide ((p.endpoints.length:Int)>64)) ⟨16,ro,l,[101,110,100,112,111,105,110,116,115]⟩ (JO (decide ((p.schemas.length:Int)>64)) ⟨16,ro,l,[115,99,104,101,109,97,115]⟩ o);have:=JF (decide ((p.services.length:Int)>64)) ⟨16,ro,l,[115,101,114,118,105,99,101,115]⟩ (JO (decide ((p.endpoints.length:Int)>64)) ⟨16,ro,l,[101,110,100,112,111,105,110,116,115]⟩ (JO (decide ((p.schemas.length:Int)>64)) ⟨16,ro,l,[115,99,104,101,109,97,115]⟩ o));have:=JF (decide ((p.routes.length:Int)>64)) ⟨16,ro,l,[114,111,117,116,101,115]⟩ (JO (decide ((p.services.length:Int)>64)) ⟨16,ro,l,[115,101,114,118,105,99,101,115]⟩ (JO (decide ((p.endpoints.length:Int)>64)) ⟨16,ro,l,[101,110,100,112,111,105,110,116,115]⟩ (JO (decide ((p.schemas.length:Int)>64)) ⟨16,ro,l,[115,99,104,101,109,97,115]⟩ o)));have:=JF (decide ((w.length:Int)>64)) ⟨16,ro,l,[115,116,101,112,115]⟩ (JO (decide ((p.routes.length:Int)>64)) ⟨16,ro,l,[114,111,117,116,101,115]⟩ (JO (decide ((p.services.length:Int)>64)) ⟨16,ro,l,[115,101,114,118,105,99,101,115]⟩ (JO (decide ((p.endpoints.length:Int)>64)) ⟨16,ro,l,[101,110,100,112,111,105,110,116,115]⟩ (JO (decide ((p.schemas.length:Int)>64)) ⟨16,ro,l,[115,99,104,101,109,97,115]⟩ o))));have:=JF (w.any JDW) ⟨16,ro,l,[108,101,118,101,108,115]⟩ (JO (decide ((w.length:Int)>64)) ⟨16,ro,l,[115,116,101,112,115]⟩ (JO (decide ((p.routes.length:Int)>64)) ⟨16,ro,l,[114,111,117,116,101,115]⟩ (JO (decide ((p.services.length:Int)>64)) ⟨16,ro,l,[115,101,114,118,105,99,101,115]⟩ (JO (decide ((p.endpoints.length:Int)>64)) ⟨16,ro,l,[101,110,100,112,111,105,110,116,115]⟩ (JO (decide ((p.schemas.length:Int)>64)) ⟨16,ro,l,[115,99,104,101,109,97,115]⟩ o)))));have:=JF (decide ((p.endpoints.length:Int)+(p.services.length:Int)+(w.length:Int)>128)) ⟨16,ro,l,[110,111,100,101,115]⟩ (JO (w.any JDW) ⟨16,ro,l,[108,101,118,101,108,115]⟩ (JO (decide ((w.length:Int)>64)) ⟨16,ro,l,[115,116,101,112,115]⟩ (JO (decide ((p.routes.length:Int)>64)) ⟨16,ro,l,[114,111,117,116,101,115]⟩ (JO (decide ((p.services.length:Int)>64)) ⟨16,ro,l,[115,101,114,118,105,99,101,115]⟩ (JO (decide ((p.endpoints.length:Int)>64)) ⟨16,ro,l,[101,110,100,112,111,105,110,116,115]⟩ (JO (decide ((p.schemas.length:Int)>64)) ⟨16,ro,l,[115,99,104,101,109,97,115]⟩ o))))));omega
def YJ(p:Prg)(n:Str):Bool:=p.endpoints.any fun x=>x.name==n
def epF(p:Prg)(n:Str):Nat:=fdQ (fun x:Epd=>x.name==n) p.endpoints
def JAz(p:Prg)(n:Str):Bool:=p.services.any fun x=>x.name==n
def svF(p:Prg)(n:Str):Nat:=fdQ (fun x:Svc=>x.name==n) p.services
def JFW(p:Prg)(n:Str)(v:Int):Bool:=p.schemas.any fun x=>x.name==n&&x.version==v
def scF(p:Prg)(n:Str)(v:Int):Nat:=fdQ (fun x:Sch=>x.name==n&&x.version==v) p.schemas
theorem JOt{p:Prg}{n:Str}(h:YJ p n=true):epF p n<p.endpoints.length:=by
 refine JN9 ?_;cases e:p.endpoints with
 |nil=>simp[YJ,e]at h
 |cons x r=>simp
theorem JOu{p:Prg}{n:Str}(h:JAz p n=true):svF p n<p.services.length:=by
 refine JN9 ?_;cases e:p.services with
 |nil=>simp[JAz,e]at h
 |cons x r=>simp
def Xo(p:Prg)(n:Str):Int:=(p.endpoints[epF p n]?.map Epd.kind).getD 0
def JBf(p:Prg)(n:Str):Bool:=(p.services[svF p n]?.map Svc.undo).getD false
def JCO(p:Prg)(s:Ste)(k:Nat)(n:Str):Bool:=((JAz p n&&(s.kind==10))&&decide ((k:Int)<(s.calls.length:Int)-1))&& !JBf p n
def Xp(ro:Str)(l:List Int)(p:Prg)(s:Ste):Nat→List Kal→List Prb→List Prb
 |_,[],o=>o
 |k,c::r,o=>Xp ro l p s (k+1) r (JO (JCO p s k c.service) ⟨12,ro,l,c.service⟩ (JO (!JAz p c.service) ⟨3,ro,l,c.service⟩ o))
theorem JE5(ro:Str)(l:List Int)(p:Prg)(s:Ste):∀(k:Nat) (r:List Kal) (o:List Prb),(Xp ro l p s k r o).length≤o.length+2*r.length
 |_,[],o=>by simp[Xp]
 |k,c::r,o=>by
  rw[Xp];have h1:=JE5 ro l p s (k+1) r (JO (JCO p s k c.service) ⟨12,ro,l,c.service⟩ (JO (!JAz p c.service) ⟨3,ro,l,c.service⟩ o));have h2:=JF (JCO p s k c.service) ⟨12,ro,l,c.service⟩ (JO (!JAz p c.service) ⟨3,ro,l,c.service⟩ o);have h3:=JF (!JAz p c.service) ⟨3,ro,l,c.service⟩ o;simp only[Vf];omega
def toP(ro:Str)(l:List Int)(p:Prg)(s:Ste)(o:List Prb):List Prb:=if s.kind==13 then JO (YJ p s.text&&(Xo p s.text==1)) ⟨4,ro,l,s.text⟩ (JO (!YJ p s.text) ⟨3,ro,l,s.text⟩ o)else o
def JCP(ro:Str)(l:List Int)(p:Prg)(s:Ste)(o:List Prb):List Prb:=
 Xp ro l p s 0 s.calls (JO (!(s.schema==[])&& !(Xq p.schemas s.schema).2) ⟨3,ro,l,s.schema⟩ (toP ro l p s o))
theorem JLd(ro:Str)(l:List Int)(p:Prg)(s:Ste)(o:List Prb):(toP ro l p s o).length≤o.length+2:=by
 unfold toP;split
 ·have h2:=JF (YJ p s.text&&(Xo p s.text==1)) ⟨4,ro,l,s.text⟩ (JO (!YJ p s.text) ⟨3,ro,l,s.text⟩ o);have h3:=JF (!YJ p s.text) ⟨3,ro,l,s.text⟩ o;omega
 ·omega
theorem JGJ(ro:Str)(l:List Int)(p:Prg)(s:Ste)(o:List Prb):(JCP ro l p s o).length≤o.length+3+2*s.calls.length:=by
 unfold JCP;have h1:=JLd ro l p s o;have h2:=JF (!(s.schema==[])&& !(Xq p.schemas s.schema).2) ⟨3,ro,l,s.schema⟩ (toP ro l p s o);have h3:=JE5 ro l p s 0 s.calls (JO (!(s.schema==[])&& !(Xq p.schemas s.schema).2) ⟨3,ro,l,s.schema⟩ (toP ro l p s o));omega
set_option maxHeartbeats 2000000 in
theorem con181(ro:Str){pd:Dat}{l:List Int}(hp:PD pd l)(p:Prg)(s:Ste)(o:List Prb)(ho:o.length+3+2*s.calls.length≤10000000000):
  KT 181 [.ref 1000 0,.d (Jb p),.d (JL s)] (LT ro pd o) (.tup []) (LT ro pd (JCP ro l p s o)):=by
 refine Con.Ja ok181.has fun hfit=>?_
 obtain⟨f1,f2,f3,f4⟩:=Zt (hfit (Jb p) sP);clear hfit;have h58:=(p27 p s.text).call (by simp[J5]);have h147:=(p150 p s.schema).call (by simp[J5]);have h242:=fun n=>(p260 p n).call (by simp[J5])
 have b1:=JLd ro l p s o;generalize hO:JCP ro l p s o=O;unfold JCP at hO;refine ok181.con (k:=some false) (Nat.le_of_ble_eq_true rfl) (ZW _ _ _ _ _ _) trivial ?_;simp only[Jb]at h58 h147 h242;change JC _ _ _ _ (.tup [.d (.int .i64 (epF p s.text)),.d (.bool (YJ p s.text))]) _ at h58;change ∀n,JC _ _ _ _ (.tup [.d (.int .i64 (svF p n)),.d (.bool (JAz p n))]) _ at h242;rw[JE];simp only[LT,go_sem,ir181,Jb,Vc,Nat.reduceAdd,Nat.reduceEqDiff,Nat.reduceBEq,Nat.reduceLeDiff,reduceCtorEq,↓reduceIte];apply ik<;>intro hk
 ·have hto:toP ro l p s o=JO (YJ p s.text&&(Xo p s.text==1)) ⟨4,ro,l,s.text⟩ (JO (!YJ p s.text) ⟨3,ro,l,s.text⟩ o):=by unfold toP;rw[if_pos hk]
  have d1:=JF (!YJ p s.text) ⟨3,ro,l,s.text⟩ o;have a1:=call94 1000 1001 dC ro hp o (!YJ p s.text) 3 s.text oM;generalize JO (!YJ p s.text) ⟨3,ro,l,s.text⟩ o=o1 at*;have a2:=call94 1000 1001 dC ro hp o1 (YJ p s.text&&(Xo p s.text==1)) 4 s.text oM;rw[←hto]at a2;clear hto d1;generalize toP ro l p s o=o2 at*;refine wc h58 ?_;refine wc a1 ?_;refine J9 (Xo p s.text==1) (fun hx=>?_) ?_
  ·have hlt:=JOt hx;have hn:=J0 UW hlt;have e:Xo p s.text=p.endpoints[epF p s.text].kind:=by unfold Xo;rw[Vl hlt];rfl
   simp only[UW]at hn;simp only[go_sem,hn,e,Vv,Vc,Nat.reduceAdd,Nat.reduceEqDiff,Nat.reduceBEq,Nat.reduceLeDiff,reduceCtorEq,↓reduceIte];exact⟨⟨oM,oM⟩,dC⟩
  refine zz ?_;refine wc a2 ?_;clear a1 a2 hk;have d1:=JF (!(s.schema==[])&& !(Xq p.schemas s.schema).2) ⟨3,ro,l,s.schema⟩ o2;have a1:=call94 1000 1001 dC ro hp o2 (!(s.schema==[])&& !(Xq p.schemas s.schema).2) 3 s.schema oM;generalize JO (!(s.schema==[])&& !(Xq p.schemas s.schema).2) ⟨3,ro,l,s.schema⟩ o2=o3 at*;refine wc h147 ?_;refine sq (!(Xq p.schemas s.schema).2) ?_ ?_
  ·exact zz trivial
  refine zz ?_;refine wc a1 ?_;clear a1 h147 h58;have hcl:s.calls.length≤10000000000:=oM;refine JH (fun n st=>∃(k:Nat) (q:List Prb),k≤s.calls.length∧n=s.calls.length-k∧Xp ro l p s k (s.calls.drop k) q=O∧q.length+2*(s.calls.length-k)≤10000000000∧
   st=⟨[(0,.ref 1000 0),(4,.ref 4 0),(5,.ref 5 0),(63,.d (.list 2 (s.calls.map Jm))),(64,.d (.int .i64 s.calls.length)),(65,.d (.int .i64 k))],LT ro pd q++[(4,.box [.d (.int .i64 p.version),.d (.list 9 (p.schemas.map Uk)),.d (.list 7 (p.endpoints.map UW)),.d (.list 4 (p.services.map XM)),.d (.list 3 (p.routes.map U8))]),(5,.box [.d (.str s.name),.d (.int .i64 s.kind),.d (.int .i64 s.number),.d (.int .i64 s.time),.d (.int .i64 s.limit),.d (.str s.text),.d (.str s.schema),.d (.list 5 (s.exprs.map Jd)),.d (.list 6 (s.rules.map Uf)),.d (.list 2 (s.calls.map Jm)),.d (.list 2 (s.branches.map Jw))])]⟩) ?_ ?_
  ·refine⟨_,_,Wk.less ?_,0,o3,Nat.zero_le _,rfl,hO,oM,rfl⟩;simp[go_sem,LT]
  ·rintro n st ⟨k,q,hk,rfl,hinv,hq,rfl⟩;by_cases hlt:k<s.calls.length
   ·have hx:=J0 Jm hlt;have hd:=dT hlt;have hw:IntKind.i64.wrap ((s.calls.length:Int)-1)=(s.calls.length:Int)-1:=wrap64 oM oM;rw[Vq hlt,Xp]at hinv;simp only[Jm]at hx;generalize s.calls[k]=c at*;have h242:=h242 c.service;have d1:=JF (!JAz p c.service) ⟨3,ro,l,c.service⟩ q;have a1:=call94 1000 1001 dC ro hp q (!JAz p c.service) 3 c.service oM;generalize JO (!JAz p c.service) ⟨3,ro,l,c.service⟩ q=q1 at*;have d2:=JF (JCO p s k c.service) ⟨12,ro,l,c.service⟩ q1;have a2:=call94 1000 1001 dC ro hp q1 (JCO p s k c.service) 12 c.service oM;generalize JO (JCO p s k c.service) ⟨12,ro,l,c.service⟩ q1=q2 at*;simp only[LT,go_sem,hx,hd,Vv,Vc,Nat.reduceAdd,Nat.reduceEqDiff,Nat.reduceBEq,Nat.reduceLeDiff,reduceCtorEq,↓reduceIte];refine⟨oM,wn h242 ?_⟩;refine zz ?_;refine wc a1 ?_;refine sq (s.kind==10) ?_ ?_
    ·exact zz trivial
    refine zz ?_;refine sq (decide ((k:Int)<(s.calls.length:Int)-1)) ?_ ?_
    ·simp only[go_sem,hw,Vc,Nat.reduceAdd,Nat.reduceEqDiff,Nat.reduceBEq,Nat.reduceLeDiff,reduceCtorEq,↓reduceIte]
    refine zz ?_;refine J9 (!JBf p c.service) (fun hx=>?_) ?_
    ·have hv:JAz p c.service=true:=by
      simp only[Vi]at hx;exact hx.1.1
     have hlv:=JOu hv;have hn:=J0 XM hlv;have e:JBf p c.service=p.services[svF p c.service].undo:=by unfold JBf;rw[Vl hlv];rfl
     simp only[XM]at hn;simp only[go_sem,hn,e,Vv,Vc,Nat.reduceAdd,Nat.reduceEqDiff,Nat.reduceBEq,Nat.reduceLeDiff,reduceCtorEq,↓reduceIte];exact⟨⟨oM,oM⟩,dC⟩
    refine zz ?_;refine wc a2 ?_;refine⟨s.calls.length-(k+1),_,oM,Wk.less ?_,k+1,q2,oM,rfl,hinv,oM,rfl⟩;simp only[go_sem,LT,Jg k oM,Nat.reduceAdd,Nat.reduceEqDiff,Nat.reduceBEq,Nat.reduceLeDiff,reduceCtorEq,↓reduceIte]
   ·have hd:=dF hlt;obtain rfl:k=s.calls.length:=oM;rw[List.drop_length,Xp]at hinv;subst hinv;simp only[LT,go_sem,hd,Nat.reduceAdd,Nat.reduceEqDiff,Nat.reduceBEq,Nat.reduceLeDiff,reduceCtorEq,↓reduceIte]
 ·have hto:toP ro l p s o=o:=by unfold toP;rw[if_neg (by rw[hk];decide)]
  rw[hto]at hO;clear hto b1;generalize ho2:o=o2 at*;have b1:o2.length≤o2.length+2:=oM;have d1:=JF (!(s.schema==[])&& !(Xq p.schemas s.schema).2) ⟨3,ro,l,s.schema⟩ o2;have a1:=call94 1000 1001 dC ro hp o2 (!(s.schema==[])&& !(Xq p.schemas s.schema).2) 3 s.schema oM;generalize JO (!(s.schema==[])&& !(Xq p.schemas s.schema).2) ⟨3,ro,l,s.schema⟩ o2=o3 at*;refine wc h147 ?_;refine sq (!(Xq p.schemas s.schema).2) ?_ ?_
  ·exact zz trivial
  refine zz ?_;refine wc a1 ?_;clear a1 h147 h58;have hcl:s.calls.length≤10000000000:=oM;refine JH (fun n st=>∃(k:Nat) (q:List Prb),k≤s.calls.length∧n=s.calls.length-k∧Xp ro l p s k (s.calls.drop k) q=O∧q.length+2*(s.calls.length-k)≤10000000000∧
   st=⟨[(0,.ref 1000 0),(4,.ref 4 0),(5,.ref 5 0),(63,.d (.list 2 (s.calls.map Jm))),(64,.d (.int .i64 s.calls.length)),(65,.d (.int .i64 k))],LT ro pd q++[(4,.box [.d (.int .i64 p.version),.d (.list 9 (p.schemas.map Uk)),.d (.list 7 (p.endpoints.map UW)),.d (.list 4 (p.services.map XM)),.d (.list 3 (p.routes.map U8))]),(5,.box [.d (.str s.name),.d (.int .i64 s.kind),.d (.int .i64 s.number),.d (.int .i64 s.time),.d (.int .i64 s.limit),.d (.str s.text),.d (.str s.schema),.d (.list 5 (s.exprs.map Jd)),.d (.list 6 (s.rules.map Uf)),.d (.list 2 (s.calls.map Jm)),.d (.list 2 (s.branches.map Jw))])]⟩) ?_ ?_
  ·refine⟨_,_,Wk.less ?_,0,o3,Nat.zero_le _,rfl,hO,oM,rfl⟩;simp[go_sem,LT]
  ·rintro n st ⟨k,q,hk,rfl,hinv,hq,rfl⟩;by_cases hlt:k<s.calls.length
   ·have hx:=J0 Jm hlt;have hd:=dT hlt;have hw:IntKind.i64.wrap ((s.calls.length:Int)-1)=(s.calls.length:Int)-1:=wrap64 oM oM;rw[Vq hlt,Xp]at hinv;simp only[Jm]at hx;generalize s.calls[k]=c at*;have h242:=h242 c.service;have d1:=JF (!JAz p c.service) ⟨3,ro,l,c.service⟩ q;have a1:=call94 1000 1001 dC ro hp q (!JAz p c.service) 3 c.service oM;generalize JO (!JAz p c.service) ⟨3,ro,l,c.service⟩ q=q1 at*;have d2:=JF (JCO p s k c.service) ⟨12,ro,l,c.service⟩ q1;have a2:=call94 1000 1001 dC ro hp q1 (JCO p s k c.service) 12 c.service oM;generalize JO (JCO p s k c.service) ⟨12,ro,l,c.service⟩ q1=q2 at*;simp only[LT,go_sem,hx,hd,Vv,Vc,Nat.reduceAdd,Nat.reduceEqDiff,Nat.reduceBEq,Nat.reduceLeDiff,reduceCtorEq,↓reduceIte];refine⟨oM,wn h242 ?_⟩;refine zz ?_;refine wc a1 ?_;refine sq (s.kind==10) ?_ ?_
    ·exact zz trivial
    refine zz ?_;refine sq (decide ((k:Int)<(s.calls.length:Int)-1)) ?_ ?_
    ·simp only[go_sem,hw,Vc,Nat.reduceAdd,Nat.reduceEqDiff,Nat.reduceBEq,Nat.reduceLeDiff,reduceCtorEq,↓reduceIte]
    refine zz ?_;refine J9 (!JBf p c.service) (fun hx=>?_) ?_
    ·have hv:JAz p c.service=true:=by
      simp only[Vi]at hx;exact hx.1.1
     have hlv:=JOu hv;have hn:=J0 XM hlv;have e:JBf p c.service=p.services[svF p c.service].undo:=by unfold JBf;rw[Vl hlv];rfl
     simp only[XM]at hn;simp only[go_sem,hn,e,Vv,Vc,Nat.reduceAdd,Nat.reduceEqDiff,Nat.reduceBEq,Nat.reduceLeDiff,reduceCtorEq,↓reduceIte];exact⟨⟨oM,oM⟩,dC⟩
    refine zz ?_;refine wc a2 ?_;refine⟨s.calls.length-(k+1),_,oM,Wk.less ?_,k+1,q2,oM,rfl,hinv,oM,rfl⟩;simp only[go_sem,LT,Jg k oM,Nat.reduceAdd,Nat.reduceEqDiff,Nat.reduceBEq,Nat.reduceLeDiff,reduceCtorEq,↓reduceIte]
   ·have hd:=dF hlt;obtain rfl:k=s.calls.length:=oM;rw[List.drop_length,Xp]at hinv;subst hinv;simp only[LT,go_sem,hd,Nat.reduceAdd,Nat.reduceEqDiff,Nat.reduceBEq,Nat.reduceLeDiff,reduceCtorEq,↓reduceIte]
def mpS(ns:List Str):List (Dat×Dat):=ns.map fun s=>(.str s,.bool true)
def JE6(ns:List Str)(k:Str):List Str:=if ns.contains k then ns else ns++[k]
theorem Ju(k:Str):∀ns:List Str,UM .s (mpS ns) (.str k)=some (if ns.contains k then some (.bool true)else none)
 |[]=>rfl
 |a::r=>by
  have ih:=Ju k r;simp only[mpS,Va,UM,UQ]at ih⊢;rw[ih,List.contains_cons];cases k==a<;>simp
theorem J4(k:Str):∀ns:List Str,ZA .s (mpS ns) (.str k) (.bool true)=mpS (JE6 ns k)
 |[]=>rfl
 |a::r=>by
  have ih:=J4 k r;simp only[mpS,Va,ZA,UQ,JE6]at ih⊢;rw[ih,List.contains_cons];by_cases h:(k==a)=true
  ·have e:k=a:=sX h;subst e;simp
  ·simp only[Bool.not_eq_true]at h;simp only[h,Bool.false_or];split<;>rfl
theorem UP(c:Bool):(if c=true then some (Dat.bool true)else none).getD (.bool false)=.bool c:=by cases c<;>rfl
abbrev LM(ro:Str)(pd:Dat)(o:List Prb)(ns:List Str):List (Nat×Av.Obj):=LT ro pd o++[(1002,.mapo (mpS ns))]
def JE7(ro:Str)(l:List Int)(p:Prg):Nat→List Sch→List Prb→List Prb
 |_,[],o=>o
 |i,x::r,o=>JE7 ro l p (i+1) r (JO (decide ((scF p x.name x.version:Int)<(i:Int))) ⟨2,ro,l,x.name⟩ (JO (cnS x.name&&(csY x !=0)) ⟨5,ro,l,x.name⟩ (JO (!cnS x.name) ⟨1,ro,l,x.name⟩ (o))))
def JBg(ro:Str)(l:List Int)(p:Prg):List Epd→List Str×List Prb→List Str×List Prb
 |[],s=>s
 |x::r,(ns,o)=>JBg ro l p r (JE6 ns x.name,JO (!JFW p x.schema x.version) ⟨3,ro,l,x.schema⟩ (JO (!inR x.kind 1 3|| !inR x.fkind 1 4) ⟨5,ro,l,x.name⟩ (JO (ns.contains x.name) ⟨2,ro,l,x.name⟩ (JO (!cnS x.name) ⟨1,ro,l,x.name⟩ (o)))))
def JE8(ro:Str)(l:List Int)(p:Prg):List Svc→List Str×List Prb→List Str×List Prb
 |[],s=>s
 |x::r,(ns,o)=>JE8 ro l p r (JE6 ns x.name,JO (!(Xq p.schemas x.reply).2) ⟨3,ro,l,x.reply⟩ (JO (!(Xq p.schemas x.request).2) ⟨3,ro,l,x.request⟩ (JO (ns.contains x.name) ⟨2,ro,l,x.name⟩ (JO (!cnS x.name) ⟨1,ro,l,x.name⟩ (o)))))
def thP(ro:Str)(l:List Int)(p:Prg)(ns:List Str)(o:List Prb):List Str×List Prb:=
 JE8 ro l p p.services (JBg ro l p p.endpoints (ns,JE7 ro l p 0 p.schemas (JO (!inR p.version 1 999) ⟨5,ro,l,[118,101,114,115,105,111,110]⟩ o)))
theorem JI7(ro:Str)(l:List Int)(p:Prg):∀(r:List Sch) (i:Nat) (o:List Prb),(JE7 ro l p i r o).length≤o.length+3*r.length
 |[],i,o=>by simp[JE7]
 |x::r,i,o=>by
  rw[JE7];have:=JF (!cnS x.name) ⟨1,ro,l,x.name⟩ (o);have:=JF (cnS x.name&&(csY x !=0)) ⟨5,ro,l,x.name⟩ (JO (!cnS x.name) ⟨1,ro,l,x.name⟩ (o));have:=JF (decide ((scF p x.name x.version:Int)<(i:Int))) ⟨2,ro,l,x.name⟩ (JO (cnS x.name&&(csY x !=0)) ⟨5,ro,l,x.name⟩ (JO (!cnS x.name) ⟨1,ro,l,x.name⟩ (o)));have:=JI7 ro l p r (i+1) (JO (decide ((scF p x.name x.version:Int)<(i:Int))) ⟨2,ro,l,x.name⟩ (JO (cnS x.name&&(csY x !=0)) ⟨5,ro,l,x.name⟩ (JO (!cnS x.name) ⟨1,ro,l,x.name⟩ (o))));simp only[Vf];omega
theorem JI8(ro:Str)(l:List Int)(p:Prg):∀(r:List Epd) (s:List Str×List Prb),(JBg ro l p r s).2.length≤s.2.length+4*r.length
 |[],s=>by simp[JBg]
 |x::r,(ns,o)=>by
  rw[JBg];have:=JF (!cnS x.name) ⟨1,ro,l,x.name⟩ (o);have:=JF (ns.contains x.name) ⟨2,ro,l,x.name⟩ (JO (!cnS x.name) ⟨1,ro,l,x.name⟩ (o));have:=JF (!inR x.kind 1 3|| !inR x.fkind 1 4) ⟨5,ro,l,x.name⟩ (JO (ns.contains x.name) ⟨2,ro,l,x.name⟩ (JO (!cnS x.name) ⟨1,ro,l,x.name⟩ (o)));have:=JF (!JFW p x.schema x.version) ⟨3,ro,l,x.schema⟩ (JO (!inR x.kind 1 3|| !inR x.fkind 1 4) ⟨5,ro,l,x.name⟩ (JO (ns.contains x.name) ⟨2,ro,l,x.name⟩ (JO (!cnS x.name) ⟨1,ro,l,x.name⟩ (o))));have:=JI8 ro l p r (JE6 ns x.name,JO (!JFW p x.schema x.version) ⟨3,ro,l,x.schema⟩ (JO (!inR x.kind 1 3|| !inR x.fkind 1 4) ⟨5,ro,l,x.name⟩ (JO (ns.contains x.name) ⟨2,ro,l,x.name⟩ (JO (!cnS x.name) ⟨1,ro,l,x.name⟩ (o)))));simp only[Vf]at this⊢;omega
theorem JI9(ro:Str)(l:List Int)(p:Prg):∀(r:List Svc) (s:List Str×List Prb),(JE8 ro l p r s).2.length≤s.2.length+4*r.length
 |[],s=>by simp[JE8]
 |x::r,(ns,o)=>by
  rw[JE8];have:=JF (!cnS x.name) ⟨1,ro,l,x.name⟩ (o);have:=JF (ns.contains x.name) ⟨2,ro,l,x.name⟩ (JO (!cnS x.name) ⟨1,ro,l,x.name⟩ (o));have:=JF (!(Xq p.schemas x.request).2) ⟨3,ro,l,x.request⟩ (JO (ns.contains x.name) ⟨2,ro,l,x.name⟩ (JO (!cnS x.name) ⟨1,ro,l,x.name⟩ (o)));have:=JF (!(Xq p.schemas x.reply).2) ⟨3,ro,l,x.reply⟩ (JO (!(Xq p.schemas x.request).2) ⟨3,ro,l,x.request⟩ (JO (ns.contains x.name) ⟨2,ro,l,x.name⟩ (JO (!cnS x.name) ⟨1,ro,l,x.name⟩ (o))));have:=JI9 ro l p r (JE6 ns x.name,JO (!(Xq p.schemas x.reply).2) ⟨3,ro,l,x.reply⟩ (JO (!(Xq p.schemas x.request).2) ⟨3,ro,l,x.request⟩ (JO (ns.contains x.name) ⟨2,ro,l,x.name⟩ (JO (!cnS x.name) ⟨1,ro,l,x.name⟩ (o)))));simp only[Vf]at this⊢;omega
theorem thP_len(ro:Str)(l:List Int)(p:Prg)(ns:List Str)(o:List Prb):(thP ro l p ns o).2.length≤o.length+1+3*p.schemas.length+4*p.endpoints.length+4*p.services.length:=by
 unfold thP;have h0:=JF (!inR p.version 1 999) ⟨5,ro,l,[118,101,114,115,105,111,110]⟩ o;have h1:=JI7 ro l p p.schemas 0 (JO (!inR p.version 1 999) ⟨5,ro,l,[118,101,114,115,105,111,110]⟩ o);have h2:=JI8 ro l p p.endpoints (ns,JE7 ro l p 0 p.schemas (JO (!inR p.version 1 999) ⟨5,ro,l,[118,101,114,115,105,111,110]⟩ o));have h3:=JI9 ro l p p.services (JBg ro l p p.endpoints (ns,JE7 ro l p 0 p.schemas (JO (!inR p.version 1 999) ⟨5,ro,l,[118,101,114,115,105,111,110]⟩ o)));simp only at h2;omega
theorem JAV(ro ro':Str)(pd pd':Dat)(o o':List Prb)(ns ns':List Str):closed (JA (get (LM ro pd o ns)) (LM ro' pd' o' ns')):=Jf (by simp[LM,LT,UH,put,Je,J8,JR,JV,Av.get])
theorem JCs(ro:Str)(pd:Dat)(o:List Prb)(ns:List Str):closed (get (LM ro pd o ns)):=UK (by simp[LM,LT,Je,J8,JR,JV,Av.get])
set_option maxHeartbeats 4000000 in
theorem con92(ro:Str){pd:Dat}{l:List Int}(hp:PD pd l)(p:Prg)(ns:List Str)(o:List Prb)(ho:o.length+1+3*p.schemas.length+4*p.endpoints.length+4*p.services.length≤10000000000):
    Con Tryz.prog 92 [.ref 1000 0,.d (Jb p),.mp 1002] (LM ro pd o ns) (.tup []) (LM ro pd (thP ro l p ns o).2 (thP ro l p ns o).1):=by
  generalize hO:thP ro l p ns o=O
  unfold thP at hO
  refine ok92.con (k:=some false) (Nat.le_of_ble_eq_true rfl) (JAV _ _ _ _ _ _ _ _) trivial ?_
  have h146:=fun n a b=>(X2 n a b).call trivial
  have h82:=fun s=>(JKC s).call trivial
  have h91:=fun c=>(walk149 c).call trivial
  have h52:=fun n v=>(p28 p n v).call (by simp[J5])
  have h147:=fun n=>(p150 p n).call (by simp[J5])
  simp only[Jb]at h52 h147
  change ∀n v,JC _ _ _ _ (.tup [.d (.int .i64 (scF p n v)),.d (.bool (JFW p n v))]) _ at h52
  have d0:=JF (!inR p.version 1 999) ⟨5,ro,l,[118,101,114,115,105,111,110]⟩ o
  have a0:=call94 1000 1001 (by decide) ro hp o (!inR p.version 1 999) 5 [118,101,114,115,105,111,110] (by omega)
  generalize JO (!inR p.version 1 999) ⟨5,ro,l,[118,101,114,115,105,111,110]⟩ o=o1 at*
  simp only[LM,LT,go_sem,ir92,Jb,Vc,Nat.reduceAdd,Nat.reduceEqDiff,Nat.reduceBEq,Nat.reduceLeDiff,reduceCtorEq,↓reduceIte]
  refine JI rfl (h146 p.version 1 999) trivial ?_
  simp only[go_sem,Ju,J4,UP,Nat.reduceAdd,Nat.reduceEqDiff,Nat.reduceBEq,Nat.reduceLeDiff,reduceCtorEq,↓reduceIte]
  refine JI rfl a0 ⟨rfl,rfl,trivial⟩ ?_
  simp only[go_sem,Ju,J4,UP,Nat.reduceAdd,Nat.reduceEqDiff,Nat.reduceBEq,Nat.reduceLeDiff,reduceCtorEq,↓reduceIte]
  generalize hQ1:JE7 ro l p 0 p.schemas o1=Q1 at*
  refine JH (fun n st=>∃(k:Nat) (q:List Prb),k≤p.schemas.length∧n=p.schemas.length-k∧JE7 ro l p k (p.schemas.drop k) q=Q1∧q.length+3*(p.schemas.length-k)+4*p.endpoints.length+4*p.services.length≤10000000000∧
      st=⟨[(0,.ref 1000 0),(2,.mp 1002),(4,.ref 4 0),(28,.d (.list 9 (p.schemas.map Uk))),(29,.d (.int .i64 p.schemas.length)),(30,.d (.int .i64 k))],LM ro pd q ns++[(4,.box [.d (.int .i64 p.version),.d (.list 9 (p.schemas.map Uk)),.d (.list 7 (p.endpoints.map UW)),.d (.list 4 (p.services.map XM)),.d (.list 3 (p.routes.map U8))])]⟩) ?_ ?_
  · refine⟨_,_,Wk.less ?_,0,o1,Nat.zero_le _,rfl,hQ1,by omega,rfl⟩
    simp[go_sem,LM,LT]
  · rintro n st ⟨i,q,hk,rfl,hinv,hq,rfl⟩
    by_cases hlt:i<p.schemas.length
    · have hx:=J0 Uk hlt
      have hd:decide ((i:Int)<(p.schemas.length:Int))=true:=by simp;omega
      rw[Vq hlt,JE7]at hinv
      generalize p.schemas[i]=x at*
      have h91:=h91 x
      simp only[Uk]at hx
      simp only[Uk,Va,Vb]at h91
      clear a0 d0
      have d0:=JF (!cnS x.name) ⟨1,ro,l,x.name⟩ q
      have a0:=call94 1000 1001 (by decide) ro hp q (!cnS x.name) 1 x.name (by omega)
      generalize JO (!cnS x.name) ⟨1,ro,l,x.name⟩ q=q0 at*
      have d1:=JF (cnS x.name&&(csY x !=0)) ⟨5,ro,l,x.name⟩ q0
      have a1:=call94 1000 1001 (by decide) ro hp q0 (cnS x.name&&(csY x !=0)) 5 x.name (by omega)
      generalize JO (cnS x.name&&(csY x !=0)) ⟨5,ro,l,x.name⟩ q0=q1 at*
      have d2:=JF (decide ((scF p x.name x.version:Int)<(i:Int))) ⟨2,ro,l,x.name⟩ q1
      have a2:=call94 1000 1001 (by decide) ro hp q1 (decide ((scF p x.name x.version:Int)<(i:Int))) 2 x.name (by omega)
      generalize JO (decide ((scF p x.name x.version:Int)<(i:Int))) ⟨2,ro,l,x.name⟩ q1=q2 at*
      simp only[LM,LT,go_sem,hx,hd,Vv,Vc,Nat.reduceAdd,Nat.reduceEqDiff,Nat.reduceBEq,Nat.reduceLeDiff,reduceCtorEq,↓reduceIte]
      refine⟨by omega,JI rfl (h82 x.name) trivial ?_⟩
      simp only[go_sem,Nat.reduceAdd,Nat.reduceEqDiff,Nat.reduceBEq,Nat.reduceLeDiff,reduceCtorEq,↓reduceIte]
      refine JI rfl (h52 x.name x.version) trivial ?_
      simp only[go_sem,Ju,J4,UP,Nat.reduceAdd,Nat.reduceEqDiff,Nat.reduceBEq,Nat.reduceLeDiff,reduceCtorEq,↓reduceIte]
      refine JI rfl a0 ⟨rfl,rfl,trivial⟩ ?_
      simp only[go_sem,Ju,J4,UP,Nat.reduceAdd,Nat.reduceEqDiff,Nat.reduceBEq,Nat.reduceLeDiff,reduceCtorEq,↓reduceIte]
      refine⟨csY x !=0,_,[([7],[]),([],[]),([],[])],rfl,fun _=>JP rfl h91 trivial ?_,fun _=>rfl,?_⟩
      · simp only[go_sem,Nat.reduceAdd,Nat.reduceEqDiff,Nat.reduceBEq,Nat.reduceLeDiff,reduceCtorEq,↓reduceIte]
        try exact⟨rfl,rfl,rfl⟩
      simp only[go_sem,Nat.reduceAdd,Nat.reduceEqDiff,Nat.reduceBEq,Nat.reduceLeDiff,reduceCtorEq,↓reduceIte]
      refine JP rfl a1 ⟨rfl,rfl,trivial⟩ ?_
      simp only[go_sem,Ju,J4,UP,Nat.reduceAdd,Nat.reduceEqDiff,Nat.reduceBEq,Nat.reduceLeDiff,reduceCtorEq,↓reduceIte]
      refine⟨rfl,?_⟩
      refine JI rfl a2 ⟨rfl,rfl,trivial⟩ ?_
      simp only[go_sem,Ju,J4,UP,Nat.reduceAdd,Nat.reduceEqDiff,Nat.reduceBEq,Nat.reduceLeDiff,reduceCtorEq,↓reduceIte]
      refine⟨p.schemas.length-(i+1),_,by omega,Wk.less ?_,i+1,q2,by omega,rfl,hinv,by omega,rfl⟩
      simp only[go_sem,LM,LT,Jg i (by omega),Nat.reduceAdd,Nat.reduceEqDiff,Nat.reduceBEq,Nat.reduceLeDiff,reduceCtorEq,↓reduceIte]
    · have hd:decide ((i:Int)<(p.schemas.length:Int))=false:=by simp;omega
      obtain rfl:i=p.schemas.length:=by omega
      rw[List.drop_length,JE7]at hinv
      subst hinv
      simp only[LM,LT,go_sem,hd,Vc,Nat.reduceAdd,Nat.reduceEqDiff,Nat.reduceBEq,Nat.reduceLeDiff,reduceCtorEq,↓reduceIte]
      generalize hQ2:JBg ro l p p.endpoints (ns,q)=Q2 at*
      refine JH (fun n st=>∃(k:Nat) (t:List Str×List Prb),k≤p.endpoints.length∧n=p.endpoints.length-k∧JBg ro l p (p.endpoints.drop k) t=Q2∧t.2.length+4*(p.endpoints.length-k)+4*p.services.length≤10000000000∧
          st=⟨[(0,.ref 1000 0),(2,.mp 1002),(4,.ref 4 0),(72,.d (.list 7 (p.endpoints.map UW))),(73,.d (.int .i64 p.endpoints.length)),(74,.d (.int .i64 k))],LM ro pd t.2 t.1++[(4,.box [.d (.int .i64 p.version),.d (.list 9 (p.schemas.map Uk)),.d (.list 7 (p.endpoints.map UW)),.d (.list 4 (p.services.map XM)),.d (.list 3 (p.routes.map U8))])]⟩) ?_ ?_
      · refine⟨_,_,Wk.less ?_,0,(ns,q),Nat.zero_le _,rfl,hQ2,by simp only;omega,rfl⟩
        simp[go_sem,LM,LT]
      · rintro n st ⟨i,⟨ns,q⟩,hk,rfl,hinv,hq,rfl⟩
        simp only at hq
        by_cases hlt:i<p.endpoints.length
        · have hx:=J0 UW hlt
          have hd:decide ((i:Int)<(p.endpoints.length:Int))=true:=by simp;omega
          rw[Vq hlt,JBg]at hinv
          generalize p.endpoints[i]=x at*
          simp only[UW]at hx
          clear a0 d0
          have d0:=JF (!cnS x.name) ⟨1,ro,l,x.name⟩ q
          have a0:=call94 1000 1001 (by decide) ro hp q (!cnS x.name) 1 x.name (by omega)
          generalize JO (!cnS x.name) ⟨1,ro,l,x.name⟩ q=q0 at*
          have d1:=JF (ns.contains x.name) ⟨2,ro,l,x.name⟩ q0
          have a1:=call94 1000 1001 (by decide) ro hp q0 (ns.contains x.name) 2 x.name (by omega)
          generalize JO (ns.contains x.name) ⟨2,ro,l,x.name⟩ q0=q1 at*
          have d2:=JF (!inR x.kind 1 3|| !inR x.fkind 1 4) ⟨5,ro,l,x.name⟩ q1
          have a2:=call94 1000 1001 (by decide) ro hp q1 (!inR x.kind 1 3|| !inR x.fkind 1 4) 5 x.name (by omega)
          generalize JO (!inR x.kind 1 3|| !inR x.fkind 1 4) ⟨5,ro,l,x.name⟩ q1=q2 at*
          have d3:=JF (!JFW p x.schema x.version) ⟨3,ro,l,x.schema⟩ q2
          have a3:=call94 1000 1001 (by decide) ro hp q2 (!JFW p x.schema x.version) 3 x.schema (by omega)
          generalize JO (!JFW p x.schema x.version) ⟨3,ro,l,x.schema⟩ q2=q3 at*
          simp only[LM,LT,go_sem,hx,hd,Vv,Vc,Nat.reduceAdd,Nat.reduceEqDiff,Nat.reduceBEq,Nat.reduceLeDiff,reduceCtorEq,↓reduceIte]
          refine⟨by omega,JI rfl (h52 x.schema x.version) trivial ?_⟩
          simp only[go_sem,Nat.reduceAdd,Nat.reduceEqDiff,Nat.reduceBEq,Nat.reduceLeDiff,reduceCtorEq,↓reduceIte]
          refine JP rfl (h82 x.name) trivial ?_
          simp only[go_sem,Ju,J4,UP,Nat.reduceAdd,Nat.reduceEqDiff,Nat.reduceBEq,Nat.reduceLeDiff,reduceCtorEq,↓reduceIte]
          refine JP rfl a0 ⟨rfl,rfl,trivial⟩ ?_
          simp only[go_sem,Ju,J4,UP,Nat.reduceAdd,Nat.reduceEqDiff,Nat.reduceBEq,Nat.reduceLeDiff,reduceCtorEq,↓reduceIte]
          refine⟨rfl,?_⟩
          refine JI rfl a1 ⟨rfl,rfl,trivial⟩ ?_
          simp only[go_sem,Ju,J4,UP,Nat.reduceAdd,Nat.reduceEqDiff,Nat.reduceBEq,Nat.reduceLeDiff,reduceCtorEq,↓reduceIte]
          refine JP rfl (h146 x.kind 1 3) trivial ?_
          simp only[go_sem,Ju,J4,UP,Nat.reduceAdd,Nat.reduceEqDiff,Nat.reduceBEq,Nat.reduceLeDiff,reduceCtorEq,↓reduceIte]
          refine⟨!inR x.fkind 1 4,_,[([],[]),([],[]),([12],[]),([],[]),([],[])],rfl,fun _=>JP rfl (h146 x.fkind 1 4) trivial ?_,fun _=>rfl,?_⟩
          · simp only[go_sem,Nat.reduceAdd,Nat.reduceEqDiff,Nat.reduceBEq,Nat.reduceLeDiff,reduceCtorEq,↓reduceIte]
            try exact⟨rfl,rfl,rfl⟩
          simp only[go_sem,Nat.reduceAdd,Nat.reduceEqDiff,Nat.reduceBEq,Nat.reduceLeDiff,reduceCtorEq,↓reduceIte]
          refine JP rfl a2 ⟨rfl,rfl,trivial⟩ ?_
          simp only[go_sem,Ju,J4,UP,Nat.reduceAdd,Nat.reduceEqDiff,Nat.reduceBEq,Nat.reduceLeDiff,reduceCtorEq,↓reduceIte]
          refine⟨rfl,?_⟩
          refine JI rfl a3 ⟨rfl,rfl,trivial⟩ ?_
          simp only[go_sem,Ju,J4,UP,Nat.reduceAdd,Nat.reduceEqDiff,Nat.reduceBEq,Nat.reduceLeDiff,reduceCtorEq,↓reduceIte]
          refine⟨p.endpoints.length-(i+1),_,by omega,Wk.less ?_,i+1,(JE6 ns x.name,q3),by omega,rfl,hinv,by simp only;omega,rfl⟩
          simp only[go_sem,LM,LT,Jg i (by omega),Nat.reduceAdd,Nat.reduceEqDiff,Nat.reduceBEq,Nat.reduceLeDiff,reduceCtorEq,↓reduceIte]
        · have hd:decide ((i:Int)<(p.endpoints.length:Int))=false:=by simp;omega
          obtain rfl:i=p.endpoints.length:=by omega
          rw[List.drop_length,JBg]at hinv
          subst hinv
          simp only[LM,LT,go_sem,hd,Vc,Nat.reduceAdd,Nat.reduceEqDiff,Nat.reduceBEq,Nat.reduceLeDiff,reduceCtorEq,↓reduceIte]
          refine JH (fun n st=>∃(k:Nat) (t:List Str×List Prb),k≤p.services.length∧n=p.services.length-k∧JE8 ro l p (p.services.drop k) t=O∧t.2.length+4*(p.services.length-k)≤10000000000∧
              st=⟨[(0,.ref 1000 0),(2,.mp 1002),(4,.ref 4 0),(129,.d (.list 4 (p.services.map XM))),(130,.d (.int .i64 p.services.length)),(131,.d (.int .i64 k))],LM ro pd t.2 t.1++[(4,.box [.d (.int .i64 p.version),.d (.list 9 (p.schemas.map Uk)),.d (.list 7 (p.endpoints.map UW)),.d (.list 4 (p.services.map XM)),.d (.list 3 (p.routes.map U8))])]⟩) ?_ ?_
          · refine⟨_,_,Wk.less ?_,0,(ns,q),Nat.zero_le _,rfl,hO,by simp only;omega,rfl⟩
            simp[go_sem,LM,LT]
          · rintro n st ⟨i,⟨ns,q⟩,hk,rfl,hinv,hq,rfl⟩
            simp only at hq
            by_cases hlt:i<p.services.length
            · have hx:=J0 XM hlt
              have hd:decide ((i:Int)<(p.services.length:Int))=true:=by simp;omega
              rw[Vq hlt,JE8]at hinv
              generalize p.services[i]=x at*
              simp only[XM]at hx
              clear a0 d0
              have d0:=JF (!cnS x.name) ⟨1,ro,l,x.name⟩ q
              have a0:=call94 1000 1001 (by decide) ro hp q (!cnS x.name) 1 x.name (by omega)
              generalize JO (!cnS x.name) ⟨1,ro,l,x.name⟩ q=q0 at*
              have d1:=JF (ns.contains x.name) ⟨2,ro,l,x.name⟩ q0
              have a1:=call94 1000 1001 (by decide) ro hp q0 (ns.contains x.name) 2 x.name (by omega)
              generalize JO (ns.contains x.name) ⟨2,ro,l,x.name⟩ q0=q1 at*
              have d2:=JF (!(Xq p.schemas x.request).2) ⟨3,ro,l,x.request⟩ q1
              have a2:=call94 1000 1001 (by decide) ro hp q1 (!(Xq p.schemas x.request).2) 3 x.request (by omega)
              generalize JO (!(Xq p.schemas x.request).2) ⟨3,ro,l,x.request⟩ q1=q2 at*
              have d3:=JF (!(Xq p.schemas x.reply).2) ⟨3,ro,l,x.reply⟩ q2
              have a3:=call94 1000 1001 (by decide) ro hp q2 (!(Xq p.schemas x.reply).2) 3 x.reply (by omega)
              generalize JO (!(Xq p.schemas x.reply).2) ⟨3,ro,l,x.reply⟩ q2=q3 at*
              simp only[LM,LT,go_sem,hx,hd,Vv,Vc,Nat.reduceAdd,Nat.reduceEqDiff,Nat.reduceBEq,Nat.reduceLeDiff,reduceCtorEq,↓reduceIte]
              refine⟨by omega,JI rfl (h147 x.request) trivial ?_⟩
              simp only[go_sem,Nat.reduceAdd,Nat.reduceEqDiff,Nat.reduceBEq,Nat.reduceLeDiff,reduceCtorEq,↓reduceIte]
              refine JI rfl (h147 x.reply) trivial ?_
              simp only[go_sem,Ju,J4,UP,Nat.reduceAdd,Nat.reduceEqDiff,Nat.reduceBEq,Nat.reduceLeDiff,reduceCtorEq,↓reduceIte]
              refine JP rfl (h82 x.name) trivial ?_
              simp only[go_sem,Ju,J4,UP,Nat.reduceAdd,Nat.reduceEqDiff,Nat.reduceBEq,Nat.reduceLeDiff,reduceCtorEq,↓reduceIte]
              refine JP rfl a0 ⟨rfl,rfl,trivial⟩ ?_
              simp only[go_sem,Ju,J4,UP,Nat.reduceAdd,Nat.reduceEqDiff,Nat.reduceBEq,Nat.reduceLeDiff,reduceCtorEq,↓reduceIte]
              refine⟨rfl,?_⟩
              refine JI rfl a1 ⟨rfl,rfl,trivial⟩ ?_
              simp only[go_sem,Ju,J4,UP,Nat.reduceAdd,Nat.reduceEqDiff,Nat.reduceBEq,Nat.reduceLeDiff,reduceCtorEq,↓reduceIte]
              refine JI rfl a2 ⟨rfl,rfl,trivial⟩ ?_
              simp only[go_sem,Ju,J4,UP,Nat.reduceAdd,Nat.reduceEqDiff,Nat.reduceBEq,Nat.reduceLeDiff,reduceCtorEq,↓reduceIte]
              refine JI rfl a3 ⟨rfl,rfl,trivial⟩ ?_
              simp only[go_sem,Ju,J4,UP,Nat.reduceAdd,Nat.reduceEqDiff,Nat.reduceBEq,Nat.reduceLeDiff,reduceCtorEq,↓reduceIte]
              refine⟨p.services.length-(i+1),_,by omega,Wk.less ?_,i+1,(JE6 ns x.name,q3),by omega,rfl,hinv,by simp only;omega,rfl⟩
              simp only[go_sem,LM,LT,Jg i (by omega),Nat.reduceAdd,Nat.reduceEqDiff,Nat.reduceBEq,Nat.reduceLeDiff,reduceCtorEq,↓reduceIte]
            · have hd:decide ((i:Int)<(p.services.length:Int))=false:=by simp;omega
              obtain rfl:i=p.services.length:=by omega
              rw[List.drop_length,JE8]at hinv
              subst hinv
              simp only[LM,LT,go_sem,hd,Vc,Nat.reduceAdd,Nat.reduceEqDiff,Nat.reduceBEq,Nat.reduceLeDiff,reduceCtorEq,↓reduceIte]
end Go.Proofs
namespace Go.Proofs
open Go Av
variable {i:Nat}{pd:Dat}
theorem JC.seeFrz{P:Program}{f:Nat}{args:List Av}{v:Av}{ups:List (Nat×Av.Obj)}{T:List (Nat×Option Av.Obj)}{k sz j ver:Nat}{cs:List Av}{xs:List Dat}
  (h:JC P (.fn f) args ((i,some (.box (cs.set j (.d (.list sz xs)))))::T) v ups)(hT:∀e∈T,e.1≠i)(hj:cs[j]? =some (.ms k ver))
  (hui:(get ups i).isSome=true):JC P (.fn f) args ((i,some (.box cs))::(k,some (.frz ver sz xs))::T) v ups:=by
 intro β A w H vs hT' hc hvs;have hi:H i=some (.box cs):=hT' (i,some (.box cs)) Vh;have hk:H k=some (.frz ver sz xs):=hT' (k,_) (Vn _ Vh);have hst:=Stp.JKQ (cs':=cs.set j (.d (.list sz xs))) hc hi sP (fun n c c' u h1 h2 hv=>by
  rcases JGw hj h1 h2 with⟨_,rfl,rfl⟩|rfl
  ·cases hv with
   |ms _ _ _ hu h0 h1 h2=>exact .d _ _ (h2 sz xs hk)
  ·exact hv)
 have hput:JA (upd H i (some (.box (cs.set j (.d (.list sz xs)))))) ups=JA H ups:=by
  funext m;by_cases hm:(get ups m).isSome=true
  ·exact Zp ups _ _ m hm
  ·have hmi:m≠i:=fun e=>hm (e▸hui)
   rw[XC ups _ m hm,XC ups _ m hm,JN _ _ hmi]
 have:=h β A w _ vs (fun e he=>?_) hst.core ⟨hvs.1,fun n c u h1 h2=>hst.vals c u (hvs.2 n c u h1 h2)⟩
 ·rw[hput]at this;rcases this with⟨a1,a2⟩|⟨u,w',a1,β',A',a2,a3⟩
  ·refine .inl ⟨a1,a2.mono ?_⟩;rintro e w' ⟨u,rfl,β',A',b1,b2⟩;exact⟨u,rfl,β',A',hst.trans b1,b2⟩
  ·exact .inr ⟨u,w',a1,β',A',hst.trans a2,a3⟩
 ·simp only[VA]at he;rcases he with rfl|he
  ·exact JB _ _ _
  ·rw[JN _ _ (hT e he)];exact hT' e (Vn _ (Vn _ he))
abbrev NP:=List Str×List Prb
mutual
def wtS:Ste→Nat
 |.mk _ _ _ _ _ _ _ _ _ a b=>10+2*a.length+JCt b
def JBh:List Ste→Nat
 |[]=>0
 |v::r=>wtS v+JBh r
def wtB:Brn→Nat
 |.mk _ s=>JBh s
def JCt:List Brn→Nat
 |[]=>0
 |v::r=>wtB v+JCt r
end
theorem wtS_eq(s:Ste):wtS s=10+2*s.calls.length+JCt s.branches:=by cases s;simp only[wtS,Ste.calls,Ste.branches]
theorem wtB_eq(b:Brn):wtB b=JBh b.steps:=by cases b;simp only[wtB,Brn.steps]
def JJA(ro:Str)(r:Int)(p:Prg)(x:Ste)(e:Bool)(l:List Int)(s:NP):NP:=
 let o3:=JO e ⟨7,ro,l,[]⟩ (JO (s.1.contains (JAU ⟨r,l,x⟩)) ⟨2,ro,l,JAU ⟨r,l,x⟩⟩ (JO (!(x.name==[])&& !cnS x.name) ⟨1,ro,l,x.name⟩ s.2))
 (JE6 s.1 (JAU ⟨r,l,x⟩),if JIu x then JCP ro l p x o3 else JO true ⟨5,ro,l,[]⟩ o3)
mutual
def JHF(ro:Str)(r:Int)(p:Prg):Ste→Bool→Int→List Int→NP→NP
 |.mk n k u t l x c e ru a b,ends,i,pl,s=>bsP ro r p b 0 (pl++[i]) (JJA ro r p (.mk n k u t l x c e ru a b) ends (pl++[i]) s)
def ssP(ro:Str)(r:Int)(p:Prg):List Ste→Bool→Int→List Int→NP→NP
 |[],_,_,_,s=>s
 |x::y,e,i,pl,s=>ssP ro r p y (Xt x) (i+1) pl (JHF ro r p x e i pl s)
def bP(ro:Str)(r:Int)(p:Prg):Brn→Int→List Int→NP→NP
 |.mk _ st,k,pl,s=>ssP ro r p st false 0 (pl++[k]) s
def bsP(ro:Str)(r:Int)(p:Prg):List Brn→Int→List Int→NP→NP
 |[],_,_,s=>s
 |x::y,k,pl,s=>bsP ro r p y (k+1) pl (bP ro r p x k pl s)
end
theorem sP_eq(ro:Str)(r:Int)(p:Prg)(x:Ste)(e:Bool)(i:Int)(pl:List Int)(s:NP):JHF ro r p x e i pl s=bsP ro r p x.branches 0 (pl++[i]) (JJA ro r p x e (pl++[i]) s):=by
 cases x;simp only[JHF,Ste.branches]
theorem bP_eq(ro:Str)(r:Int)(p:Prg)(x:Brn)(k:Int)(pl:List Int)(s:NP):bP ro r p x k pl s=ssP ro r p x.steps false 0 (pl++[k]) s:=by
 cases x;simp only[bP,Brn.steps]
theorem JOv(ro:Str)(r:Int)(p:Prg)(x:Ste)(e:Bool)(l:List Int)(s:NP):(JJA ro r p x e l s).2.length≤s.2.length+6+2*x.calls.length:=by
 unfold JJA;have h1:=JF (!(x.name==[])&& !cnS x.name) ⟨1,ro,l,x.name⟩ s.2;generalize JO (!(x.name==[])&& !cnS x.name) ⟨1,ro,l,x.name⟩ s.2=o1 at*;have h2:=JF (s.1.contains (JAU ⟨r,l,x⟩)) ⟨2,ro,l,JAU ⟨r,l,x⟩⟩ o1;generalize JO (s.1.contains (JAU ⟨r,l,x⟩)) ⟨2,ro,l,JAU ⟨r,l,x⟩⟩ o1=o2 at*;have h3:=JF e ⟨7,ro,l,[]⟩ o2;generalize JO e ⟨7,ro,l,[]⟩ o2=o3 at*;have h4:=JGJ ro l p x o3;have h5:=JF true ⟨5,ro,l,[]⟩ o3;simp only;split<;>omega
mutual
theorem sP_len(ro:Str)(r:Int)(p:Prg):∀(x:Ste) (e:Bool) (i:Int) (pl:List Int) (s:NP),(JHF ro r p x e i pl s).2.length≤s.2.length+wtS x
 |.mk n k u t l x c e ru a b,ends,i,pl,s=>by
  rw[JHF,wtS];have h1:=JOv ro r p (.mk n k u t l x c e ru a b) ends (pl++[i]) s;have h2:=JLe ro r p b 0 (pl++[i]) (JJA ro r p (.mk n k u t l x c e ru a b) ends (pl++[i]) s);simp only[Ste.calls]at h1;omega
theorem JDr(ro:Str)(r:Int)(p:Prg):∀(x:List Ste) (e:Bool) (i:Int) (pl:List Int) (s:NP),(ssP ro r p x e i pl s).2.length≤s.2.length+JBh x
 |[],_,_,_,s=>by simp[ssP]
 |x::y,e,i,pl,s=>by
  rw[ssP,JBh];have h1:=sP_len ro r p x e i pl s;have h2:=JDr ro r p y (Xt x) (i+1) pl (JHF ro r p x e i pl s);omega
theorem bP_len(ro:Str)(r:Int)(p:Prg):∀(x:Brn) (k:Int) (pl:List Int) (s:NP),(bP ro r p x k pl s).2.length≤s.2.length+wtB x
 |.mk _ st,k,pl,s=>by
  rw[bP,wtB];exact JDr ro r p st false 0 (pl++[k]) s
theorem JLe(ro:Str)(r:Int)(p:Prg):∀(x:List Brn) (k:Int) (pl:List Int) (s:NP),(bsP ro r p x k pl s).2.length≤s.2.length+JCt x
 |[],_,_,s=>by simp[bsP]
 |x::y,k,pl,s=>by
  rw[bsP,JCt];have h1:=bP_len ro r p x k pl s;have h2:=JLe ro r p y (k+1) pl (bP ro r p x k pl s);omega
end
def JAW(l:List Ste)(k:Nat):Bool:=match k with
 |0=>false
 |j+1=>(l[j]?.map Xt).getD false
theorem JOw{l:List Ste}{k:Nat}(h:k<l.length)(hk:0<k):JAW l k=Xt (l[k-1]'oM):=by
 cases k with
 |zero=>omega
 |succ j=>simp only[JAW,Nat.add_sub_cancel];rw[Vl oM];rfl
theorem JHG{ro ro':Str}{pd':Dat}{o o':List Prb}{ns ns':List Str}(h:(JA (get (LM ro pd o ns)) (LM ro' pd' o' ns') i).isSome=true):i=1000∨i=1001∨i=1002:=by
 refine Decidable.byContradiction fun hn=>?_
 simp only[not_or]at hn;obtain⟨a1,a2,a3⟩:=hn;simp[LM,LT,JA,upd,Av.get,a1,a2,a3,Ne.symm a1,Ne.symm a2,Ne.symm a3]at h
theorem JKF{ro:Str}{o:List Prb}{ns:List Str}(h:(get (LM ro pd o ns) i).isSome=true):1000≤i:=by
 simp only[LM,LT,List.cons_append,List.nil_append,Av.get]at h
 repeat' split at h
 all_goals first|(cases h;done)|omega
theorem call181(ro:Str){l:List Int}(hp:PD pd l)(p:Prg)(s:Ste)(o:List Prb)(ho:o.length+3+2*s.calls.length≤10000000000):
  CT (.fn 181) [.ref 1000 0,.d (Jb p),.d (JL s)] [(1000,some (.box [.d (.str ro),.d pd,.ms 1001 o.length])),(1001,some (.row o.length 4 (o.map Z3)))] (.tup []) (LT ro pd (JCP ro l p s o)):=by
 have h:=(con181 ro hp p s o ho).call (fun i=>i) (fun j hj=>JKE hj) (fun a b _ _ h=>h) (by simp[JV,Av.get]) (JCr _ _ _) [] (by simp[Av.get]) (ZW _ _ _ _ _ _) trivial;simp only[LT,Va,Vb,Obj.ren,Av.ren,J3,ZF,List.append_nil]at h⊢;exact h
def V87(p:Prg)(st:List Ste):Prop:=∀(ro:Str) (r:Int) (pd:Dat) (l:List Int) (o:List Prb) (ns:List Str),PD pd l→l.length+2*XN st≤400000000→o.length+JBh st≤10000000000→
 KT 99 [.ref 1000 0,.d (Jb p),.d (.int .i64 r),.d (.list 11 (st.map JL)),.mp 1002,.d (.map Jt)] (LM ro pd o ns) (.tup []) (LM ro pd (ssP ro r p st false 0 l (ns,o)).2 (ssP ro r p st false 0 l (ns,o)).1)
theorem call99{p:Prg}{st:List Ste}(h:V87 p st)(ro:Str)(r:Int)(pd:Dat)(l:List Int)(o:List Prb)(ns:List Str)(hp:PD pd l)(h1:l.length+2*XN st≤400000000)(h2:o.length+JBh st≤10000000000):
  CT (.fn 99) [.ref 1000 0,.d (Jb p),.d (.int .i64 r),.d (.list 11 (st.map JL)),.mp 1002,.d (.map Jt)] ((LM ro pd o ns).map fun x=>(x.1,some x.2)) (.tup [])
   (LM ro pd (ssP ro r p st false 0 l (ns,o)).2 (ssP ro r p st false 0 l (ns,o)).1):=by
 have hc:=h ro r pd l o ns hp h1 h2;generalize ssP ro r p st false 0 l (ns,o)=R at*;have h:=hc.call (fun i=>i) (fun j hj=>JKF hj) (fun a b _ _ h=>h) (by simp[JV,Av.get]) (JCs _ _ _ _) [] (by simp[Av.get]) (JAV _ _ _ _ _ _ _ _) trivial;simp only[LM,LT,Va,Vb,List.cons_append,List.nil_append,Obj.ren,Av.ren,J3,ZF,List.append_nil]at h⊢;exact h
end Go.Proofs
namespace Go.Proofs
open Go Av
def okE(d:Dat):Prop:=d=.nil 5∨∃es:List Exp,d=.list 5 (es.map Jd)
def okR(d:Dat):Prop:=d=.nil 6∨∃rs:List Rule,d=.list 6 (rs.map Uf)
def okG(g:List (Nat×Av.Obj)):Prop:=g=[]∨∃a b c d e,g=[(9,.box [a,b,c,d,e])]
theorem JMX:okG []:=.inl rfl
theorem okG9(a b c d e:Av):okG [(9,.box [a,b,c,d,e])]:=.inr ⟨_,_,_,_,_,rfl⟩
def sC(k u t m:Int)(tx sc:Str)(e r:Dat):Av.Obj:=.box [.d (.str []),.d (.int .i64 k),.d (.int .i64 u),.d (.int .i64 t),.d (.int .i64 m),.d (.str tx),.d (.str sc),.d e,.d r,.d (.nil 2),.d (.nil 2)]
abbrev T17(l:List Itm)(lv:Int)(n i:Nat):List (Nat×Av):=[(0,.d (.list 5 (l.map J6))),(1,.d (.int .i64 lv)),(5,.ms 200 n),(6,.d (.int .i64 i)),(7,.ref 7 0),(8,.ref 8 0)]
abbrev H17(n:Nat)(xs:List Dat)(x0 x1 x2 x3:Int)(b:List Bit)(o:Av.Obj):List (Nat×Av.Obj):=[(200,.row n 11 xs),(7,.box [.d (.int .u8 x0),.d (.int .u8 x1),.d (.int .u8 x2),.d (.int .u8 x3),.d (.list 1 (b.map Xy))]),(8,o)]
theorem JOx:okE (.nil 5):=.inl rfl
theorem JMY:okR (.nil 6):=.inl rfl
theorem okE2(x:Exp):okE (.list 5 [Jd x]):=.inr ⟨[x],rfl⟩
theorem okR2(a b:Str)(x y:Exp):okR (.list 6 [.agg [.str a,.int .i64 x.op,.int .i64 x.int,.str x.text,.list 6 (x.value.map JQ),.list 5 (x.args.map Jd)],.agg [.str b,.int .i64 y.op,.int .i64 y.int,.str y.text,.list 6 (y.value.map JQ),.list 5 (y.args.map Jd)]]):=.inr ⟨[⟨a,x⟩,⟨b,y⟩],rfl⟩
theorem cR2(a b c d e f a' b' c' d' e' f':Dat):∀x∈[Dat.agg [a,b,c,d,e,f],Dat.agg [a',b',c',d',e',f']],x.cells.length=6:=by
 intro x hx;simp only[VA,List.not_mem_nil,or_false]at hx;rcases hx with rfl|rfl<;>rfl
theorem cS2(a b:Str):∀x∈[Dat.str a,Dat.str b],x.cells.length=1:=by
 intro x hx;simp only[VA,List.not_mem_nil,or_false]at hx;rcases hx with rfl|rfl<;>rfl
theorem wsw17(l:List Itm)(lv:Int)(n i:Nat)(xs:List Dat)(x0 x1 x2 x3:Int)(b:List Bit)(ec:Exp)(h3:0≤x3∧x3<256):
  wpc Tryz.prog D0 sw17 (fun e s=>e=.normal∧∃k u t m tx sc e r g,okE e∧okR r∧okG g∧s=⟨T17 l lv n i,H17 n xs x0 x1 x2 x3 b (sC k u t m tx sc e r)++g⟩)
   ⟨T17 l lv n i,H17 n xs x0 x1 x2 x3 b (sC 1 0 0 0 [110,111] [] (.list 5 [Jd ec]) (.nil 6))⟩:=by
 have h10:=JEg x3 10 h3.1 dC;have h33:=JEg x3 3 h3.1 dC;have h2:=JEg x3 2 h3.1 dC;have w10:IntKind.i64.wrap (x3.tmod 10)=x3.tmod 10:=wrap64 oM oM;have w3:IntKind.i64.wrap (x3.tmod 3)=x3.tmod 3:=wrap64 oM oM;have c1:=(JEf [98,111,100,121,46,110]).call trivial;have c2:=(JJt (x3.tmod 10)).call trivial;have c3:=(JEf [98,111,100,121,46,119]).call trivial;have c4:=c47 (x3.tmod 3) h33.1;generalize PA (ex47 (x3.tmod 3) h33.1)=wx at c4;rw[Ul]at c2 c3 c4;obtain⟨s,hs⟩:∃s,nth [Dat.str [111,117,116],Dat.str [113]] (x3.tmod 2).toNat=Dat.str s:=by
  have hk:(x3.tmod 2).toNat=0∨(x3.tmod 2).toNat=1:=oM;rcases hk with h|h<;>rw[h]<;>exact⟨_,rfl⟩
 simp only[go_sem,sw17,T17,H17,sC,hs,Vv,Vc,Nat.reduceAdd,Nat.reduceEqDiff,Nat.reduceBEq,Nat.reduceLeDiff,reduceCtorEq,↓reduceIte];refine⟨dC,?_⟩
 repeat' (refine U9 (fun _=>?_) (fun _=>?_))
 all_goals try exact⟨_,_,_,_,_,_,_,_,[],JOx,JMY,JMX,rfl⟩
 all_goals try exact⟨_,_,_,_,_,_,_,_,[],okE2 _,JMY,JMX,rfl⟩
 ·refine wn c3 ?_;simp only[go_sem,Vv,Vc,Nat.reduceAdd,Nat.reduceEqDiff,Nat.reduceBEq,Nat.reduceLeDiff,reduceCtorEq,↓reduceIte];refine⟨dC,U9 (fun _=>?_) (fun _=>?_)⟩
  ·refine⟨dC,?_⟩;rw[w3];refine wn c4 ?_;simp only[go_sem,Vv,Vc,Nat.reduceAdd,Nat.reduceEqDiff,Nat.reduceBEq,Nat.reduceLeDiff,reduceCtorEq,↓reduceIte];refine⟨dC,?_⟩;rw[w10];refine JP rfl c2 trivial ?_;simp only[go_sem,Vv,Vc,Nat.reduceAdd,Nat.reduceEqDiff,Nat.reduceBEq,Nat.reduceLeDiff,reduceCtorEq,↓reduceIte];exact⟨cR2 _ _ _ _ _ _ _ _ _ _ _ _,by first|rfl|decide,_,_,_,_,_,_,_,_,_,JOx,okR2 _ _ _ _,okG9 _ _ _ _ _,rfl⟩
  ·refine⟨dC,?_⟩;rw[w10];refine JP rfl c2 trivial ?_;simp only[go_sem,Vv,Vc,Nat.reduceAdd,Nat.reduceEqDiff,Nat.reduceBEq,Nat.reduceLeDiff,reduceCtorEq,↓reduceIte];exact⟨cR2 _ _ _ _ _ _ _ _ _ _ _ _,by first|rfl|decide,_,_,_,_,_,_,_,_,_,JOx,okR2 _ _ _ _,okG9 _ _ _ _ _,rfl⟩
 ·refine wn c1 ?_;simp only[go_sem,Vv,Vc,Nat.reduceAdd,Nat.reduceEqDiff,Nat.reduceBEq,Nat.reduceLeDiff,reduceCtorEq,↓reduceIte];exact⟨cE1 _,_,_,_,_,_,_,_,_,[],okE2 _,JMY,JMX,rfl⟩
 all_goals
  refine sq ((i:Int)==5) ?_ ?_
  ·simp only[go_sem,hs,Vv,Vc,Nat.reduceAdd,Nat.reduceEqDiff,Nat.reduceBEq,Nat.reduceLeDiff,reduceCtorEq,↓reduceIte]
  simp only[go_sem,hs,Vv,Vc,Nat.reduceAdd,Nat.reduceEqDiff,Nat.reduceBEq,Nat.reduceLeDiff,reduceCtorEq,↓reduceIte];refine U9 (fun _=>?_) (fun _=>?_)
  ·refine⟨dC,U9 (fun _=>?_) (fun _=>?_)⟩
   ·exact⟨cS2 _ _,dC,⟨oM,oM⟩,dC,_,_,_,_,_,_,_,_,[],JOx,JMY,JMX,rfl⟩
   ·exact⟨_,_,_,_,_,_,_,_,[],JOx,JMY,JMX,rfl⟩
  ·exact⟨_,_,_,_,_,_,_,_,[],okE2 _,JMY,JMX,rfl⟩
end Go.Proofs
namespace Go.Proofs
open Go Av
variable {P P' W':Nat}{s:Ste}{d:Dat}{bs:List Brn}{ys:List Dat}
def okX(P W:Nat)(x:List Ste):Prop:=∀s∈x,szS s≤P∧wtS s≤W
def gX(P W:Nat)(x:List Ste)(xs:List Dat):Prop:=okX P W x∧JK xs=x.map JL∧xs.length=x.length
theorem gX0(P W:Nat):gX P W [] []:=⟨fun s h=>(List.not_mem_nil h).elim,rfl,rfl⟩
theorem JBi:∀a b:List Dat,JK (a++b)=JK a++JK b
 |[],b=>by simp[JK]
 |v::r,b=>by simp only[List.cons_append,JK,JBi r b]
theorem gX1{W:Nat}{x:List Ste}{xs:List Dat}(h:gX P W x xs)(h1:szS s≤P)(h2:wtS s≤W)(hd:d.canon=JL s):gX P W (x++[s]) (xs++[d]):=by
 obtain⟨a,b,c⟩:=h;refine⟨fun y hy=>?_,?_,by simp[c]⟩
 ·rcases List.mem_append.1 hy with hy|hy
  ·exact a y hy
  ·rw[List.mem_singleton.1 hy];exact⟨h1,h2⟩
 ·rw[JBi,b,Vw];simp only[JK,hd,Va,Vb]
theorem okE_c(h:okE d):∃es:List Exp,d.canon=.list 5 (es.map Jd):=by
 rcases h with rfl|⟨es,rfl⟩
 ·exact⟨[],rfl⟩
 ·exact⟨es,by simp only[Dat.canon,Xb]⟩
theorem okR_c(h:okR d):∃es:List Rule,d.canon=.list 6 (es.map Uf):=by
 rcases h with rfl|⟨es,rfl⟩
 ·exact⟨[],rfl⟩
 ·exact⟨es,by simp only[Dat.canon,Xn]⟩
theorem JJB(k u t m:Int)(tx sc:Str){e r:Dat}(hE:okE e)(hR:okR r){y:Dat}(hy:y.canon=.list 2 (bs.map Jw)):
  ∃es rs,(Dat.agg [.str [],.int .i64 k,.int .i64 u,.int .i64 t,.int .i64 m,.str tx,.str sc,e,r,.nil 2,y]).canon=JL (.mk [] k u t m tx sc es rs [] bs):=by
 obtain⟨es,he⟩:=okE_c hE;obtain⟨rs,hr⟩:=okR_c hR;refine⟨es,rs,?_⟩;rw[JE];simp only[Dat.canon,JK,he,hr,hy,Ste.name,Ste.kind,Ste.number,Ste.time,Ste.limit,Ste.text,Ste.schema,Ste.exprs,Ste.rules,Ste.calls,Ste.branches,Vb]
theorem c40(h:d.canon=JL s):CT 40 [.d d] [] (.d (.bool (Xt s))) []:=by
 refine JC.canon ?_;simp only[Va,Vb,Av.canon,h];exact(p40 s).call trivial
theorem c11(a b c d e f g h i j k:Dat):∀x∈[Dat.agg [a,b,c,d,e,f,g,h,i,j,k]],x.cells.length=11:=by
 intro x hx;rw[List.mem_singleton.1 hx];rfl
def gB(P' W':Nat)(bs:List Brn)(ys:List Dat):Prop:=(∀y∈bs,szB y≤1+6*P'∧wtB y≤6*W')∧JK ys=bs.map Jw∧ys.length=bs.length
theorem gB0(P' W':Nat):gB P' W' [] []:=⟨fun s h=>(List.not_mem_nil h).elim,rfl,rfl⟩
def sC2(k u t m:Int)(tx sc:Str)(e r:Dat)(n:Nat):Av.Obj:=.box [.d (.str []),.d (.int .i64 k),.d (.int .i64 u),.d (.int .i64 t),.d (.int .i64 m),.d (.str tx),.d (.str sc),.d e,.d r,.d (.nil 2),.ms 201 n]
theorem c45(x0 x2:Int)(b:List Bit)(f n:Int):∃e:Exp,CT 45 [.d (.agg [.int .u8 x0,.int .u8 f,.int .u8 x2,.int .u8 n,.list 1 (b.map Xy)])] [] (.d (Jd e)) []:=by
 obtain⟨e,_,h⟩:=ex45 x0 f x2 n b;rw[YF]at h;exact⟨e,h.call trivial⟩
theorem c2C(a b:Dat):∀x∈[Dat.agg [a,b]],x.cells.length=2:=by
 intro x hx;rw[List.mem_singleton.1 hx];rfl
theorem JHH:∀{x:List Ste},(∀s∈x,szS s≤P)→XN x≤x.length*P
 |[],_=>by simp[XN]
 |v::r,h=>by
  have h1:=h v Vh;have h2:=JHH fun s hs=>h s (Vn _ hs)
  simp only[XN,Vf,Nat.succ_mul];omega
theorem JHI:∀{x:List Ste},(∀s∈x,wtS s≤P)→JBh x≤x.length*P
 |[],_=>by simp[JBh]
 |v::r,h=>by
  have h1:=h v Vh;have h2:=JHI fun s hs=>h s (Vn _ hs)
  simp only[JBh,Vf,Nat.succ_mul];omega
theorem JLf:∀{x:List Brn},(∀s∈x,szB s≤P)→Zn x≤x.length*P
 |[],_=>by simp[Zn]
 |v::r,h=>by
  have h1:=h v Vh;have h2:=JLf fun s hs=>h s (Vn _ hs)
  simp only[Zn,Vf,Nat.succ_mul];omega
theorem JLg:∀{x:List Brn},(∀s∈x,wtB s≤P)→JCt x≤x.length*P
 |[],_=>by simp[JCt]
 |v::r,h=>by
  have h1:=h v Vh;have h2:=JLg fun s hs=>h s (Vn _ hs)
  simp only[JCt,Vf,Nat.succ_mul];omega
theorem gB1(h:gB P' W' bs ys){x:List Ste}(hx:x.length≤6)(hok:okX P' W' x)(es:List Exp)(hd:d.canon=Jw (.mk es x)):gB P' W' (bs++[.mk es x]) (ys++[d]):=by
 obtain⟨a,b,c⟩:=h;have h1:=JHH fun s hs=>(hok s hs).1
 have h2:=JHI fun s hs=>(hok s hs).2
 have h3:=Nat.mul_le_mul_right P' hx;have h4:=Nat.mul_le_mul_right W' hx;refine⟨fun y hy=>?_,?_,by simp[c]⟩
 ·rcases List.mem_append.1 hy with hy|hy
  ·exact a y hy
  ·rw[List.mem_singleton.1 hy];simp only[szB,wtB];omega
 ·rw[JBi,b,Vw];simp only[JK,hd,Va,Vb]
theorem gB_sz(h:gB P' W' bs ys)(hb:bs.length≤4)(hP:1+4*(1+6*P')≤P):1+Zn bs≤P:=by
 have h1:=JLf fun s hs=>(h.1 s hs).1
 have h3:=Nat.mul_le_mul_right (1+6*P') hb;omega
theorem gB_wt{W:Nat}(h:gB P' W' bs ys)(hb:bs.length≤4)(hP:10+24*W'≤W):10+JCt bs≤W:=by
 have h1:=JLg fun s hs=>(h.1 s hs).2
 have h3:=Nat.mul_le_mul_right (6*W') hb;omega
theorem c40a{k u t m:Int}{tx sc:Str}{e r:Dat}(h:(Dat.agg [.str [],.int .i64 k,.int .i64 u,.int .i64 t,.int .i64 m,.str tx,.str sc,e,r,.nil 2,.list 2 ys]).canon=JL s):
  CT 40 [.agg [.d (.str []),.d (.int .i64 k),.d (.int .i64 u),.d (.int .i64 t),.d (.int .i64 m),.d (.str tx),.d (.str sc),.d e,.d r,.d (.nil 2),.ms 201 ys.length]] [(201,some (.frz ys.length 2 ys))] (.d (.bool (Xt s))) []:=
 JC.JKR (hp:=[(201,.frz ys.length 2 ys)]) (ds:=[.agg [.str [],.int .i64 k,.int .i64 u,.int .i64 t,.int .i64 m,.str tx,.str sc,e,r,.nil 2,.list 2 ys]]) rfl sP (c40 h)
theorem w17(lv:Int)(l:List Itm)(P W P' W':Nat)(hP:1≤P)(hW:10≤W)(hPW:lv<2→1+4*(1+6*P')≤P∧10+24*W'≤W)(hlv:0≤lv)
  (hl:∀x0 x1 x2 x3 b,Itm.mk x0 x1 x2 x3 b∈l→0≤x3∧x3<256)
  (ih:lv<2→∀l:List Itm,∃x:List Ste,(x.length≤6∧okX P' W' x)∧PT 17 [.list 5 (l.map J6),.int .i64 (lv+1)] (.d (.list 11 (x.map JL)))):
  wpc Tryz.prog D0 ir17 (fun e s=>e=.ret∧∃x:List Ste,∃xs hr,x.length≤6∧gX P W x xs∧s=⟨[(4,.ms 200 xs.length)],(200,.row xs.length 11 xs)::hr⟩) ⟨enum 0 [.d (.list 5 (l.map J6)),.d (.int .i64 lv)],[]⟩:=by
 simp only[go_sem,ir17,Vv,Vc,Nat.reduceAdd,Nat.reduceEqDiff,Nat.reduceBEq,Nat.reduceLeDiff,reduceCtorEq,↓reduceIte];refine JH (fun n s=>∃(i:Nat) (x:List Ste) (xs:List Dat),i≤l.length∧i≤6∧n=6-i∧x.length≤i∧gX P W x xs∧s=⟨[(0,.d (.list 5 (l.map J6))),(1,.d (.int .i64 lv)),(5,.ms 200 xs.length),(6,.d (.int .i64 i))],[(200,.row xs.length 11 xs)]⟩) ?_ ?_
 ·exact⟨_,_,(Wk.JJM 5 200 11 rfl rfl (by decide)).trans (Wk.refl _),0,[],[],Nat.zero_le _,Nat.zero_le _,rfl,Nat.zero_le _,gX0 P W,rfl⟩
 rintro n s ⟨i,x,xs,hi,hi6,rfl,hx6,hok,rfl⟩;by_cases hlt:i<l.length∧i<6
 ·have hd:decide ((i:Int)<(l.length:Int))=true:=by simp;omega
  have hd6:decide ((i:Int)<6)=true:=by simp;omega
  obtain⟨x0,x1,x2,x3,b,hit,hx⟩:∃(x0 x1 x2 x3:Int) (b:List Bit),l[i]'hlt.1=.mk x0 x1 x2 x3 b∧nth (l.map J6) i=.agg [.int .u8 x0,.int .u8 x1,.int .u8 x2,.int .u8 x3,.list 1 (b.map Xy)]:=by
   rw[U3 (by simpa using hlt.1),List.getElem_map];cases l[i]with
   |mk k f o n b=>exact⟨_,_,_,_,_,rfl,YF k f o n b⟩
  have c1:=(JGu (ex45 x0 x1 x2 x3 b)).call trivial;generalize PA (ex45 x0 x1 x2 x3 b)=ec at c1;rw[YF]at c1;simp only[go_sem,hd,hd6,hx,Vv,Vc,Nat.reduceAdd,Nat.reduceEqDiff,Nat.reduceBEq,Nat.reduceLeDiff,reduceCtorEq,↓reduceIte];refine⟨by omega,?_⟩;refine wn c1 ?_;simp only[go_sem,Vv,Vc,Nat.reduceAdd,Nat.reduceEqDiff,Nat.reduceBEq,Nat.reduceLeDiff,reduceCtorEq,↓reduceIte];refine⟨cE1 _,?_⟩;refine Jc _ _ ?_ (wsw17 l lv xs.length i xs x0 x1 x2 x3 b ec (hl _ _ _ _ _ (hit▸Vk hlt.1)));rintro e s ⟨rfl,k,u,t,m,tx,sc,ee,rr,g,hE,hR,hG,rfl⟩;simp only[go_sem,br17,T17,H17,sC,List.cons_append,List.nil_append,Vv,Vc,Nat.reduceAdd,Nat.reduceEqDiff,Nat.reduceBEq,Nat.reduceLeDiff,reduceCtorEq,↓reduceIte];have hw1:IntKind.i64.wrap ((i:Int)+1)=((i+1:Nat):Int):=Jg i (by omega);have hlen:xs.length≤6:=by have:=hok.2.2;omega
  refine J9 (k==12) (fun _=>?_) ?_
  ·simp only[go_sem,Vv,Vc,Nat.reduceAdd,Nat.reduceEqDiff,Nat.reduceBEq,Nat.reduceLeDiff,reduceCtorEq,↓reduceIte]
  simp only[go_sem,Vv,Vc,Nat.reduceAdd,Nat.reduceEqDiff,Nat.reduceBEq,Nat.reduceLeDiff,reduceCtorEq,↓reduceIte];refine U9 (fun _=>?_) (fun _=>?_)
  ·refine J9 ((b.length:Int)==0) (fun _=>?_) ?_
   ·simp only[go_sem,Vv,Vc,Nat.reduceAdd,Nat.reduceEqDiff,Nat.reduceBEq,Nat.reduceLeDiff,reduceCtorEq,↓reduceIte]
   simp only[go_sem,Vv,Vc,Nat.reduceAdd,Nat.reduceEqDiff,Nat.reduceBEq,Nat.reduceLeDiff,reduceCtorEq,↓reduceIte];refine U9 (fun _=>?_) (fun hc=>?_)
   ·simp only[go_sem,hw1,Vv,Vc,Nat.reduceAdd,Nat.reduceEqDiff,Nat.reduceBEq,Nat.reduceLeDiff,reduceCtorEq,↓reduceIte];refine⟨6-(i+1),_,by omega,Wk.less ?_,i+1,x,xs,by omega,by omega,rfl,by omega,hok,rfl⟩;rcases hG with rfl|⟨_,_,_,_,_,rfl⟩<;>simp[go_sem]
   ·refine JH (fun n s=>∃(j:Nat) (bs:List Brn) (ys:List Dat),j≤b.length∧j≤4∧n=4-j∧bs.length=j∧gB P' W' bs ys∧s=⟨T17 l lv xs.length i++[(10,.d (.int .i64 j))],H17 xs.length xs x0 x1 x2 x3 b (sC2 k u t m tx sc ee rr ys.length)++[(201,.row ys.length 2 ys)]⟩) ?_ ?_
    ·refine⟨_,_,(Wk.less ?_).trans (Wk.JKO (st:=⟨T17 l lv xs.length i++[(10,.d (.int .i64 0))],H17 xs.length xs x0 x1 x2 x3 b (sC k u t m tx sc ee rr)⟩) 8 10 201 2 _ rfl rfl rfl (by decide)),0,[],[],Nat.zero_le _,Nat.zero_le _,rfl,rfl,gB0 _ _,rfl⟩;rcases hG with rfl|⟨_,_,_,_,_,rfl⟩<;>simp[go_sem,T17,H17,sC]
    rintro n s ⟨j,bs,ys,hj,hj4,rfl,hbl,hgb,rfl⟩;have hlv2:lv<2:=by
     simp only[Bool.or_eq_false_iff,decide_eq_false_iff_not]at hc;omega
    by_cases hlj:j<b.length∧j<4
    ·have hd2:decide ((j:Int)<(b.length:Int))=true:=by simp;omega
     have hd4:decide ((j:Int)<4)=true:=by simp;omega
     have hy:nth (b.map Xy) j=.list 5 ((b[j]'hlj.1).l.map J6):=by rw[U3 (by simpa using hlj.1),List.getElem_map,JAm]
     have hwl:IntKind.i64.wrap (lv+1)=lv+1:=wrap64 (by omega) (by omega);obtain⟨x',⟨hx6',hok'⟩,hp⟩:=ih hlv2 (b[j]'hlj.1).l;have c17:=hp.call trivial;simp only[go_sem,T17,H17,sC2,List.cons_append,List.nil_append,hd2,hd4,hy,hwl,Vv,Vc,Nat.reduceAdd,Nat.reduceEqDiff,Nat.reduceBEq,Nat.reduceLeDiff,reduceCtorEq,↓reduceIte];refine⟨by omega,by decide,?_⟩;refine wn c17 ?_;simp only[go_sem,Vv,Vc,Nat.reduceAdd,Nat.reduceEqDiff,Nat.reduceBEq,Nat.reduceLeDiff,reduceCtorEq,↓reduceIte];refine⟨by first|rfl|decide,JKw (fun _=>?_) (fun z=>?_)⟩
     ·simp only[go_sem,Vv,Vc,Nat.reduceAdd,Nat.reduceEqDiff,Nat.reduceBEq,Nat.reduceLeDiff,reduceCtorEq,↓reduceIte];refine JKw (fun _=>?_) (fun z=>?_)
      ·simp only[go_sem,Vv,Vc,Nat.reduceAdd,Nat.reduceEqDiff,Nat.reduceBEq,Nat.reduceLeDiff,reduceCtorEq,↓reduceIte];exact⟨by decide,⟨_,rfl⟩⟩
      ·simp only[go_sem,Vv,Vc,Nat.reduceAdd,Nat.reduceEqDiff,Nat.reduceBEq,Nat.reduceLeDiff,reduceCtorEq,↓reduceIte];exact⟨_,rfl⟩
     simp only[go_sem,Vv,Vc,Nat.reduceAdd,Nat.reduceEqDiff,Nat.reduceBEq,Nat.reduceLeDiff,reduceCtorEq,↓reduceIte];have hy4:ys.length≤4:=by have:=hgb.2.2;omega
     have hwj:IntKind.i64.wrap ((j:Int)+1)=((j+1:Nat):Int):=Jg j (by omega);refine U9 (fun _=>?_) (fun _=>?_)
     ·refine JI rfl (c45 x0 x2 b _ _).choose_spec trivial ?_;generalize(c45 x0 x2 b _ _).choose=e2;simp only[go_sem,Vv,Vc,Nat.reduceAdd,Nat.reduceEqDiff,Nat.reduceBEq,Nat.reduceLeDiff,reduceCtorEq,↓reduceIte];refine⟨cE1 _,c2C _ _,by omega,?_⟩;simp only[go_sem,hwj,Vv,Vc,Nat.reduceAdd,Nat.reduceEqDiff,Nat.reduceBEq,Nat.reduceLeDiff,reduceCtorEq,↓reduceIte];have hgd:=gB1 hgb hx6' hok' [e2] (d:=Dat.agg [.list 5 [Jd e2],.list 11 (x'.map JL)]) (by simp only[Dat.canon,JK,Y5,JBU,Y4,Brn.cond,Brn.steps,Va,Vb]);refine⟨4-(j+1),⟨T17 l lv xs.length i++[(10,.d (.int .i64 (j+1:Nat)))],H17 xs.length xs x0 x1 x2 x3 b (sC2 k u t m tx sc ee rr (ys.length+1))++[(201,.row (ys.length+1) 2 (ys++[Dat.agg [.list 5 [Jd e2],.list 11 (x'.map JL)]]))]⟩,by omega,Wk.less ?_,j+1,bs++[.mk [e2] x'],ys++[Dat.agg [.list 5 [Jd e2],.list 11 (x'.map JL)]],by omega,by omega,rfl,by rw[Vg,hbl];rfl,hgd,by rw[Vg,List.length_singleton];rfl⟩;simp[go_sem,T17,H17,sC2]
     ·have hgd:=gB1 hgb hx6' hok' [] (d:=Dat.agg [.nil 5,.list 11 (x'.map JL)]) (by simp only[Dat.canon,JK,Y5,Y4,Brn.cond,Brn.steps,Vb]);rw[hwj];refine⟨c2C _ _,by omega,4-(j+1),⟨T17 l lv xs.length i++[(10,.d (.int .i64 (j+1:Nat)))],H17 xs.length xs x0 x1 x2 x3 b (sC2 k u t m tx sc ee rr (ys.length+1))++[(201,.row (ys.length+1) 2 (ys++[Dat.agg [.nil 5,.list 11 (x'.map JL)]]))]⟩,by omega,Wk.less ?_,j+1,bs++[.mk [] x'],ys++[Dat.agg [.nil 5,.list 11 (x'.map JL)]],by omega,by omega,rfl,by rw[Vg,hbl];rfl,hgd,by rw[Vg,List.length_singleton];rfl⟩;simp[go_sem,T17,H17,sC2]
    ·have hno:(¬j<b.length)∨(j<b.length∧¬j<4):=by omega
     obtain⟨es,rs,hc⟩:=JJB k u t m tx sc hE hR (y:=.list 2 ys) (bs:=bs) (by rw[Dat.canon,hgb.2.1]);have c2:=c40a hc;have hz:=gB_sz hgb (by omega) (hPW hlv2).1;have hwt:=gB_wt hgb (by omega) (hPW hlv2).2;have hg:=gX1 (d:=Dat.agg [.str [],.int .i64 k,.int .i64 u,.int .i64 t,.int .i64 m,.str tx,.str sc,ee,rr,.nil 2,.list 2 ys]) hok (s:=.mk [] k u t m tx sc es rs [] bs) (by simp only[szS];omega) (by simp only[wtS,Vm];omega) hc;rcases hno with h|⟨h,h4⟩
     ·have hd2:decide ((j:Int)<(b.length:Int))=false:=by simp;omega
      simp only[go_sem,T17,H17,sC2,List.cons_append,List.nil_append,hd2,Vv,Vc,Nat.reduceAdd,Nat.reduceEqDiff,Nat.reduceBEq,Nat.reduceLeDiff,reduceCtorEq,↓reduceIte];refine⟨c11 _ _ _ _ _ _ _ _ _ _ _,by omega,?_⟩;refine wn c2 ?_;simp only[go_sem,Vv,Vc,Nat.reduceAdd,Nat.reduceEqDiff,Nat.reduceBEq,Nat.reduceLeDiff,reduceCtorEq,↓reduceIte];refine U9 (fun _=>?_) (fun _=>?_)
      ·exact⟨_,_,_,by simp only[Vg,List.length_singleton];omega,hg,by rw[Vg,List.length_singleton]⟩
      ·rw[hw1];refine⟨6-(i+1),_,by omega,Wk.less ?_,i+1,_,_,by omega,by omega,rfl,by simp only[Vg,List.length_singleton];omega,hg,by rw[Vg,List.length_singleton]⟩;simp[go_sem]
     ·have hd2:decide ((j:Int)<(b.length:Int))=true:=by simp;omega
      have hd4:decide ((j:Int)<4)=false:=by simp;omega
      simp only[go_sem,T17,H17,sC2,List.cons_append,List.nil_append,hd2,hd4,Vv,Vc,Nat.reduceAdd,Nat.reduceEqDiff,Nat.reduceBEq,Nat.reduceLeDiff,reduceCtorEq,↓reduceIte];refine⟨c11 _ _ _ _ _ _ _ _ _ _ _,by omega,?_⟩;refine wn c2 ?_;simp only[go_sem,Vv,Vc,Nat.reduceAdd,Nat.reduceEqDiff,Nat.reduceBEq,Nat.reduceLeDiff,reduceCtorEq,↓reduceIte];refine U9 (fun _=>?_) (fun _=>?_)
      ·exact⟨_,_,_,by simp only[Vg,List.length_singleton];omega,hg,by rw[Vg,List.length_singleton]⟩
      ·rw[hw1];refine⟨6-(i+1),_,by omega,Wk.less ?_,i+1,_,_,by omega,by omega,rfl,by simp only[Vg,List.length_singleton];omega,hg,by rw[Vg,List.length_singleton]⟩;simp[go_sem]
  ·obtain⟨es,rs,hc⟩:=JJB k u t m tx sc hE hR (y:=.nil 2) (bs:=[]) rfl;have c2:=c40 hc;refine⟨c11 _ _ _ _ _ _ _ _ _ _ _,by omega,?_⟩;refine wn c2 ?_;simp only[go_sem,Vv,Vc,Nat.reduceAdd,Nat.reduceEqDiff,Nat.reduceBEq,Nat.reduceLeDiff,reduceCtorEq,↓reduceIte];have hg:=gX1 (d:=Dat.agg [.str [],.int .i64 k,.int .i64 u,.int .i64 t,.int .i64 m,.str tx,.str sc,ee,rr,.nil 2,.nil 2]) hok (s:=.mk [] k u t m tx sc es rs [] []) (by simp only[szS,Zn];omega) (by simp only[wtS,JCt,Vm];omega) hc;refine U9 (fun _=>?_) (fun _=>?_)
   ·exact⟨_,_,_,by simp only[Vg,List.length_singleton];omega,hg,by rw[Vg,List.length_singleton]⟩
   ·simp only[go_sem,hw1,Vv,Vc,Nat.reduceAdd,Nat.reduceEqDiff,Nat.reduceBEq,Nat.reduceLeDiff,reduceCtorEq,↓reduceIte];refine⟨6-(i+1),_,by omega,Wk.less ?_,i+1,_,_,by omega,by omega,rfl,by simp only[Vg,List.length_singleton];omega,hg,by rw[Vg,List.length_singleton]⟩;rcases hG with rfl|⟨_,_,_,_,_,rfl⟩<;>simp[go_sem]
 ·have hd:(decide ((i:Int)<(l.length:Int))&&decide ((i:Int)<6))=false:=by simp;omega
  by_cases hl:i<l.length
  ·have h1:decide ((i:Int)<(l.length:Int))=true:=by simp;omega
   have h2:decide ((i:Int)<6)=false:=by simp;omega
   simp only[go_sem,h1,h2,Vv,Vc,Nat.reduceAdd,Nat.reduceEqDiff,Nat.reduceBEq,Nat.reduceLeDiff,reduceCtorEq,↓reduceIte];exact⟨x,xs,_,by omega,hok,rfl⟩
  have h1:decide ((i:Int)<(l.length:Int))=false:=by simp;omega
  simp only[go_sem,h1,Vv,Vc,Nat.reduceAdd,Nat.reduceEqDiff,Nat.reduceBEq,Nat.reduceLeDiff,reduceCtorEq,↓reduceIte];exact⟨x,xs,_,by omega,hok,rfl⟩
end Go.Proofs
namespace Go.Proofs
open Go Av
theorem st16(m:Int)(h0:0≤m)(l:List Itm)(ih:1≤m→∀l:List Itm,∃x:Bool,True∧PT 16 [.list 5 (l.map J6),.int .i64 (m-1)] (.d (.bool x))):∃x:Bool,True∧PT 16 [.list 5 (l.map J6),.int .i64 m] (.d (.bool x)):=by
 refine ok16.pexF (fun x:Bool=>.d (.bool x)) (fun x:Bool=>True) false trivial (Nat.le_of_ble_eq_true rfl) (fun _ _=>by simp[JFM,JV,JR]) fun hfit=>?_
 simp only[go_sem,ir16,Vv,Vc,Nat.reduceAdd,Nat.reduceEqDiff,Nat.reduceBEq,Nat.reduceLeDiff,reduceCtorEq,↓reduceIte];refine sq (m==0&&decide ((l.length:Int)>0)) ?_ ?_
 ·simp only[go_sem,Vv,Vc,Nat.reduceAdd,Nat.reduceEqDiff,Nat.reduceBEq,Nat.reduceLeDiff,reduceCtorEq,↓reduceIte];refine sq (decide ((l.length:Int)>0)) ?_ ?_
  ·simp only[go_sem,Vv,Vc,Nat.reduceAdd,Nat.reduceEqDiff,Nat.reduceBEq,Nat.reduceLeDiff,reduceCtorEq,↓reduceIte]
  simp only[go_sem,Vv,Vc,Nat.reduceAdd,Nat.reduceEqDiff,Nat.reduceBEq,Nat.reduceLeDiff,reduceCtorEq,↓reduceIte]
 simp only[go_sem,Vv,Vc,Nat.reduceAdd,Nat.reduceEqDiff,Nat.reduceBEq,Nat.reduceLeDiff,reduceCtorEq,↓reduceIte];refine U9 (fun _=>⟨_,rfl⟩) (fun hc=>?_);refine JH (fun n s=>∃(i:Nat),i≤l.length∧n=l.length-i∧s=⟨[(0,.d (.list 5 (l.map J6))),(1,.d (.int .i64 m)),(5,.d (.int .i64 i))],[]⟩) ⟨_,_,Wk.refl _,0,Nat.zero_le _,rfl,rfl⟩ ?_;rintro n s ⟨i,hi,rfl,rfl⟩;by_cases hlt:i<l.length
 ·have hd:=dT hlt;have hm:1≤m:=by
   simp only[Bool.or_eq_false_iff,Bool.and_eq_false_iff,decide_eq_false_iff_not,beq_eq_false_iff_ne]at hc;omega
  have hl12:l.length≤12:=by
   simp only[Bool.or_eq_false_iff,decide_eq_false_iff_not]at hc;omega
  obtain⟨x0,x1,x2,x3,b,hx⟩:∃(x0 x1 x2 x3:Int) (b:List Bit),nth (l.map J6) i=.agg [.int .u8 x0,.int .u8 x1,.int .u8 x2,.int .u8 x3,.list 1 (b.map Xy)]:=by
   rw[U3 (sX hlt),List.getElem_map];cases l[i]with
   |mk k f o n b=>exact⟨_,_,_,_,_,YF k f o n b⟩
  simp only[go_sem,hd,hx,Vv,Vc,Nat.reduceAdd,Nat.reduceEqDiff,Nat.reduceBEq,Nat.reduceLeDiff,reduceCtorEq,↓reduceIte];refine⟨oM,dC,U9 (fun _=>⟨_,rfl⟩) (fun h6=>?_)⟩;simp only[decide_eq_false_iff_not]at h6;refine JH (fun n s=>∃(j:Nat),j≤b.length∧n=b.length-j∧s=⟨[(0,.d (.list 5 (l.map J6))),(1,.d (.int .i64 m)),(5,.d (.int .i64 i)),(6,.d (.int .i64 j))],[]⟩) ⟨_,_,Wk.refl _,0,Nat.zero_le _,rfl,rfl⟩ ?_;rintro n s ⟨j,hj,rfl,rfl⟩;by_cases hlj:j<b.length
  ·have hd2:decide ((j:Int)<(b.length:Int))=true:=sO;have hy:nth (b.map Xy) j=.list 5 (b[j].l.map J6):=by rw[U3 (sX hlj),List.getElem_map,JAm]
   have hw:IntKind.i64.wrap ((j:Int)+1)=((j+1:Nat):Int):=Jg j oM;have c1:=(JGu (ih hm b[j].l)).call trivial;generalize PA (ih hm b[j].l)=r at c1;have hwm:IntKind.i64.wrap (m-1)=m-1:=by
    have:=hfit (.int .i64 m) sP;simp[fits,IntKind.min,IntKind.max,IntKind.signed,IntKind.bits]at this;exact wrap64 oM oM
   simp only[go_sem,hd2,hx,hy,Vv,Vc,Nat.reduceAdd,Nat.reduceEqDiff,Nat.reduceBEq,Nat.reduceLeDiff,reduceCtorEq,↓reduceIte];refine⟨oM,dC,oM,dC,?_⟩;simp only[go_sem,hwm,Vv,Vc,Nat.reduceAdd,Nat.reduceEqDiff,Nat.reduceBEq,Nat.reduceLeDiff,reduceCtorEq,↓reduceIte];refine⟨oM,dC,?_⟩;refine wn c1 ?_;simp only[go_sem,Vv,Vc,Nat.reduceAdd,Nat.reduceEqDiff,Nat.reduceBEq,Nat.reduceLeDiff,reduceCtorEq,↓reduceIte];refine U9 (fun _=>⟨_,rfl⟩) (fun _=>?_);simp only[go_sem,hw,Vv,Vc,Nat.reduceAdd,Nat.reduceEqDiff,Nat.reduceBEq,Nat.reduceLeDiff,reduceCtorEq,↓reduceIte];refine⟨b.length-(j+1),_,oM,Wk.refl _,j+1,oM,rfl,rfl⟩
  ·have hd2:decide ((j:Int)<(b.length:Int))=false:=sO;have hw:IntKind.i64.wrap ((i:Int)+1)=((i+1:Nat):Int):=Jg i oM;simp only[go_sem,hd2,hx,hw,Vv,Vc,Nat.reduceAdd,Nat.reduceEqDiff,Nat.reduceBEq,Nat.reduceLeDiff,reduceCtorEq,↓reduceIte];exact⟨⟨oM,oM⟩,dC,l.length-(i+1),_,oM,Wk.refl _,i+1,oM,rfl,rfl⟩
 ·have hd:=dF hlt;simp only[go_sem,hd,Vv,Vc,Nat.reduceAdd,Nat.reduceEqDiff,Nat.reduceBEq,Nat.reduceLeDiff,reduceCtorEq,↓reduceIte];exact⟨_,rfl⟩
theorem ex16:∀(m:Nat) (l:List Itm),∃x:Bool,True∧PT 16 [.list 5 (l.map J6),.int .i64 (m:Int)] (.d (.bool x)):=by
 intro m
 induction m with
 |zero=>exact fun l=>st16 _ oM l (fun h=>by simp at h)
 |succ m ih=>
  intro l;refine st16 _ oM l (fun _ l'=>?_);have e:(((m+1:Nat):Int)-1)=(m:Int):=oM;rw[e];exact ih l'
theorem ex5(l:List Itm):∃x:Bool,True∧PT 5 [.agg [.list 5 (l.map J6)]] (.d (.bool x)):=by
 refine ok5.pex (fun x:Bool=>.d (.bool x)) (fun x:Bool=>True) (Nat.le_of_ble_eq_true rfl) (fun _ _=>by simp[JFM,JV,JR]) ?_;have c1:=(JGu (ex16 4 l)).call trivial;generalize PA (ex16 4 l)=r at c1;simp only[go_sem,ir5,Vv,Vc,simprocAttr];refine wn c1 ?_;simp only[go_sem,Vv,Vc,simprocAttr];exact⟨_,rfl⟩
theorem JLh{l:List Itm}(h:fits (.list 5 (l.map J6))):∀x0 x1 x2 x3 b,Itm.mk x0 x1 x2 x3 b∈l→0≤x3∧x3<256:=by
 intro x0 x1 x2 x3 b hm;have h2:∀(l:List Dat) (d:Dat),d∈l→Ue l→fits d:=by
  intro l
  induction l with
  |nil=>intro d hd;cases hd
  |cons v r ih=>
   intro d hd hf;rcases VA.1 hd with rfl|hd
   ·exact hf.1
   ·exact ih d hd hf.2
 exact(fits8 (h2 _ _ (List.mem_map_of_mem hm) (by simp only[fits]at h;exact h.2))).2.2.2
theorem st17(lv:Int)(l:List Itm)(P W P' W':Nat)(hP:1≤P)(hW:10≤W)(hPW:lv<2→1+4*(1+6*P')≤P∧10+24*W'≤W)(hlv:0≤lv)
  (ih:lv<2→∀l:List Itm,∃x:List Ste,(x.length≤6∧okX P' W' x)∧PT 17 [.list 5 (l.map J6),.int .i64 (lv+1)] (.d (.list 11 (x.map JL)))):
  ∃x:List Ste,(x.length≤6∧okX P W x)∧PT 17 [.list 5 (l.map J6),.int .i64 lv] (.d (.list 11 (x.map JL))):=by
 refine ok17.pexF (fun x:List Ste=>.d (.list 11 (x.map JL))) (fun x:List Ste=>x.length≤6∧okX P W x) [] ⟨Nat.zero_le _,(gX0 P W).1⟩ (Nat.le_of_ble_eq_true rfl) (fun _ _=>by simp[JFM,JV,JR]) fun hfit=>?_
 refine Jc _ _ ?_ (w17 lv l P W P' W' hP hW hPW hlv (JLh (hfit (.list 5 (l.map J6)) sP)) ih);rintro e s ⟨rfl,x,xs,hr,h6,hg,rfl⟩;simp only[go_sem,Vv,Vc,simprocAttr];exact⟨x,⟨h6,hg.1⟩,by rw[hg.2.1]⟩
theorem ex17c(l:List Itm):∃x:List Ste,(x.length≤6∧okX 1 10 x)∧PT 17 [.list 5 (l.map J6),.int .i64 2] (.d (.list 11 (x.map JL))):=
 st17 2 l 1 10 0 0 dC dC (fun h=>absurd h dC) dC (fun h=>absurd h dC)
theorem ex17b(l:List Itm):∃x:List Ste,(x.length≤6∧okX 29 250 x)∧PT 17 [.list 5 (l.map J6),.int .i64 1] (.d (.list 11 (x.map JL))):=
 st17 1 l 29 250 1 10 dC dC (fun _=>by decide) dC (fun _ l=>ex17c l)
theorem ex17m(l:List Itm):∃p:List Ste×List Dat,(p.1.length≤6∧gX 701 6010 p.1 p.2)∧KT 17 ([.list 5 (l.map J6),.int .i64 0].map .d) [] (.ms 200 p.2.length) [(200,.row p.2.length 11 p.2)]:=by
 refine ok17.cexF (k:=some true) (fun p:List Ste×List Dat=>.ms 200 p.2.length) (fun p=>[(200,.row p.2.length 11 p.2)]) (fun p=>p.1.length≤6∧gX 701 6010 p.1 p.2) ([],[]) ⟨Nat.zero_le _,gX0 _ _⟩ (Nat.le_of_ble_eq_true rfl)
  (fun _ _=>Jf (by simp[UH,put,Je,J8,JR,JV,Av.get])) (fun _ _=>by simp[JA,upd,inT,JV,JR]) fun hfit=>?_
 refine Jc _ _ ?_ (w17 0 l 701 6010 29 250 dC dC (fun _=>by decide) dC (JLh (hfit (.list 5 (l.map J6)) sP)) (fun _ l=>ex17b l));rintro e s ⟨rfl,x,xs,hr,h6,hg,rfl⟩;simp only[go_sem,Vv,Vc,simprocAttr];exact⟨(x,xs),⟨h6,hg⟩,rfl,rfl⟩
theorem ex17(l:List Itm)(t:Nat):∃p:List Ste×List Dat,(p.1.length≤6∧gX 701 6010 p.1 p.2)∧CT (.fn 17) ([.list 5 (l.map J6),.int .i64 0].map .d) [(t,none)] (.ms t p.2.length) [(t,.row p.2.length 11 p.2)]:=by
 obtain⟨p,hg,hc⟩:=ex17m l;refine⟨p,hg,?_⟩;have hd:∀i,(JA (get []) [(200,Av.Obj.row p.2.length 11 p.2)] i).isSome=true→i=200:=by
  intro i h;by_cases e:i=200
  ·exact e
  ·simp[JA,upd,Av.get,e,Ne.symm e]at h
 have h:=hc.call (fun _=>t) (fun i h=>by cases h) (fun i j hi hj _=>(hd i hi).trans (hd j hj).symm) (by intro c hc;obtain⟨x,_,rfl⟩:=VC.1 hc;trivial) (by intro i o h;cases h) [200] (by intro e he;rw[List.mem_singleton.1 he];exact .inr sP)
  (Jf (by simp[UH,put,Je,J8,JR,JV,Av.get])) (by simp[JA,upd,inT,JV,JR])
 simpa[Av.ren,Obj.ren,J3]using h
def JGK:Typ:=.mk 9 0 0 0 [] [] [.mk 1 [110] 1 (.mk 2 0 9 0 [] [] []) [],.mk 2 [119] 1 (.mk 4 0 0 0 [[97],[98],[99]] [] []) [],.mk 3 [111] 2 (.mk 2 0 9 0 [] [] []) []]
theorem walk19:PT 19 [] (.d (Jp JGK)):=by
 refine ok19.pc ?_;simp only[JGK,JZ,Ud,Typ.kind,Typ.min,Typ.max,Typ.scale,Typ.words,Typ.elem,Typ.fields,TFl.number,TFl.name,TFl.need,TFl.type,TFl.dflt,Va,Vb];simp only[go_sem,ir19,Vv,Vc,simprocAttr];exact⟨by simp[Dat.cells],by simp[Dat.cells]⟩
end Go.Proofs
namespace Av
open Go
variable [Glb][Rls]
theorem JC.JFI{P:Program}{ρ:Go.Shelf.Ren}(L:Go.Proofs.SlLaysW.n5 P ρ)(hh:Has P (ρ.f 5))(es:List (Dat×Dat))(i j:Nat):
  JC P (.fn (ρ.f 5)) [.mp i] [(i,some (.mapo es)),(j,none)] (.mp j) [(j,.mapo es)]:=by
 intro β A w H vs hT hc hvs;have hi:H i=some (.mapo es):=hT _ (Vh);have hj:H j=none:=hT (j,none) sP;obtain⟨b,ents,clk,hb,hw,hlen,hrep,hbn⟩:=hc.objs i _ hi;have h1:vs.size=1:=by have:=hvs.1;simp at this;omega
 obtain⟨x,rfl⟩:∃x,vs=#[x]:=⟨vs[0],by
  apply Array.ext
  ·simp[h1]
  ·intro k h1 h2;have:k=0:=by simp at h2;omega
   subst this;rfl⟩
 have hx:=hvs.2 0 _ x rfl rfl;have hxb:x=.map (some b):=by
  cases hx with
  |mp _ _ hu h0 h1=>
   obtain⟨b',hb',rfl⟩:=h1 es hi;rw[hb]at hb';cases hb';rfl
 subst hxb;refine .inl ⟨hh,(Go.Proofs.AnyW.maps_Clone L b ents clk w hw).mono ?_⟩;rintro e w' ⟨rfl,rfl⟩;refine⟨_,rfl,upd β j (some w.heap.size),A,Stp.alloc hc hj _ _ (fun hv=>⟨w.heap.size,ents,clk,JB _ _ _,US _ _,hlen,fun k e m he hm=>?_,hbn⟩),?_⟩
 ·obtain⟨r1,r2⟩:=hrep k e m he hm;exact⟨(hv _ _ (.d _ _ r1)).JU,(hv _ _ (.d _ _ r2)).JU⟩
 ·exact .mp _ _ rfl (by simp[JA,upd]) (fun es _=>⟨_,JB _ _ _,rfl⟩) (by simp[JA,upd]) (by simp[JA,upd])
end Av
namespace Go.Proofs
open Go.Shelf
def Tryz.JHT:Go.Shelf.Ren:=⟨fun|5=>333|7=>430|n=>n,fun|23=>189|25=>359|3=>4|4=>4|20=>20|n=>n,fun|n=>n⟩
theorem Tryz.JSM:Go.Proofs.SlLaysW.n5 Tryz.prog Tryz.JHT:={
 mixed:=kR
 f5:=⟨Tryz.f333.name,dC,Tryz.func333.trans (congrArg some kR)⟩
 f7:=Tryz.func430.trans (congrArg some kR)
 t4:=Tryz.underlying4
 a4:=Tryz.isAgg4
 z4:=Tryz.sizeOf4
 v4:=Tryz.zeroValue4
 t20:=Tryz.underlying20
 a20:=Tryz.isAgg20
 z20:=Tryz.sizeOf20
 v20:=Tryz.zeroValue20
 t23:=Tryz.underlying189
 a23:=Tryz.isAgg189
 z23:=Tryz.sizeOf189
 v23:=Tryz.zeroValue189}
def Tryz.JHU:Go.Shelf.Ren:=⟨fun|5=>334|7=>430|n=>n,fun|23=>190|25=>9|3=>274|4=>4|20=>20|n=>n,fun|n=>n⟩
theorem Tryz.JSN:Go.Proofs.SlLaysW.n5 Tryz.prog Tryz.JHU:={
 mixed:=kR
 f5:=⟨Tryz.f334.name,dC,Tryz.func334.trans (congrArg some kR)⟩
 f7:=Tryz.func430.trans (congrArg some kR)
 t4:=Tryz.underlying4
 a4:=Tryz.isAgg4
 z4:=Tryz.sizeOf4
 v4:=Tryz.zeroValue4
 t20:=Tryz.underlying20
 a20:=Tryz.isAgg20
 z20:=Tryz.sizeOf20
 v20:=Tryz.zeroValue20
 t23:=Tryz.underlying190
 a23:=Tryz.isAgg190
 z23:=Tryz.sizeOf190
 v23:=Tryz.zeroValue190}
def Tryz.JHV:Go.Shelf.Ren:=⟨fun|5=>335|7=>430|n=>n,fun|23=>191|25=>9|3=>83|4=>4|20=>20|n=>n,fun|n=>n⟩
theorem Tryz.JSO:Go.Proofs.SlLaysW.n5 Tryz.prog Tryz.JHV:={
 mixed:=kR
 f5:=⟨Tryz.f335.name,dC,Tryz.func335.trans (congrArg some kR)⟩
 f7:=Tryz.func430.trans (congrArg some kR)
 t4:=Tryz.underlying4
 a4:=Tryz.isAgg4
 z4:=Tryz.sizeOf4
 v4:=Tryz.zeroValue4
 t20:=Tryz.underlying20
 a20:=Tryz.isAgg20
 z20:=Tryz.sizeOf20
 v20:=Tryz.zeroValue20
 t23:=Tryz.underlying191
 a23:=Tryz.isAgg191
 z23:=Tryz.sizeOf191
 v23:=Tryz.zeroValue191}
def Tryz.Xd:Go.Shelf.Ren:=⟨fun|7=>141|10=>246|n=>n,fun|23=>190|26=>9|3=>274|28=>272|0=>0|27=>271|33=>207|4=>4|n=>n,fun|n=>n⟩
theorem Tryz.JSP:Go.Proofs.SlLaysZ.n7 Tryz.prog Tryz.Xd:={
 mixed:=kR
 f7:=⟨Tryz.f141.name,dC,Tryz.func141.trans (congrArg some kR)⟩
 f10:=⟨Tryz.f246.name,dC,Tryz.func246.trans (congrArg some kR)⟩
 t0:=Tryz.underlying0
 a0:=Tryz.isAgg0
 z0:=Tryz.sizeOf0
 v0:=Tryz.zeroValue0
 t4:=Tryz.underlying4
 a4:=Tryz.isAgg4
 z4:=Tryz.sizeOf4
 v4:=Tryz.zeroValue4
 t23:=Tryz.underlying190
 a23:=Tryz.isAgg190
 z23:=Tryz.sizeOf190
 v23:=Tryz.zeroValue190
 t26:=Tryz.underlying9
 a26:=Tryz.isAgg9
 z26:=Tryz.sizeOf9
 v26:=Tryz.zeroValue9
 t27:=Tryz.underlying271
 a27:=Tryz.isAgg271
 z27:=Tryz.sizeOf271
 v27:=Tryz.zeroValue271
 t28:=Tryz.underlying272
 a28:=Tryz.isAgg272
 z28:=Tryz.sizeOf272
 v28:=Tryz.zeroValue272
 t33:=Tryz.underlying207
 a33:=Tryz.isAgg207
 z33:=Tryz.sizeOf207
 v33:=Tryz.zeroValue207}
def Tryz.JCx:Go.Shelf.Ren:=⟨fun|6=>140|8=>244|9=>245|11=>338|13=>114|12=>339|23=>216|24=>217|14=>431|15=>432|16=>433|17=>434|18=>435|19=>436|20=>437|21=>438|22=>439|25=>528|26=>295|27=>296|28=>529|29=>530|30=>531|31=>571|n=>n,fun|26=>9|28=>272|24=>79|0=>0|3=>3|37=>231|48=>318|50=>320|4=>4|40=>312|39=>311|45=>102|5=>5|9=>9|51=>388|55=>261|57=>474|58=>399|33=>207|n=>n,fun|n=>n⟩
theorem Tryz.laysS:Go.Proofs.SlLaysZ.n6 Tryz.prog Tryz.JCx:={
 mixed:=kR
 f6:=⟨Tryz.f140.name,dC,Tryz.func140.trans (congrArg some kR)⟩
 f8:=⟨Tryz.f244.name,dC,Tryz.func244.trans (congrArg some kR)⟩
 f11:=⟨Tryz.f338.name,dC,Tryz.func338.trans (congrArg some kR)⟩
 t0:=Tryz.underlying0
 a0:=Tryz.isAgg0
 z0:=Tryz.sizeOf0
 v0:=Tryz.zeroValue0
 t24:=Tryz.underlying79
 a24:=Tryz.isAgg79
 z24:=Tryz.sizeOf79
 v24:=Tryz.zeroValue79
 t26:=Tryz.underlying9
 a26:=Tryz.isAgg9
 z26:=Tryz.sizeOf9
 v26:=Tryz.zeroValue9
 t28:=Tryz.underlying272
 a28:=Tryz.isAgg272
 z28:=Tryz.sizeOf272
 v28:=Tryz.zeroValue272
 i26:=by kernel_rfl}
end Go.Proofs
namespace Av
open Go
variable [Glb][Rls]
variable {X:Ext}{K:Nat→Nat}
abbrev JMZ:=Nat→List Av→List (Nat×Obj)→Option (Av×List (Nat×Obj)×List Nat×List Nat)
def JHJ(P:Program)(Y:JMZ):Prop:=∀f vs hp v hp' tk uk,Y f vs hp=some (v,hp',tk,uk)→
 Has P f∧∃T ups,JC P (.fn f) vs T v ups∧XE (get hp) T∧(∀i,get hp' i=JA (get hp) ups i)∧T.map (·.1)=tk∧ups.map (·.1)=uk
def JGL(P:Program)(X:Ext)(K:Nat→Nat)(L:Nat)(rec:Xs):Xs:=fun c vs hp=>
 match c with
  |.fn f=>match YL vs with
   |some ds=>match X f ds with
    |some v=>some (v,hp,[],[])
    |none=>match K f==1 with
     |true=>JA6 P (some true) (rec) L f vs hp
     |false=>match evF P (ZE (K f)) (rec) L f vs []with
      |some (v,_)=>match Z0 v with
       |true=>some (v,hp,[],[])
       |false=>JA6 P (ZE (K f)) (rec) L f vs hp
      |none=>none
   |none=>match(match JA5 vs with|true=>none|false=>asData vs hp)with
    |some (ds,u)=>match X f ds with
     |some (.d r)=>match scalar r with
      |true=>some (.d r,hp,vs.flatMap Yv,[])
      |false=>some (.d r,UH hp u,vs.flatMap Yv,keys u)
     |some _=>none
     |none=>match K f==3 with
      |true=>match evF P (some false) (rec) L f (ds.map .d) []with
       |some (v,_)=>match Z0 v with
        |true=>some (v,UH hp u,vs.flatMap Yv,keys u)
        |false=>none
       |none=>none
      |false=>JA6 P (ZE (K f)) (rec) L f vs hp
    |none=>JA6 P (ZE (K f)) (rec) L f vs hp
  |.yld=>JKt P (rec) L vs hp
def JDX(P:Program)(X:Ext)(Y:JMZ)(K:Nat→Nat)(L:Nat):Nat→Xs
 |0,_,_,_=>none
 |n+1,c,vs,hp=>match c with
  |.fn f=>match Y f vs hp with
   |some r=>some r
   |none=>JGL P X K L (JDX P X Y K L n) (.fn f) vs hp
  |.yld=>JGL P X K L (JDX P X Y K L n) .yld vs hp
def mapY(cl:List Nat)(so g:Nat):JMZ:=fun f vs hp=>match vs with
 |[.mp i]=>match cl.contains f with
  |true=>match get hp i with
   |some (.mapo es)=>match JFw (keys hp) 1000 [0]with
    |[(_,j)]=>match get hp j with
     |none=>some (.mp j,put hp j (.mapo es),[i,j],[j])
     |some _=>none
    |_=>none
   |_=>none
  |false=>none
 |[.clo (.func g') [] [.ref b 0]]=>match Nat.beq f so&&Nat.beq g' g with
  |true=>match get hp b with
   |some (.box [.mp i])=>match get hp i with
    |some (.mapo [(.str k,_)])=>some (.d (.list 1 [.str k]),hp,[b,i],[])
    |some (.mapo [])=>some (.d (.nil 1),hp,[b,i],[])
    |_=>none
   |_=>none
  |false=>none
 |_=>none
section
variable {P:Program}{call:Xs}{L:Nat}
theorem JOy(hX:JS P X){rec:Xs}(i1:Uy P rec)(i2:YV P rec):Uy P (JGL P X K L rec)∧YV P (JGL P X K L rec):=by
 constructor
 ·intro c vs hp v hp' tk uk h;simp only[JGL]at h;split at h
  ·rename_i f;split at h
   ·rename_i ds hds;have:=X0 hds;subst this;split at h
    ·rename_i d hd;simp only[Vd,Ve]at h;obtain⟨rfl,rfl,rfl,rfl⟩:=h;exact⟨[],[],hX f ds d hd,trivial,fun _=>rfl,rfl,rfl⟩
    ·split at h
     ·exact(XL i1 i2 h).2
     split at h
     ·rename_i v0 fh hev;split at h
      ·rename_i hpure;simp only[Vd,Ve]at h;obtain⟨rfl,rfl,rfl,rfl⟩:=h;exact⟨[],[],Jz.call (ZR i1 i2 hev hpure) (ZP hpure),trivial,fun _=>rfl,rfl,rfl⟩
      ·exact(XL i1 i2 h).2
     ·cases h
   ·split at h
    ·rename_i ds u ha;have ha:asData vs hp=some (ds,u):=by
      split at ha
      ·cases ha
      ·exact ha
     split at h
     ·rename_i r hd;split at h
      ·rename_i hr;simp only[Vd,Ve]at h;obtain⟨rfl,rfl,rfl,rfl⟩:=h;exact JFy ha (hX f ds _ hd) hr
      ·simp only[Vd,Ve]at h;obtain⟨rfl,rfl,rfl,rfl⟩:=h;exact JAk ha (hX f ds _ hd)
     ·cases h
     ·split at h
      ·split at h
       ·rename_i v0 fh hev;split at h
        ·rename_i hpure;simp only[Vd,Ve]at h;obtain⟨rfl,rfl,rfl,rfl⟩:=h;exact JAk ha (Jz.call (ZR i1 i2 hev hpure) (ZP hpure))
        ·cases h
       ·cases h
      ·exact(XL i1 i2 h).2
    ·exact(XL i1 i2 h).2
  ·exact JIA i1 i2 h
 ·intro g vs hp r h hids;simp only[JGL]at h;split at h
  ·rename_i ds hds;have:=X0 hds;subst this;exfalso;have:∀ds:List Dat,JA5 (ds.map Av.d)=false:=by
    intro ds
    induction ds with
    |nil=>rfl
    |cons d r ih=>simpa only[Va,JA5]using ih
   rw[this]at hids;cases hids
  ·rw[hids]at h;obtain⟨v,hp',tk,uk⟩:=r;exact(XL i1 i2 h).1
theorem JJC{Y:JMZ}(hX:JS P X)(hY:JHJ P Y):∀n,Uy P (JDX P X Y K L n)∧YV P (JDX P X Y K L n)
 |0=>⟨(by intro c vs hp v hp' tk uk h;cases h),(by intro g vs hp r h;cases h)⟩
 |n+1=>by
  obtain⟨i1,i2⟩:=JJC hX hY n;have hs:=JOy (L:=L) (K:=K) hX i1 i2;constructor
  ·intro c vs hp v hp' tk uk h;simp only[JDX]at h;split at h
   ·split at h
    ·rename_i hy;simp only[Vd]at h;subst h;exact(hY _ _ _ _ _ _ _ hy).2
    ·exact hs.1 _ _ _ _ _ _ _ h
   ·exact hs.1 _ _ _ _ _ _ _ h
  ·intro f vs hp r h hm;simp only[JDX]at h;split at h
   ·rename_i hy;obtain⟨v,hp',tk,uk⟩:=r;simp only[Vd]at h;subst h;exact(hY _ _ _ _ _ _ _ hy).1
   ·exact hs.2 _ _ _ _ h hm
theorem JOz{Y:JMZ}{k:Option Bool}(hX:JS P X)(hY:JHJ P Y){n f:Nat}{ds:List Dat}{v:Av}{fh:List (Nat×Obj)}(h:evF P k (JDX P X Y K L n) L f (ds.map .d) []=some (v,fh))(hv:Z0 v=true):Jz P f ds v:=by
 have i:=JJC (P:=P) (L:=L) (K:=K) hX hY n;exact ZR i.1 i.2 h hv
theorem mapY_ok{cl:List Nat}{so g:Nat}(hcl:∀f,cl.contains f=true→∀es i j,Has P f∧JC P (.fn f) [.mp i] [(i,some (.mapo es)),(j,none)] (.mp j) [(j,.mapo es)])
  (hso:∀k v b i,Has P so∧JC P (.fn so) [.clo (.func g) [] [.ref b 0]] [(b,some (.box [.mp i])),(i,some (.mapo [(.str k,v)]))] (.d (.list 1 [.str k])) [])
  (hso0:∀b i,Has P so∧JC P (.fn so) [.clo (.func g) [] [.ref b 0]] [(b,some (.box [.mp i])),(i,some (.mapo []))] (.d (.nil 1)) []):JHJ P (mapY cl so g):=by
 intro f vs hp v hp' tk uk h;unfold mapY at h;split at h
 ·rename_i i;split at h
  ·rename_i hf;split at h
   ·rename_i es hi;split at h
    ·rename_i x j hfr;split at h
     ·rename_i hj;simp only[Vd,Ve]at h;obtain⟨rfl,rfl,rfl,rfl⟩:=h;obtain⟨h1,h2⟩:=hcl f hf es i j;refine⟨h1,_,_,h2,⟨hi,hj,trivial⟩,fun k=>?_,rfl,rfl⟩;rw[UF];simp only[JA,upd,eq_comm]
     ·cases h
    ·cases h
   ·cases h
  ·cases h
 ·rename_i g' b;split at h
  ·rename_i hf;simp only[Vi]at hf;obtain rfl:=Nat.eq_of_beq_eq_true hf.1;obtain rfl:=Nat.eq_of_beq_eq_true hf.2;split at h
   ·rename_i i hb;split at h
    ·rename_i k x hi;simp only[Vd,Ve]at h;obtain⟨rfl,rfl,rfl,rfl⟩:=h;obtain⟨h1,h2⟩:=hso k x b i;exact⟨h1,_,_,h2,⟨hb,hi,trivial⟩,fun k=>rfl,rfl,rfl⟩
    ·rename_i hi;simp only[Vd,Ve]at h;obtain⟨rfl,rfl,rfl,rfl⟩:=h;obtain⟨h1,h2⟩:=hso0 b i;exact⟨h1,_,_,h2,⟨hb,hi,trivial⟩,fun k=>rfl,rfl,rfl⟩
    ·cases h
   ·cases h
  ·cases h
 ·cases h
end
end Av
namespace Go.Proofs
open Go Av Go.RowKit Go.Maps Go.Sort Go.Shelf Go.WideElems
theorem JGM(m:Nat):AnyZ.SortsIn Tryz.prog Tryz.JCx Fence.wide m:=
 ⟨fun blk off cap ss W hH hblk hsz=>callsIn_wide.2 (Any.slices_Sort_string Tryz.JJO blk off cap ss W hH hblk hsz),
  fun p cap W=>callsIn_wide.2 (Any.slices_Sort_string_none Tryz.JJO p cap W)⟩
theorem JE9{α:Type}{a:Array α}(h:1=a.size):∃x,a=#[x]:=by
 refine⟨a[0]'oM,?_⟩;apply Array.ext
 ·simpa using h.symm
 ·intro i h1 h2;have:i=0:=by simp at h2;omega
  subst this;rfl
theorem JO0(k:List UInt8)(v:Dat)(b i:Nat):CT (.fn 140) [.clo (.func 246) [] [.ref b 0]] [(b,some (.box [.mp i])),(i,some (.mapo [(.str k,v)]))] (.d (.list 1 [.str k])) []:=by
 intro β A w H vs hT hc hvs;have hb:H b=some (.box [.mp i]):=hT _ Vh;have hi:H i=some (.mapo [(.str k,v)]):=hT (i,some (.mapo [(.str k,v)])) sP;obtain⟨bb,C,T,e1,e2,e3,e4,e5⟩:=hc.objs b _ hb;obtain⟨mb,ents,clk,m1,m2,m3,m4,m5⟩:=hc.objs i _ hi;have h1:vs.size=1:=by have:=hvs.1;simp at this;omega
 obtain⟨x,rfl⟩:=JE9 h1.symm;have hx:=hvs.2 0 _ x rfl rfl;cases hx with
 |clo _ _ _ a1 a2 q1 q2 q3 q4=>
  obtain rfl:a1=#[]:=Array.eq_empty_of_size_eq_zero (sX q1.symm);obtain⟨u,rfl⟩:=JE9 (sX q2);have hu:=q4 0 _ u rfl rfl;have hu':u=.pointer (some ⟨bb,0,none⟩):=by
   cases hu with
   |ref _ _ b' p _ r0 r1 r2 r3=>
    obtain⟨s1,s2⟩:=r2 _ hb;rw[e1]at s1;cases s1;rw[r0,s2]
  subst hu';obtain⟨c0,rfl⟩:=JE9 (sX e3);have hc0:=e5 0 _ c0 rfl rfl;have hc0':c0=.map (some mb):=by
   cases hc0 with
   |mp _ _ r0 r1 r2 r3 r4=>
    obtain⟨b',s1,s2⟩:=r2 _ hi;rw[m1]at s1;cases s1;exact s2
  subst hc0';obtain⟨m,rfl⟩:=JE9 (sX m3);obtain⟨hk,_⟩:=m4 0 _ m rfl rfl;have hborn:m.born<clk:=by
   have h0:=m5.1 0 m rfl;have h1:=m5.2;simp at h1;omega
  obtain⟨mk,mv,mbn⟩:=m;simp only at hk hborn;cases hk with
  |str _ hkl=>
   have hbl:bb<w.heap.size:=(Array.getElem?_eq_some_iff.1 e2).1;have hkey:keyOf Tryz.prog (Tryz.Xd.t 26) (.string ⟨k.toArray⟩)=some (.string k):=by
    simp only[keyOf,mapKey];rw[show Tryz.prog.underlying (Tryz.Xd.t 26)=some .string from Tryz.JSP.t26];have hm:maxLen=9223372036854775807:=dC;have hz:(⟨k.toArray⟩:ByteArray).size≤maxLen:=by rw[hm];show k.toArray.size≤_;simp;omega
    simp[hz]
   have hrg:rg (H:=Unit) Tryz.prog (Tryz.Xd.t 26) (fun _=>some (.nil,[])) ⟨.string ⟨k.toArray⟩,mv,mbn⟩=(.string k,.nil):=by
    unfold rg WideElems.rd;rw[hkey];rfl
   have hown:w.ownsMap (H:=Unit) Tryz.prog (Tryz.Xd.t 26) (fun _=>some (.nil,[])) mb 1 (.map [(.string k,.nil)]):=by
    refine⟨_,clk,m2,⟨by simp[maxLen],⟨?_,sP,sP⟩,?_⟩,sP,?_⟩
    ·intro x hx;rw[List.mem_singleton.1 hx];exact hborn
    ·intro x hx;rw[List.mem_singleton.1 hx];unfold WideElems.rd;rw[hkey];exact⟨_,rfl⟩
    ·show _=DataW.map (DataW.insert (rg _ _ _ _) []);rw[hrg];rfl
   have hcell:w.cell? ⟨bb,0,none⟩=some (.map (some mb)):=by simp[World.cell?,e2]
   have hseq:=AnyZ.keys_gives (ρ:=Tryz.Xd) {Tryz.JSP with} Fence.wide 2 trivial rfl oM bb mb 1 _ w hbl hcell hown;have cS:=AnyZ.sorted_in Tryz.laysS Fence.wide 5 trivial trivial trivial trivial rfl oM (JGM _) (enters_of Tryz.func245 kR rfl) 246 #[.pointer (some ⟨bb,0,none⟩)] trivial (enters_of Tryz.func246 kR rfl) _ _
    (by show 1≤maxLen;simp[maxLen]) (by show 1*16≤_;omega) w hseq
   refine .inl ⟨⟨_,Tryz.func140,kR,kR⟩,(callsIn_wide.1 cS).mono ?_⟩;rintro e w' ⟨u,ss,rfl,hS,hrow,hnil,hbw⟩;have hss:ss=[k]:=List.perm_singleton.1 hS;subst hss;refine⟨u,rfl,β,fun b=>A b∨(w.heap.size≤b∧b<w'.heap.size),?_,.d _ _ ?_⟩
   ·refine Stp.new hc hbw.os hbw.tape hbw.output hbw.size hbw.block (fun _ h=>.inl h) ?_ ?_
    ·rintro b (h|h)
     ·exact .inl h
     ·exact .inr h.1
    ·rintro b (h|h)
     ·exact Nat.lt_of_lt_of_le (hc.old b h) hbw.size
     ·exact h.2
   ·exact JEm (ss:=[k]) (e:=Tryz.JCx.t 26) rfl (sX hkl) sP (by rw[List.mergeSort_singleton]at hrow;exact hrow)
theorem sorted0(b i:Nat):CT (.fn 140) [.clo (.func 246) [] [.ref b 0]] [(b,some (.box [.mp i])),(i,some (.mapo []))] (.d (.nil 1)) []:=by
 intro β A w H vs hT hc hvs;have hb:H b=some (.box [.mp i]):=hT _ Vh;have hi:H i=some (.mapo []):=hT (i,some (.mapo [])) sP;obtain⟨bb,C,T,e1,e2,e3,e4,e5⟩:=hc.objs b _ hb;obtain⟨mb,ents,clk,m1,m2,m3,m4,m5⟩:=hc.objs i _ hi;have h1:vs.size=1:=by have:=hvs.1;simp at this;omega
 obtain⟨x,rfl⟩:=JE9 h1.symm;have hx:=hvs.2 0 _ x rfl rfl;cases hx with
 |clo _ _ _ a1 a2 q1 q2 q3 q4=>
  obtain rfl:a1=#[]:=Array.eq_empty_of_size_eq_zero (sX q1.symm);obtain⟨u,rfl⟩:=JE9 (sX q2);have hu:=q4 0 _ u rfl rfl;have hu':u=.pointer (some ⟨bb,0,none⟩):=by
   cases hu with
   |ref _ _ b' p _ r0 r1 r2 r3=>
    obtain⟨s1,s2⟩:=r2 _ hb;rw[e1]at s1;cases s1;rw[r0,s2]
  subst hu';obtain⟨c0,rfl⟩:=JE9 (sX e3);have hc0:=e5 0 _ c0 rfl rfl;have hc0':c0=.map (some mb):=by
   cases hc0 with
   |mp _ _ r0 r1 r2 r3 r4=>
    obtain⟨b',s1,s2⟩:=r2 _ hi;rw[m1]at s1;cases s1;exact s2
  subst hc0';obtain rfl:ents=#[]:=Array.eq_empty_of_size_eq_zero (sX m3.symm);have hbl:bb<w.heap.size:=(Array.getElem?_eq_some_iff.1 e2).1;have hown:w.ownsMap (H:=Unit) Tryz.prog (Tryz.Xd.t 26) (fun _=>some (.nil,[])) mb 0 (.map []):=
   ⟨_,clk,m2,⟨sP,⟨sP,sP,sP⟩,sP⟩,sP,sP⟩
  have hcell:w.cell? ⟨bb,0,none⟩=some (.map (some mb)):=by simp[World.cell?,e2]
  have hseq:=AnyZ.keys_gives (ρ:=Tryz.Xd) {Tryz.JSP with} Fence.wide 2 trivial rfl oM bb mb 0 _ w hbl hcell hown;have cS:=AnyZ.sorted_in Tryz.laysS Fence.wide 5 trivial trivial trivial trivial rfl oM (JGM _) (enters_of Tryz.func245 kR rfl) 246 #[.pointer (some ⟨bb,0,none⟩)] trivial (enters_of Tryz.func246 kR rfl) _ _
   (by show 0≤maxLen;simp) (by show 0*16≤_;omega) w hseq
  refine .inl ⟨⟨_,Tryz.func140,kR,kR⟩,(callsIn_wide.1 cS).mono ?_⟩;rintro e w' ⟨u,ss,rfl,hS,hrow,hnil,hbw⟩;have hss:ss=[]:=List.perm_nil.1 hS;subst hss;obtain rfl:u=.slice none 0 0:=hnil.2 rfl;refine⟨_,rfl,β,A,?_,.d _ _ (.nil 1 none)⟩;exact Stp.new hc hbw.os hbw.tape hbw.output hbw.size hbw.block (fun _ h=>h) (fun _ h=>.inl h) (fun b h=>Nat.lt_of_lt_of_le (hc.old b h) hbw.size)
def Y6:JMZ:=mapY [333,334,335] 140 246
theorem Y6_ok:JHJ Tryz.prog Y6:=by
 refine mapY_ok (fun f hf es i j=>?_) (fun k v b i=>⟨⟨_,Tryz.func140,kR,kR⟩,JO0 k v b i⟩) fun b i=>⟨⟨_,Tryz.func140,kR,kR⟩,sorted0 b i⟩
 have:f=333∨f=334∨f=335:=sX hf;rcases this with rfl|rfl|rfl
 ·exact⟨⟨_,Tryz.func333,kR,kR⟩,JC.JFI Tryz.JSM ⟨_,Tryz.func333,kR,kR⟩ es i j⟩
 ·exact⟨⟨_,Tryz.func334,kR,kR⟩,JC.JFI Tryz.JSN ⟨_,Tryz.func334,kR,kR⟩ es i j⟩
 ·exact⟨⟨_,Tryz.func335,kR,kR⟩,JC.JFI Tryz.JSO ⟨_,Tryz.func335,kR,kR⟩ es i j⟩
end Go.Proofs
namespace Go.Proofs
open Go Av Go.RowKit Go.Shelf Go.Lib
variable {X:Ext}{K:Nat→Nat}
set_option maxHeartbeats 2000000 in
set_option maxRecDepth 1000000 in
theorem cl243(a:Option Addr)(c:Nat)(w:World):Calls Tryz.prog 243 #[.slice a 0 c] w fun e w'=>∃a',e=.returned (.slice a' 0 0)∧Below w.heap.size w w':=by
 obtain⟨i0,hi⟩:∃i0,Tryz.prog.info? 351=some i0:=Option.isSome_iff_exists.1 kR;have q:∀(w:World) (a:Option Addr) (n c n' c':Nat),(binOp .eql 274 (.slice a n c) (.slice none n' c')).run Tryz.prog w=.ok (.bool a.isNone) w:=fun w a n c n' c'=>Lib.run_eql_slice_nil w _ _ a n c n' c' Tryz.underlying274
 have mixed:Tryz.prog.follows Departure.mixedOrders=true:=kR;cases a with
 |none=>
  go_enter Tryz.func243,Tryz.ntmps243
  go_wp2
  go_ret
  exact⟨none,rfl,Below.refl _ _⟩
 |some a=>
  go_enter Tryz.func243,Tryz.ntmps243
  go_wp2_with (first|(simp only[q];done)|(at_builtin;refine XV rfl _ _ 274 rfl 351 i0 Tryz.underlying274 hi _ rfl (some a) c rfl ?_))
  go_wp2
  go_ret
  exact⟨_,rfl,(Below.refl _ w).alloc (Nat.le_refl _) _⟩
def X6:Ext:=fun f ds=>match f,ds with
 |243,[.nil n]=>some (.d (.nil n))
 |f,ds=>X4 f ds
theorem X6_ok:JS Tryz.prog X6:=by
 intro f ds d h;unfold X6 at h;split at h
 ·cases h;exact JCI ⟨_,Tryz.func243,kR,kR⟩ cl243 _ (.inl rfl)
 ·exact X4_ok _ _ _ h
section
@[instance_reducible] def JKG:Rls:={rl:=fun n=>n==1,rm:=fun n=>n==3||n==7}
attribute [local instance] JKG
def findD(f:Nat)(ds:List Dat):Tbl→Option Av
 |[]=>none
 |(g,l,v)::r=>match g==f with
  |true=>match Zj ds l with
   |true=>some v
   |false=>findD f ds r
  |false=>findD f ds r
def Jy(t:Tbl)(X:Ext):Ext:=fun f ds=>match findD f ds t with
 |some v=>some v
 |none=>X f ds
def JAX:List Av→List Av→Bool
 |[],[]=>true
 |.d x::xs,.d y::ys=>dEq x y&&JAX xs ys
 |_,_=>false
theorem JGN:∀(a b:List Av),JAX a b=true→a=b
 |[],[],_=>rfl
 |[],_::_,h=>by simp[JAX]at h
 |x::xs,[],h=>by cases x<;>simp[JAX]at h
 |x::xs,y::ys,h=>by
  cases x with
  |d x=>
   cases y with
   |d y=>
    simp only[JAX,Vi]at h;rw[JGp x y h.1,JGN xs ys h.2]
   |_=>simp[JAX]at h
  |_=>simp[JAX]at h
def JO1:Av→Av→Bool
 |.d x,.d y=>dEq x y
 |.tup xs,.tup ys=>JAX xs ys
 |_,_=>false
theorem JO2{a b:Av}(h:JO1 a b=true):a=b:=by
 unfold JO1 at h;split at h
 ·rw[JGp _ _ h]
 ·rw[JGN _ _ h]
 ·cases h
def entK(P:Program)(X:Ext)(K:Nat→Nat)(f:Nat)(l:List Dat)(v:Av):Bool:=match evF P (ZE (K f)) (JDX P X Y6 K 500 60) 500 f (l.map .d) []with
 |some (u,_)=>Z0 u&&JO1 u v
 |none=>false
theorem JLi(hX:JS Tryz.prog X){f:Nat}{l:List Dat}{v:Av}(h:entK Tryz.prog X K f l v=true):PT f l v∧J5 v:=by
 unfold entK at h;split at h
 ·rename_i u fh ev;simp only[Vi]at h;obtain⟨hp,he⟩:=h;obtain rfl:=JO2 he;exact⟨JOz hX Y6_ok ev hp,ZP hp⟩
 ·cases h
def Jx(P:Program)(X:Ext)(K:Nat→Nat):Tbl→Bool
 |[]=>true
 |(f,l,v)::r=>entK P X K f l v&&Jx P X K r
theorem JCu(hX:JS Tryz.prog X):∀{t:Tbl} {f:Nat} {ds:List Dat} {v:Av},Jx Tryz.prog X K t=true→findD f ds t=some v→CT (.fn f) (ds.map .d) [] v []
 |[],_,_,_,_,h=>by cases h
 |(g,l,x)::r,f,ds,v,h,hf=>by
  rw[Jx,Vi]at h;rw[findD]at hf;split at hf
  ·rename_i e1;split at hf
   ·rename_i e2;cases hf;obtain rfl:=JB6 _ _ e2;simp only[beq_iff_eq]at e1;subst e1;obtain⟨h1,h2⟩:=JLi hX h.1;exact h1.call h2
   ·exact JCu hX h.2 hf
  ·exact JCu hX h.2 hf
theorem JJ{t:Tbl}(hX:JS Tryz.prog X)(h:Jx Tryz.prog X K t=true):JS Tryz.prog (Jy t X):=by
 intro f ds v hx;unfold Jy at hx;split at hx
 ·rename_i u e;cases hx;exact JCu hX h e
 ·exact hX f ds v hx
end
def K6:Nat→Nat
 |6|17|21|38|238|243=>1
 |41=>2
 |_=>0
end Go.Proofs
namespace Go.Proofs
open Go Av
attribute [local instance] JKG
theorem rl11: @Z7 JKG 11 1=false:=rfl
theorem rl9: @Z7 JKG 9 1=false:=rfl
theorem rl7: @Z7 JKG 7 3=true:=rfl
theorem rl3: @Z7 JKG 3 1=true:=rfl
theorem rm3: @Rls.rm JKG 3=true:=rfl
def JO3:Ste:=.mk [] 13 0 0 0 [111,117,116] [] [] [] [] []
def epD(n:Str)(k:Int)(s:Str):Dat:=.agg [.str n,.int .i64 k,.str s,.int .i64 1,.int .i64 1,.int .i64 0,.nil 1]
def epsD:List Dat:=[epD [105,110] 1 [111,114,100,101,114],epD [111,117,116] 2 [111,114,100,101,114],epD [113] 3 [111,114,100,101,114]]
def outD:Dat:=.agg [.str [],.int .i64 13,.int .i64 0,.int .i64 0,.int .i64 0,.str [111,117,116],.str [],.nil 5,.nil 6,.nil 2,.nil 2]
theorem outD_c:outD.canon=JL JO3:=by
 rw[JE];simp only[outD,JO3,Dat.canon,JK,Ste.name,Ste.kind,Ste.number,Ste.time,Ste.limit,Ste.text,Ste.schema,Ste.exprs,Ste.rules,Ste.calls,Ste.branches,Vb]
theorem ex6(l:List Itm):∃p:List Ste×List Dat,(p.1.length≤7∧gX 701 6010 p.1 p.2)∧KT 6 ([.agg [.list 5 (l.map J6)]].map .d) [] (.agg [.d (.int .i64 1),.d (.list 9 [Uk ⟨[111,114,100,101,114],1,JGK⟩]),.ms 25 0,.d (.nil 4),.ms 28 0])
  [(25,.row 0 7 epsD),(28,.row 0 3 [.agg [.str [109,97,105,110],.str [105,110],.list 11 p.2]])]:=by
 refine ok6.cex (k:=some true) (fun p:List Ste×List Dat=>.agg [.d (.int .i64 1),.d (.list 9 [Uk ⟨[111,114,100,101,114],1,JGK⟩]),.ms 25 0,.d (.nil 4),.ms 28 0]) (fun p=>[(25,.row 0 7 epsD),(28,.row 0 3 [.agg [.str [109,97,105,110],.str [105,110],.list 11 p.2]])]) (fun p=>p.1.length≤7∧gX 701 6010 p.1 p.2) (Nat.le_of_ble_eq_true rfl)
  (fun _ _=>Jf (by simp[UH,put,Je,J8,JR,JV,Av.get])) (fun _ _=>by simp[JA,upd,inT,JV,JR]) ?_
 obtain⟨⟨x,xs⟩,⟨h6,hg⟩,c17⟩:=ex17 l 7;dsimp only at h6 hg c17;have c19:=walk19.call trivial;rw[JZ]at c19;simp only[go_sem,ir6,Vv,Vc,simprocAttr];refine wn c17 ?_;simp only[go_sem,Vv,Vc,simprocAttr];have hlen:xs.length≤6:=by have:=hg.2.2;omega
 refine JJo (ds:=[.list 11 xs]) rfl rfl ⟨rfl,trivial⟩ (r:=.bool (Xu x)) (by simp only[Va,Vb,Dat.canon,hg.2.1];exact p18 x) rfl ?_;simp only[go_sem,rl11,Vv,Vc,simprocAttr];refine U9 (fun _=>?_) (fun _=>?_)
 ·refine⟨c11 _ _ _ _ _ _ _ _ _ _ _,oM,?_⟩;refine JP rfl c19 trivial ?_;simp only[go_sem,rl9,rl7,rl3,rm3,List.any_cons,List.any_nil,Bool.or_false,Vv,Vc,simprocAttr];exact⟨by simp[Dat.cells],by simp[Dat.cells],by simp[Dat.cells],dC,(x++[JO3],xs++[outD]),⟨by simp only[Vg,List.length_singleton];omega,gX1 hg dC dC outD_c⟩,rfl,rfl,rfl⟩
 ·refine JP rfl c19 trivial ?_;simp only[go_sem,rl9,rl7,rl3,rm3,List.any_cons,List.any_nil,Bool.or_false,Vv,Vc,simprocAttr];exact⟨by simp[Dat.cells],by simp[Dat.cells],by simp[Dat.cells],dC,(x,xs),⟨by dsimp only;omega,hg⟩,rfl,rfl,rfl⟩
theorem ex6c(l:List Itm):∃p:List Ste×List Dat,(p.1.length≤7∧gX 701 6010 p.1 p.2)∧CT (.fn 6) ([.agg [.list 5 (l.map J6)]].map .d) [(25,none),(28,none)] (.agg [.d (.int .i64 1),.d (.list 9 [Uk ⟨[111,114,100,101,114],1,JGK⟩]),.ms 25 0,.d (.nil 4),.ms 28 0])
  [(25,.row 0 7 epsD),(28,.row 0 3 [.agg [.str [109,97,105,110],.str [105,110],.list 11 p.2]])]:=by
 obtain⟨p,hg,hc⟩:=ex6 l;refine⟨p,hg,?_⟩;have hd:∀i,(JA (get []) [(25,Av.Obj.row 0 7 epsD),(28,Av.Obj.row 0 3 [.agg [.str [109,97,105,110],.str [105,110],.list 11 p.2]])] i).isSome=true→i=25∨i=28:=by
  intro i h;by_cases e:i=25
  ·exact .inl e
  by_cases e2:i=28
  ·exact .inr e2
  simp[JA,upd,Av.get,e,Ne.symm e,e2,Ne.symm e2]at h
 have h:=hc.call (fun i=>i) (fun i h=>by cases h) (fun i j hi hj e=>e) (by intro c hc;obtain⟨x,_,rfl⟩:=VC.1 hc;trivial) (by intro i o h;cases h) [25,28] (by intro e he;simp only[VA,List.not_mem_nil,or_false]at he;rcases he with rfl|rfl<;>exact .inr sP)
  (Jf (by simp[UH,put,Je,J8,JR,JV,Av.get])) (by simp[JA,upd,inT,JV,JR])
 simpa[Av.ren,Obj.ren,J3]using h
end Go.Proofs
namespace Go.Proofs
open Go Av
theorem p99(l:List Int):PD (.list 1 (l.map (.int .i64))) l:=.inl rfl
set_option maxHeartbeats 8000000 in
theorem JO4(p:Prg)(l:List Ste)(h:∀x∈l,∀b∈x.branches,V87 p b.steps):V87 p l:=by
  intro ro r pd pl o ns hp hx ho
  refine Con.Ja ok99.has fun hfit=>?_
  have hl:l.length≤68719476736:=by have:=(hfit (.list 11 (l.map JL)) (by simp)).1;simpa using this
  have hfs:∀x∈l,x.branches.length≤68719476736:=by
    intro x hxm
    have:=UC.1 (hfit (.list 11 (l.map JL)) (by simp)).2 _ (VC.2 ⟨x,hxm,rfl⟩)
    rw[JE]at this
    simp only[fits,Ue,Vc]at this
    omega
  clear hfit
  generalize hR:ssP ro r p l false 0 pl (ns,o)=R
  refine ok99.con (k:=some false) (Nat.le_of_ble_eq_true rfl) (JAV _ _ _ _ _ _ _ _) trivial ?_
  simp only[LM,LT,go_sem,ir99,Jb,Vc,Nat.reduceAdd,Nat.reduceEqDiff,Nat.reduceBEq,Nat.reduceLeDiff,reduceCtorEq,↓reduceIte]
  refine JH (fun n st=>∃(k:Nat) (S:NP) (z:Dat),k≤l.length∧n=l.length-k∧ssP ro r p (l.drop k) (JAW l k) k pl S=R∧S.2.length+JBh (l.drop k)≤10000000000∧
    st=⟨[(0,.ref 1000 0),(2,.d (.int .i64 r)),(3,.d (.list 11 (l.map JL))),(4,.mp 1002),(5,.d (.map Jt)),(7,.ref 7 0),(12,.d pd),(23,.d (.list 11 (l.map JL))),(24,.d (.int .i64 l.length)),(25,.d (.int .i64 k))],LM ro z S.2 S.1++[(7,.box [.d (.int .i64 p.version),.d (.list 9 (p.schemas.map Uk)),.d (.list 7 (p.endpoints.map UW)),.d (.list 4 (p.services.map XM)),.d (.list 3 (p.routes.map U8))])]⟩) ?_ ?_
  · refine⟨_,_,Wk.less ?_,0,(ns,o),pd,Nat.zero_le _,rfl,hR,ho,rfl⟩
    simp[go_sem,LM,LT]
  · rintro n st ⟨k,⟨ns,q⟩,z,hk,rfl,hinv,hq,rfl⟩
    simp only at hq
    by_cases hlt:k<l.length
    · have hn:=JAl hlt
      have hdk:decide ((k:Int)<(l.length:Int))=true:=by simp;omega
      have hbr:=hfs _ (Vk hlt)
      have hV:=h _ (Vk hlt)
      have hE:(decide ((k:Int)>0)&&(if hz:0<k then Xt (l[k-1]'(by omega))else false))=JAW l k:=by
        by_cases hz:0<k
        · rw[dif_pos hz,JOw hlt hz]
          have:decide ((k:Int)>0)=true:=by simp;omega
          rw[this,Vt]
        · rw[dif_neg hz,Bool.and_false]
          obtain rfl:k=0:=by omega
          rfl
      have hEn:ssP ro r p (l.drop (k+1)) (JAW l (k+1)) ((k+1:Nat):Int) pl (JHF ro r p l[k] (JAW l k) k pl (ns,q))=R:=by
        rw[Vq hlt,ssP]at hinv
        have e1:JAW l (k+1)=Xt l[k]:=by simp only[JAW];rw[Vl hlt];rfl
        rw[e1]
        simpa using hinv
      clear hinv
      rw[Vq hlt,JBh,wtS_eq]at hq
      rw[sP_eq]at hEn
      have hszd:szS l[k]≤XN l:=JEb (Vk hlt)
      rw[JJp]at hszd
      generalize hend:(if hz:0<k then Xt (l[k-1]'(by omega))else false)=ey at hE
      generalize hxx:l[k]=x at*
      have hlen:(pl++[(k:Int)]).length=pl.length+1:=by simp
      generalize hpl':pl++[(k:Int)]=pl' at*
      have c38:=JLc hp 32
      have c179:=(walk179 ⟨r,pl',x⟩ (by show pl'.length≤_;omega)).call trivial
      have cN:=JC.JKR (hp:=[(32,.row 1 1 (pl'.map (.int .i64)))]) (vs:=[.agg [.d (.int .i64 r),.ms 32 1,.d (.str x.name),.d (.int .i64 x.kind),.d (.int .i64 x.number),.d (.int .i64 x.time),.d (.int .i64 x.limit),.d (.str x.text),.d (.str x.schema),.d (.list 5 (x.exprs.map Jd)),.d (.list 6 (x.rules.map Uf)),.d (.list 2 (x.calls.map Jm)),.d (.list 2 (x.branches.map Jw))]]) (f:=179) (v:=.d (.str (JAU ⟨r,pl',x⟩))) rfl (by simp) (by simpa[Uc]using c179)
      clear c179
      unfold JJA at hEn
      simp only at hEn
      generalize hnm:JAU ⟨r,pl',x⟩=nm at*
      have d1:=JF (!(x.name==[])&& !cnS x.name) ⟨1,ro,pl',x.name⟩ q
      have a1:=JC.seeFrz (j:=1) (k:=32) (ver:=1) (sz:=1) (xs:=pl'.map (.int .i64)) (cs:=[.d (.str ro),.ms 32 1,.ms 1001 q.length]) (call94 1000 1001 (by decide) ro (p99 pl') q (!(x.name==[])&& !cnS x.name) 1 x.name (by omega)) (by simp) rfl rfl
      generalize JO (!(x.name==[])&& !cnS x.name) ⟨1,ro,pl',x.name⟩ q=o1 at*
      have d2:=JF (ns.contains nm) ⟨2,ro,pl',nm⟩ o1
      have a2:=call94 1000 1001 (by decide) ro (p99 pl') o1 (ns.contains nm) 2 nm (by omega)
      generalize JO (ns.contains nm) ⟨2,ro,pl',nm⟩ o1=o2 at*
      have d3:=JF (JAW l k) ⟨7,ro,pl',[]⟩ o2
      have a3:=call94 1000 1001 (by decide) ro (p99 pl') o2 (JAW l k) 7 [] (by omega)
      generalize JO (JAW l k) ⟨7,ro,pl',[]⟩ o2=o3 at*
      have d4:=JGJ ro pl' p x o3
      have a4:=call181 ro (p99 pl') p x o3 (by omega)
      have d5:=JF true ⟨5,ro,pl',[]⟩ o3
      have a5:=call94 1000 1001 (by decide) ro (p99 pl') o3 true 5 [] (by omega)
      have c95:=(JKC x.name).call trivial
      have c180:=(walk180 x).call trivial
      simp only[Jb]at a4
      rw[JE]at c180 a4
      simp only[LM,LT,go_sem,hn,hdk,Vv,Vc,Nat.reduceAdd,Nat.reduceEqDiff,Nat.reduceBEq,Nat.reduceLeDiff,reduceCtorEq,↓reduceIte]
      have hm:pl.map (.int .i64)++[Dat.int .i64 (k:Int)]=pl'.map (.int .i64):=by rw[←hpl',Vw];rfl
      refine⟨⟨by omega,by omega⟩,JI rfl c38 ⟨rfl,trivial⟩ ?_⟩
      simp only[go_sem,hm,Nat.reduceAdd,Nat.reduceEqDiff,Nat.reduceBEq,Nat.reduceLeDiff,reduceCtorEq,↓reduceIte]
      refine⟨by simp,by simp;omega,JI rfl cN ⟨rfl,trivial⟩ ?_⟩
      simp only[go_sem,Nat.reduceAdd,Nat.reduceEqDiff,Nat.reduceBEq,Nat.reduceLeDiff,reduceCtorEq,↓reduceIte]
      refine⟨!cnS x.name,_,[([],[]),([14],[]),([],[]),([],[])],rfl,fun _=>JP rfl c95 trivial ?_,fun _=>rfl,?_⟩
      · simp only[go_sem,Nat.reduceAdd,Nat.reduceEqDiff,Nat.reduceBEq,Nat.reduceLeDiff,reduceCtorEq,↓reduceIte]
        try exact⟨rfl,rfl,rfl⟩
      simp only[go_sem,Nat.reduceAdd,Nat.reduceEqDiff,Nat.reduceBEq,Nat.reduceLeDiff,reduceCtorEq,↓reduceIte]
      refine JP rfl a1 ⟨rfl,rfl,rfl,trivial⟩ ?_
      simp only[go_sem,Ju,J4,UP,Nat.reduceAdd,Nat.reduceEqDiff,Nat.reduceBEq,Nat.reduceLeDiff,reduceCtorEq,↓reduceIte]
      refine⟨rfl,JI rfl a2 ⟨rfl,rfl,trivial⟩ ?_⟩
      simp only[go_sem,Ju,J4,UP,Nat.reduceAdd,Nat.reduceEqDiff,Nat.reduceBEq,Nat.reduceLeDiff,reduceCtorEq,↓reduceIte]
      refine J9 ey (fun hz=>?_) ?_
      · have hz':0<k:=by have:=of_decide_eq_true hz;omega
        have hlk:k-1<l.length:=by omega
        have hw:IntKind.i64.wrap ((k:Int)-1)=((k-1:Nat):Int):=Zq k hz' (by omega)
        have hn2:=JAl hlk
        have c40:=(p40 l[k-1]).call trivial
        rw[JE]at c40
        rw[dif_pos hz']at hend
        rw[hend]at c40
        simp only[go_sem,hw,hn2,Vv,Vc,Nat.reduceAdd,Nat.reduceEqDiff,Nat.reduceBEq,Nat.reduceLeDiff,reduceCtorEq,↓reduceIte]
        refine⟨⟨by omega,by omega⟩,JI rfl c40 trivial ?_⟩
        simp only[go_sem,Nat.reduceAdd,Nat.reduceEqDiff,Nat.reduceBEq,Nat.reduceLeDiff,reduceCtorEq,↓reduceIte]
      simp only[go_sem,hE,Nat.reduceAdd,Nat.reduceEqDiff,Nat.reduceBEq,Nat.reduceLeDiff,reduceCtorEq,↓reduceIte]
      refine JI rfl a3 ⟨rfl,rfl,trivial⟩ ?_
      simp only[go_sem,Nat.reduceAdd,Nat.reduceEqDiff,Nat.reduceBEq,Nat.reduceLeDiff,reduceCtorEq,↓reduceIte]
      refine JI rfl c180 trivial ?_
      simp only[go_sem,Nat.reduceAdd,Nat.reduceEqDiff,Nat.reduceBEq,Nat.reduceLeDiff,reduceCtorEq,↓reduceIte]
      obtain⟨o4,ho4,hb4⟩:∃o4,(if JIu x=true then JCP ro pl' p x o3 else JO true ⟨5,ro,pl',[]⟩ o3)=o4∧o4.length≤o3.length+3+2*x.calls.length:=⟨_,rfl,by split<;>omega⟩
      rw[ho4]at hEn
      clear a1 a2 a3 c95 c180 cN c38 hn hdk hE hend d4 d5
      generalize hRB:bsP ro r p x.branches 0 pl' (JE6 ns nm,o4)=RB at*
      generalize hbs:x.branches=bs at*
      generalize JIu x=F at*
      cases F
      all_goals simp only[go_sem,Jb,Nat.reduceAdd,Nat.reduceEqDiff,Nat.reduceBEq,Nat.reduceLeDiff,reduceCtorEq,↓reduceIte]
      all_goals first
        |(rw[if_pos rfl]at ho4;rw[ho4]at a4;refine JI rfl a4 ⟨rfl,rfl,trivial⟩ ?_)
        |(rw[if_neg (by decide)]at ho4;rw[ho4]at a5;refine JI rfl a5 ⟨rfl,rfl,trivial⟩ ?_)
      all_goals
        simp only[LT,go_sem,Vc,Nat.reduceAdd,Nat.reduceEqDiff,Nat.reduceBEq,Nat.reduceLeDiff,reduceCtorEq,↓reduceIte]
        clear a4 a5 ho4
        refine JH (fun n st=>∃(b:Nat) (T:NP) (z:Dat),b≤bs.length∧n=bs.length-b∧bsP ro r p (bs.drop b) b pl' T=RB∧T.2.length+JCt (bs.drop b)+JBh (l.drop (k+1))≤10000000000∧
          st=⟨[(0,.ref 1000 0),(2,.d (.int .i64 r)),(3,.d (.list 11 (l.map JL))),(4,.mp 1002),(5,.d (.map Jt)),(7,.ref 7 0),(12,.d pd),(23,.d (.list 11 (l.map JL))),(24,.d (.int .i64 l.length)),(25,.d (.int .i64 k)),(16,.d (.list 1 (pl'.map (.int .i64)))),(93,.d (.list 2 (bs.map Jw))),(94,.d (.int .i64 bs.length)),(95,.d (.int .i64 b))],LM ro z T.2 T.1++[(7,.box [.d (.int .i64 p.version),.d (.list 9 (p.schemas.map Uk)),.d (.list 7 (p.endpoints.map UW)),.d (.list 4 (p.services.map XM)),.d (.list 3 (p.routes.map U8))])]⟩) ?_ ?_
        · refine⟨_,_,Wk.less ?_,0,(JE6 ns nm,o4),.list 1 (pl'.map (.int .i64)),Nat.zero_le _,rfl,hRB,by simp only[List.drop_zero];omega,rfl⟩
          simp[go_sem,LM,LT]
        · rintro n st ⟨b,⟨ms,q5⟩,z2,hbk,rfl,hinv2,hq2,rfl⟩
          simp only at hq2
          by_cases hbl:b<bs.length
          · have hbn:=JEW hbl
            have hdb:decide ((b:Int)<(bs.length:Int))=true:=by simp;omega
            have hVb:=hV _ (Vk hbl)
            have hszb:szB bs[b]≤Zn bs:=JEc (Vk hbl)
            rw[Vq hbl,JCt,wtB_eq]at hq2
            rw[Vq hbl,bsP,bP_eq]at hinv2
            rw[JJq]at hszb
            generalize bs[b]=br at*
            have hlen2:(pl'++[(b:Int)]).length=pl'.length+1:=by simp
            have hmb:pl'.map (.int .i64)++[Dat.int .i64 (b:Int)]=(pl'++[(b:Int)]).map (.int .i64):=by rw[Vw];rfl
            generalize pl'++[(b:Int)]=pb at*
            have c38b:=JLc (p99 pl') 102
            have dU:=JDr ro r p br.steps false 0 pb (ms,q5)
            have c99:=JC.frzBox (i:=1000) (j:=1) (k:=102) (ver:=1) (sz:=1) (xs:=pb.map (.int .i64)) (cs:=[.d (.str ro),.ms 102 1,.ms 1001 q5.length]) (call99 hVb ro r (.list 1 (pb.map (.int .i64))) pb q5 ms (p99 pb) (by omega) (by omega)) (by simp) (by decide) rfl rfl
            generalize ssP ro r p br.steps false 0 pb (ms,q5)=U at*
            simp only[Jb]at c99
            simp only[LM,LT,go_sem,hbn,hdb,Vv,Vc,Nat.reduceAdd,Nat.reduceEqDiff,Nat.reduceBEq,Nat.reduceLeDiff,reduceCtorEq,↓reduceIte]
            refine⟨⟨by omega,by omega⟩,JI rfl c38b ⟨rfl,trivial⟩ ?_⟩
            simp only[go_sem,hmb,Nat.reduceAdd,Nat.reduceEqDiff,Nat.reduceBEq,Nat.reduceLeDiff,reduceCtorEq,↓reduceIte]
            refine⟨by simp,by simp;omega,JI rfl c99 ⟨rfl,rfl,rfl,rfl,trivial⟩ ?_⟩
            simp only[go_sem,LM,LT,Nat.reduceAdd,Nat.reduceEqDiff,Nat.reduceBEq,Nat.reduceLeDiff,reduceCtorEq,↓reduceIte]
            refine⟨bs.length-(b+1),_,by omega,Wk.less ?_,b+1,U,.list 1 (pb.map (.int .i64)),by omega,rfl,by simpa using hinv2,by simp only at dU;omega,rfl⟩
            simp only[go_sem,LM,LT,Jg b (by omega),Nat.reduceAdd,Nat.reduceEqDiff,Nat.reduceBEq,Nat.reduceLeDiff,reduceCtorEq,↓reduceIte]
          · have hdb:decide ((b:Int)<(bs.length:Int))=false:=by simp;omega
            obtain rfl:b=bs.length:=by omega
            rw[List.drop_length,bsP]at hinv2
            subst hinv2
            rw[List.drop_length,JCt]at hq2
            simp only[LM,LT,go_sem,hdb,Nat.reduceAdd,Nat.reduceEqDiff,Nat.reduceBEq,Nat.reduceLeDiff,reduceCtorEq,↓reduceIte]
            refine⟨l.length-(k+1),_,by omega,Wk.less ?_,k+1,(ms,q5),z2,by omega,rfl,hEn,by simp only;omega,rfl⟩
            simp only[go_sem,LM,LT,Jg k (by omega),Nat.reduceAdd,Nat.reduceEqDiff,Nat.reduceBEq,Nat.reduceLeDiff,reduceCtorEq,↓reduceIte]
    · have hdk:decide ((k:Int)<(l.length:Int))=false:=by simp;omega
      obtain rfl:k=l.length:=by omega
      rw[List.drop_length,ssP]at hinv
      subst hinv
      rcases hp with rfl|⟨rfl,rfl⟩
      all_goals simp only[LM,LT,go_sem,hdk,Nat.reduceAdd,Nat.reduceEqDiff,Nat.reduceBEq,Nat.reduceLeDiff,reduceCtorEq,↓reduceIte]
mutual
theorem v87s(p:Prg):∀(l:List Ste),∀x∈l,∀b∈x.branches,V87 p b.steps
 |[],x,h,_,_=>by cases h
 |v::q,x,h,b,hb=>by
  by_cases e:x=v
  ·rw[e]at hb;exact v87S p v b hb
  ·exact v87s p q x ((VA.1 h).resolve_left e) b hb
theorem v87S(p:Prg):∀(x:Ste),∀b∈x.branches,V87 p b.steps
 |.mk n k u t l x c e ru a bs=>v87bs p bs
theorem v87bs(p:Prg):∀(l:List Brn),∀b∈l,V87 p b.steps
 |[],b,h=>by cases h
 |v::q,b,h=>by
  by_cases e:b=v
  ·rw[e];exact v87B p v
  ·exact v87bs p q b ((VA.1 h).resolve_left e)
theorem v87B(p:Prg):∀(b:Brn),V87 p b.steps
 |.mk w s=>JO4 p s (v87s p s)
end
theorem w87(p:Prg)(l:List Ste):V87 p l:=JO4 p l (v87s p l)
def JMa(p:Prg)(i:Nat)(x:Rou)(s:NP):NP:=
 ssP x.name i p x.steps false 0 [] (s.1,JO (!Xu x.steps) ⟨6,x.name,[],[]⟩ (JO ((p.routes.take i).any fun y=>y.src==x.src) ⟨2,x.name,[],x.src⟩ (JO (YJ p x.src&&(Xo p x.src==2)) ⟨4,x.name,[],x.src⟩ (JO (!YJ p x.src) ⟨3,x.name,[],x.src⟩ (JO ((p.routes.take i).any fun y=>y.name==x.name) ⟨2,x.name,[],x.name⟩ (JO (!cnS x.name) ⟨1,x.name,[],x.name⟩ (s.2)))))))
def JAY(p:Prg):Nat→List Rou→NP→NP
 |_,[],s=>s
 |i,x::r,s=>JAY p (i+1) r (JMa p i x s)
def JKH:List Rou→Nat
 |[]=>0
 |x::r=>6+JBh x.steps+JKH r
def JFA(p:Prg):List Prb:=JOr [] [] p (wkN p.routes p.routes.length) []
def allS(p:Prg):List Prb:=(JAY p 0 p.routes (thP [] [] p [] (JFA p))).2
def Zu(p:Prg):List Prb:=if 0<(JFA p).length then JFA p else(allS p).take 200
theorem call91(p:Prg)(hsz:Ys p.routes≤1000000000):
  CT (.fn 91) [.ref 11 0,.d (Jb p)] [(11,some (.box [.d (.str []),.d (.nil 1),.d (.nil 4)])),(12,none)] (.tup []) [(11,.box [.d (.str []),.d (.nil 1),.ms 12 (JFA p).length]),(12,.row (JFA p).length 4 ((JFA p).map Z3))]:=by
 have hc:=con91 [] (pd:=.nil 1) (l:=[]) (.inr ⟨rfl,rfl⟩) p [] sP hsz;change Con _ _ _ _ _ (LT [] (.nil 1) (JFA p))at hc;generalize JFA p=o' at*;have h:=hc.call (fun j=>if j=1000 then 11 else if j=1001 then 12 else j) (fun j hj=>JKE hj) (fun a b ha hb h=>by
  rcases JHE ha with rfl|rfl<;>rcases JHE hb with rfl|rfl<;>first|rfl|(revert h;decide)) (by simp[JV,Av.get]) (JCr _ _ _) [] (by simp[Av.get]) (ZW _ _ _ _ _ _) trivial
 simp only[LT,Va,Vb,Vm,Obj.ren,Av.ren,J3,ZF,List.append_nil,Nat.reduceEqDiff,↓reduceIte]at h;exact JC.JKP (j:=2) (JC.JSI h sP) sP dC rfl dC rfl rfl
abbrev JMb(j:Nat):Nat:=if j=1000 then 11 else if j=1001 then 12 else if j=1002 then 25 else j
theorem JJD{i j:Nat}(hi:i=1000∨i=1001∨i=1002)(hj:j=1000∨j=1001∨j=1002)(h:JMb i=JMb j):i=j:=by
 rcases hi with rfl|rfl|rfl<;>rcases hj with rfl|rfl|rfl<;>first|rfl|(revert h;decide)
theorem call92(ro:Str){pd:Dat}{l:List Int}(hp:PD pd l)(p:Prg)(ns:List Str)(o:List Prb)(ho:o.length+1+3*p.schemas.length+4*p.endpoints.length+4*p.services.length≤10000000000):
  CT (.fn 92) [.ref 11 0,.d (Jb p),.mp 25] [(11,some (.box [.d (.str ro),.d pd,.ms 12 o.length])),(12,some (.row o.length 4 (o.map Z3))),(25,some (.mapo (mpS ns)))] (.tup [])
   [(11,.box [.d (.str ro),.d pd,.ms 12 (thP ro l p ns o).2.length]),(12,.row (thP ro l p ns o).2.length 4 ((thP ro l p ns o).2.map Z3)),(25,.mapo (mpS (thP ro l p ns o).1))]:=by
 have hc:=con92 ro hp p ns o ho;generalize thP ro l p ns o=R at*;have h:=hc.call JMb (fun j hj=>JKF hj) (fun a b ha hb h=>JJD (JHG ha) (JHG hb) h) (by simp[JV,Av.get]) (JCs _ _ _ _) [] (by simp[Av.get]) (JAV _ _ _ _ _ _ _ _) trivial;simp only[LM,LT,Va,Vb,List.cons_append,List.nil_append,Obj.ren,Av.ren,J3,ZF,List.append_nil,JMb,Nat.reduceEqDiff,↓reduceIte]at h;exact h
theorem call99a(p:Prg)(st:List Ste)(ro:Str)(r:Int)(pd:Dat)(l:List Int)(o:List Prb)(ns:List Str)(hp:PD pd l)(h1:l.length+2*XN st≤400000000)(h2:o.length+JBh st≤10000000000):
  CT (.fn 99) [.ref 11 0,.d (Jb p),.d (.int .i64 r),.d (.list 11 (st.map JL)),.mp 25,.d (.map Jt)] [(11,some (.box [.d (.str ro),.d pd,.ms 12 o.length])),(12,some (.row o.length 4 (o.map Z3))),(25,some (.mapo (mpS ns)))] (.tup [])
   [(11,.box [.d (.str ro),.d pd,.ms 12 (ssP ro r p st false 0 l (ns,o)).2.length]),(12,.row (ssP ro r p st false 0 l (ns,o)).2.length 4 ((ssP ro r p st false 0 l (ns,o)).2.map Z3)),(25,.mapo (mpS (ssP ro r p st false 0 l (ns,o)).1))]:=by
 have hc:=w87 p st ro r pd l o ns hp h1 h2;generalize ssP ro r p st false 0 l (ns,o)=R at*;have h:=hc.call JMb (fun j hj=>JKF hj) (fun a b ha hb h=>JJD (JHG ha) (JHG hb) h) (by simp[JV,Av.get]) (JCs _ _ _ _) [] (by simp[Av.get]) (JAV _ _ _ _ _ _ _ _) trivial;simp only[LM,LT,Va,Vb,List.cons_append,List.nil_append,Obj.ren,Av.ren,J3,ZF,List.append_nil,JMb,Nat.reduceEqDiff,↓reduceIte]at h;exact h
set_option maxHeartbeats 4000000 in
theorem walk55(p:Prg)(hsz:Ys p.routes≤100000000)(hwt:JKH p.routes+3*p.schemas.length+4*p.endpoints.length+4*p.services.length≤8000000000):PT 55 [Jb p] (.d (.list 4 ((Zu p).map Z3))):=by
 refine Jz.Ja ok55.has fun hfit=>?_
 obtain⟨f1,f2,f3,f4⟩:=Zt (hfit (Jb p) sP);clear hfit;refine ok55.pc ?_;have c91:=call91 p oM;have hl7:(JFA p).length≤7:=by
  have h:=JOs [] [] p (wkN p.routes p.routes.length) [];simpa[JFA]using h
 unfold Zu allS;generalize JFA p=o0 at*;have c93:=walk93.call trivial;have hT:=thP_len [] [] p [] o0;have c92:=call92 [] (pd:=.nil 1) (l:=[]) (.inr ⟨rfl,rfl⟩) p [] o0 oM;generalize thP [] [] p [] o0=T at*;simp only[Jb]at c91 c92;simp only[go_sem,ir55,Jb,Nat.reduceAdd,Nat.reduceEqDiff,Nat.reduceBEq,Nat.reduceLeDiff,reduceCtorEq,↓reduceIte];refine wn c91 ?_;refine zz4 ?_;by_cases hpos:0<o0.length
 ·rw[if_pos hpos];have hg:decide ((o0.length:Int)>0)=true:=decide_eq_true oM;simp only[go_sem,hg,Nat.reduceAdd,Nat.reduceEqDiff,Nat.reduceBEq,Nat.reduceLeDiff,reduceCtorEq,↓reduceIte]
 ·rw[if_neg hpos];have hg:decide ((o0.length:Int)>0)=false:=decide_eq_false oM;simp only[go_sem,hg,Nat.reduceAdd,Nat.reduceEqDiff,Nat.reduceBEq,Nat.reduceLeDiff,reduceCtorEq,↓reduceIte];have e0:([]:List (Dat×Dat))=mpS []:=rfl;refine JI rfl c92 ⟨rfl,rfl,rfl,trivial⟩ ?_;refine zz ?_;refine wn c93 ?_;refine zz4 ?_;generalize hR:JAY p 0 p.routes T=R at*;clear c91 c92 c93 hg hpos;have hb0:T.2.length+JKH p.routes≤9000000000:=oM;refine JH (fun n st=>∃(k:Nat) (S:NP) (ro:Str),k≤p.routes.length∧n=p.routes.length-k∧JAY p k (p.routes.drop k) S=R∧S.2.length+JKH (p.routes.drop k)≤9000000000∧
   st=⟨[(1,.ref 1 0),(3,.ref 11 0),(4,.mp 25),(5,.d (.map Jt)),(32,.d (.list 3 (p.routes.map U8))),(33,.d (.int .i64 p.routes.length)),(34,.d (.int .i64 k))],
    [(11,.box [.d (.str ro),.d (.nil 1),.ms 12 S.2.length]),(12,.row S.2.length 4 (S.2.map Z3)),(25,.mapo (mpS S.1)),(1,.box [.d (.int .i64 p.version),.d (.list 9 (p.schemas.map Uk)),.d (.list 7 (p.endpoints.map UW)),.d (.list 4 (p.services.map XM)),.d (.list 3 (p.routes.map U8))])]⟩) ?_ ?_
  ·refine⟨_,_,Wk.less ?_,0,T,[],Nat.zero_le _,rfl,hR,hb0,rfl⟩;simp[go_sem]
  ·rintro n st ⟨i,⟨ns,q⟩,ro,hk,rfl,hinv,hq,rfl⟩;simp only at hq;by_cases hlt:i<p.routes.length
   ·have hx:=J0 U8 hlt;have hd:=dT hlt;have hsx:XN p.routes[i].steps≤Ys p.routes:=JEl (Vk hlt);rw[Vq hlt,JKH]at hq;rw[Vq hlt,JAY]at hinv;unfold JMa at hinv;generalize p.routes[i]=x at*;simp only at hinv;simp only[U8]at hx;have d0:=JF (!cnS x.name) ⟨1,x.name,[],x.name⟩ q;have a0:=call94 11 12 dC x.name (pd:=.nil 1) (l:=[]) (.inr ⟨rfl,rfl⟩) q (!cnS x.name) 1 x.name oM;generalize JO (!cnS x.name) ⟨1,x.name,[],x.name⟩ q=q0 at*;have d1:=JF ((p.routes.take i).any fun y=>y.name==x.name) ⟨2,x.name,[],x.name⟩ q0;have a1:=call94 11 12 dC x.name (pd:=.nil 1) (l:=[]) (.inr ⟨rfl,rfl⟩) q0 ((p.routes.take i).any fun y=>y.name==x.name) 2 x.name oM;generalize JO ((p.routes.take i).any fun y=>y.name==x.name) ⟨2,x.name,[],x.name⟩ q0=q1 at*;have d2:=JF (!YJ p x.src) ⟨3,x.name,[],x.src⟩ q1;have a2:=call94 11 12 dC x.name (pd:=.nil 1) (l:=[]) (.inr ⟨rfl,rfl⟩) q1 (!YJ p x.src) 3 x.src oM;generalize JO (!YJ p x.src) ⟨3,x.name,[],x.src⟩ q1=q2 at*;have d3:=JF (YJ p x.src&&(Xo p x.src==2)) ⟨4,x.name,[],x.src⟩ q2;have a3:=call94 11 12 dC x.name (pd:=.nil 1) (l:=[]) (.inr ⟨rfl,rfl⟩) q2 (YJ p x.src&&(Xo p x.src==2)) 4 x.src oM;generalize JO (YJ p x.src&&(Xo p x.src==2)) ⟨4,x.name,[],x.src⟩ q2=q3 at*;have d4:=JF ((p.routes.take i).any fun y=>y.src==x.src) ⟨2,x.name,[],x.src⟩ q3;have a4:=call94 11 12 dC x.name (pd:=.nil 1) (l:=[]) (.inr ⟨rfl,rfl⟩) q3 ((p.routes.take i).any fun y=>y.src==x.src) 2 x.src oM;generalize JO ((p.routes.take i).any fun y=>y.src==x.src) ⟨2,x.name,[],x.src⟩ q3=q4 at*;have d5:=JF (!Xu x.steps) ⟨6,x.name,[],[]⟩ q4;have a5:=call94 11 12 dC x.name (pd:=.nil 1) (l:=[]) (.inr ⟨rfl,rfl⟩) q4 (!Xu x.steps) 6 [] oM;generalize JO (!Xu x.steps) ⟨6,x.name,[],[]⟩ q4=q5 at*;have dU:=JDr x.name i p x.steps false 0 [] (ns,q5);have c99:=call99a p x.steps x.name i (.nil 1) [] q5 ns (.inr ⟨rfl,rfl⟩) sO oM;generalize ssP x.name i p x.steps false 0 [] (ns,q5)=U at*;have h58:=(p27 p x.src).call (by simp[J5]);have h82:=(JKC x.name).call trivial;have h86:=(p18 x.steps).call trivial;have hti:(p.routes.take i).length≤68719476736:=sO;have h84:=JC.clo (P:=Tryz.prog) (ds:=[.list 3 ((p.routes.take i).map U8)]) (g:=97) (cs:=[.str x.name,.str x.src,.list 11 (x.steps.map JL)]) (JOA (cs:=[.ptr [.str x.name,.str x.src,.list 11 (x.steps.map JL)]]) (p.routes.take i) (fun y _=>walk97 y _ x.name) hti) rfl 7;have h85:=JC.clo (P:=Tryz.prog) (ds:=[.list 3 ((p.routes.take i).map U8)]) (g:=98) (cs:=[.str x.name,.str x.src,.list 11 (x.steps.map JL)]) (JOA (cs:=[.ptr [.str x.name,.str x.src,.list 11 (x.steps.map JL)]]) (p.routes.take i) (fun y _=>walk98 y _ _ x.src) hti) rfl 7;simp only[Jb]at c99 h58;change JC _ _ _ _ (.tup [.d (.int .i64 (epF p x.src)),.d (.bool (YJ p x.src))]) _ at h58;refine zz6 ?_;have hsl:min i p.routes.length=i:=oM;have hst:((i:Int)-0).toNat=i:=oM;have hs0:Int.toNat 0=0:=rfl;refine⟨⟨oM,oM⟩,wn h58 ?_⟩;refine zz ?_;refine JP rfl h82 trivial ?_;refine zz ?_;refine JP rfl a0 ⟨rfl,rfl,trivial⟩ ?_;refine zz4 ?_;refine⟨rfl,?_⟩;simp only[go_sem,hst,hs0,List.drop_zero,←List.map_take,Vc,Nat.reduceAdd,Nat.reduceEqDiff,Nat.reduceBEq,Nat.reduceLeDiff,reduceCtorEq,↓reduceIte];refine⟨⟨oM,oM,oM⟩,JP rfl h84 ⟨rfl,trivial⟩ ?_⟩;refine zz ?_;refine JP rfl a1 ⟨rfl,rfl,trivial⟩ ?_;refine zz4 ?_;refine⟨rfl,?_⟩;refine wn a2 ?_;refine zz4 ?_;refine J9 (Xo p x.src==2) (fun hh=>?_) ?_
    ·have hlt2:=JOt hh;have hn:=J0 UW hlt2;have e:Xo p x.src=p.endpoints[epF p x.src].kind:=by unfold Xo;rw[Vl hlt2];rfl
     simp only[UW]at hn;simp only[go_sem,hn,e,Vv,Vc,Nat.reduceAdd,Nat.reduceEqDiff,Nat.reduceBEq,Nat.reduceLeDiff,reduceCtorEq,↓reduceIte];exact⟨⟨oM,oM⟩,dC⟩
    refine zz ?_;refine wn a3 ?_;refine zz4 ?_;simp only[go_sem,hst,hs0,List.drop_zero,←List.map_take,Vc,Nat.reduceAdd,Nat.reduceEqDiff,Nat.reduceBEq,Nat.reduceLeDiff,reduceCtorEq,↓reduceIte];refine⟨⟨oM,oM,oM⟩,JP rfl h85 ⟨rfl,trivial⟩ ?_⟩;refine zz ?_;refine JP rfl a4 ⟨rfl,rfl,trivial⟩ ?_;refine zz4 ?_;refine⟨rfl,?_⟩;refine wc h86 ?_;refine wn a5 ?_;refine zz4 ?_;refine JI rfl c99 ⟨rfl,rfl,rfl,trivial⟩ ?_;refine zz ?_;refine⟨p.routes.length-(i+1),_,oM,Wk.less ?_,i+1,U,x.name,oM,rfl,hinv,by simp only at dU;omega,rfl⟩;simp only[go_sem,Jg i oM,Nat.reduceAdd,Nat.reduceEqDiff,Nat.reduceBEq,Nat.reduceLeDiff,reduceCtorEq,↓reduceIte]
   ·have hd:=dF hlt;obtain rfl:i=p.routes.length:=oM;rw[List.drop_length,JAY]at hinv;subst hinv;refine zz22 ?_;have hs0:Int.toNat 0=0:=rfl;refine⟨⟨oM,by split<;>omega,by split<;>omega⟩,?_⟩;rw[hs0,List.drop_zero,←List.map_take,JDQ];by_cases hh:200<q.length
    ·rw[if_pos oM];rfl
    ·rw[if_neg oM,List.take_of_length_le oM,List.take_of_length_le oM]
theorem Jv(is:Bool)(x:Prb)(o:List Prb):o.length≤(JO is x o).length:=by
 unfold JO;split<;>simp
theorem JGO(ro:Str)(l:List Int)(p:Prg)(s:Ste):∀(k:Nat) (r:List Kal) (o:List Prb),o.length≤(Xp ro l p s k r o).length
 |_,[],o=>by simp[Xp]
 |k,c::r,o=>by
  rw[Xp];exact Nat.le_trans (Nat.le_trans (Jv _ _ _) (Jv _ _ _)) (JGO ro l p s (k+1) r _)
theorem toP_ge(ro:Str)(l:List Int)(p:Prg)(s:Ste)(o:List Prb):o.length≤(toP ro l p s o).length:=by
 unfold toP;split
 ·exact Nat.le_trans (Jv _ _ _) (Jv _ _ _)
 ·exact Nat.le_refl _
theorem JO5(ro:Str)(l:List Int)(p:Prg)(s:Ste)(o:List Prb):o.length≤(JCP ro l p s o).length:=
 Nat.le_trans (Nat.le_trans (toP_ge ro l p s o) (Jv _ _ _)) (JGO ro l p s 0 s.calls _)
theorem ownP_ge(ro:Str)(r:Int)(p:Prg)(x:Ste)(e:Bool)(l:List Int)(s:NP):s.2.length≤(JJA ro r p x e l s).2.length:=by
 unfold JJA;dsimp only;split
 ·exact Nat.le_trans (Nat.le_trans (Jv _ _ _) (Nat.le_trans (Jv _ _ _) (Jv _ _ _))) (JO5 _ _ _ _ _)
 ·exact Nat.le_trans (Nat.le_trans (Jv _ _ _) (Nat.le_trans (Jv _ _ _) (Jv _ _ _))) (Jv _ _ _)
mutual
theorem sP_ge(ro:Str)(r:Int)(p:Prg):∀(x:Ste) (e:Bool) (i:Int) (pl:List Int) (s:NP),s.2.length≤(JHF ro r p x e i pl s).2.length
 |.mk n k u t l x c e ru a b,ends,i,pl,s=>by
  simp only[JHF];exact Nat.le_trans (ownP_ge ro r p _ ends (pl++[i]) s) (JO6 ro r p b 0 (pl++[i]) _)
theorem JHK(ro:Str)(r:Int)(p:Prg):∀(x:List Ste) (e:Bool) (i:Int) (pl:List Int) (s:NP),s.2.length≤(ssP ro r p x e i pl s).2.length
 |[],_,_,_,s=>by simp[ssP]
 |x::y,e,i,pl,s=>by
  simp only[ssP];exact Nat.le_trans (sP_ge ro r p x e i pl s) (JHK ro r p y _ _ pl _)
theorem bP_ge(ro:Str)(r:Int)(p:Prg):∀(x:Brn) (k:Int) (pl:List Int) (s:NP),s.2.length≤(bP ro r p x k pl s).2.length
 |.mk w st,k,pl,s=>by
  simp only[bP];exact JHK ro r p st false 0 (pl++[k]) s
theorem JO6(ro:Str)(r:Int)(p:Prg):∀(x:List Brn) (k:Int) (pl:List Int) (s:NP),s.2.length≤(bsP ro r p x k pl s).2.length
 |[],_,_,s=>by simp[bsP]
 |x::y,k,pl,s=>by
  simp only[bsP];exact Nat.le_trans (bP_ge ro r p x k pl s) (JO6 ro r p y _ pl _)
end
theorem JLj(ro:Str)(l:List Int)(p:Prg):∀(r:List Epd) (s:List Str×List Prb),s.2.length≤(JBg ro l p r s).2.length
 |[],s=>by simp[JBg]
 |x::r,(ns,o)=>by
  rw[JBg];refine Nat.le_trans ?_ (JLj ro l p r _);exact Nat.le_trans (Nat.le_trans (Jv _ _ _) (Jv _ _ _)) (Nat.le_trans (Jv _ _ _) (Jv _ _ _))
theorem JJE(ro:Str)(l:List Int)(p:Prg):∀(r:List Epd) (s:List Str×List Prb),(∃x∈r,JFW p x.schema x.version=false)→1≤(JBg ro l p r s).2.length
 |[],s,h=>by obtain⟨x,hx,_⟩:=h;cases hx
 |x::r,(ns,o),h=>by
  rw[JBg];by_cases e:JFW p x.schema x.version=false
  ·refine Nat.le_trans ?_ (JLj ro l p r _);simp[JO,e]
  ·obtain⟨y,hy,h2⟩:=h;rcases VA.1 hy with rfl|hy
   ·exact absurd h2 e
   ·exact JJE ro l p r _ ⟨y,hy,h2⟩
theorem JLk(ro:Str)(l:List Int)(p:Prg):∀(r:List Svc) (s:List Str×List Prb),s.2.length≤(JE8 ro l p r s).2.length
 |[],s=>by simp[JE8]
 |x::r,(ns,o)=>by
  rw[JE8];refine Nat.le_trans ?_ (JLk ro l p r _);exact Nat.le_trans (Nat.le_trans (Jv _ _ _) (Jv _ _ _)) (Nat.le_trans (Jv _ _ _) (Jv _ _ _))
theorem rouP_ge(p:Prg)(i:Nat)(x:Rou)(s:NP):s.2.length≤(JMa p i x s).2.length:=by
 unfold JMa;refine Nat.le_trans ?_ (JHK _ _ _ _ _ _ _ _);exact Nat.le_trans (Nat.le_trans (Nat.le_trans (Jv _ _ _) (Jv _ _ _)) (Nat.le_trans (Jv _ _ _) (Jv _ _ _))) (Nat.le_trans (Jv _ _ _) (Jv _ _ _))
theorem JO7(p:Prg)(i:Nat)(x:Rou)(s:NP)(h:YJ p x.src=false):1≤(JMa p i x s).2.length:=by
 unfold JMa;refine Nat.le_trans ?_ (JHK _ _ _ _ _ _ _ _);refine Nat.le_trans ?_ (Nat.le_trans (Jv _ _ _) (Nat.le_trans (Jv _ _ _) (Jv _ _ _)));simp[JO,h]
theorem JFB(p:Prg):∀(i:Nat) (l:List Rou) (s:NP),s.2.length≤(JAY p i l s).2.length
 |_,[],s=>by simp[JAY]
 |i,x::r,s=>by
  rw[JAY];exact Nat.le_trans (rouP_ge p i x s) (JFB p (i+1) r _)
theorem JGP(p:Prg):∀(i:Nat) (l:List Rou) (s:NP),(∃x∈l,YJ p x.src=false)→1≤(JAY p i l s).2.length
 |_,[],s,h=>by obtain⟨x,hx,_⟩:=h;cases hx
 |i,x::r,s,h=>by
  rw[JAY];obtain⟨y,hy,h2⟩:=h;rcases VA.1 hy with rfl|hy
  ·exact Nat.le_trans (JO7 p i y s h2) (JFB p (i+1) r _)
  ·exact JGP p (i+1) r _ ⟨y,hy,h2⟩
theorem JLl(p:Prg)(h:1≤(allS p).length):Zu p≠[]:=by
 unfold Zu;split
 ·rename_i h1;intro e;rw[e]at h1;simp at h1
 ·intro e;have:=congrArg List.length e;simp only[List.length_take,Vm]at this;omega
theorem JO8(p:Prg)(h:∃x∈p.routes,YJ p x.src=false):Zu p≠[]:=JLl p (JGP p 0 p.routes _ h)
theorem JO9(p:Prg)(h:∃x∈p.endpoints,JFW p x.schema x.version=false):Zu p≠[]:=
 JLl p (Nat.le_trans (Nat.le_trans (JJE [] [] p p.endpoints _ h) (JLk [] [] p p.services _)) (JFB p 0 p.routes _))
end Go.Proofs
