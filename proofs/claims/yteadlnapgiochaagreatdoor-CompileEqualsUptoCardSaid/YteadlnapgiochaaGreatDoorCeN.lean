/- Part N of a proof. -/
import Derived.Test.YteadlnapgiochaaGreatDoorCeM
import Derived.Test.YteadlnapgiochaaGreatDoorCeF
import Derived.Test.YteadlnapgiochaaGreatDoorCeC
import Derived.Test.YteadlnapgiochaaGreatDoorCeA
import Derived.Test.YteadlnapgiochaaGreatDoorProg
import Derived.ChangeAt
import Derived.RowKit
import Derived.Test.YteadlnapgiochaaGreatDoorCeD
import Derived.OpenShut
import Derived.Carry
import Derived.LaidMore
import Derived.Deep.DeepWitnessRowRef
set_option linter.unusedVariables false
set_option linter.unusedSimpArgs false
set_option linter.unusedSectionVars false
set_option linter.constructorNameAsVariable false
set_option linter.unnecessarySimpa false
set_option maxRecDepth 10000
namespace Go.Proofs
open Go Av
def orS(a b:Str):Str:=if a==[]then b else a
theorem walk61(a b:Str):PT 61 [.list 1 [.str a,.str b]] (.d (.str (orS a b))):=by
 refine ok61.pc ?_;simp only[go_sem,ir61,Nat.reduceAdd,Nat.reduceEqDiff,Nat.reduceBEq,Nat.reduceLeDiff,reduceCtorEq,↓reduceIte];refine JH (fun r st=>∃k:Nat,k≤2∧r=2-k∧(0<k→a=[])∧(1<k→b=[])∧
  st=⟨[(3,.d (.str [])),(6,.d (.list 1 [.str a,.str b])),(7,.d (.int .i64 2)),(8,.d (.int .i64 k))],[]⟩) ?_ ?_
 ·refine⟨_,_,Wk.less ?_,0,oM,rfl,oM,oM,rfl⟩;simp[go_sem]
 ·rintro r st ⟨k,hk,rfl,h0,h1,rfl⟩;obtain rfl|rfl|rfl:k=0∨k=1∨k=2:=oM
  ·have e0:((0:Nat):Int)=0:=rfl;have e1:decide ((0:Int)<2)=true:=rfl;have e2:(0:Int).toNat=0:=rfl;have e3:nth [Dat.str a,Dat.str b] 0=.str a:=rfl;simp only[go_sem,e0,e1,e2,e3,Nat.reduceAdd,Nat.reduceEqDiff,Nat.reduceBEq,Nat.reduceLeDiff,reduceCtorEq,↓reduceIte];refine⟨dC,dC,fun h=>?_,fun h=>?_⟩
   ·have:(a==[])=false:=sX h;simp only[go_sem,orS,this,Nat.reduceAdd,Nat.reduceEqDiff,Nat.reduceBEq,Nat.reduceLeDiff,reduceCtorEq,↓reduceIte]
   ·have:a=[]:=sX h;refine⟨1,_,oM,Wk.less ?_,1,oM,rfl,fun _=>this,oM,rfl⟩;simp[go_sem];decide
  ·have e0:((1:Nat):Int)=1:=rfl;have e1:decide ((1:Int)<2)=true:=rfl;have e2:(1:Int).toNat=1:=rfl;have e3:nth [Dat.str a,Dat.str b] 1=.str b:=rfl;obtain rfl:=h0 oM;simp only[go_sem,e0,e1,e2,e3,Nat.reduceAdd,Nat.reduceEqDiff,Nat.reduceBEq,Nat.reduceLeDiff,reduceCtorEq,↓reduceIte];refine⟨dC,dC,fun h=>?_,fun h=>?_⟩
   ·simp[orS]
   ·have hb:b=[]:=sX h;refine⟨0,_,oM,Wk.less ?_,2,oM,rfl,fun _=>hb,rfl⟩;simp[go_sem];decide
  ·have e0:((2:Nat):Int)=2:=rfl;have e1:decide ((2:Int)<2)=false:=rfl;have e2:(2:Int).toNat=2:=rfl;obtain rfl:=h0 oM;obtain rfl:=h1 oM;simp only[go_sem,e0,e1,Nat.reduceAdd,Nat.reduceEqDiff,Nat.reduceBEq,Nat.reduceLeDiff,reduceCtorEq,↓reduceIte];simp[orS]
def CL(f:Nat)(caps:List Dat)(φ:List Dat→List Dat):Prop:=∀x0 x1 x2 x3 x4 x5 x6 x7 x8 x9 x10:Dat,
 KT f (.ref 1000 0::caps.map .d) [(1000,.box ([x0,x1,x2,x3,x4,x5,x6,x7,x8,x9,x10].map .d))] (.tup []) [(1000,.box ((φ [x0,x1,x2,x3,x4,x5,x6,x7,x8,x9,x10]).map .d))]
theorem CL.gen{f:Nat}{caps:List Dat}{φ:List Dat→List Dat}(h:CL f caps φ){xs:List Dat}(hx:xs.length=11):
  KT f (.ref 1000 0::caps.map .d) [(1000,.box (xs.map .d))] (.tup []) [(1000,.box ((φ xs).map .d))]:=by
 match xs,hx with
 |[x0,x1,x2,x3,x4,x5,x6,x7,x8,x9,x10],_=>exact h x0 x1 x2 x3 x4 x5 x6 x7 x8 x9 x10
end Go.Proofs
namespace Go.Proofs
open Go Av
open Av.Y
end Go.Proofs
namespace Go.Proofs
open Go Av
mutual
def szT:Typ→Nat
 |.mk _ _ _ _ _ e f=>1+JPM e+JPN f
def JPM:List Typ→Nat
 |[]=>0
 |v::r=>szT v+JPM r
def JPN:List TFl→Nat
 |[]=>0
 |.mk _ _ _ t _::r=>szT t+JPN r
end
theorem JPO(t:Typ):szT t=1+JPM t.elem+JPN t.fields:=by cases t;rfl
theorem JIV:∀{l:List Typ},∀x∈l,szT x≤JPM l
 |v::r,x,hx=>by
  simp only[JPM];rcases VA.1 hx with rfl|hx
  ·omega
  ·have:=JIV x hx;omega
theorem JIW:∀{l:List TFl},∀x∈l,szT x.type≤JPN l
 |.mk a b c t d::r,x,hx=>by
  simp only[JPN];rcases VA.1 hx with rfl|hx
  ·show szT t≤_;omega
  ·have:=JIW x hx;omega
end Go.Proofs
namespace Go.Proofs
open Go Av
open Av.Y
end Go.Proofs
namespace Go.Proofs
open Go Av
abbrev TF(b:Bool):List (Nat×Av.Obj):=[(1000,.box [.clo (.func 0) [] [.ref 1001 0],.d (.bool (!b))]),(1001,.box [.d (.bool b)])]
theorem JPP(b c:Bool):closed (JC (Av.get (TF b)) (TF c)):=by
 refine Jr ?_;simp[TF,U6,put,Jf,J8,JT,JS,Av.get]
theorem JPQ(b:Bool):closed (Av.get (TF b)):=by
 refine J4 ?_;simp[TF,Jf,J8,JT,JS,Av.get]
theorem JJh{b:Bool}{i:Nat}(h:(Av.get (TF b) i).isSome=true):i=1000∨i=1001:=by
 simp only[TF,Av.get]at h
 repeat' split at h
 all_goals first|(cases h;done)|skip
 all_goals rename_i e
 all_goals first|omega|skip
theorem TF_put(b c:Bool):U6 (TF b) (TF c)=TF c:=by simp[TF,U6,put]
theorem JRP(b c:Bool):JC (Av.get (TF b)) (TF c)=Av.get (TF c):=by rw[←U8,TF_put]
abbrev FCon(f:Nat)(ds:List Dat)(b c:Bool):Prop:=KT f (.ref 1000 0::ds.map .d) (TF b) (.tup []) (TF c)
theorem FCon.at{f:Nat}{ds:List Dat}{b c:Bool}(h:FCon f ds b c)(i j:Nat)(hij:i≠j):
  CT f (.ref i 0::ds.map .d) [(i,some (.box [.clo (.func 0) [] [.ref j 0],.d (.bool (!b))])),(j,some (.box [.d (.bool b)]))] (.tup []) [(i,.box [.clo (.func 0) [] [.ref j 0],.d (.bool (!c))]),(j,.box [.d (.bool c)])]:=by
 have:=Con.call h (fun m=>if m=1000 then i else j) (fun m hm=>by rcases JJh hm with rfl|rfl<;>omega)
  (fun a b' ha hb e=>by
   rw[JRP]at ha hb;rcases JJh ha with rfl|rfl<;>rcases JJh hb with rfl|rfl
   ·rfl
   ·simp at e;exact absurd e hij
   ·simp at e;exact absurd e.symm hij
   ·rfl)
  (by
   intro c hc;rcases VA.1 hc with rfl|hc
   ·simp[inT,TF,Av.get,JS]
   ·obtain⟨x,_,rfl⟩:=VC.1 hc;trivial) (JPQ b) [] (by simp[TF,Av.get]) (JPP b c) trivial
 have e:(ds.map Av.d).map (Av.ren fun m=>if m=1000 then i else j)=ds.map Av.d:=by
  rw[List.map_map];exact List.map_congr_left fun x _=>by simp[Av.ren]
 simp only[TF,Va,Vb,Obj.ren,Av.ren,UV,List.append_nil,e,simprocAttr]at this;exact this
def inB(t:Typ)(n:Int):Bool:= !(decide (n<t.min)||decide (n>t.max))
def JSu(w:Val):Prop:=w.list=[]∧w.fields=[]
mutual
def nmV:Val→Prop
 |.mk _ _ _ _ l f=>nmVs l∧nmVf f
def nmVs:List Val→Prop
 |[]=>True
 |v::r=>nmV v∧nmVs r
def nmVf:List Fld→Prop
 |[]=>True
 |.mk n v::r=>n.length≤4096∧nmV v∧nmVf r
end
theorem nmV_eq(v:Val):nmV v↔nmVs v.list∧nmVf v.fields:=by cases v;rfl
theorem JRQ{v:Val}(h1:v.list=[]∧v.fields=[]):nmV v:=by
 rw[nmV_eq,h1.1,h1.2];exact⟨trivial,trivial⟩
theorem JRR{w:Val}(h:JSu w):szV w≤1000000:=by
 rw[szV_eq,h.1,h.2];simp[JRD,JRE]
def JSv(B:Nat)(v:Val):Prop:=szV v≤1000000∧v.text.length≤B∧nmV v
theorem JSv.flat{B:Nat}{v:Val}(h:JSu v)(ht:v.text=[]):JSv B v:=⟨JRR h,by rw[ht];exact Nat.zero_le _,JRQ h⟩
end Go.Proofs
namespace Go.Proofs
open Go Av
open Av.Y
end Go.Proofs
namespace Go.Proofs
open Go Av
theorem JJi(a b:Str)(r:List Str)(sep:Str):Lib.join (a::b::r) sep=a++(sep++Lib.join (b::r) sep):=by
 simp[Lib.join,List.intercalate,List.intersperse]
theorem join_one(a:Str)(sep:Str):Lib.join [a] sep=a:=by simp[Lib.join,List.intercalate]
theorem JIX(sep:Str)(M:Nat):∀ss:List Str,(∀s∈ss,s.length≤M)→(Lib.join ss sep).length≤ss.length*(M+sep.length)
 |[],_=>by simp[Lib.join,List.intercalate]
 |[a],h=>by
  rw[join_one];have:=h a (List.mem_singleton.2 rfl);simp only[List.length_singleton];omega
 |a::b::r,h=>by
  rw[JJi];have h1:=h a Vh;have h2:=JIX sep M (b::r) (fun s hs=>h s (Vn _ hs));simp only[Vg,Vf]at h2⊢;rw[Nat.add_mul (r.length+1) 1];omega
def Zd(l:List Int):List Str:=l.map Lib.itoa
def JKv(l:List Int):Prop:=∀n∈l,-9223372036854775808≤n∧n≤9223372036854775807
theorem JF9{l:List Int}(h:JKv l)(sep:Str)(hs:sep.length≤1):(Lib.join (Zd l) sep).length≤l.length*22:=by
 have:=JIX sep 21 (Zd l) (fun s hs=>by
  obtain⟨n,hn,rfl⟩:=VC.1 hs;exact Lib.itoa_length_le n (h n hn).1 (h n hn).2)
 have e:(Zd l).length=l.length:=by simp[Zd]
 rw[e]at this;refine Nat.le_trans this (Nat.mul_le_mul_left _ oM)
theorem JGA{l:List Int}(h:fits (.list 1 (l.map (.int .i64)))):JKv l:=by
 intro n hn;have:=UQ.1 h.2 (.int .i64 n) (VC.2 ⟨n,hn,rfl⟩);have e1:IntKind.i64.min= -9223372036854775808:=dC;have e2:IntKind.i64.max=9223372036854775807:=dC;simpa only[fits,e1,e2]using this
theorem fits_int{n:Int}(h:fits (.int .i64 n)): -9223372036854775808≤n∧n≤9223372036854775807:=by
 have e1:IntKind.i64.min= -9223372036854775808:=dC;have e2:IntKind.i64.max=9223372036854775807:=dC;simpa only[fits,e1,e2]using h
theorem JRS(l:List Int)(hne:l≠[])(hl:l.length≤1000000000)(sep:Str)(hs:sep.length≤1):PT 121 [.list 1 (l.map (.int .i64)),.str sep] (.d (.str (Lib.join (Zd l) sep))):=by
 refine J3.Jg JSn.has fun hfit=>?_
 have hok:JKv l:=JGA (hfit _ (Vh));clear hfit;refine JSn.pc ?_;have hj:=JKc (Zd l) sep (by simpa[Zd]using hne) (by have:=JF9 hok sep hs;omega);simp only[go_sem,JSm,Vc,simprocAttr];refine JH (fun n s=>∃k:Nat,k≤l.length∧n=l.length-k∧
  s=⟨[(1,.d (.str sep)),(5,.ms 18 k),(8,.d (.list 1 (l.map (.int .i64)))),(9,.d (.int .i64 l.length)),(10,.d (.int .i64 k))],[(18,.row k 1 ((Zd (l.take k)).map .str))]⟩) ?_ ?_
 ·refine⟨_,_,(Wk.JHJ 5 18 1 rfl rfl dC).trans (Wk.less ?_),0,Nat.zero_le _,rfl,rfl⟩;simp[put,go_sem,Zd]
 ·rintro n s ⟨k,hk,rfl,rfl⟩;by_cases hlt:k<l.length
  ·have hx:=JN (fun n=>Dat.int .i64 n) hlt;have hd:=dT hlt;have hc:=call198 l[k] (hok _ (Vk hlt)).1 (hok _ (Vk hlt)).2;refine zz6 ?_;refine⟨oM,dC,wn hc ?_⟩;refine zz ?_;refine⟨sP,by simp[Zd];omega,l.length-(k+1),_,oM,Wk.less ?_,k+1,oM,rfl,rfl⟩;rw[List.take_succ_eq_append_getElem hlt];simp only[go_sem,Zd,JE k oM,Vw,Va,Vb,simprocAttr]
  ·have hd:=dF hlt;obtain rfl:k=l.length:=oM;have hc2:=JR.datA (hp:=[(18,.row l.length 1 ((Zd (l.take l.length)).map .str))]) (vs:=[.ms 18 l.length,.d (.str sep)]) rfl ⟨rfl,trivial,trivial⟩ (by rw[List.take_length];exact hj);refine zz5 ?_;refine wc hc2 trivial
def JCc(r:Int)(l:List Int):Str:=115::Lib.join (Zd (r::l)) [95]
theorem walk62(r:Int)(l:List Int)(hl:l.length≤500000000):PT 62 [.int .i64 r,.list 1 (l.map (.int .i64))] (.d (.str (JCc r l))):=by
 refine J3.Jg ok62.has fun hfit=>?_
 have hb:(Lib.join (Zd (r::l)) [95]).length≤68719476735:=by
  have h0:JKv (r::l):=fun n hn=>by
   rcases VA.1 hn with rfl|hn
   ·exact fits_int (hfit _ (Vh))
   ·exact JGA (hfit (.list 1 (l.map (.int .i64))) sP) n hn
  have:=JF9 h0 [95] dC;simp only[Vf]at this;omega
 refine ok62.pc ?_;have hc:=(JRS (r::l) sP sO [95] dC).call trivial;have hc2:=JR.datA (hp:=[(6,.row 1 1 (.int .i64 r::l.map (.int .i64)))]) (vs:=[.ms 6 1,.d (.str [95])]) rfl ⟨rfl,trivial,trivial⟩ hc;simp only[go_sem,ir62,simprocAttr];refine⟨sP,sO,wn hc2 ?_⟩;simp only[go_sem,JCc,hb,simprocAttr]
mutual
def owS:Ste→Dat
 |.mk n k u t l x c e r a b=>.agg [.str n,.int .i64 k,.int .i64 u,.int .i64 t,.int .i64 l,.str x,.str c,.list 5 (e.map JX),.list 6 (r.map Jz),.list 2 (a.map JV),match b with|[]=>.nil 2|y::q=>.own 2 (owB y::JGx q)]
def JGw:List Ste→List Dat
 |[]=>[]
 |v::r=>owS v::JGw r
def owB:Brn→Dat
 |.mk w s=>.agg [.list 5 (w.map JX),match s with|[]=>.nil 11|y::q=>.own 11 (owS y::JGw q)]
def JGx:List Brn→List Dat
 |[]=>[]
 |v::r=>owB v::JGx r
end
theorem JFB:∀l:List Ste,JGw l=l.map owS
 |[]=>by simp[JGw]
 |v::r=>by simp[JGw,JFB r]
theorem JIY:∀l:List Brn,JGx l=l.map owB
 |[]=>by simp[JGx]
 |v::r=>by simp[JGx,JIY r]
def JDo(l:List Ste):Dat:=match l with|[]=>.nil 11|_=>.own 11 (l.map owS)
def JPR(l:List Brn):Dat:=match l with|[]=>.nil 2|_=>.own 2 (l.map owB)
theorem Xn(s:Ste):owS s=.agg [.str s.name,.int .i64 s.kind,.int .i64 s.number,.int .i64 s.time,.int .i64 s.limit,.str s.text,.str s.schema,.list 5 (s.exprs.map JX),.list 6 (s.rules.map Jz),.list 2 (s.calls.map JV),JPR s.branches]:=by
 obtain⟨n,k,u,t,l,x,c,e,r,a,b⟩:=s;cases b<;>simp[owS,JPR,JIY,Ste.name,Ste.kind,Ste.number,Ste.time,Ste.limit,Ste.text,Ste.schema,Ste.exprs,Ste.rules,Ste.calls,Ste.branches]
theorem JAI(b:Brn):owB b=.agg [.list 5 (b.cond.map JX),JDo b.steps]:=by
 obtain⟨w,s⟩:=b;cases s<;>simp[owB,JDo,JFB,Brn.cond,Brn.steps]
theorem JBI(x:Dat)(r:List Dat):Dat.dat.datL (x::r)=x.dat::Dat.dat.datL r:=by rw[XQ,XQ];rfl
mutual
theorem JRT:∀s:Ste,(owS s).dat.canon=JJ s
 |.mk n k u t l x c e r a b=>by
  have hb:=JIZ b;cases b with
  |nil=>simp only[owS,Dat.dat,Dat.dat.datL,Dat.canon,JI,JJ,Zs,UK,Ul,Xt]
  |cons y q=>
   simp only[JGx,XQ]at hb;simp only[owS,Dat.dat,XQ,Dat.dat.datL,Dat.canon,JI,JJ,UK,Ul,Xt,Va]at hb⊢;rw[←hb]
theorem JFC:∀l:List Ste,JI (Dat.dat.datL (JGw l))=YG l
 |[]=>by simp[JGw,YG,Dat.dat.datL,JI]
 |v::r=>by simp only[JGw,YG,JBI,JI,JRT v,JFC r]
theorem JRU:∀b:Brn,(owB b).dat.canon=J5 b
 |.mk w s=>by
  have hb:=JFC s;cases s with
  |nil=>simp only[owB,Dat.dat,Dat.dat.datL,Dat.canon,JI,J5,YG,UK]
  |cons y q=>
   simp only[JGw,XQ]at hb;simp only[owB,Dat.dat,XQ,Dat.dat.datL,Dat.canon,JI,J5,UK,Va]at hb⊢;rw[←hb]
theorem JIZ:∀l:List Brn,JI (Dat.dat.datL (JGx l))=Zs l
 |[]=>by simp[JGx,Zs,Dat.dat.datL,JI]
 |v::r=>by simp only[JGx,Zs,JBI,JI,JRU v,JIZ r]
end
mutual
def nmS(r:Int)(pl:List Int):Ste→Ste
 |.mk n k u t l x c e ru a b=>.mk (orS n (JCc r pl)) k u t l x c e ru a (JCd r pl 0 b)
def Yt(r:Int)(pl:List Int):Int→List Ste→List Ste
 |_,[]=>[]
 |i,v::q=>nmS r (pl++[i]) v::Yt r pl (i+1) q
def nmB(r:Int)(pl:List Int):Brn→Brn
 |.mk w s=>.mk w (Yt r pl 0 s)
def JCd(r:Int)(pl:List Int):Int→List Brn→List Brn
 |_,[]=>[]
 |i,v::q=>nmB r (pl++[i]) v::JCd r pl (i+1) q
end
end Go.Proofs
namespace Go.Proofs
open Go Av
open Av.Y
def ir60:Ic:=D (.regd [(4,7)] (om 5 1<|om 6 1<|oc 7 6<|of 8 7 0<|ol 9 8<|ol 10 2<|om 11 0<|cl 12 62 [t 10,t 11]<|oo 13 (.bls 1 [t 9,t 12])<|cl 14 61 [t 13]<|oc 15 5<|of 16 15 0<|os 16 14<|N)) [0,1,5,6,7,8,9,10,11,12,13,14,15,16]
theorem ok60:FT 60 17 ir60 []:=.o Tryz.func60
def ir56:Ic:=q (R (ok 2 (.k (.nil 3))<|N) [2])<|q (q (R (om 3 0<|oo 4 (.nilq false false (t 3))<|N) [3])<|D (I 4 (q (R (ok 2 (.k (.nil 3))<|N) [0,4])<|.ret) S) [4])<|q (R (oo 5 (.bls 3 [])<|om 6 0<|oo 7 (.app 3 (t 5) (t 6))<|om 2 7<|N) [0,5,6,7])<|.ret
theorem ok56:FT 56 8 ir56 [.tmp 2]:=.o Tryz.func56
def ir26:Ic:=q (R (ox 1 0<|oN 2 [.int .i64 0,.nil 9,.nil 7,.nil 4,.nil 3]<|N) [0])<|q (R (of 4 1 4<|ol 5 4<|cl 6 56 [t 5]<|of 7 1 4<|os 7 6<|N) [4,5,6,7])<|q (q (R (of 8 1 4<|ol 9 8<|oh 10 9<|oz 11 0<|N) [8,9])<|D (.block 0<|.loop (q (.reg (ot 12 .lss 11 10<|N))<|q (D (I 12 S (E 0)) [12])<|q (D (.block 1<|q (R (om 13 11<|oN 3 [.int .i64 0]<|os 3 13<|N) [13])<|q (D (.regd [(1,9),(2,9)] (of 14 1 4<|ol 15 14<|ol 16 3<|of 17 1 4<|ol 18 17<|ol 19 3<|oa true 20 3 18 19<|of 21 20 2<|ol 22 21<|cl 23 57 [t 22,.k (.fn (.func 58) [] [])]<|oa true 24 3 15 16<|of 25 24 2<|os 25 23<|N)) [14,15,16,17,18,19,20,21,22,23,24,25])<|R (of 26 1 4<|ol 27 26<|ol 28 3<|oa true 29 3 27 28<|of 30 29 2<|ol 31 30<|oo 32 (.fnv (.func 60) [] [t 3])<|cl 33 59 [t 31,t 32]<|N) [3,26,27,28,29,30,31,32,33]) [])<|R (oi 34 .add 11 1<|om 11 34<|N) [34])) [10,11,12,3])<|q (R (oL 35 5 1<|oS 5 2 35<|N) [1,35])<|.ret
theorem ok26:FT 26 36 ir26 [.cell 2 (some 5)]:=.o Tryz.func26
end Go.Proofs
namespace Go.Proofs
open Go Av
theorem con60(v tv ts:Nat)(q:List (Nat×Nat))(j:Nat)(r:Int)(a:Int)(pl:List Int)(X X' L:List Dat)(s:Ste)(hpl:pl.length≤400000000)
  (h1:nodeAt (.own 3 X) q=some (.own 11 L))(hj:j<L.length)(hs:nth L j=owS s)(h2:setAt (.own 3 X) q j 0 (.str (orS s.name (JCc r (a::pl))))=.own 3 X'):
  KT 60 [.ms 1006 v,.tr 1008 ⟨tv,ts,q,some (j,0)⟩,.ref 1005 0] [(1005,.box [.d (.int .i64 r)]),(1006,.row v 1 ((a::pl).map (.int .i64))),(1008,.tre tv ts 3 X)] (.tup []) [(1008,.tre tv ts 3 X')]:=by
 refine ok60.con (k:=some false) (Nat.le_of_ble_eq_true rfl) (Jr (by simp[U6,put,Jf,J8,JT,JS,Av.get])) trivial ?_;rw[Xn]at hs;have cA:CT 62 [.d (.int .i64 r),.ms 1006 v] [(1006,some (.row v 1 ((a::pl).map (.int .i64))))] (.d (.str (JCc r (a::pl)))) []:=by
  refine J3.borrow (ds:=[.int .i64 r,.list 1 ((a::pl).map (.int .i64))]) ?_ rfl (p:=True∧v=v∧True) (u:=[(1006,.frz v 1 ((a::pl).map (.int .i64)))]) (fun H hH=>by simp only[Jo,XO,Uz,hH (1006,_) (Vh),List.append_nil,JC];rfl) ⟨trivial,rfl,trivial⟩;simpa only[Va,Vb,Dat.canon,JI,XU]using walk62 r (a::pl) sO
 have cO:=(walk61 s.name (JCc r (a::pl))).call trivial;simp only[go_sem,ir60,h1,hs,Vv,Vc,Nat.reduceAdd,Nat.reduceEqDiff,Nat.reduceBEq,Nat.reduceLeDiff,reduceCtorEq,↓reduceIte];refine⟨⟨hj,dC⟩,?_⟩;refine JG rfl cA ⟨rfl,trivial⟩ ?_;simp only[go_sem,Vv,Vc,Nat.reduceAdd,Nat.reduceEqDiff,Nat.reduceBEq,Nat.reduceLeDiff,reduceCtorEq,↓reduceIte];refine⟨sP,?_⟩;refine JG rfl cO trivial ?_;simp only[go_sem,h1,hs,h2,Vv,Vc,Nat.reduceAdd,Nat.reduceEqDiff,Nat.reduceBEq,Nat.reduceLeDiff,reduceCtorEq,↓reduceIte];exact⟨hj,rfl,rfl⟩
theorem call60(v tv ts:Nat)(q:List (Nat×Nat))(j:Nat)(r:Int)(pl:List Int)(X X' L:List Dat)(s:Ste)(hpl:pl.length≤400000000)(hp0:0<pl.length)
  (h1:nodeAt (.own 3 X) q=some (.own 11 L))(hj:j<L.length)(hs:nth L j=owS s)(h2:setAt (.own 3 X) q j 0 (.str (orS s.name (JCc r pl)))=.own 3 X'):
  CT (.fn 60) [.ms 1006 v,.tr 1008 ⟨tv,ts,q,some (j,0)⟩,.ref 1005 0] [(1005,some (.box [.d (.int .i64 r)])),(1006,some (.row v 1 (pl.map (.int .i64)))),(1008,some (.tre tv ts 3 X))] (.tup []) [(1008,.tre tv ts 3 X')]:=by
 match pl,hp0,h2 with
 |a::p,_,h2=>
  have:=(con60 v tv ts q j r a p X X' L s (by simp at hpl;omega) h1 hj hs h2).call (fun i=>i) (fun i hi=>by
   simp only[Av.get]at hi
   repeat' split at hi
   all_goals first|(cases hi;done)|omega) (fun i j _ _ h=>h) (by simp[JS,Av.get]) (J4 (by simp[Jf,J8,JT,JS,Av.get])) [] (by simp[Av.get]) (Jr (by simp[U6,put,Jf,J8,JT,JS,Av.get])) trivial
  simp only[Va,Vb,Obj.ren,Av.ren,UV,YH,List.append_nil]at this⊢;exact this
def _root_.Av.Ste.ren(s:Ste)(n:Str):Ste:=.mk n s.kind s.number s.time s.limit s.text s.schema s.exprs s.rules s.calls s.branches
def _root_.Av.Ste.Yw(s:Ste)(b:List Brn):Ste:=.mk s.name s.kind s.number s.time s.limit s.text s.schema s.exprs s.rules s.calls b
def _root_.Av.Brn.JLE(b:Brn)(s:List Ste):Brn:=.mk b.cond s
theorem ZN{α:Type}{A B:List α}{x d:α}:(A++x::B).getD A.length d=x:=by simp[List.getD]
theorem JBJ{α:Type}{A B:List α}{x:α}:(A++x::B)[A.length]? =some x:=sP
theorem JD3{α:Type}{A B:List α}{x y:α}:(A++x::B).set A.length y=A++y::B:=by
 rw[List.set_append_right _ _ (Nat.le_refl _),Nat.sub_self];rfl
theorem Xa{α:Type}(f:α→Dat)(A B:List α)(x:α):(A++x::B).map f=A.map f++f x::B.map f:=sP
theorem Yu{α:Type}(f:α→Dat)(A:List α):A.length=(A.map f).length:=sP
theorem JGy(f:Ste→Dat)(A B:List Ste)(x:Ste):nth ((A++x::B).map f) A.length=f x:=by
 rw[Xa,Yu f A];exact ZN
theorem JPS(A B:List Ste)(x:Ste)(n:Str):setAt (.own 11 ((A++x::B).map owS)) [] A.length 0 (.str n)=.own 11 ((A++x.ren n::B).map owS):=by
 rw[Xa,Xa,Yu owS A];simp only[setAt,ZN,JD3];rw[Xn x,Xn (x.ren n)];rfl
theorem JAJ{bs:List Brn}(h:bs≠[]):JPR bs=.own 2 (bs.map owB):=by cases bs with|nil=>exact absurd rfl h|cons a b=>rfl
theorem JBK{ss:List Ste}(h:ss≠[]):JDo ss=.own 11 (ss.map owS):=by cases ss with|nil=>exact absurd rfl h|cons a b=>rfl
theorem row_br(A B:List Ste)(x:Ste)(C D:List Brn)(br:Brn)(ss:List Ste):setAt (.own 11 ((A++x.Yw (C++br::D)::B).map owS)) [(A.length,10)] C.length 1 (JDo ss)=.own 11 ((A++x.Yw (C++br.JLE ss::D)::B).map owS):=by
 rw[Xa,Xa,Yu owS A];simp only[setAt,ZN,JD3];rw[Xn (x.Yw _),Xn (x.Yw _)];simp only[Ste.Yw,Ste.branches,JAJ (List.append_ne_nil_of_right_ne_nil C (List.cons_ne_nil _ _)),Dat.cells,List.getD_cons_succ,List.getD_cons_zero,setAt,U3];rw[Xa,Xa,Yu owB C];simp only[ZN,JD3,U3,JAI br,JAI (br.JLE ss)];rfl
theorem JKw(A B:List Ste)(x:Ste)(bs:List Brn)(h:bs≠[]):nodeAt (.own 11 ((A++x.Yw bs::B).map owS)) [(A.length,10)]=some (.own 2 (bs.map owB)):=by
 rw[Xa,Yu owS A];simp only[nodeAt,cellAt,JBJ,Option.bind_some];rw[Xn (x.Yw _)];simp only[Ste.Yw,Ste.branches,JAJ h,Dat.cells,List.getElem?_cons_succ,List.getElem?_cons_zero,nodeAt]
theorem JRV(A B:List Ste)(x:Ste)(C D:List Brn)(br:Brn)(h:br.steps≠[]):nodeAt (.own 11 ((A++x.Yw (C++br::D)::B).map owS)) [(A.length,10),(C.length,1)]=some (.own 11 (br.steps.map owS)):=by
 rw[Xa,Yu owS A];simp only[nodeAt,cellAt,JBJ,Option.bind_some];rw[Xn (x.Yw _)];simp only[Ste.Yw,Ste.branches,JAJ (List.append_ne_nil_of_right_ne_nil C (List.cons_ne_nil _ _)),Dat.cells,List.getElem?_cons_succ,List.getElem?_cons_zero];rw[Xa,Yu owB C];simp only[nodeAt,cellAt,JBJ,Option.bind_some,JAI br,Dat.cells,List.getElem?_cons_succ,List.getElem?_cons_zero,JBK h]
theorem pos_st(A B:List Ste)(x:Ste)(C D:List Brn)(br:Brn):Pos (.own 11 ((A++x.Yw (C++br::D)::B).map owS)) [(A.length,10)] C.length 1:=by
 rw[Xa,Yu owS A];refine⟨_,_,by rw[JBJ,Xn (x.Yw _)],rfl,?_⟩;simp only[Ste.Yw,Ste.branches,JAJ (List.append_ne_nil_of_right_ne_nil C (List.cons_ne_nil _ _))];refine⟨[.list 5 (br.cond.map JX),JDo br.steps],?_,sP⟩;rw[Xa,Yu owB C,JBJ,JAI]
theorem JA0(r:Int)(pl:List Int):∀(l:List Ste) (i:Int),(Yt r pl i l).length=l.length
 |[],_=>rfl
 |x::q,i=>by simp[Yt,JA0 r pl q]
theorem JA1(r:Int)(pl:List Int):∀(l:List Brn) (i:Int),(JCd r pl i l).length=l.length
 |[],_=>rfl
 |x::q,i=>by simp[JCd,JA1 r pl q]
theorem JIa(r:Int)(pl:List Int):∀(l:List Ste) (i:Int) (k:Nat) (h:k<l.length),(Yt r pl i l)[k]'(by rw[JA0];exact h)=nmS r (pl++[i+k]) l[k]
 |x::q,i,0,_=>by simp[Yt]
 |x::q,i,k+1,h=>by
  simp only[Yt,List.getElem_cons_succ];rw[JIa r pl q (i+1) k (sX h)];congr 3;omega
theorem JIb(r:Int)(pl:List Int):∀(l:List Brn) (i:Int) (k:Nat) (h:k<l.length),(JCd r pl i l)[k]'(by rw[JA1];exact h)=nmB r (pl++[i+k]) l[k]
 |x::q,i,0,_=>by simp[JCd]
 |x::q,i,k+1,h=>by
  simp only[JCd,List.getElem_cons_succ];rw[JIb r pl q (i+1) k (sX h)];congr 3;omega
theorem JPT(r:Int)(pl:List Int)(x:Ste):nmS r pl x=(x.ren (orS x.name (JCc r pl))).Yw (JCd r pl 0 x.branches):=by
 cases x;rfl
theorem JPU(r:Int)(pl:List Int)(b:Brn):nmB r pl b=b.JLE (Yt r pl 0 b.steps):=by
 cases b;rfl
theorem JGB(x:Ste):x.Yw x.branches=x:=by cases x;rfl
theorem JJj(b:Brn):b.JLE b.steps=b:=by cases b;rfl
theorem JGz(x:Ste)(n:Str):(x.ren n).branches=x.branches:=rfl
abbrev TVn(r:Int)(c:Av)(v:Nat)(xs:List Int)(tv ts:Nat)(X:List Dat):List (Nat×Av.Obj):=[(1001,.box [c]),(1002,.box [.clo (.func 60) [] [.ref 1005 0]]),(1003,.box [.clo (.func 120) [] [.ref 1001 0,.ref 1002 0,.ref 1003 0]]),
 (1005,.box [.d (.int .i64 r)]),(1006,.row v 1 (xs.map (.int .i64))),(1008,.tre tv ts 3 X)]
theorem JD4(r:Int)(v v':Nat)(xs xs':List Int)(tv ts:Nat)(X X':List Dat)(c:Av)(n:Nat)(hc:c=.ms 1006 n∨∃k,c=.sub 1006 n 0 k):closed (JC (get (TVn r (.ms 1006 v) v xs tv ts X)) (TVn r c v' xs' tv ts X')):=by
 refine Jr ?_;rcases hc with rfl|⟨k,rfl⟩<;>simp[TVn,U6,put,Jf,J8,JT,JS,Uk,Av.get]
theorem JKx{r:Int}{c:Av}{v:Nat}{xs:List Int}{tv ts:Nat}{X:List Dat}{i:Nat}(h:(get (TVn r c v xs tv ts X) i).isSome=true):1000≤i:=by
 simp only[TVn,Av.get]at h
 repeat' split at h
 all_goals first|(cases h;done)|omega
theorem conE(r:Int)(v:Nat)(xs:List Int)(tv ts:Nat)(X:List Dat):KT 120 [.d (.nil 11),.ref 1001 0,.ref 1002 0,.ref 1003 0] (TVn r (.ms 1006 v) v xs tv ts X) (.tup []) (TVn r (.sub 1006 v 0 xs.length) v xs tv ts X):=by
 refine JIP.con (k:=some false) (Nat.le_of_ble_eq_true rfl) (JD4 r v v xs xs tv ts X X _ v (.inr ⟨_,rfl⟩)) trivial ?_;simp only[go_sem,TVn,JKq,Vv,Vc,simprocAttr];refine JH (fun n st=>st=⟨[(0,.d (.nil 11)),(1,.ref 1001 0),(2,.ref 1002 0),(3,.ref 1003 0),(8,.d (.int .i64 0)),(9,.d (.int .i64 0))],TVn r (.sub 1006 v 0 xs.length) v xs tv ts X⟩) ?_ ?_
 ·refine⟨0,_,(Wk.JMR 1001 0 1006 v 1 (xs.map (.int .i64)) [.ms 1006 v] rfl rfl rfl).trans (Wk.less ?_),rfl⟩;simp[go_sem,TVn]
 ·rintro n st rfl;simp only[go_sem,TVn,Int.lt_irrefl,decide_false,Vu,Vv,Vc,simprocAttr]
def JFD(r:Int)(l:List Ste):Prop:=∀(v:Nat) (xs:List Int) (o:List Wlk) (tv ts:Nat) (X X':List Dat) (p:List (Nat×Nat)) (k c:Nat),xs.length+2*UC l≤400000000→Pos (.own 3 X) p k c→
 nodeAt (.own 3 X) (p++[(k,c)])=some (.own 11 (l.map owS))→.own 3 X'=setAt (.own 3 X) p k c (.own 11 ((Yt r xs 0 l).map owS))→
 KT 120 [.tr 1008 ⟨tv,ts,p++[(k,c)],none⟩,.ref 1001 0,.ref 1002 0,.ref 1003 0] (TVn r (.ms 1006 v) v xs tv ts X) (.tup [])
  (TVn r (.sub 1006 (Uf r l 0 xs.length (v,xs,o)).1 0 xs.length) (Uf r l 0 xs.length (v,xs,o)).1 (Uf r l 0 xs.length (v,xs,o)).2.1 tv ts X')
theorem JSw{r:Int}{a:Av}{v:Nat}{xs:List Int}{tv ts:Nat}{X:List Dat}{v':Nat}{xs':List Int}{X':List Dat}{n:Nat}(ha:JS (get (TVn r (.ms 1006 v) v xs tv ts X)) a)(hr:a.ren (fun i=>i)=a)
  (h:KT 120 [a,.ref 1001 0,.ref 1002 0,.ref 1003 0] (TVn r (.ms 1006 v) v xs tv ts X) (.tup []) (TVn r (.sub 1006 v' 0 n) v' xs' tv ts X')):
  CT (.fn 120) [a,.ref 1001 0,.ref 1002 0,.ref 1003 0] ((TVn r (.ms 1006 v) v xs tv ts X).map fun x=>(x.1,some x.2)) (.tup []) (TVn r (.sub 1006 v' 0 n) v' xs' tv ts X'):=by
 have:=h.call (fun i=>i) (fun i hi=>JKx hi) (fun i j _ _ h=>h) (by
   intro c hc;simp only[VA,List.not_mem_nil,or_false]at hc;rcases hc with rfl|rfl|rfl|rfl
   ·exact ha
   all_goals simp[JS,Av.get]) (J4 (by simp[Jf,J8,JT,JS,Uk,Av.get])) [] (by simp[Av.get]) (JD4 r v v' xs xs' tv ts X X' _ v' (.inr ⟨_,rfl⟩)) trivial
 simp only[TVn,Va,Vb,Obj.ren,Av.ren,UV,YH,List.append_nil,hr]at this⊢;exact this
set_option maxHeartbeats 4000000 in
theorem JSx(r:Int)(l:List Ste)(hne:l≠[])(h:∀x∈l,∀b∈x.branches,b.steps≠[]→JFD r b.steps):JFD r l:=by
 intro v xs o tv ts X X' p k c hx hpos hnX hX';refine Con.Jg JIP.has fun hfit=>?_
 generalize hR:Uf r l 0 xs.length (v,xs,o)=R;clear hfit;have hl:l.length≤400000000:=by
  have:∀l:List Ste,l.length≤UC l:=by
   intro l
   induction l with
   |nil=>simp[UC]
   |cons x q ih=>simp only[Vf,UC,JEx];omega
  have:=this l;omega
 refine JIP.con (k:=some false) (Nat.le_of_ble_eq_true rfl) (JD4 r v _ xs _ tv ts X X' _ _ (.inr ⟨_,rfl⟩)) trivial ?_;generalize hd:xs.length=d at*;generalize hN:Yt r xs 0 l=N at*;have hNl:N.length=l.length:=by rw[←hN,JA0]
 simp only[go_sem,TVn,JKq,hnX,Vv,Vc,Nat.reduceAdd,Nat.reduceEqDiff,Nat.reduceBEq,Nat.reduceLeDiff,reduceCtorEq,↓reduceIte];refine JH (fun n st=>∃(i:Nat) (S:PO) (Y:List Dat),i≤l.length∧n=l.length-i∧Uf r (l.drop i) i d S=R∧d≤S.2.1.length∧S.2.1.take d=xs∧ .own 3 Y=setAt (.own 3 X) p k c (.own 11 ((N.take i++l.drop i).map owS))∧
  st=⟨[(0,.tr 1008 ⟨tv,ts,p++[(k,c)],none⟩),(1,.ref 1001 0),(2,.ref 1002 0),(3,.ref 1003 0),(8,.d (.int .i64 l.length)),(9,.d (.int .i64 i))],TVn r (.sub 1006 S.1 0 d) S.1 S.2.1 tv ts Y⟩) ?_ ?_
 ·refine⟨_,_,(Wk.JMR 1001 0 1006 v 1 (xs.map (.int .i64)) [.ms 1006 v] rfl rfl rfl).trans (Wk.less ?_),0,(v,xs,o),X,Nat.zero_le _,rfl,by simpa using hR,by simp[hd],List.take_of_length_le (by simp[hd]),?_,rfl⟩
  ·simp[go_sem,TVn,hd]
  ·rw[List.take_zero,List.drop_zero,List.nil_append,JE7 hpos hnX]
 ·rintro n st ⟨i,S,Y,hi,rfl,hinv,hS,hSt,hY,rfl⟩;by_cases hlt:i<l.length
  ·have hdk:decide ((i:Int)<(l.length:Int))=true:=sO;have hV:=h _ (Vk hlt);have hszd:szS l[i]≤UC l:=JEy (Vk hlt);have hNi:N[i]'oM=nmS r (xs++[(i:Int)]) l[i]:=by
    have:=JIa r xs l 0 i hlt;simp only[hN,Int.zero_add]at this;exact this
   have hA:(N.take i).length=i:=by rw[List.length_take];omega
   rw[JEx]at hszd;rw[Vq hlt]at hY;rw[Vq hlt,Uf,JKr,hSt]at hinv;have hNt:N.take (i+1)=N.take i++[nmS r (xs++[(i:Int)]) l[i]]:=by rw[List.take_succ_eq_append_getElem oM,hNi]
   generalize hxx:l[i]=x at*;generalize hAA:N.take i=A at*;generalize hBB:l.drop (i+1)=B at*;have hnode:nodeAt (.own 3 Y) (p++[(k,c)])=some (.own 11 ((A++x::B).map owS)):=by
    rw[hY];exact Xm hpos _ []
   have hnth:nth ((A++x::B).map owS) i=owS x:=by rw[←hA];exact JGy owS A B x
   have hlenL:((A++x::B).map owS).length=l.length:=by
    have:=congrArg List.length hBB;simp only[List.length_drop]at this;simp only[Vc,Vg,Vf,hA];omega
   generalize hnm:orS x.name (JCc r (xs++[(i:Int)]))=nm at*;obtain⟨Y1,hY1⟩:∃Y1,setAt (.own 3 Y) (p++[(k,c)]) i 0 (.str nm)=.own 3 Y1:=⟨_,(JIO _ _ _ _ _ _).symm⟩;have hY1': .own 3 Y1=setAt (.own 3 X) p k c (.own 11 ((A++x.ren nm::B).map owS)):=by
    rw[←hY1,hY,JDE hpos,←JPS,hA]
   have hnode1:nodeAt (.own 3 Y1) (p++[(k,c)])=some (.own 11 ((A++x.ren nm::B).map owS)):=by
    rw[hY1'];exact Xm hpos _ []
   have hc:=call60 (S.1+1) tv ts (p++[(k,c)]) i r (xs++[(i:Int)]) Y Y1 _ x (by simp[hd];omega) sP hnode (by rw[hlenL];exact hlt) hnth (by rw[hnm];exact hY1);rw[Vw]at hc;simp only[Va,Vb]at hc;have hS2:List.take d (List.map (Dat.int .i64) S.2.1)=xs.map (.int .i64):=by rw[←List.map_take,hSt]
   have hnth1:nth ((A++x.ren nm::B).map owS) i=owS (x.ren nm):=by rw[←hA];exact JGy owS A B (x.ren nm)
   have hlenL1:((A++x.ren nm::B).map owS).length=l.length:=by
    have:=congrArg List.length hBB;simp only[List.length_drop]at this;simp only[Vc,Vg,Vf,hA];omega
   simp only[go_sem,TVn,hdk,hnode,hS2,hlenL,Vv,Vc,Nat.reduceAdd,Nat.reduceEqDiff,Nat.reduceBEq,Nat.reduceLeDiff,reduceCtorEq,↓reduceIte];refine⟨sP,⟨oM,oM⟩,⟨oM,oM⟩,JU rfl hc ⟨rfl,rfl,rfl,trivial⟩ ?_⟩;by_cases hbn:x.branches=[]
   ·have hrow:owS (x.ren nm)=.agg [.str nm,.int .i64 x.kind,.int .i64 x.number,.int .i64 x.time,.int .i64 x.limit,.str x.text,.str x.schema,.list 5 (x.exprs.map JX),.list 6 (x.rules.map Jz),.list 2 (x.calls.map JV),.nil 2]:=by
     rw[Xn,JGz,hbn];rfl
    rw[hrow]at hnth1;simp only[go_sem,hnode1,hnth1,hlenL1,Vv,Vc,Nat.reduceAdd,Nat.reduceEqDiff,Nat.reduceBEq,Nat.reduceLeDiff,reduceCtorEq,↓reduceIte];refine⟨⟨oM,oM⟩,⟨oM,dC⟩,?_⟩;rw[hbn,X7]at hinv;refine JH (fun n st=>st=⟨[(0,.tr 1008 ⟨tv,ts,p++[(k,c)],none⟩),(1,.ref 1001 0),(2,.ref 1002 0),(3,.ref 1003 0),(8,.d (.int .i64 l.length)),(9,.d (.int .i64 i)),(5,.d (.int .i64 i)),(27,.d (.int .i64 0)),(28,.d (.int .i64 0))],TVn r (.sub 1006 (S.1+1) 0 (d+1)) (S.1+1) (xs++[(i:Int)]) tv ts Y1⟩) ?_ ?_
    ·refine⟨0,_,(Wk.JMR 1001 0 1006 (S.1+1) 1 _ [.ms 1006 (S.1+1)] rfl rfl rfl).trans (Wk.less ?_),rfl⟩;simp[go_sem,TVn,hd]
    ·rintro n st rfl;have e3:IntKind.i64.wrap (((d+1:Nat):Int)-1)=((d:Nat):Int):=XZ (d+1) oM oM;have e4:((d:Int)-0).toNat=d:=oM;have e5:Int.toNat 0=0:=rfl;have e6:min (d+1) (xs++[(i:Int)]).length=d+1:=by simp[hd]
     simp only[go_sem,TVn,Int.lt_irrefl,decide_false,Vu,List.length_take,List.drop_zero,e3,e6,Vv,Vc,Nat.reduceAdd,Nat.reduceEqDiff,Nat.reduceBEq,Nat.reduceLeDiff,reduceCtorEq,↓reduceIte];refine⟨⟨oM,oM,oM⟩,l.length-(i+1),_,oM,Wk.less ?_,i+1,(S.1+1,xs++[(i:Int)],S.2.2++[Wlk.mk r (xs++[(i:Int)]) x]),Y1,oM,rfl,by rw[hBB];simpa using hinv,by simp[hd],by simp[←hd],?_,rfl⟩
     ·simp only[go_sem,TVn,e4,e5,JE i oM,Vv,Vc,Nat.reduceAdd,Nat.reduceEqDiff,Nat.reduceBEq,Nat.reduceLeDiff,reduceCtorEq,↓reduceIte]
     ·rw[hNt,hBB,List.append_assoc,hY1',JPT,hnm,hbn,JCd];have:=JGB (x.ren nm);rw[JGz,hbn]at this;rw[this];rfl
   ·have hrow:owS (x.ren nm)=.agg [.str nm,.int .i64 x.kind,.int .i64 x.number,.int .i64 x.time,.int .i64 x.limit,.str x.text,.str x.schema,.list 5 (x.exprs.map JX),.list 6 (x.rules.map Jz),.list 2 (x.calls.map JV),.own 2 (x.branches.map owB)]:=by
     rw[Xn,JGz,JAJ hbn];rfl
    rw[hrow]at hnth1;have hnodeb:nodeAt (.own 3 Y1) (p++[(k,c)]++[(i,10)])=some (.own 2 (x.branches.map owB)):=by
     rw[hY1',List.append_assoc];have:=JKw A B (x.ren nm) x.branches hbn;rw[show(x.ren nm).Yw x.branches=x.ren nm from rfl,hA]at this;exact(Xm hpos _ [(i,10)]).trans this
    simp only[go_sem,hnode1,hnth1,hlenL1,hnodeb,Vv,Vc,Nat.reduceAdd,Nat.reduceEqDiff,Nat.reduceBEq,Nat.reduceLeDiff,reduceCtorEq,↓reduceIte];refine⟨⟨oM,oM⟩,⟨oM,dC⟩,?_⟩;generalize hbs:x.branches=bs at*;generalize hRB:X7 r bs 0 (d+1) _=RB at hinv;generalize hNB:JCd r (xs++[(i:Int)]) 0 bs=NB at*;refine JH (fun n st=>∃(b:Nat) (T:PO) (Z:List Dat),b≤bs.length∧n=bs.length-b∧X7 r (bs.drop b) b (d+1) T=RB∧d+1≤T.2.1.length∧T.2.1.take (d+1)=xs++[(i:Int)]∧
     .own 3 Z=setAt (.own 3 X) p k c (.own 11 ((A++(x.ren nm).Yw (NB.take b++bs.drop b)::B).map owS))∧
     st=⟨[(0,.tr 1008 ⟨tv,ts,p++[(k,c)],none⟩),(1,.ref 1001 0),(2,.ref 1002 0),(3,.ref 1003 0),(8,.d (.int .i64 l.length)),(9,.d (.int .i64 i)),(5,.d (.int .i64 i)),(27,.d (.int .i64 bs.length)),(28,.d (.int .i64 b))],TVn r (.sub 1006 T.1 0 (d+1)) T.1 T.2.1 tv ts Z⟩) ?_ ?_
    ·refine⟨_,_,(Wk.JMR 1001 0 1006 (S.1+1) 1 _ [.ms 1006 (S.1+1)] rfl rfl rfl).trans (Wk.less ?_),0,(S.1+1,xs++[(i:Int)],S.2.2++[Wlk.mk r (xs++[(i:Int)]) x]),Y1,Nat.zero_le _,rfl,by simpa using hRB,by simp[hd],List.take_of_length_le (by simp[hd]),?_,rfl⟩
     ·simp[go_sem,TVn,hd]
     ·have:=JGB (x.ren nm);rw[JGz,hbs]at this;rw[hY1',List.take_zero,List.drop_zero,List.nil_append,this]
    ·have hbsl:bs.length≤400000000:=by
      have:∀l:List Brn,l.length≤XX l:=by
       intro l
       induction l with
       |nil=>simp[XX]
       |cons x q ih=>simp only[Vf,XX,JAx];omega
      have:=this bs;omega
     rintro n st ⟨b,T,Z,hbk,rfl,hinv2,hT,hTt,hZ,rfl⟩;by_cases hbl:b<bs.length
     ·have hdb:decide ((b:Int)<(bs.length:Int))=true:=sO;have hszb:szB bs[b]≤XX bs:=JEz (Vk hbl);have hVb:=hV _ (Vk hbl);have hNBl:NB.length=bs.length:=by rw[←hNB,JA1]
      have hNBb:NB[b]'oM=nmB r (xs++[(i:Int)]++[(b:Int)]) bs[b]:=by
       have:=JIb r (xs++[(i:Int)]) bs 0 b hbl;simp only[hNB,Int.zero_add]at this;exact this
      have hNBt:NB.take (b+1)=NB.take b++[nmB r (xs++[(i:Int)]++[(b:Int)]) bs[b]]:=by rw[List.take_succ_eq_append_getElem oM,hNBb]
      have hC:(NB.take b).length=b:=by rw[List.length_take];omega
      rw[Vq hbl]at hZ;rw[Vq hbl,X7,JKs,hTt]at hinv2;rw[JAx]at hszb;generalize bs[b]=br at*;generalize hCC:NB.take b=C at*;generalize hDD:bs.drop (b+1)=D at*;have hDl:C.length+(br::D).length=bs.length:=by
       have:=congrArg List.length hDD;simp only[List.length_drop]at this;simp only[Vf];omega
      have hnodeZ:nodeAt (.own 3 Z) (p++[(k,c)])=some (.own 11 ((A++(x.ren nm).Yw (C++br::D)::B).map owS)):=by
       rw[hZ];exact Xm hpos _ []
      have hlenZ:((A++(x.ren nm).Yw (C++br::D)::B).map owS).length=l.length:=by
       have:=congrArg List.length hBB;simp only[List.length_drop]at this;simp only[Vc,Vg,Vf,hA];omega
      have hnthZ:nth ((A++(x.ren nm).Yw (C++br::D)::B).map owS) i=.agg [.str nm,.int .i64 x.kind,.int .i64 x.number,.int .i64 x.time,.int .i64 x.limit,.str x.text,.str x.schema,.list 5 (x.exprs.map JX),.list 6 (x.rules.map Jz),.list 2 (x.calls.map JV),.own 2 ((C++br::D).map owB)]:=by
       have:=JGy owS A B ((x.ren nm).Yw (C++br::D));rw[hA]at this;rw[this,Xn,←JAJ (List.append_ne_nil_of_right_ne_nil C (List.cons_ne_nil br D))];rfl
      have hnodeZb:nodeAt (.own 3 Z) (p++[(k,c)]++[(i,10)])=some (.own 2 ((C++br::D).map owB)):=by
       rw[hZ,List.append_assoc];have:=JKw A B (x.ren nm) (C++br::D) (List.append_ne_nil_of_right_ne_nil C (List.cons_ne_nil br D));rw[hA]at this;exact(Xm hpos _ [(i,10)]).trans this
      have hlenb:((C++br::D).map owB).length=bs.length:=by simp only[Vc,Vg];exact hDl
      have hnthb:nth ((C++br::D).map owB) b=.agg [.list 5 (br.cond.map JX),JDo br.steps]:=by
       rw[Xa,←JAI];have:(C.map owB).length=b:=by rw[Vc,hC]
       rw[←this];exact ZN
      have hS3:List.take (d+1) (List.map (Dat.int .i64) T.2.1)=(xs++[(i:Int)]).map (.int .i64):=by rw[←List.map_take,hTt]
      by_cases hsn:br.steps=[]
      ·rw[hsn,show JDo []=.nil 11 from rfl]at hnthb;have hc2:=JSw (by simp[JS]) rfl (conE r (T.1+1) (xs++[(i:Int)]++[(b:Int)]) tv ts Z);rw[hsn,Uf]at hinv2;simp only[TVn,Vw,Va,Vb,Vg,Vf,Vm,hd,Nat.zero_add]at hc2;simp only[Vw,Va,Vb]at hS3;simp only[go_sem,TVn,hdb,hnodeZ,hnthZ,hnodeZb,hnthb,hlenZ,hlenb,hS3,Vv,Vc,Nat.reduceAdd,Nat.reduceEqDiff,Nat.reduceBEq,Nat.reduceLeDiff,reduceCtorEq,↓reduceIte];refine⟨sP,⟨oM,oM⟩,⟨oM,oM⟩,⟨oM,dC⟩,⟨oM,oM⟩,⟨oM,dC⟩,JU rfl hc2 ⟨rfl,rfl,rfl,rfl,rfl,rfl,trivial⟩ ?_⟩;obtain⟨U,hU0⟩:∃U:PO,U=(T.1+1,xs++[(i:Int)]++[(b:Int)],T.2.2):=⟨_,rfl⟩;have hUinv:X7 r D (b+1) (d+1) U=RB:=by rw[hU0];exact hinv2
       have hU:d+1+1≤U.2.1.length:=by rw[hU0];simp[hd]
       have hUt1:U.2.1.take (d+1)=xs++[(i:Int)]:=by
        rw[hU0];show List.take _ (xs++[(i:Int)]++[(b:Int)])=_;rw[List.take_append_of_le_length (by simp[hd]),List.take_of_length_le (by simp[hd])]
       obtain⟨Z',hZ0⟩:∃Z':List Dat,Z'=Z:=⟨_,rfl⟩;have hZ': .own 3 Z'=setAt (.own 3 X) p k c (.own 11 ((A++(x.ren nm).Yw (C++nmB r (xs++[(i:Int)]++[(b:Int)]) br::D)::B).map owS)):=by
        rw[hZ0,hZ,JPU,hsn,Yt,←hsn,JJj]
       rw[show(T.1+1)=U.1 by rw[hU0],show List.map (Dat.int .i64) xs++[Dat.int .i64 (i:Int)]++[Dat.int .i64 (b:Int)]=U.2.1.map (.int .i64) by rw[hU0];simp,←hZ0];have e2:min (d+1+1) U.2.1.length=d+1+1:=oM;have e3:IntKind.i64.wrap (((d+1+1:Nat):Int)-1)=((d+1:Nat):Int):=XZ (d+2) oM oM;have e4:(((d+1:Nat):Int)-0).toNat=d+1:=oM;have e5:Int.toNat 0=0:=rfl;simp only[go_sem,List.length_take,List.drop_zero,e2,e3,Vv,Vc,Nat.reduceAdd,Nat.reduceEqDiff,Nat.reduceBEq,Nat.reduceLeDiff,reduceCtorEq,↓reduceIte];refine⟨⟨oM,oM,oM⟩,bs.length-(b+1),_,oM,Wk.less ?_,b+1,U,Z',oM,rfl,by rw[hDD];simpa using hUinv,oM,hUt1,?_,rfl⟩
       ·simp only[go_sem,TVn,e4,e5,JE b oM,Vv,Vc,Nat.reduceAdd,Nat.reduceEqDiff,Nat.reduceBEq,Nat.reduceLeDiff,reduceCtorEq,↓reduceIte]
       ·rw[hZ',hNBt,hDD,List.append_assoc C];rfl
      ·have hnodeZs:nodeAt (.own 3 Z) (p++[(k,c)]++[(i,10)]++[(b,1)])=some (.own 11 (br.steps.map owS)):=by
        rw[hZ,List.append_assoc,List.append_assoc];have:=JRV A B (x.ren nm) C D br hsn;rw[hA,hC]at this;exact(Xm hpos _ [(i,10),(b,1)]).trans this
       have hposZ:Pos (.own 3 Z) (p++[(k,c)]++[(i,10)]) b 1:=by
        rw[hZ,List.append_assoc];have:=pos_st A B (x.ren nm) C D br;rw[hA,hC]at this;exact JKp hpos _ [(i,10)] b 1 this
       rw[JBK hsn]at hnthb;have hlen2:(xs++[(i:Int)]++[(b:Int)]).length=d+1+1:=by simp[hd]
       obtain⟨Z',hZ0⟩:∃Z',.own 3 Z'=setAt (.own 3 Z) (p++[(k,c)]++[(i,10)]) b 1 (.own 11 ((Yt r (xs++[(i:Int)]++[(b:Int)]) 0 br.steps).map owS)):=⟨_,JIO _ _ _ _ _ _⟩;have hZ': .own 3 Z'=setAt (.own 3 X) p k c (.own 11 ((A++(x.ren nm).Yw (C++nmB r (xs++[(i:Int)]++[(b:Int)]) br::D)::B).map owS)):=by
        have hne2:Yt r (xs++[(i:Int)]++[(b:Int)]) 0 br.steps≠[]:=by
         intro e;have:=congrArg List.length e;rw[JA0]at this;exact hsn (List.eq_nil_of_length_eq_zero this)
        have h1:=row_br A B (x.ren nm) C D br (Yt r (xs++[(i:Int)]++[(b:Int)]) 0 br.steps);rw[hA,hC,JBK hne2]at h1;rw[hZ0,hZ,List.append_assoc];exact(JDE hpos _ [(i,10)] b 1 _).trans (by rw[h1,JPU])
       have hc2:=JSw (by simp[JS,Av.get]) rfl (hVb hsn (T.1+1) (xs++[(i:Int)]++[(b:Int)]) T.2.2 tv ts Z Z' (p++[(k,c)]++[(i,10)]) b 1 (by rw[hlen2];omega) hposZ hnodeZs hZ0);rw[hlen2]at hc2;have hkeep:=JAH r br.steps 0 (d+1+1) (T.1+1,xs++[(i:Int)]++[(b:Int)],T.2.2) (by show _≤List.length _;rw[hlen2];omega);have hUinv:X7 r D (b+1) (d+1) (Uf r br.steps 0 (d+1+1) (T.1+1,xs++[(i:Int)]++[(b:Int)],T.2.2))=RB:=hinv2;generalize hU0:Uf r br.steps 0 (d+1+1) (T.1+1,xs++[(i:Int)]++[(b:Int)],T.2.2)=U at*;have hU:d+1+1≤U.2.1.length:=hkeep.1;have hUt1:U.2.1.take (d+1)=xs++[(i:Int)]:=by
        have:=congrArg (List.take (d+1)) hkeep.2;rw[List.take_take,show min (d+1) (d+1+1)=d+1 by omega]at this;rw[this];show List.take _ (List.take _ (xs++[(i:Int)]++[(b:Int)]))=_;rw[List.take_take,show min (d+1) (d+1+1)=d+1 by omega,List.take_append_of_le_length (by simp[hd]),List.take_of_length_le (by simp[hd])]
       simp only[TVn,Vw,Va,Vb]at hc2;simp only[Vw,Va,Vb]at hS3;simp only[go_sem,TVn,hdb,hnodeZ,hnthZ,hnodeZb,hnthb,hlenZ,hlenb,hS3,Vv,Vc,Nat.reduceAdd,Nat.reduceEqDiff,Nat.reduceBEq,Nat.reduceLeDiff,reduceCtorEq,↓reduceIte];refine⟨sP,⟨oM,oM⟩,⟨oM,oM⟩,⟨oM,dC⟩,⟨oM,oM⟩,⟨oM,dC⟩,JU rfl hc2 ⟨rfl,rfl,rfl,rfl,rfl,rfl,trivial⟩ ?_⟩;have e2:min (d+1+1) U.2.1.length=d+1+1:=oM;have e3:IntKind.i64.wrap (((d+1+1:Nat):Int)-1)=((d+1:Nat):Int):=XZ (d+2) oM oM;have e4:(((d+1:Nat):Int)-0).toNat=d+1:=oM;have e5:Int.toNat 0=0:=rfl;simp only[go_sem,List.length_take,List.drop_zero,e2,e3,Vv,Vc,Nat.reduceAdd,Nat.reduceEqDiff,Nat.reduceBEq,Nat.reduceLeDiff,reduceCtorEq,↓reduceIte];refine⟨⟨oM,oM,oM⟩,bs.length-(b+1),_,oM,Wk.less ?_,b+1,U,Z',oM,rfl,by rw[hDD];simpa using hUinv,oM,hUt1,?_,rfl⟩
       ·simp only[go_sem,TVn,e4,e5,JE b oM,Vv,Vc,Nat.reduceAdd,Nat.reduceEqDiff,Nat.reduceBEq,Nat.reduceLeDiff,reduceCtorEq,↓reduceIte]
       ·rw[hZ',hNBt,hDD,List.append_assoc C];rfl
     ·have hdb:decide ((b:Int)<(bs.length:Int))=false:=sO;obtain rfl:b=bs.length:=oM;rw[List.drop_length,X7]at hinv2;subst hinv2;have hNBl:NB.length=bs.length:=by rw[←hNB,JA1]
      have e2:min (d+1) T.2.1.length=d+1:=oM;have e3:IntKind.i64.wrap (((d+1:Nat):Int)-1)=((d:Nat):Int):=XZ (d+1) oM oM;have e4:((d:Int)-0).toNat=d:=oM;have e5:Int.toNat 0=0:=rfl;simp only[go_sem,TVn,hdb,List.length_take,List.drop_zero,e2,e3,Vv,Vc,Nat.reduceAdd,Nat.reduceEqDiff,Nat.reduceBEq,Nat.reduceLeDiff,reduceCtorEq,↓reduceIte];refine⟨⟨oM,oM,oM⟩,l.length-(i+1),_,oM,Wk.less ?_,i+1,T,Z,oM,rfl,by rw[hBB];simpa using hinv,oM,?_,?_,rfl⟩
      ·simp only[go_sem,TVn,e4,e5,JE i oM,Vv,Vc,Nat.reduceAdd,Nat.reduceEqDiff,Nat.reduceBEq,Nat.reduceLeDiff,reduceCtorEq,↓reduceIte]
      ·have:=congrArg (List.take d) hTt;rw[List.take_take,show min d (d+1)=d by omega]at this;rw[this];simp[←hd]
      ·rw[hZ,hNt,hBB,List.append_assoc A,JPT,hnm,hbs,hNB,List.drop_length,List.append_nil,←hNBl,List.take_length];rfl
  ·have hdk:decide ((i:Int)<(l.length:Int))=false:=sO;obtain rfl:i=l.length:=oM;rw[List.drop_length,Uf]at hinv;subst hinv;rw[List.drop_length,List.append_nil,←hNl,List.take_length,←hX']at hY;obtain rfl:Y=X':=by injection hY
   simp only[go_sem,TVn,hdk,Vv,Vc,Nat.reduceAdd,Nat.reduceEqDiff,Nat.reduceBEq,Nat.reduceLeDiff,reduceCtorEq,↓reduceIte]
mutual
theorem vNs(r:Int):∀(l:List Ste),∀x∈l,∀b∈x.branches,b.steps≠[]→JFD r b.steps
 |[],x,h,_,_,_=>by cases h
 |v::q,x,h,b,hb,hn=>by
  by_cases e:x=v
  ·rw[e]at hb;exact vNS r v b hb hn
  ·exact vNs r q x ((VA.1 h).resolve_left e) b hb hn
theorem vNS(r:Int):∀(x:Ste),∀b∈x.branches,b.steps≠[]→JFD r b.steps
 |.mk n k u t l x c e ru a bs=>vNbs r bs
theorem vNbs(r:Int):∀(l:List Brn),∀b∈l,b.steps≠[]→JFD r b.steps
 |[],b,h,_=>by cases h
 |v::q,b,h,hn=>by
  by_cases e:b=v
  ·rw[e]at hn⊢;exact vNB r v hn
  ·exact vNbs r q b ((VA.1 h).resolve_left e) hn
theorem vNB(r:Int):∀(b:Brn),b.steps≠[]→JFD r b.steps
 |.mk w s,hn=>JSx r s hn (vNs r s)
end
theorem wN(r:Int)(l:List Ste)(hne:l≠[]):JFD r l:=JSx r l hne (vNs r l)
theorem JIc{r:Int}{c:Av}{v:Nat}{xs:List Int}{tv ts:Nat}{X:List Dat}{c':Av}{v':Nat}{xs':List Int}{X':List Dat}{i:Nat}(h:(JC (get (TVn r c v xs tv ts X)) (TVn r c' v' xs' tv ts X') i).isSome=true):i=1001∨i=1002∨i=1003∨i=1005∨i=1006∨i=1008:=by
 refine Decidable.byContradiction fun hn=>?_
 simp only[not_or]at hn;obtain⟨a1,a2,a3,a5,a6,a7⟩:=hn;simp[TVn,JC,upd,Av.get,a1,a2,a3,a5,a6,a7,Ne.symm a1,Ne.symm a2,Ne.symm a3,Ne.symm a5,Ne.symm a6,Ne.symm a7]at h
theorem JMF{i j:Nat}(hi:i=1001∨i=1002∨i=1003∨i=1005∨i=1006∨i=1008)(hj:j=1001∨j=1002∨j=1003∨j=1005∨j=1006∨j=1008)(h:JFU i=JFU j):i=j:=by
 rcases hi with rfl|rfl|rfl|rfl|rfl|rfl<;>rcases hj with rfl|rfl|rfl|rfl|rfl|rfl<;>first|rfl|(revert h;decide)
theorem callNa{r:Int}{a:Av}{tv ts:Nat}{X X':List Dat}{v':Nat}{xs':List Int}(ha:JS (get (TVn r (.ms 1006 0) 0 [] tv ts X)) a)(hr:a.ren JFU=a)
  (hw:KT 120 [a,.ref 1001 0,.ref 1002 0,.ref 1003 0] (TVn r (.ms 1006 0) 0 [] tv ts X) (.tup []) (TVn r (.sub 1006 v' 0 0) v' xs' tv ts X')):
  CT (.fn 120) [a,.ref 4 0,.ref 3 0,.ref 5 0]
   [(4,some (.box [.d (.nil 1)])),(6,none),(3,some (.box [.clo (.func 60) [] [.ref 1005 0]])),(5,some (.box [.clo (.func 120) [] [.ref 4 0,.ref 3 0,.ref 5 0]])),(1005,some (.box [.d (.int .i64 r)])),(1008,some (.tre tv ts 3 X))] (.tup [])
   [(4,.box [.sub 6 v' 0 0]),(3,.box [.clo (.func 60) [] [.ref 1005 0]]),(5,.box [.clo (.func 120) [] [.ref 4 0,.ref 3 0,.ref 5 0]]),(1005,.box [.d (.int .i64 r)]),(6,.row v' 1 (xs'.map (.int .i64))),(1008,.tre tv ts 3 X')]:=by
 have h:=hw.call JFU (fun i hi=>JKx hi) (fun i j hi hj=>JMF (JIc hi) (JIc hj)) (by
   intro c hc;simp only[VA,List.not_mem_nil,or_false]at hc;rcases hc with rfl|rfl|rfl|rfl
   ·exact ha
   all_goals simp[JS,Av.get]) (J4 (by simp[Jf,J8,JT,JS,Uk,Av.get])) [] (by simp[Av.get]) (JD4 r 0 v' [] xs' tv ts X X' _ v' (.inr ⟨_,rfl⟩)) trivial
 simp only[TVn,Va,Vb,Vm,Obj.ren,Av.ren,UV,JFU,YH,List.append_nil,Nat.reduceEqDiff,↓reduceIte]at h;rw[show a.ren (fun i=>if i=1001 then 4 else if i=1002 then 3 else if i=1003 then 5 else if i=1006 then 6 else i)=a from hr]at h;refine JR.JMQ (JR.JJ4 (j:=0) (JR.JMQ h ?_) ?_ dC rfl dC rfl rfl) (fun e he=>he)
 ·simp
 ·simp
abbrev TW(r:Int)(tv ts:Nat)(X:List Dat):List (Nat×Av.Obj):=[(1005,.box [.d (.int .i64 r)]),(1008,.tre tv ts 3 X)]
theorem JPV(r:Int)(a:Av)(tv ts:Nat)(X X':List Dat)(v':Nat)(xs':List Int)(ha:JS (get (TW r tv ts X)) a)(ha2:JS (get (TVn r (.ms 1006 0) 0 [] tv ts X)) a)(hr:a.ren JFU=a)
  (hw:KT 120 [a,.ref 1001 0,.ref 1002 0,.ref 1003 0] (TVn r (.ms 1006 0) 0 [] tv ts X) (.tup []) (TVn r (.sub 1006 v' 0 0) v' xs' tv ts X')):
  KT 59 [a,.clo (.func 60) [] [.ref 1005 0]] (TW r tv ts X) (.tup []) (TW r tv ts X'):=by
 refine ok59.con (k:=some false) (Nat.le_of_ble_eq_true rfl) (Jr (by simp[TW,U6,put,Jf,J8,JT,JS,Av.get])) trivial ?_;have hc:=callNa ha2 hr hw;simp only[go_sem,TW,ir59,Vv,Vc,simprocAttr];refine JU rfl hc ⟨rfl,rfl,rfl,rfl,rfl,rfl,trivial⟩ ?_;simp only[go_sem,Vv,Vc,simprocAttr]
theorem visN(r:Int)(l:List Ste)(hl:UC l≤100000000)(tv ts:Nat)(X X':List Dat)(p:List (Nat×Nat))(k c:Nat)(hne:l≠[])(hpos:Pos (.own 3 X) p k c)
  (hn:nodeAt (.own 3 X) (p++[(k,c)])=some (.own 11 (l.map owS)))(hX: .own 3 X'=setAt (.own 3 X) p k c (.own 11 ((Yt r [] 0 l).map owS))):
  KT 59 [.tr 1008 ⟨tv,ts,p++[(k,c)],none⟩,.clo (.func 60) [] [.ref 1005 0]] (TW r tv ts X) (.tup []) (TW r tv ts X'):=
 JPV r _ tv ts X X' _ _ (by simp[JS,Av.get]) (by simp[JS,Av.get]) rfl (wN r l hne 0 [] [] tv ts X X' p k c sO hpos hn hX)
theorem visE(r:Int)(tv ts:Nat)(X:List Dat):KT 59 [.d (.nil 11),.clo (.func 60) [] [.ref 1005 0]] (TW r tv ts X) (.tup []) (TW r tv ts X):=
 JPV r _ tv ts X X _ _ (by simp[JS]) (by simp[JS]) rfl (conE r 0 [] tv ts X)
end Go.Proofs
namespace Go.Proofs
open Go Av
@[instance_reducible] def JRW:Rls:={rl:=fun n=>n==1,tr:=fun n=>n==11||n==2}
attribute [local instance 2000] JRW
theorem JG0(n:Nat): @Rls.rl JRW n=(n==1):=rfl
theorem JId(n:Nat): @Rls.tr JRW n=(n==11||n==2):=rfl
theorem Yb(sz n:Nat): @Y7 JRW sz n=(sz==1&&n==1):=by unfold Y7;rw[JG0];show((sz==1&&n==1)||(false&&_))=_;rw[Bool.false_and,Bool.or_false]
def stA(s:Ste)(i:Nat):Av:=.agg [.d (.str s.name),.d (.int .i64 s.kind),.d (.int .i64 s.number),.d (.int .i64 s.time),.d (.int .i64 s.limit),.d (.str s.text),.d (.str s.schema),.d (.list 5 (s.exprs.map JX)),.d (.list 6 (s.rules.map Jz)),.d (.list 2 (s.calls.map JV)),.tr i ⟨s.branches.length-1,0,[],none⟩]
def brA(b:Brn)(i:Nat):Av:=.agg [.d (.list 5 (b.cond.map JX)),.tr i ⟨b.steps.length-1,0,[],none⟩]
def JPW(s:Ste):Prop:=(s.branches=[]→CT 58 [.d (JJ s)] [] (.d (owS s)) [])∧(s.branches≠[]→∀i,CT 58 [.d (JJ s)] [(i,none)] (stA s i) [(i,.tre (s.branches.length-1) 0 2 (s.branches.map owB))])
def JPX(b:Brn):Prop:=(b.steps=[]→CT 119 [.d (J5 b)] [] (.d (owB b)) [])∧(b.steps≠[]→∀i,CT 119 [.d (J5 b)] [(i,none)] (brA b i) [(i,.tre (b.steps.length-1) 0 11 (b.steps.map owS))])
def C164(l:List Brn):Prop:=(l=[]→CT 118 [.d (.list 2 []),.d (.fn (.func 119) [] [])] [] (.d (.nil 2)) [])∧(l≠[]→∀i,CT 118 [.d (.list 2 (l.map J5)),.d (.fn (.func 119) [] [])] [(i,none)] (.tr i ⟨l.length-1,0,[],none⟩) [(i,.tre (l.length-1) 0 2 (l.map owB))])
def C105(l:List Ste):Prop:=(l=[]→CT 57 [.d (.list 11 []),.d (.fn (.func 58) [] [])] [] (.d (.nil 11)) [])∧(l≠[]→∀i,CT 57 [.d (.list 11 (l.map JJ)),.d (.fn (.func 58) [] [])] [(i,none)] (.tr i ⟨l.length-1,0,[],none⟩) [(i,.tre (l.length-1) 0 11 (l.map owS))])
theorem nil105:CT 57 [.d (.list 11 []),.d (.fn (.func 58) [] [])] [] (.d (.nil 11)) []:=by
 refine Con.JLD (ds:=[.list 11 [],.fn (.func 58) [] []]) ?_;refine JOt.con (k:=some true) (Nat.le_of_ble_eq_true rfl) (by intro i o h;cases h) trivial ?_;simp only[go_sem,JQt,Vm,Vv,Vc,simprocAttr];refine JH (fun n s=>s=⟨[(1,.d (.fn (.func 58) [] [])),(5,.d (.nil 11)),(8,.d (.list 11 [])),(9,.d (.int .i64 0)),(10,.d (.int .i64 0))],[]⟩) ?_ ?_
 ·exact⟨0,_,Wk.refl _,rfl⟩
 ·rintro n s rfl;simp only[go_sem,Int.lt_irrefl,decide_false,Vu,Vv,Vc,simprocAttr]
theorem con57(l:List Ste)(hne:l≠[])(h:∀x∈l,JPW x):KT 57 [.d (.list 11 (l.map JJ)),.d (.fn (.func 58) [] [])] [] (.tr 19 ⟨l.length-1,0,[],none⟩) [(19,.tre (l.length-1) 0 11 (l.map owS))]:=by
 refine Con.Jg JOt.has fun hfit=>?_
 have hl:l.length≤68719476736:=by have:=(hfit (.list 11 (l.map JJ)) sP).1;simpa using this
 clear hfit;refine JOt.con (k:=some true) (Nat.le_of_ble_eq_true rfl) (Jr (by simp[U6,put,Jf,J8])) (by simp[JC,upd,inT,JS,JT]) ?_;simp only[go_sem,JQt,Vv,Vc,Nat.reduceAdd,Nat.reduceEqDiff,Nat.reduceBEq,Nat.reduceLeDiff,reduceCtorEq,↓reduceIte];refine JH (fun n s=>∃k:Nat,k≤l.length∧n=l.length-k∧
  s=⟨[(1,.d (.fn (.func 58) [] [])),(5,match k with|0=>.d (.nil 11)|j+1=>.tr 19 ⟨j,0,[],none⟩),(8,.d (.list 11 (l.map JJ))),(9,.d (.int .i64 l.length)),(10,.d (.int .i64 k))],match k with|0=>[]|j+1=>[(19,.tre j 0 11 ((l.take k).map owS))]⟩) ?_ ?_
 ·exact⟨_,_,Wk.refl _,0,Nat.zero_le _,rfl,rfl⟩
 ·rintro n s ⟨k,hk,rfl,rfl⟩;by_cases hlt:k<l.length
  ·have hx:=Zt hlt;have hd:=dT hlt;have hc:=h _ (Vk hlt);have htk:=List.take_succ_eq_append_getElem hlt;generalize l[k]=x at*;by_cases hb:x.branches=[]
   ·have hc1:=hc.1 hb;rw[JW,Xn,hb,show JPR []=.nil 2 from rfl,Vb]at hc1;have how:owS x=.agg [.str x.name,.int .i64 x.kind,.int .i64 x.number,.int .i64 x.time,.int .i64 x.limit,.str x.text,.str x.schema,.list 5 (x.exprs.map JX),.list 6 (x.rules.map Jz),.list 2 (x.calls.map JV),.nil 2]:=by rw[Xn,hb];rfl
    rw[hb,Vb]at hx;cases k with
    |zero=>
     refine zz6 ?_;refine⟨oM,wn hc1 ?_⟩;simp only[go_sem,JG0,JId,Yb,Bool.false_and,Nat.reduceEqDiff,Bool.or_false,Bool.false_or,Bool.or_true,Bool.true_or,Vv,Vc,Nat.reduceAdd,Nat.reduceEqDiff,Nat.reduceBEq,Nat.reduceLeDiff,reduceCtorEq,↓reduceIte];refine⟨sP,⟨dC,dC,sP⟩,l.length-1,_,oM,Wk.less ?_,1,oM,rfl,rfl⟩;rw[htk,List.take_zero,List.nil_append];simp only[go_sem,Va,Vb,how,Vv,Vc,Nat.reduceAdd,Nat.reduceEqDiff,Nat.reduceBEq,Nat.reduceLeDiff,reduceCtorEq,↓reduceIte]
     try rfl
    |succ j=>
     refine zz6 ?_;refine⟨oM,wn hc1 ?_⟩;simp only[go_sem,JG0,JId,Yb,Bool.false_and,Nat.reduceEqDiff,Bool.or_false,Bool.false_or,Bool.or_true,Bool.true_or,JAZ,Vv,Vc,Nat.reduceAdd,Nat.reduceEqDiff,Nat.reduceBEq,Nat.reduceLeDiff,reduceCtorEq,↓reduceIte];refine⟨sP,⟨dC,sO,sP⟩,l.length-(j+1+1),_,oM,Wk.less ?_,j+1+1,oM,rfl,rfl⟩;rw[htk,Vw];simp only[go_sem,Va,Vb,how,JE (j+1) oM,Vv,Vc,Nat.reduceAdd,Nat.reduceEqDiff,Nat.reduceBEq,Nat.reduceLeDiff,reduceCtorEq,↓reduceIte]
   ·have hc2:=hc.2 hb 17;rw[JW,stA]at hc2;have how:owS x=.agg [.str x.name,.int .i64 x.kind,.int .i64 x.number,.int .i64 x.time,.int .i64 x.limit,.str x.text,.str x.schema,.list 5 (x.exprs.map JX),.list 6 (x.rules.map Jz),.list 2 (x.calls.map JV),.own 2 (x.branches.map owB)]:=by rw[Xn,JAJ hb]
    cases k with
    |zero=>
     refine zz6 ?_;refine⟨oM,wn hc2 ?_⟩;simp only[go_sem,JG0,JId,Yb,Bool.false_and,Nat.reduceEqDiff,Bool.or_false,Bool.false_or,Bool.or_true,Bool.true_or,Vv,Vc,Nat.reduceAdd,Nat.reduceEqDiff,Nat.reduceBEq,Nat.reduceLeDiff,reduceCtorEq,↓reduceIte];refine⟨sP,l.length-1,_,oM,Wk.less ?_,1,oM,rfl,rfl⟩;rw[htk,List.take_zero,List.nil_append];simp only[go_sem,Va,Vb,how,Vv,Vc,Nat.reduceAdd,Nat.reduceEqDiff,Nat.reduceBEq,Nat.reduceLeDiff,reduceCtorEq,↓reduceIte]
     try rfl
    |succ j=>
     refine zz6 ?_;refine⟨oM,wn hc2 ?_⟩;simp only[go_sem,JG0,JId,Yb,Bool.false_and,Nat.reduceEqDiff,Bool.or_false,Bool.false_or,Bool.or_true,Bool.true_or,Vv,Vc,Nat.reduceAdd,Nat.reduceEqDiff,Nat.reduceBEq,Nat.reduceLeDiff,reduceCtorEq,↓reduceIte];refine⟨⟨oM,sO⟩,l.length-(j+1+1),_,oM,Wk.less ?_,j+1+1,oM,rfl,rfl⟩;rw[htk,Vw];simp only[go_sem,Va,Vb,how,JE (j+1) oM,Vv,Vc,Nat.reduceAdd,Nat.reduceEqDiff,Nat.reduceBEq,Nat.reduceLeDiff,reduceCtorEq,↓reduceIte]
  ·have hd:=dF hlt;obtain rfl:k=l.length:=oM;obtain⟨j,hj⟩:∃j,l.length=j+1:=⟨l.length-1,by have:=List.length_pos_iff.2 hne;omega⟩;simp only[go_sem,hd,hj,List.take_length,Int.lt_irrefl,decide_false,Vu,Vv,Vc,Nat.reduceAdd,Nat.reduceEqDiff,Nat.reduceBEq,Nat.reduceLeDiff,reduceCtorEq,↓reduceIte];rw[show List.take (j+1) l=l by rw[←hj,List.take_length]];exact⟨rfl,rfl⟩
theorem nil164:CT 118 [.d (.list 2 []),.d (.fn (.func 119) [] [])] [] (.d (.nil 2)) []:=by
 refine Con.JLD (ds:=[.list 2 [],.fn (.func 119) [] []]) ?_;refine JID.con (k:=some true) (Nat.le_of_ble_eq_true rfl) (by intro i o h;cases h) trivial ?_;simp only[go_sem,JKf,Vm,Vv,Vc,simprocAttr];refine JH (fun n s=>s=⟨[(1,.d (.fn (.func 119) [] [])),(5,.d (.nil 2)),(8,.d (.list 2 [])),(9,.d (.int .i64 0)),(10,.d (.int .i64 0))],[]⟩) ?_ ?_
 ·exact⟨0,_,Wk.refl _,rfl⟩
 ·rintro n s rfl;simp only[go_sem,Int.lt_irrefl,decide_false,Vu,Vv,Vc,simprocAttr]
theorem con118(l:List Brn)(hne:l≠[])(h:∀x∈l,JPX x):KT 118 [.d (.list 2 (l.map J5)),.d (.fn (.func 119) [] [])] [] (.tr 19 ⟨l.length-1,0,[],none⟩) [(19,.tre (l.length-1) 0 2 (l.map owB))]:=by
 refine Con.Jg JID.has fun hfit=>?_
 have hl:l.length≤68719476736:=by have:=(hfit (.list 2 (l.map J5)) sP).1;simpa using this
 clear hfit;refine JID.con (k:=some true) (Nat.le_of_ble_eq_true rfl) (Jr (by simp[U6,put,Jf,J8])) (by simp[JC,upd,inT,JS,JT]) ?_;simp only[go_sem,JKf,Vv,Vc,Nat.reduceAdd,Nat.reduceEqDiff,Nat.reduceBEq,Nat.reduceLeDiff,reduceCtorEq,↓reduceIte];refine JH (fun n s=>∃k:Nat,k≤l.length∧n=l.length-k∧
  s=⟨[(1,.d (.fn (.func 119) [] [])),(5,match k with|0=>.d (.nil 2)|j+1=>.tr 19 ⟨j,0,[],none⟩),(8,.d (.list 2 (l.map J5))),(9,.d (.int .i64 l.length)),(10,.d (.int .i64 k))],match k with|0=>[]|j+1=>[(19,.tre j 0 2 ((l.take k).map owB))]⟩) ?_ ?_
 ·exact⟨_,_,Wk.refl _,0,Nat.zero_le _,rfl,rfl⟩
 ·rintro n s ⟨k,hk,rfl,rfl⟩;by_cases hlt:k<l.length
  ·have hx:=Ya hlt;have hd:=dT hlt;have hc:=h _ (Vk hlt);have htk:=List.take_succ_eq_append_getElem hlt;generalize l[k]=x at*;by_cases hb:x.steps=[]
   ·have hc1:=hc.1 hb;rw[X6,JAI,hb,show JDo []=.nil 11 from rfl,Vb]at hc1;have how:owB x=.agg [.list 5 (x.cond.map JX),.nil 11]:=by rw[JAI,hb];rfl
    rw[hb,Vb]at hx;cases k with
    |zero=>
     refine zz6 ?_;refine⟨oM,wn hc1 ?_⟩;simp only[go_sem,JG0,JId,Yb,Bool.false_and,Nat.reduceEqDiff,Bool.or_false,Bool.false_or,Bool.or_true,Bool.true_or,Vv,Vc,Nat.reduceAdd,Nat.reduceEqDiff,Nat.reduceBEq,Nat.reduceLeDiff,reduceCtorEq,↓reduceIte];refine⟨sP,⟨dC,dC,sP⟩,l.length-1,_,oM,Wk.less ?_,1,oM,rfl,rfl⟩;rw[htk,List.take_zero,List.nil_append];simp only[go_sem,Va,Vb,how,Vv,Vc,Nat.reduceAdd,Nat.reduceEqDiff,Nat.reduceBEq,Nat.reduceLeDiff,reduceCtorEq,↓reduceIte]
     try rfl
    |succ j=>
     refine zz6 ?_;refine⟨oM,wn hc1 ?_⟩;simp only[go_sem,JG0,JId,Yb,Bool.false_and,Nat.reduceEqDiff,Bool.or_false,Bool.false_or,Bool.or_true,Bool.true_or,JAZ,Vv,Vc,Nat.reduceAdd,Nat.reduceEqDiff,Nat.reduceBEq,Nat.reduceLeDiff,reduceCtorEq,↓reduceIte];refine⟨sP,⟨dC,sO,sP⟩,l.length-(j+1+1),_,oM,Wk.less ?_,j+1+1,oM,rfl,rfl⟩;rw[htk,Vw];simp only[go_sem,Va,Vb,how,JE (j+1) oM,Vv,Vc,Nat.reduceAdd,Nat.reduceEqDiff,Nat.reduceBEq,Nat.reduceLeDiff,reduceCtorEq,↓reduceIte]
   ·have hc2:=hc.2 hb 17;rw[X6,brA]at hc2;have how:owB x=.agg [.list 5 (x.cond.map JX),.own 11 (x.steps.map owS)]:=by rw[JAI,JBK hb]
    cases k with
    |zero=>
     refine zz6 ?_;refine⟨oM,wn hc2 ?_⟩;simp only[go_sem,JG0,JId,Yb,Bool.false_and,Nat.reduceEqDiff,Bool.or_false,Bool.false_or,Bool.or_true,Bool.true_or,Vv,Vc,Nat.reduceAdd,Nat.reduceEqDiff,Nat.reduceBEq,Nat.reduceLeDiff,reduceCtorEq,↓reduceIte];refine⟨sP,l.length-1,_,oM,Wk.less ?_,1,oM,rfl,rfl⟩;rw[htk,List.take_zero,List.nil_append];simp only[go_sem,Va,Vb,how,Vv,Vc,Nat.reduceAdd,Nat.reduceEqDiff,Nat.reduceBEq,Nat.reduceLeDiff,reduceCtorEq,↓reduceIte]
     try rfl
    |succ j=>
     refine zz6 ?_;refine⟨oM,wn hc2 ?_⟩;simp only[go_sem,JG0,JId,Yb,Bool.false_and,Nat.reduceEqDiff,Bool.or_false,Bool.false_or,Bool.or_true,Bool.true_or,Vv,Vc,Nat.reduceAdd,Nat.reduceEqDiff,Nat.reduceBEq,Nat.reduceLeDiff,reduceCtorEq,↓reduceIte];refine⟨⟨oM,sO⟩,l.length-(j+1+1),_,oM,Wk.less ?_,j+1+1,oM,rfl,rfl⟩;rw[htk,Vw];simp only[go_sem,Va,Vb,how,JE (j+1) oM,Vv,Vc,Nat.reduceAdd,Nat.reduceEqDiff,Nat.reduceBEq,Nat.reduceLeDiff,reduceCtorEq,↓reduceIte]
  ·have hd:=dF hlt;obtain rfl:k=l.length:=oM;obtain⟨j,hj⟩:∃j,l.length=j+1:=⟨l.length-1,by have:=List.length_pos_iff.2 hne;omega⟩;simp only[go_sem,hd,hj,List.take_length,Int.lt_irrefl,decide_false,Vu,Vv,Vc,Nat.reduceAdd,Nat.reduceEqDiff,Nat.reduceBEq,Nat.reduceLeDiff,reduceCtorEq,↓reduceIte];rw[show List.take (j+1) l=l by rw[←hj,List.take_length]];exact⟨rfl,rfl⟩
theorem c118(l:List Brn)(h:∀x∈l,JPX x):C164 l:=⟨fun _=>nil164,fun hne i=>Con.JQD (ds:=[.list 2 (l.map J5),.fn (.func 119) [] []]) (con118 l hne h) (by simp[JC,upd,inT,JS,JT]) i⟩
theorem c57(l:List Ste)(h:∀x∈l,JPW x):C105 l:=⟨fun _=>nil105,fun hne i=>Con.JQD (ds:=[.list 11 (l.map JJ),.fn (.func 58) [] []]) (con57 l hne h) (by simp[JC,upd,inT,JS,JT]) i⟩
theorem c119(b:Brn)(h:C105 b.steps):JPX b:=by
 have h1:=(JD1 b.cond fun x _=>p84 x).call trivial;refine⟨fun hb=>?_,fun hb i=>?_⟩
 ·refine Con.JLD (ds:=[J5 b]) ?_;refine JOs.con (k:=some true) (Nat.le_of_ble_eq_true rfl) (by intro i o h;cases h) trivial ?_;have hc:=h.1 hb;rw[X6,JAI,hb,show JDo []=.nil 11 from rfl];simp only[go_sem,JKg,Vv,Vc,simprocAttr];refine JG rfl h1 trivial ?_;simp only[go_sem,Vv,Vc,simprocAttr];refine JG rfl hc trivial ?_;simp only[go_sem,Vv,Vc,simprocAttr];rfl
 ·have:KT 119 [.d (J5 b)] [] (brA b 8) [(8,.tre (b.steps.length-1) 0 11 (b.steps.map owS))]:=by
   refine JOs.con (k:=some true) (Nat.le_of_ble_eq_true rfl) (Jr (by simp[U6,put,Jf,J8])) (by simp[brA,JC,upd,inT,JS,JT]) ?_;have hc:=h.2 hb 8;rw[X6,brA];simp only[go_sem,JKg,Vv,Vc,simprocAttr];refine JG rfl h1 trivial ?_;simp only[go_sem,Vv,Vc,simprocAttr];refine JG rfl hc ⟨rfl,trivial⟩ ?_;simp only[go_sem,Vv,Vc,simprocAttr];rfl
  exact Con.JQD (ds:=[J5 b]) this (by simp[brA,JC,upd,inT,JS,JT]) i
theorem c58(s:Ste)(h:C164 s.branches):JPW s:=by
 have h1:=(JD1 s.exprs fun x _=>p84 x).call trivial;have h2:=(p85 s.rules).call trivial;have h3:=(JGp s.calls fun x _=>p117 x).call trivial;simp only[JD,Va,Vb]at h2;refine⟨fun hb=>?_,fun hb i=>?_⟩
 ·refine Con.JLD (ds:=[JJ s]) ?_;refine JQu.con (k:=some true) (Nat.le_of_ble_eq_true rfl) (by intro i o h;cases h) trivial ?_;have hc:=h.1 hb;rw[JW,Xn,hb,show JPR []=.nil 2 from rfl];simp only[go_sem,JOu,Vv,Vc,simprocAttr];refine wn h1 ?_;simp only[go_sem,Vv,Vc,simprocAttr];refine wn h2 ?_;simp only[go_sem,Vv,Vc,simprocAttr];refine wn h3 ?_;simp only[go_sem,Vv,Vc,simprocAttr];refine wn hc ?_;simp only[go_sem,Vv,Vc,simprocAttr]
 ·have:KT 58 [.d (JJ s)] [] (stA s 17) [(17,.tre (s.branches.length-1) 0 2 (s.branches.map owB))]:=by
   refine JQu.con (k:=some true) (Nat.le_of_ble_eq_true rfl) (Jr (by simp[U6,put,Jf,J8])) (by simp[stA,JC,upd,inT,JS,JT]) ?_;have hc:=h.2 hb 17;rw[JW,stA];simp only[go_sem,JOu,Vv,Vc,simprocAttr];refine wn h1 ?_;simp only[go_sem,Vv,Vc,simprocAttr];refine wn h2 ?_;simp only[go_sem,Vv,Vc,simprocAttr];refine wn h3 ?_;simp only[go_sem,Vv,Vc,simprocAttr];refine wn hc ?_;simp only[go_sem,Vv,Vc,simprocAttr]
  exact Con.JQD (ds:=[JJ s]) this (by simp[stA,JC,upd,inT,JS,JT]) i
mutual
theorem k106:∀(s:Ste),JPW s
 |.mk n k u t l x c e r a b=>c58 _ (c118 b (JSy b))
theorem JPY:∀(l:List Ste),∀x∈l,JPW x
 |[],x,h=>by cases h
 |v::r,x,h=>by
  by_cases e:x=v
  ·rw[e];exact k106 v
  ·exact JPY r x ((VA.1 h).resolve_left e)
theorem k165:∀(b:Brn),JPX b
 |.mk w s=>c119 _ (c57 s (JPY s))
theorem JSy:∀(l:List Brn),∀x∈l,JPX x
 |[],x,h=>by cases h
 |v::r,x,h=>by
  by_cases e:x=v
  ·rw[e];exact k165 v
  ·exact JSy r x ((VA.1 h).resolve_left e)
end
theorem k105(l:List Ste):C105 l:=c57 l (JPY l)
end Go.Proofs
namespace Go.Proofs
open Go Av
section
@[instance_reducible] def JRX:Rls:={rl:=fun n=>n==1,tr:=fun n=>n==3}
attribute [local instance 2000] JRX
theorem rl_3(n:Nat): @Rls.rl JRX n=(n==1):=rfl
theorem tr_3(n:Nat): @Rls.tr JRX n=(n==3):=rfl
theorem JPZ(sz n:Nat): @Y7 JRX sz n=(sz==1&&n==1):=by unfold Y7;rw[rl_3];show((sz==1&&n==1)||(false&&_))=_;rw[Bool.false_and,Bool.or_false]
theorem call56(l:List Rou)(hne:l≠[])(i:Nat):CT 56 [.d (.list 3 (l.map Un))] [(i,none)] (.tr i ⟨0,0,[],none⟩) [(i,.tre 0 0 3 (l.map Un))]:=by
 have:KT 56 [.d (.list 3 (l.map Un))] [] (.tr 7 ⟨0,0,[],none⟩) [(7,.tre 0 0 3 (l.map Un))]:=by
  refine Con.Jg ok56.has fun hfit=>?_
  have hl:l.length≤68719476736:=by have:=(hfit (.list 3 (l.map Un)) sP).1;simpa using this
  clear hfit;refine ok56.con (k:=some true) (Nat.le_of_ble_eq_true rfl) (Jr (by simp[U6,put,Jf,J8])) (by simp[JC,upd,inT,JS,JT]) ?_;obtain⟨x,q,rfl⟩:∃x q,l=x::q:=by cases l with|nil=>exact absurd rfl hne|cons x q=>exact⟨x,q,rfl⟩
  have hcl:∀y∈Un x::q.map Un,y.cells.length=3:=by
   intro y hy;rw[←Va]at hy;obtain⟨z,_,rfl⟩:=VC.1 hy;rfl
  simp only[Dat.cells]at hcl;simp only[go_sem,ir56,rl_3,tr_3,JPZ,Va,Vm,Vu,Bool.false_and,Vv,Vc,Nat.reduceAdd,Nat.reduceEqDiff,Nat.reduceBEq,Nat.reduceLeDiff,reduceCtorEq,↓reduceIte];exact⟨sP,dC,sP,by simpa using hl,hcl⟩
 exact Con.JQD (ds:=[.list 3 (l.map Un)]) this (by simp[JC,upd,inT,JS,JT]) i
end
theorem JSz{r:Int}{a:Av}{tv ts:Nat}{X X':List Dat}{a':Av}(ha:JS (get (TW r tv ts X)) a)(hr:a.ren (fun i=>if i=1005 then 3 else if i=1008 then 6 else i)=a')
  (h:KT 59 [a,.clo (.func 60) [] [.ref 1005 0]] (TW r tv ts X) (.tup []) (TW r tv ts X')):
  CT (.fn 59) [a',.clo (.func 60) [] [.ref 3 0]] [(3,some (.box [.d (.int .i64 r)])),(6,some (.tre tv ts 3 X))] (.tup []) [(3,.box [.d (.int .i64 r)]),(6,.tre tv ts 3 X')]:=by
 have hd:∀o i,(JC (get (TW r tv ts X)) (TW r tv ts o) i).isSome=true→i=1005∨i=1008:=by
  intro o i h;refine Decidable.byContradiction fun hn=>?_
  simp only[not_or]at hn;obtain⟨a1,a2⟩:=hn;simp[TW,JC,upd,Av.get,a1,a2,Ne.symm a1,Ne.symm a2]at h
 have h:=h.call (fun i=>if i=1005 then 3 else if i=1008 then 6 else i) (fun i hi=>by
   simp only[TW,Av.get]at hi
   repeat' split at hi
   all_goals first|(cases hi;done)|omega) (fun i j hi hj h=>by
   rcases hd _ i hi with rfl|rfl<;>rcases hd _ j hj with rfl|rfl<;>first|rfl|(revert h;decide)) (by
   intro c hc;simp only[VA,List.not_mem_nil,or_false]at hc;rcases hc with rfl|rfl
   ·exact ha
   ·simp[JS,JT,Av.get]) (J4 (by simp[Jf,J8,JT,JS,Uk,Av.get])) [] (by simp[Av.get])
   (Jr (by simp[TW,U6,put,Jf,J8,JT,JS,Av.get])) trivial
 simp only[TW,Va,Vb,Vm,Obj.ren,Av.ren,UV,YH,List.append_nil,Nat.reduceEqDiff,↓reduceIte,hr]at h;exact h
def owO(x:Rou):Dat:=.agg [.str x.name,.str x.src,JDo x.steps]
def nmO(i:Int)(x:Rou):Rou:=⟨x.name,x.src,Yt i [] 0 x.steps⟩
def ZQ:Int→List Rou→List Rou
 |_,[]=>[]
 |i,x::r=>nmO i x::ZQ (i+1) r
theorem ZO:∀(l:List Rou) (i:Int),(ZQ i l).length=l.length
 |[],_=>rfl
 |x::q,i=>by simp[ZQ,ZO q]
theorem JIe:∀(l:List Rou) (i:Int) (k:Nat) (h:k<l.length),(ZQ i l)[k]'(by rw[ZO];exact h)=nmO (i+k) l[k]
 |x::q,i,0,_=>by simp[ZQ]
 |x::q,i,k+1,h=>by
  simp only[ZQ,List.getElem_cons_succ];rw[JIe q (i+1) k (sX h)];congr 1;omega
theorem JPa(l:List Ste):(JDo l).dat.canon=.list 11 (l.map JJ):=by
 have:=JFC l;rw[JFB,JAD]at this;cases l with
 |nil=>rfl
 |cons x r=>simp only[JDo,Dat.dat,Dat.canon];rw[this]
theorem JRY(x:Rou):(owO x).dat.canon=Un x:=by
 have:=JPa x.steps;simp only[owO,Dat.dat,Dat.dat.datL,Dat.canon,JI,Un,this]
def UM(p:Prg):Prg:=⟨p.version,p.schemas,p.endpoints,p.services,ZQ 0 p.routes⟩
def nmP(p:Prg):Prop:=∀x∈p.routes,UC x.steps≤100000000
theorem JPb(p:Prg)(hne:p.routes≠[])(hsz:nmP p):PT 26 [UH p] (.d (UH (UM p))):=by
 refine J3.Jg ok26.has fun hfit=>?_
 have hl:p.routes.length≤68719476736:=by
  have:=hfit _ (Vh);simp only[UH,fits,Ua,Vc]at this;omega
 clear hfit;refine ok26.pc ?_;have c0:=call56 p.routes hne 6;unfold UM;unfold nmP at hsz;generalize hN:ZQ 0 p.routes=N at*;have hNl:N.length=p.routes.length:=by rw[←hN,ZO]
 generalize hll:p.routes=l at*;obtain⟨p0,hp0⟩:∃p0:List (Nat×Nat),p0=[]:=⟨_,rfl⟩;rw[←hp0]at c0;have hn0:∀Y:List Dat,nodeAt (.own 3 Y) p0=some (.own 3 Y):=by intro Y;rw[hp0];rfl
 simp only[go_sem,ir26,UH,Vv,Vc,Nat.reduceAdd,Nat.reduceEqDiff,Nat.reduceBEq,Nat.reduceLeDiff,reduceCtorEq,↓reduceIte];rw[hll];refine wn c0 ?_;simp only[go_sem,hn0,Vv,Vc,Nat.reduceAdd,Nat.reduceEqDiff,Nat.reduceBEq,Nat.reduceLeDiff,reduceCtorEq,↓reduceIte];refine JH (fun n st=>∃(k sv:Nat) (X:List Dat),k≤l.length∧n=l.length-k∧X=(N.take k).map owO++(l.drop k).map Un∧
  st=⟨[(1,.ref 1 0),(2,.ref 2 0),(10,.d (.int .i64 l.length)),(11,.d (.int .i64 k))],
   [(1,.box [.d (.int .i64 p.version),.d (.list 9 (p.schemas.map UB)),.d (.list 7 (p.endpoints.map Jp)),.d (.list 4 (p.services.map UR)),.tr 6 ⟨0,0,p0,none⟩]),
    (2,.box [.d (.int .i64 0),.d (.nil 9),.d (.nil 7),.d (.nil 4),.d (.nil 3)]),(6,.tre 0 sv 3 X)]⟩) ?_ ?_
 ·refine⟨_,_,Wk.less ?_,0,0,l.map Un,Nat.zero_le _,rfl,sP,rfl⟩;simp[go_sem]
 ·rintro n st ⟨k,sv,X,hk,rfl,hX,rfl⟩;by_cases hlt:k<l.length
  ·have hd:=dT hlt;have hszx:=hsz _ (Vk hlt);have hNk:N[k]'oM=nmO k l[k]:=by
    have:=JIe l 0 k hlt;simp only[hN,Int.zero_add]at this;exact this
   have hNt:N.take (k+1)=N.take k++[nmO k l[k]]:=by rw[List.take_succ_eq_append_getElem oM,hNk]
   have hA:(N.take k).length=k:=by rw[List.length_take];omega
   rw[Vq hlt,Va]at hX;have hXl:X.length=l.length:=by rw[hX];simp only[Vg,Vc,Vf,List.length_drop,hA];omega
   generalize hxx:l[k]=x at*;generalize hAA:N.take k=A at*;generalize hBB:l.drop (k+1)=B at*;have hA2:(A.map owO).length=k:=by rw[Vc,hA]
   have hmid:∀y:Dat,nth (A.map owO++y::B.map Un) k=y:=by intro y;rw[←hA2];exact ZN
   have hsetm:∀(cs:List Dat) (c:Nat) (y:Dat),setAt (.own 3 (A.map owO++ .agg cs::B.map Un)) p0 k c y=.own 3 (A.map owO++ .agg (cs.set c y)::B.map Un):=by
    intro cs c y;rw[hp0,←hA2];simp only[setAt,ZN,JD3,U3]
   have hnthX:nth X k=.agg [.str x.name,.str x.src,.list 11 (x.steps.map JJ)]:=by rw[hX];exact hmid (Un x)
   have hlen1:∀y:Dat,(A.map owO++y::B.map Un).length=l.length:=by
    intro y;have:=congrArg List.length hBB;simp only[List.length_drop]at this;simp only[Vg,Vc,Vf,hA];omega
   by_cases hs:x.steps=[]
   ·have hc:=(k105 x.steps).1 hs;rw[hs,Vb]at hnthX;obtain⟨X1,hX1⟩:∃X1,X1=A.map owO++owO x::B.map Un:=⟨_,rfl⟩;have hset:setAt (.own 3 X) p0 k 2 (.nil 11)=.own 3 X1:=by
     rw[hX,hX1];refine(hsetm [.str x.name,.str x.src,.list 11 (x.steps.map JJ)] 2 (.nil 11)).trans ?_;rw[owO,hs];rfl
    have hnth1:nth X1 k=.agg [.str x.name,.str x.src,.nil 11]:=by rw[hX1,hmid,owO,hs];rfl
    have hl1:X1.length=l.length:=by rw[hX1];exact hlen1 _
    have hV:=JSz (a':=.d (.nil 11)) (by simp[JS]) rfl (visE (k:Int) 0 sv X1);simp only[go_sem,hd,hn0,hnthX,hXl,Vv,Vc,Nat.reduceAdd,Nat.reduceEqDiff,Nat.reduceBEq,Nat.reduceLeDiff,reduceCtorEq,↓reduceIte];refine⟨⟨.inl hp0,oM,oM⟩,⟨oM,dC⟩,?_⟩;refine JG rfl hc trivial ?_;simp only[go_sem,hn0,hnthX,hXl,hset,hnth1,hl1,List.any_cons,List.any_nil,J2,Bool.or_false,Vu,Vv,Vc,Nat.reduceAdd,Nat.reduceEqDiff,Nat.reduceBEq,Nat.reduceLeDiff,reduceCtorEq,↓reduceIte];refine⟨⟨.inl hp0,oM,oM⟩,hlt,rfl,⟨.inl hp0,oM,oM⟩,⟨hlt,dC⟩,wn hV ?_⟩;simp only[go_sem,Vv,Vc,Nat.reduceAdd,Nat.reduceEqDiff,Nat.reduceBEq,Nat.reduceLeDiff,reduceCtorEq,↓reduceIte];refine⟨l.length-(k+1),_,oM,Wk.less ?_,k+1,sv,X1,oM,rfl,?_,rfl⟩
    ·simp only[go_sem,JE k oM,Vv,Vc,Nat.reduceAdd,Nat.reduceEqDiff,Nat.reduceBEq,Nat.reduceLeDiff,reduceCtorEq,↓reduceIte]
    ·rw[hX1,hNt,hBB,Vw,List.append_assoc];have:nmO (k:Int) x=x:=by
      unfold nmO;rw[hs,Yt,←hs]
     rw[this];rfl
   ·have hc:=(k105 x.steps).2 hs 23;obtain⟨X1,hX1⟩:∃X1,X1=A.map owO++owO x::B.map Un:=⟨_,rfl⟩;have how:owO x=.agg [.str x.name,.str x.src,.own 11 (x.steps.map owS)]:=by rw[owO,JBK hs]
    have hset:setAt (.own 3 X) p0 k 2 (.own 11 (x.steps.map owS))=.own 3 X1:=by
     rw[hX,hX1,how];exact hsetm [.str x.name,.str x.src,.list 11 (x.steps.map JJ)] 2 (.own 11 (x.steps.map owS))
    have hnth1:nth X1 k=.agg [.str x.name,.str x.src,.own 11 (x.steps.map owS)]:=by rw[hX1,hmid,how]
    have hl1:X1.length=l.length:=by rw[hX1];exact hlen1 _
    have hne2:Yt (k:Int) [] 0 x.steps≠[]:=by
     intro e;have:=congrArg List.length e;rw[JA0]at this;exact hs (List.eq_nil_of_length_eq_zero this)
    obtain⟨X2,hX2⟩:∃X2,X2=A.map owO++owO (nmO k x)::B.map Un:=⟨_,rfl⟩;have hset2: .own 3 X2=setAt (.own 3 X1) p0 k 2 (.own 11 ((Yt (k:Int) [] 0 x.steps).map owS)):=by
     rw[hX2,hX1,how,hsetm];simp only[owO,nmO,JBK hne2,List.set_cons_succ,List.set_cons_zero]
    have hget1:X1[k]? =some (.agg [.str x.name,.str x.src,.own 11 (x.steps.map owS)]):=by
     rw[hX1,how,←hA2];exact JBJ
    have hpos1:Pos (.own 3 X1) p0 k 2:=by
     rw[hp0];exact⟨_,hget1,sP⟩
    have hnode1:nodeAt (.own 3 X1) (p0++[(k,2)])=some (.own 11 (x.steps.map owS)):=by
     rw[hp0,List.nil_append];simp only[nodeAt,cellAt,hget1,Option.bind_some,Dat.cells,List.getElem?_cons_succ,List.getElem?_cons_zero]
    have hV:=JSz (a':=.tr 6 ⟨0,sv+1,p0++[(k,2)],none⟩) (by simp[JS,Av.get]) rfl (visN (k:Int) x.steps hszx 0 (sv+1) X1 X2 p0 k 2 hs hpos1 hnode1 hset2);simp only[go_sem,hd,hn0,hnthX,hXl,Vv,Vc,Nat.reduceAdd,Nat.reduceEqDiff,Nat.reduceBEq,Nat.reduceLeDiff,reduceCtorEq,↓reduceIte];refine⟨⟨.inl hp0,oM,oM⟩,⟨oM,dC⟩,?_⟩;refine JG rfl hc ⟨rfl,trivial⟩ ?_;simp only[go_sem,hn0,hnthX,hXl,hset,hnth1,hl1,hnode1,Vv,Vc,Nat.reduceAdd,Nat.reduceEqDiff,Nat.reduceBEq,Nat.reduceLeDiff,reduceCtorEq,↓reduceIte];refine⟨⟨.inl hp0,oM,oM⟩,hlt,rfl,⟨hp0,oM,oM⟩,⟨hlt,dC⟩,wn hV ?_⟩;simp only[go_sem,Vv,Vc,Nat.reduceAdd,Nat.reduceEqDiff,Nat.reduceBEq,Nat.reduceLeDiff,reduceCtorEq,↓reduceIte];refine⟨l.length-(k+1),_,oM,Wk.less ?_,k+1,sv+1,X2,oM,rfl,?_,rfl⟩
    ·simp only[go_sem,JE k oM,Vv,Vc,Nat.reduceAdd,Nat.reduceEqDiff,Nat.reduceBEq,Nat.reduceLeDiff,reduceCtorEq,↓reduceIte]
    ·rw[hX2,hNt,hBB,Vw,List.append_assoc];rfl
  ·have hd:=dF hlt;obtain rfl:k=l.length:=oM;simp only[go_sem,hd,hp0,Vv,Vc,Nat.reduceAdd,Nat.reduceEqDiff,Nat.reduceBEq,Nat.reduceLeDiff,reduceCtorEq,↓reduceIte];rw[hX,List.drop_length,Vb,List.append_nil,←hNl,List.take_length,XQ,J1,List.map_map,List.map_map];rw[List.map_congr_left (fun x _=>show((Dat.canon∘Dat.dat)∘owO) x=Un x from JRY x)]
end Go.Proofs
namespace Go.Proofs
open Go Av
def sIn:Nat→Str:=fun i=>[[105,110,95,97],[105,110,95,98],[97,103,97,105,110]].getD i []
def JJk(i:Nat):Str:=[114,111,117,116,101,95]++(([97,98,99]:Str).drop i).take 1
def lsI(rs:List (List S3))(i:Nat):List S3:=(rs[i]?).getD []
def JIf(rs:List (List S3))(i:Nat):List Rou:=if((i:Int)==0)||decide (((lsI rs i).length:Int)>0)then[⟨JJk i,sIn i,rtR (lsI rs i) 0 [] ZK ⟨0,0,0⟩⟩]else[]
def XI(rs:List (List S3))(k:Nat):List Rou:=(List.range k).flatMap (JIf rs)
theorem Xv(rs:List (List S3))(k:Nat):XI rs (k+1)=XI rs k++JIf rs k:=by
 unfold XI;rw[List.range_succ,List.flatMap_append];simp
theorem JPc(rs:List (List S3))(i:Nat):(JIf rs i).length≤1:=by unfold JIf;split<;>simp
theorem JFE(rs:List (List S3)):∀k:Nat,(XI rs k).length≤k
 |0=>Nat.le_refl _
 |k+1=>by
  rw[Xv,Vg];have:=JFE rs k;have:=JPc rs k;omega
def JG1(rs:List (List S3)):Prop:=∀l∈rs,∀x∈l,JE6 x
theorem JPd{rs:List (List S3)}(h:JG1 rs)(i:Nat):∀x∈lsI rs i,JE6 x:=by
 intro x hx;unfold lsI at hx;cases e:rs[i]? with
 |none=>rw[e]at hx;cases hx
 |some l=>rw[e]at hx;exact h l (List.mem_of_getElem? e) x hx
def ZP(rs:List (List S3))(ch:Int)(ev:List Dat):Dat:=.agg [.list 1 (rs.map fun l=>.list 3 (l.map JAG)),.int .u8 ch,.list 6 ev]
theorem con25(rs:List (List S3))(h:JG1 rs)(ch:Int)(ev:List Dat)(hsz:nmP (JE0 (XI rs 3))):PT 25 [ZP rs ch ev,.int .i64 1] (.d (UH (UM (JE0 (XI rs 3))))):=by
 refine J3.Jg ok25.has fun hfit=>?_
 have hl:rs.length≤68719476736:=by
  have:=hfit _ (Vh);simp only[ZP,fits,Ua,Vc]at this;omega
 clear hfit;refine ok25.pc ?_;have c41:=walk41.call trivial;simp only[JJY,Va,Vb]at c41;simp only[go_sem,ir25,ZP,Vv,Vc,Nat.reduceAdd,Nat.reduceEqDiff,Nat.reduceBEq,Nat.reduceLeDiff,reduceCtorEq,↓reduceIte];refine wn c41 ?_;simp only[go_sem,Vv,Vc,Nat.reduceAdd,Nat.reduceEqDiff,Nat.reduceBEq,Nat.reduceLeDiff,reduceCtorEq,↓reduceIte];refine⟨sP,JH (fun n st=>∃k:Nat,k≤3∧n=3-k∧
  st=⟨[(2,.ref 2 0),(4,.ref 4 0),(5,.ref 5 0),(6,.d (.list 1 [.str [105,110,95,97],.str [105,110,95,98],.str [97,103,97,105,110]])),(7,.d (.int .i64 k))],
   [(2,.box [.d (.list 1 (rs.map fun l=>.list 3 (l.map JAG))),.d (.int .u8 ch),.d (.list 6 ev)]),(4,.box [.d (.int .i64 0),.d (.nil 9),.d (.nil 7),.d (.nil 4),.d (.nil 3)]),
    (5,.box [.d (.int .i64 1),.d (.list 9 (JFQ.map UB)),.d (.list 7 (JCS.map JIA)),.d (.list 4 (JDk.map UR)),.ms 48 (XI rs k).length]),(48,.row (XI rs k).length 3 ((XI rs k).map Un))]⟩) ?_ ?_⟩
 ·refine⟨_,_,(Wk.JCr 5 4 48 3 _ rfl rfl rfl dC).trans (Wk.less ?_),0,Nat.zero_le _,rfl,rfl⟩;simp[go_sem,XI]
 ·rintro n st ⟨k,hk,rfl,rfl⟩;by_cases hlt:k<3
  ·have hd:decide ((k:Int)<3)=true:=sO;have hw:IntKind.i64.wrap ((k:Int)+1)=((k+1:Nat):Int):=by rw[wrap64 oM oM];rfl
   have htk:(((k+1:Nat):Int)-(k:Int)).toNat=1:=oM;have hfr:nth [Dat.str [105,110,95,97],.str [105,110,95,98],.str [97,103,97,105,110]] k=.str (sIn k):=by
    match k,hlt with
    |0,_=>rfl
    |1,_=>rfl
    |2,_=>rfl
   have hrl:=JFE rs k;have hsc:=Xv rs k;have c55:=(walk55 (lsI rs k) (JPd h k)).call trivial;simp only[Va,Vb]at c55;unfold JIf at hsc;by_cases hkr:k<rs.length
   ·have hdk:decide ((k:Int)<(rs.length:Int))=true:=sO;have hx:nth (rs.map fun l=>Dat.list 3 (l.map JAG)) k=.list 3 ((lsI rs k).map JAG):=by
     rw[JN _ hkr];unfold lsI;rw[Vl hkr];rfl
    generalize lsI rs k=l at*;simp only[go_sem,hd,hdk,hx,Vv,Vc,Nat.reduceAdd,Nat.reduceEqDiff,Nat.reduceBEq,Nat.reduceLeDiff,reduceCtorEq,↓reduceIte];refine⟨⟨oM,oM⟩,dC,?_⟩;refine sq (decide ((l.length:Int)>0)) ?_ ?_
    ·simp only[go_sem,Vv,Vc,Nat.reduceAdd,Nat.reduceEqDiff,Nat.reduceBEq,Nat.reduceLeDiff,reduceCtorEq,↓reduceIte]
    cases hq:(((k:Int)==0)||decide ((l.length:Int)>0))
    ·rw[hq,if_neg Bool.false_ne_true,List.append_nil]at hsc;simp only[go_sem,hq,Vu,Vv,Vc,Nat.reduceAdd,Nat.reduceEqDiff,Nat.reduceBEq,Nat.reduceLeDiff,reduceCtorEq,↓reduceIte];refine⟨3-(k+1),_,oM,Wk.less ?_,k+1,oM,rfl,rfl⟩;rw[hsc];simp only[JE k oM];simp[go_sem]
    ·rw[hq,if_pos rfl]at hsc;simp only[go_sem,hq,hw,htk,hfr,Vv,Vc,Nat.reduceAdd,Nat.reduceEqDiff,Nat.reduceBEq,Nat.reduceLeDiff,reduceCtorEq,↓reduceIte];refine⟨⟨oM,oM,oM⟩,by rw[List.length_take];omega,⟨oM,oM⟩,dC,?_⟩;refine JG rfl c55 trivial ?_;simp only[go_sem,Vv,Vc,Nat.reduceAdd,Nat.reduceEqDiff,Nat.reduceBEq,Nat.reduceLeDiff,reduceCtorEq,↓reduceIte];refine⟨sP,oM,dC,3-(k+1),_,oM,Wk.less ?_,k+1,oM,rfl,rfl⟩;rw[hsc,Vw,Va,Vb,Un];simp only[JE k oM,JJk,Vg,Vf,Vm];simp[go_sem]
   ·have hdk:decide ((k:Int)<(rs.length:Int))=false:=sO;have hl0:lsI rs k=[]:=by unfold lsI;rw[List.getElem?_eq_none oM];rfl
    rw[hl0]at c55 hsc;have c55:=JE4 (args:=[.d (.nil 3)]) c55 rfl;obtain⟨l,hl1⟩:∃l:List S3,l=[]:=⟨_,rfl⟩;rw[←hl1]at c55 hsc;simp only[go_sem,hd,hdk,Vu,Vv,Vc,Nat.reduceAdd,Nat.reduceEqDiff,Nat.reduceBEq,Nat.reduceLeDiff,reduceCtorEq,↓reduceIte];refine sq (decide ((l.length:Int)>0)) ?_ ?_
    ·simp only[go_sem,hl1,Vm,Vv,Vc,Nat.reduceAdd,Nat.reduceEqDiff,Nat.reduceBEq,Nat.reduceLeDiff,reduceCtorEq,↓reduceIte]
    cases hq:(((k:Int)==0)||decide ((l.length:Int)>0))
    ·rw[hq,if_neg Bool.false_ne_true,List.append_nil]at hsc;simp only[go_sem,hq,Vu,Vv,Vc,Nat.reduceAdd,Nat.reduceEqDiff,Nat.reduceBEq,Nat.reduceLeDiff,reduceCtorEq,↓reduceIte];refine⟨3-(k+1),_,oM,Wk.less ?_,k+1,oM,rfl,rfl⟩;rw[hsc];simp only[JE k oM];simp[go_sem]
    ·rw[hq,if_pos rfl]at hsc;simp only[go_sem,hq,hw,htk,hfr,Vv,Vc,Nat.reduceAdd,Nat.reduceEqDiff,Nat.reduceBEq,Nat.reduceLeDiff,reduceCtorEq,↓reduceIte];refine⟨⟨oM,oM,oM⟩,by rw[List.length_take];omega,⟨oM,oM⟩,dC,?_⟩;refine JG rfl c55 trivial ?_;simp only[go_sem,Vv,Vc,Nat.reduceAdd,Nat.reduceEqDiff,Nat.reduceBEq,Nat.reduceLeDiff,reduceCtorEq,↓reduceIte];refine⟨sP,oM,dC,3-(k+1),_,oM,Wk.less ?_,k+1,oM,rfl,rfl⟩;rw[hsc,Vw,Va,Vb,Un];simp only[JE k oM,JJk,Vg,Vf,Vm];simp[go_sem]
  ·obtain rfl:k=3:=oM;have hne:(JE0 (XI rs 3)).routes≠[]:=by
    show XI rs 3≠[];rw[Xv,Xv,Xv];simp[XI,JIf]
   have c26:=(JPb (JE0 (XI rs 3)) hne hsz).call trivial;have hd:decide (((3:Nat):Int)<3)=false:=rfl;simp only[go_sem,hd,Vu,Vv,Vc,Nat.reduceAdd,Nat.reduceEqDiff,Nat.reduceBEq,Nat.reduceLeDiff,reduceCtorEq,↓reduceIte];have c26a:=JE4 (args:=[.d (.agg [.int .i64 1,.list 9 (JFQ.map UB),.list 7 (JCS.map JIA),.list 4 (JDk.map UR),.list 3 ((XI rs 3).map Un)])]) c26 (by
    simp only[Va,Vb,Av.canon,Dat.canon,JI,JAu,JAv,JAw,UH,JE0];rw[J1,JIB])
   have c26b:=JR.datA (hp:=[(48,.row (XI rs 3).length 3 ((XI rs 3).map Un))]) (vs:=[.agg [.d (.int .i64 1),.d (.list 9 (JFQ.map UB)),.d (.list 7 (JCS.map JIA)),.d (.list 4 (JDk.map UR)),.ms 48 (XI rs 3).length]]) rfl sP c26a;generalize UM (JE0 (XI rs 3))=q at*;simp only[UH]at c26b⊢;refine wn c26b ?_;simp only[go_sem,Vv,Vc,Nat.reduceAdd,Nat.reduceEqDiff,Nat.reduceBEq,Nat.reduceLeDiff,reduceCtorEq,↓reduceIte]
end Go.Proofs
namespace Go.Proofs
open Go Av
open Av.Y
def JS0:Ic:=q (R (oz 4 0<|N) [4])<|q (q (R (om 6 0<|oh 7 6<|oz 8 0<|N) [6])<|D (.block 0<|.loop (q (.reg (ot 9 .lss 8 7<|N))<|q (D (I 9 S (E 0)) [9])<|q (D (.block 1<|q (R (om 10 8<|om 5 10<|N) [10])<|q (R (om 11 1<|om 12 0<|om 13 5<|oa true 14 9 12 13<|oL 15 9 14<|.call (some 16) (.dyn (t 11)) [t 15] N) [11,12,13,14,15])<|D (I 16 (q (R (om 17 5<|om 4 17<|N) [0,1,7,8,5,16,17])<|.ret) S) [5,16]) [])<|R (oi 18 .add 8 1<|om 8 18<|N) [18])) [0,1,7,8,9,10,5,11])<|q (.reg (oz 4 (-1)<|N))<|.ret
theorem ok123:FT 123 19 JS0 [.tmp 4]:=.o Tryz.func123
def JS1:Ic:=q (R (oz 4 0<|N) [4])<|q (q (R (om 6 0<|oh 7 6<|oz 8 0<|N) [6])<|D (.block 0<|.loop (q (.reg (ot 9 .lss 8 7<|N))<|q (D (I 9 S (E 0)) [9])<|q (D (.block 1<|q (R (om 10 8<|om 5 10<|N) [10])<|q (R (om 11 1<|om 12 0<|om 13 5<|oa true 14 7 12 13<|oL 15 7 14<|.call (some 16) (.dyn (t 11)) [t 15] N) [11,12,13,14,15])<|D (I 16 (q (R (om 17 5<|om 4 17<|N) [0,1,7,8,5,16,17])<|.ret) S) [5,16]) [])<|R (oi 18 .add 8 1<|om 8 18<|N) [18])) [0,1,7,8,9,10,5,11])<|q (.reg (oz 4 (-1)<|N))<|.ret
theorem ok122:FT 122 19 JS1 [.tmp 4]:=.o Tryz.func122
def JS2:Ic:=q (R (oz 4 0<|N) [4])<|q (q (R (om 6 0<|oh 7 6<|oz 8 0<|N) [6])<|D (.block 0<|.loop (q (.reg (ot 9 .lss 8 7<|N))<|q (D (I 9 S (E 0)) [9])<|q (D (.block 1<|q (R (om 10 8<|om 5 10<|N) [10])<|q (R (om 11 1<|om 12 0<|om 13 5<|oa true 14 4 12 13<|oL 15 4 14<|.call (some 16) (.dyn (t 11)) [t 15] N) [11,12,13,14,15])<|D (I 16 (q (R (om 17 5<|om 4 17<|N) [0,1,7,8,5,16,17])<|.ret) S) [5,16]) [])<|R (oi 18 .add 8 1<|om 8 18<|N) [18])) [0,1,7,8,9,10,5,11])<|q (.reg (oz 4 (-1)<|N))<|.ret
theorem ok200:FT 200 19 JS2 [.tmp 4]:=.o Tryz.func200
def ir65:Ic:=q (R (oz 4 0<|ow 5 false<|N) [4,5])<|q (R (om 7 0<|om 8 1<|cl 9 123 [t 7,t 8]<|om 6 9<|N) [0,1,7,8,9])<|q (R (om 10 6<|oo 11 (.mx (t 10) (i 0))<|om 12 6<|oi 13 .geq 12 0<|om 4 11<|om 5 13<|N) [6,10,11,12,13])<|.ret
theorem ok65:FT 65 14 ir65 [.tmp 4,.tmp 5]:=.o Tryz.func65
def ir63:Ic:=q (R (oz 4 0<|ow 5 false<|N) [4,5])<|q (R (om 7 0<|om 8 1<|cl 9 122 [t 7,t 8]<|om 6 9<|N) [0,1,7,8,9])<|q (R (om 10 6<|oo 11 (.mx (t 10) (i 0))<|om 12 6<|oi 13 .geq 12 0<|om 4 11<|om 5 13<|N) [6,10,11,12,13])<|.ret
theorem ok63:FT 63 14 ir63 [.tmp 4,.tmp 5]:=.o Tryz.func63
def JS3:Ic:=q (R (oz 4 0<|ow 5 false<|N) [4,5])<|q (R (om 7 0<|om 8 1<|cl 9 200 [t 7,t 8]<|om 6 9<|N) [0,1,7,8,9])<|q (R (om 10 6<|oo 11 (.mx (t 10) (i 0))<|om 12 6<|oi 13 .geq 12 0<|om 4 11<|om 5 13<|N) [6,10,11,12,13])<|.ret
theorem ok125:FT 125 14 JS3 [.tmp 4,.tmp 5]:=.o Tryz.func125
def ir66:Ic:=q (R (ox 3 0<|ow 4 false<|N) [0,4])<|q (R (of 5 3 0<|ol 6 5<|ol 7 1<|ot 8 .seq 6 7<|om 9 8<|.sc 9 true (of 10 3 1<|ol 11 10<|ol 12 2<|ot 13 .eql 11 12<|N) (t 13) 14 (om 4 14<|N)) [3,5,6,7,8,9,14])<|.ret
theorem ok66:FT 66 15 ir66 [.tmp 4]:=.o Tryz.func66
def ir64:Ic:=q (R (ox 2 0<|ow 3 false<|N) [0,3])<|q (R (of 4 2 0<|ol 5 4<|ol 6 1<|ot 7 .seq 5 6<|om 3 7<|N) [2,4,5,6,7])<|.ret
theorem ok64:FT 64 8 ir64 [.tmp 3]:=.o Tryz.func64
def JS4:Ic:=q (R (ox 2 0<|ow 3 false<|N) [0,3])<|q (R (of 4 2 0<|ol 5 4<|ol 6 1<|ot 7 .seq 5 6<|om 3 7<|N) [2,4,5,6,7])<|.ret
theorem ok126:FT 126 8 JS4 [.tmp 3]:=.o Tryz.func126
def ir28:Ic:=q (R (ox 3 0<|ox 4 1<|ox 5 2<|oz 6 0<|ow 7 false<|N) [0,1,2,6,7])<|q (R (of 8 3 1<|ol 9 8<|oo 10 (.fnv (.func 66) [] [t 4,t 5])<|cl 11 65 [t 9,t 10]<|oe 12 11 0<|oe 13 11 1<|om 6 12<|om 7 13<|N) [3,4,5,8,9,10,11,12,13])<|.ret
theorem ok28:FT 28 14 ir28 [.tmp 6,.tmp 7]:=.o Tryz.func28
def ir27:Ic:=q (R (ox 2 0<|ox 3 1<|oz 4 0<|ow 5 false<|N) [0,1,4,5])<|q (R (of 6 2 2<|ol 7 6<|oo 8 (.fnv (.func 64) [] [t 3])<|cl 9 63 [t 7,t 8]<|oe 10 9 0<|oe 11 9 1<|om 4 10<|om 5 11<|N) [2,3,6,7,8,9,10,11])<|.ret
theorem ok27:FT 27 12 ir27 [.tmp 4,.tmp 5]:=.o Tryz.func27
def ir68:Ic:=q (R (ox 2 0<|ox 3 1<|oz 4 0<|ow 5 false<|N) [0,1,4,5])<|q (R (of 6 2 3<|ol 7 6<|oo 8 (.fnv (.func 126) [] [t 3])<|cl 9 125 [t 7,t 8]<|oe 10 9 0<|oe 11 9 1<|om 4 10<|om 5 11<|N) [2,3,6,7,8,9,10,11])<|.ret
theorem ok68:FT 68 12 ir68 [.tmp 4,.tmp 5]:=.o Tryz.func68
def ir31:Ic:=q (R (ox 2 0<|oz 4 0<|ow 5 false<|N) [0,4,5])<|q (.reg (oz 6 0<|ow 7 false<|N))<|q (q (R (of 10 2 1<|ol 11 10<|oh 12 11<|oz 13 0<|N) [10])<|D (.block 0<|.loop (q (.reg (ot 14 .lss 13 12<|N))<|q (D (I 14 S (E 0)) [14])<|q (D (.block 1<|q (R (om 15 13<|oa true 16 9 11 13<|oL 17 9 16<|oN 9 [.str [],.int .i64 0,.int .i64 0,.int .i64 0,.int .i64 0,.int .i64 0,.nil 1,.nil 7,.nil 11]<|om 8 15<|oS 9 9 17<|N) [15,16,17])<|q (R (of 18 9 0<|ol 19 18<|om 20 1<|ot 21 .seq 19 20<|om 22 21<|.sc 22 true (om 23 7<|og 24 23<|om 25 24<|.sc 25 false (of 26 9 1<|ol 27 26<|of 28 2 1<|ol 29 28<|om 30 6<|oa true 31 9 29 30<|of 32 31 1<|ol 33 32<|ot 34 .gtr 27 33<|N) (t 34) 35 N) (t 35) 36 N) [9,18,19,20,21,22])<|D (I 36 (R (om 37 8<|om 6 37<|ow 7 true<|N) [8,36,37]) S) [8,36]) [])<|R (oi 38 .add 13 1<|om 13 38<|N) [38])) [1,2,11,12,13,14,9,8])<|q (R (om 39 6<|om 40 7<|om 4 39<|om 5 40<|N) [6,7,39,40])<|.ret
theorem ok31:FT 31 41 ir31 [.tmp 4,.tmp 5]:=.o Tryz.func31
end Go.Proofs
namespace Go.Proofs
open Go Av
variable {g:Nat}{cs:List Dat}
def fdQ{α:Type}(q:α→Bool)(l:List α):Nat:=(l.findIdx? q).getD 0
theorem JJl{α:Type}(q:α→Bool)(l:List α):(if(0:Int)>ixQ q l then 0 else ixQ q l)=(fdQ q l:Int):=by
 unfold ixQ fdQ;cases e:l.findIdx? q with
 |none=>rfl
 |some k=>simp only[Vp];split<;>omega
theorem ix180{q:Sch→Bool}(l:List Sch)(hq:∀x∈l,PT g (UB x::cs) (.d (.bool (q x))))(hl:l.length≤68719476736):
  PT 123 [.list 9 (l.map UB),.fn (.func g) [] cs] (.d (.int .i64 (ixQ q l))):=by
 refine ok123.pc ?_;simp only[go_sem,JS0,Vc,simprocAttr];refine JH (fun n s=>∃k:Nat,k≤l.length∧n=l.length-k∧(∀(j:Nat) (h1:j<l.length),j<k→q l[j]=false)∧
  s=⟨[(0,.d (.list 9 (l.map UB))),(1,.d (.fn (.func g) [] cs)),(7,.d (.int .i64 l.length)),(8,.d (.int .i64 k))],[]⟩) ?_ ?_
 ·exact⟨_,_,Wk.refl _,0,Nat.zero_le _,rfl,sP,rfl⟩
 ·rintro n s ⟨k,hk,rfl,hinv,rfl⟩;by_cases hlt:k<l.length
  ·have hx:=JN UB hlt;have hd:=dT hlt;have hc:=(hq l[k] (Vk _)).call trivial;simp only[UB,Va]at hc hx;refine zz6 ?_;refine⟨oM,wn hc ?_⟩;refine zz ?_;apply ik<;>intro hf
   ·rw[JCU hlt hf hinv]
   ·refine⟨l.length-(k+1),_,oM,Wk.less ?_,k+1,oM,rfl,fun j h1 hj=>?_,rfl⟩
    ·exact zz7 trivial
    ·by_cases e:j=k
     ·subst e;exact hf
     ·exact hinv j h1 oM
  ·have hd:=dF hlt;refine zz5 ?_;rw[JCV (fun j h=>hinv j h oM)]
theorem ix208{q:Epd→Bool}(l:List Epd)(hq:∀x∈l,PT g (Jp x::cs) (.d (.bool (q x))))(hl:l.length≤68719476736):
  PT 122 [.list 7 (l.map Jp),.fn (.func g) [] cs] (.d (.int .i64 (ixQ q l))):=by
 refine ok122.pc ?_;simp only[go_sem,JS1,Vc,simprocAttr];refine JH (fun n s=>∃k:Nat,k≤l.length∧n=l.length-k∧(∀(j:Nat) (h1:j<l.length),j<k→q l[j]=false)∧
  s=⟨[(0,.d (.list 7 (l.map Jp))),(1,.d (.fn (.func g) [] cs)),(7,.d (.int .i64 l.length)),(8,.d (.int .i64 k))],[]⟩) ?_ ?_
 ·exact⟨_,_,Wk.refl _,0,Nat.zero_le _,rfl,sP,rfl⟩
 ·rintro n s ⟨k,hk,rfl,hinv,rfl⟩;by_cases hlt:k<l.length
  ·have hx:=JN Jp hlt;have hd:=dT hlt;have hc:=(hq l[k] (Vk _)).call trivial;simp only[Jp,Va]at hc hx;refine zz6 ?_;refine⟨oM,wn hc ?_⟩;refine zz ?_;apply ik<;>intro hf
   ·rw[JCU hlt hf hinv]
   ·refine⟨l.length-(k+1),_,oM,Wk.less ?_,k+1,oM,rfl,fun j h1 hj=>?_,rfl⟩
    ·exact zz7 trivial
    ·by_cases e:j=k
     ·subst e;exact hf
     ·exact hinv j h1 oM
  ·have hd:=dF hlt;refine zz5 ?_;rw[JCV (fun j h=>hinv j h oM)]
theorem ix350{q:Svc→Bool}(l:List Svc)(hq:∀x∈l,PT g (UR x::cs) (.d (.bool (q x))))(hl:l.length≤68719476736):
  PT 200 [.list 4 (l.map UR),.fn (.func g) [] cs] (.d (.int .i64 (ixQ q l))):=by
 refine ok200.pc ?_;simp only[go_sem,JS2,Vc,simprocAttr];refine JH (fun n s=>∃k:Nat,k≤l.length∧n=l.length-k∧(∀(j:Nat) (h1:j<l.length),j<k→q l[j]=false)∧
  s=⟨[(0,.d (.list 4 (l.map UR))),(1,.d (.fn (.func g) [] cs)),(7,.d (.int .i64 l.length)),(8,.d (.int .i64 k))],[]⟩) ?_ ?_
 ·exact⟨_,_,Wk.refl _,0,Nat.zero_le _,rfl,sP,rfl⟩
 ·rintro n s ⟨k,hk,rfl,hinv,rfl⟩;by_cases hlt:k<l.length
  ·have hx:=JN UR hlt;have hd:=dT hlt;have hc:=(hq l[k] (Vk _)).call trivial;simp only[UR,Va]at hc hx;refine zz6 ?_;refine⟨oM,wn hc ?_⟩;refine zz ?_;apply ik<;>intro hf
   ·rw[JCU hlt hf hinv]
   ·refine⟨l.length-(k+1),_,oM,Wk.less ?_,k+1,oM,rfl,fun j h1 hj=>?_,rfl⟩
    ·exact zz7 trivial
    ·by_cases e:j=k
     ·subst e;exact hf
     ·exact hinv j h1 oM
  ·have hd:=dF hlt;refine zz5 ?_;rw[JCV (fun j h=>hinv j h oM)]
theorem walk65{q:Sch→Bool}(l:List Sch)(hq:∀x∈l,PT g (UB x::cs) (.d (.bool (q x))))(hl:l.length≤68719476736):
  PT 65 [.list 9 (l.map UB),.fn (.func g) [] cs] (.tup [.d (.int .i64 (fdQ q l)),.d (.bool (l.any q))]):=by
 refine ok65.pc ?_;have c:=(ix180 l hq hl).call trivial;rw[←JD0,←JJl];simp only[go_sem,ir65,simprocAttr];refine wc c trivial
theorem walk63{q:Epd→Bool}(l:List Epd)(hq:∀x∈l,PT g (Jp x::cs) (.d (.bool (q x))))(hl:l.length≤68719476736):
  PT 63 [.list 7 (l.map Jp),.fn (.func g) [] cs] (.tup [.d (.int .i64 (fdQ q l)),.d (.bool (l.any q))]):=by
 refine ok63.pc ?_;have c:=(ix208 l hq hl).call trivial;rw[←JD0,←JJl];simp only[go_sem,ir63,simprocAttr];refine wc c trivial
theorem JRZ{q:Svc→Bool}(l:List Svc)(hq:∀x∈l,PT g (UR x::cs) (.d (.bool (q x))))(hl:l.length≤68719476736):
  PT 125 [.list 4 (l.map UR),.fn (.func g) [] cs] (.tup [.d (.int .i64 (fdQ q l)),.d (.bool (l.any q))]):=by
 refine ok125.pc ?_;have c:=(ix350 l hq hl).call trivial;rw[←JD0,←JJl];simp only[go_sem,JS3,simprocAttr];refine wc c trivial
theorem J3.JMS{P:Program}{f:Nat}{ds c1 c2:List Dat}{r:Av}(h:J3 P f (ds++[.fn (.func g) [] [.ptr c1,.ptr c2]]) r)(hr:XE r)(i j:Nat)(hij:i≠j):
  JR P f (ds.map .d++[.clo (.func g) [] [.ref i 0,.ref j 0]]) [(i,some (.box (c1.map .d))),(j,some (.box (c2.map .d)))] r [(i,.fbox c1),(j,.fbox c2)]:=by
 intro β A w H vs hT hc hvs;have hi:H i=some (.box (c1.map .d)):=hT (i,_) sP;have hj:H j=some (.box (c2.map .d)):=hT (j,_) sP;have st1:=Stp.Y4 hc hi (JCT c1);have hj1:upd H i (some (.fbox c1)) j=some (.box (c2.map .d)):=by rw[JQ _ _ (Ne.symm hij)];exact hj
 have st2:=Stp.Y4 st1.core hj1 (JCT c2);have st:=st1.trans st2;have hlen:(ds.map Av.d).length=ds.length:=sP;have hc':=h.call hr β _ w (upd (upd H i (some (.fbox c1))) j (some (.fbox c2))) vs sP st.core ⟨by have:=hvs.1;simp at this⊢;omega,fun k c v h1 h2=>by
  rw[Vo]at h1;cases e:(ds++[Dat.fn (.func g) [] [.ptr c1,.ptr c2]])[k]? with
  |none=>simp[e]at h1
  |some x=>
   simp only[e,Vj,Vd]at h1;subst h1;by_cases hk:k<ds.length
   ·rw[Vz hk]at e;have:=hvs.2 k (.d x) v (by rw[Vz (sX hk),Vo,e];rfl) h2;exact st.vals _ _ this
   ·rw[Vy oM]at e;have hk0:k-ds.length=0:=by
     rcases Nat.eq_zero_or_pos (k-ds.length)with h|h
     ·exact h
     ·rw[List.getElem?_eq_none sO]at e;cases e
    rw[hk0]at e;cases e;have:=hvs.2 k (.clo (.func g) [] [.ref i 0,.ref j 0]) v (by rw[Vy sO,hlen,hk0];rfl) h2;have h3:=st.vals _ _ this;cases h3 with
    |clo _ _ _ a1 a2 l1 l2 hf hvv=>
     refine .d _ _ (.fn _ _ _ a1 a2 l1 (sX l2) (by intro j c v hj;cases hj) ?_);intro k c v hk hkv
     match k,hk with
     |0,hk=>
      cases hk;have hrf:=hvv 0 _ v rfl hkv;cases hrf with
      |ref _ _ _ _ _ hu g0 g1 g2=>
       have:=g2 c1 (by rw[JQ _ _ hij,JF]);simpa using this
     |1,hk=>
      cases hk;have hrf:=hvv 1 _ v rfl hkv;cases hrf with
      |ref _ _ _ _ _ hu g0 g1 g2=>
       have:=g2 c2 (JF _ _ _);simpa using this
     |k+2,hk=>cases hk⟩
 rcases hc' with⟨a1,a2⟩|⟨u,w',a1,β',A',a2,a3⟩
 ·refine .inl ⟨a1,a2.mono ?_⟩;rintro e w' ⟨u,rfl,β',A',b1,b2⟩;exact⟨u,rfl,β',A',st.trans b1,b2⟩
 ·exact .inr ⟨u,w',a1,β',A',st.trans a2,a3⟩
theorem walk66(x:Sch)(n:Str)(v:Int):PT 66 [UB x,.ptr [.str n],.ptr [.int .i64 v]] (.d (.bool (x.name==n&&x.version==v))):=by
 refine ok66.pc ?_;simp only[go_sem,ir66,UB,Nat.reduceAdd,Nat.reduceEqDiff,Nat.reduceBEq,Nat.reduceLeDiff,reduceCtorEq,↓reduceIte];refine⟨dC,XH (x.version==v) (fun _=>?_) ?_⟩
 ·refine zz ?_;simp
 ·exact zz trivial
theorem walk64(x:Epd)(n:Str):PT 64 [Jp x,.ptr [.str n]] (.d (.bool (x.name==n))):=by
 refine ok64.pc ?_;simp only[go_sem,ir64,Jp,Nat.reduceAdd,Nat.reduceEqDiff,Nat.reduceBEq,Nat.reduceLeDiff,reduceCtorEq,↓reduceIte];decide
theorem JRa(x:Svc)(n:Str):PT 126 [UR x,.ptr [.str n]] (.d (.bool (x.name==n))):=by
 refine ok126.pc ?_;simp only[go_sem,JS4,UR,Nat.reduceAdd,Nat.reduceEqDiff,Nat.reduceBEq,Nat.reduceLeDiff,reduceCtorEq,↓reduceIte];decide
theorem JPe(p:Prg)(n:Str)(v:Int)(hl:p.schemas.length≤68719476736):PT 28 [UH p,.str n,.int .i64 v] (.tup [.d (.int .i64 (fdQ (fun x:Sch=>x.name==n&&x.version==v) p.schemas)),.d (.bool (p.schemas.any fun x=>x.name==n&&x.version==v))]):=by
 refine ok28.pc ?_;have c:=J3.JMS (ds:=[.list 9 (p.schemas.map UB)]) (walk65 p.schemas (fun x _=>walk66 x n v) hl) (by simp[XE]) 4 5 dC;simp only[go_sem,ir28,UH,simprocAttr];refine wc c trivial
theorem walk27(p:Prg)(n:Str)(hl:p.endpoints.length≤68719476736):PT 27 [UH p,.str n] (.tup [.d (.int .i64 (fdQ (fun x:Epd=>x.name==n) p.endpoints)),.d (.bool (p.endpoints.any fun x=>x.name==n))]):=by
 refine ok27.pc ?_;have c:=J3.JLC (walk63 p.endpoints (fun x _=>walk64 x n) hl) (by simp[XE]) 3;simp only[go_sem,ir27,UH,simprocAttr];refine wc c trivial
theorem JJm(p:Prg)(n:Str)(hl:p.services.length≤68719476736):PT 68 [UH p,.str n] (.tup [.d (.int .i64 (fdQ (fun x:Svc=>x.name==n) p.services)),.d (.bool (p.services.any fun x=>x.name==n))]):=by
 refine ok68.pc ?_;have c:=J3.JLC (JRZ p.services (fun x _=>JRa x n) hl) (by simp[XE]) 3;simp only[go_sem,ir68,UH,simprocAttr];refine wc c trivial
def ltS(l:List Sch)(n:Str)(s:Nat×Bool)(i:Nat):Nat×Bool:=match l[i]? with
 |some x=>if x.name==n&&((!s.2)||decide ((l[s.1]?.map Sch.version).getD 0<x.version))then(i,true)else s
 |none=>s
def ltR(l:List Sch)(n:Str)(k:Nat):Nat×Bool:=(List.range k).foldl (ltS l n) (0,false)
theorem JIg(l:List Sch)(n:Str)(k:Nat):ltR l n (k+1)=ltS l n (ltR l n k) k:=by
 unfold ltR;rw[List.range_succ,List.foldl_append];rfl
theorem JG2(l:List Sch)(n:Str):∀k:Nat,(ltR l n k).1=0∨(ltR l n k).1<l.length
 |0=>.inl rfl
 |k+1=>by
  rw[JIg];unfold ltS;split
  ·rename_i x h;split
   ·exact .inr (VB.1 h).1
   ·exact JG2 l n k
  ·exact JG2 l n k
theorem ltR_bd(l:List Sch)(n:Str)(k:Nat)(hk:k<l.length):(ltR l n k).1<l.length:=by
 rcases JG2 l n k with h|h<;>omega
def JCe(l:List Sch)(n:Str):Nat×Bool:=ltR l n l.length
theorem JAK(p:Prg)(n:Str)(hl:p.schemas.length≤68719476736):PT 31 [UH p,.str n] (.tup [.d (.int .i64 (JCe p.schemas n).1),.d (.bool (JCe p.schemas n).2)]):=by
 refine ok31.pc ?_;simp only[go_sem,ir31,UH,Vc,Nat.reduceAdd,Nat.reduceEqDiff,Nat.reduceBEq,Nat.reduceLeDiff,reduceCtorEq,↓reduceIte];generalize hL:p.schemas=l at*;refine JH (fun r s=>∃k:Nat,k≤l.length∧r=l.length-k∧
  s=⟨[(1,.d (.str n)),(2,.ref 2 0),(6,.d (.int .i64 (ltR l n k).1)),(7,.d (.bool (ltR l n k).2)),(11,.d (.list 9 (l.map UB))),(12,.d (.int .i64 l.length)),(13,.d (.int .i64 k))],
   [(2,.box [.d (.int .i64 p.version),.d (.list 9 (l.map UB)),.d (.list 7 (p.endpoints.map Jp)),.d (.list 4 (p.services.map UR)),.d (.list 3 (p.routes.map Un))])]⟩) ?_ ?_
 ·refine⟨_,_,Wk.less ?_,0,Nat.zero_le _,rfl,rfl⟩;simp[go_sem,ltR]
 ·rintro r s ⟨k,hk,rfl,rfl⟩;by_cases hlt:k<l.length
  ·have hx:=JN UB hlt;have hd:=dT hlt;have hb:=ltR_bd l n k hlt;have hy:=JN UB hb;have hs:=JIg l n k;have hg:l[k]? =some l[k]:=Vl hlt;have hg2:l[(ltR l n k).1]? =some l[(ltR l n k).1]:=Vl hb;simp only[ltS,hg,hg2,Vj,Vp]at hs;generalize hR:ltR l n k=R at*;simp only[UB]at hx hy;refine zz6 ?_;refine⟨oM,?_⟩;refine sq ((!R.2)||(decide (l[R.1].version<l[k].version))) ?_ ?_
   ·refine zz ?_;refine sq (decide (l[R.1].version<l[k].version)) ?_ ?_
    ·simp only[go_sem,hy,Vv,Vc,Nat.reduceAdd,Nat.reduceEqDiff,Nat.reduceBEq,Nat.reduceLeDiff,reduceCtorEq,↓reduceIte];exact⟨⟨oM,oM⟩,dC⟩
    ·exact zz trivial
   refine zz ?_;generalize hc:(l[k].name==n&&((!R.2)||decide (l[R.1].version<l[k].version)))=c at*;cases c with
   |true=>
    refine zz ?_;refine⟨l.length-(k+1),_,oM,Wk.less ?_,k+1,oM,rfl,rfl⟩;simp only[Vu,if_true,if_false]at hs;simp only[go_sem,hs,JE k oM,Nat.reduceAdd,Nat.reduceEqDiff,Nat.reduceBEq,Nat.reduceLeDiff,reduceCtorEq,↓reduceIte]
   |false=>
    refine zz ?_;refine⟨l.length-(k+1),_,oM,Wk.less ?_,k+1,oM,rfl,rfl⟩;simp only[Vu,if_true,if_false]at hs;simp only[go_sem,hs,JE k oM,Nat.reduceAdd,Nat.reduceEqDiff,Nat.reduceBEq,Nat.reduceLeDiff,reduceCtorEq,↓reduceIte]
  ·have hd:=dF hlt;obtain rfl:k=l.length:=oM;refine zz5 ?_;rfl
def mpS(ns:List Str):List (Dat×Dat):=ns.map fun s=>(.str s,.bool true)
def JMG(ns:List Str)(k:Str):List Str:=if ns.contains k then ns else ns++[k]
theorem YI(k:Str):∀ns:List Str,YN .s (mpS ns) (.str k)=some (if ns.contains k then some (.bool true)else none)
 |[]=>rfl
 |a::r=>by
  have ih:=YI k r;simp only[mpS,Va,YN,UY]at ih⊢;rw[ih,List.contains_cons];cases k==a<;>simp
theorem JFF(k:Str):∀ns:List Str,Z2 .s (mpS ns) (.str k) (.bool true)=mpS (JMG ns k)
 |[]=>rfl
 |a::r=>by
  have ih:=JFF k r;simp only[mpS,Va,Z2,UY,JMG]at ih⊢;rw[ih,List.contains_cons];by_cases h:(k==a)=true
  ·have e:k=a:=sX h;subst e;simp
  ·simp only[Bool.not_eq_true]at h;simp only[h,Bool.false_or];split<;>rfl
theorem JD5(c:Bool):(if c=true then some (Dat.bool true)else none).getD (.bool false)=.bool c:=by cases c<;>rfl
end Go.Proofs
namespace Av
open Go
variable [Glb][Rls]
theorem Wk.frzB{D:Nat→Prop}{st:St}(b j i v sz:Nat)(xs:List Dat)(cs:List Av)(hb:get st.hp b=some (.box cs))(hj:cs[j]? =some (.ms i v))(hi:get st.hp i=some (.row v sz xs)):
  Wk D st ⟨st.tm,put (put st.hp i (.frz v sz xs)) b (.box (cs.set j (.d (.list sz xs))))⟩:=by
 refine Wk.JBr ?_;intro β A w a hc htr;have hne:b≠i:=fun e=>by subst e;rw[hi]at hb;cases hb
 have hst:=Stp.freeze hc hi;have hb1:upd (get st.hp) i (some (.frz v sz xs)) b=some (.box cs):=by rw[JQ _ _ hne];exact hb
 obtain⟨bb,C,T,e1,e2,e3,e4,e5⟩:=hst.core.objs b _ hb1;have hset:w.setRow bb C=w:=Xr e2;have hst2:=Stp.JDH (cs':=cs.set j (.d (.list sz xs))) (C':=C) hst.core hb1 e1 e2 (sX e3) e4 (fun hall k c u hc' hv'=>by
  rw[List.getElem?_set]at hc';split at hc'
  ·rename_i e;subst e;split at hc'
   ·cases hc';refine hall _ _ ?_;cases e5 j _ u hj hv' with|ms _ _ _ hu h0 g1 g2=>exact .d _ _ (g2 _ _ (JF _ _ _))
   ·cases hc'
  ·exact hall _ _ (e5 k c u hc' hv'))
 rw[hset]at hst2;have hh:get (put (put st.hp i (.frz v sz xs)) b (.box (cs.set j (.d (.list sz xs)))))=upd (upd (get st.hp) i (some (.frz v sz xs))) b (some (.box (cs.set j (.d (.list sz xs))))):=funext fun k=>by
  rw[UG,UG];rfl
 rw[hh];refine⟨_,_,hst.trans hst2,?_⟩;intro t x hx;obtain⟨u,q1,q2⟩:=htr t x hx;exact⟨u,q1,(hst.trans hst2).vals _ _ q2⟩
end Av
namespace Go.Proofs
open Go Av
variable {p:Prg}
abbrev TMk(p:Prg)(v s0 s:Nat)(X:List Dat)(es ek ev:List (Dat×Dat)):List (Nat×Av.Obj):=[(1001,.box [.d (.int .i64 p.version),.d (.list 9 (p.schemas.map UB)),.d (.list 7 (p.endpoints.map Jp)),.d (.list 4 (p.services.map UR)),.d (.list 3 (p.routes.map Un)),.tr 1002 ⟨v,s0,[],none⟩,.mp 1003,.mp 1004,.mp 1005]),
 (1002,.tre v s 20 X),(1003,.mapo es),(1004,.mapo ek),(1005,.mapo ev)]
theorem JFG(p:Prg)(v s0 s:Nat)(X X':List Dat)(es ek ev:List (Dat×Dat))(s':Nat):closed (JC (get (TMk p v s0 s X es ek ev)) [(1002,.tre v s' 20 X')]):=Jr (by simp[TMk,U6,put,Jf,J8,JT,JS,Uk,Av.get])
theorem Zv(p:Prg)(v s0 s:Nat)(X:List Dat)(es ek ev:List (Dat×Dat)):closed (JC (get (TMk p v s0 s X es ek ev)) []):=J4 (by simp[TMk,U6,put,Jf,J8,JT,JS,Uk,Av.get])
def JD6:Dat:=.agg [.int .i64 1,.int .i64 0,.str [],.list 6 [.agg [.int .i64 1,.int .i64 1,.int .i64 0,.str [],.nil 6,.nil 7]],.nil 5]
def exB(b:Brn):Dat:=match b.cond with|[]=>JD6|e::_=>JX e
def exO(s:Ste):Dat:=if s.kind=11 then .list 5 (s.branches.map exB)else Ys s.exprs
def JG3(p:Prg)(n:Str):Dat:=((p.schemas[(JCe p.schemas n).1]?).map fun c=>UW c.type).getD .opq
def JRb(p:Prg)(n:Str):Nat:=fdQ (fun x:Svc=>x.name==n) p.services
def tyC(p:Prg)(c:Kal):List Dat:=match p.services[JRb p c.service]? with|some x=>[JG3 p x.request,JG3 p x.reply]|none=>[]
def tyO(p:Prg)(l:List Kal):List Dat:=l.flatMap (tyC p)
def nuO(s:Ste):Int:=if s.kind=12 then s.branches.length else s.number
def JMH(p:Prg)(s:Ste):Dat:=.agg [.str s.name,.int .i64 s.kind,.int .i64 0,.int .i64 0,.int .i64 (nuO s),.int .i64 s.time,.int .i64 s.limit,.str s.text,.int .i64 0,.int .i64 0,.int .i64 0,.int .i64 0,.nil 1,.nil 7,.nil 11,
 .list 7 (tyO p s.calls),exO s,.list 6 (s.rules.map Jz),.list 2 (s.calls.map JV),.nil 1]
structure stQ(s:Ste):Prop where
 ex:s.kind=11→s.exprs=[]
 ca:s.calls.length≤1000000000
 br:s.branches.length≤1000000000
 el:s.exprs.length≤1000000000
structure PB(p:Prg):Prop where
 sc:p.schemas.length≤68719476736
 ep:p.endpoints.length≤68719476736
 sv:p.services.length≤68719476736
 sc0:p.schemas≠[]
 ep0:p.endpoints≠[]
 sv0:p.services≠[]
theorem JG4{l:List Sch}(n:Str)(h:l≠[]):(JCe l n).1<l.length:=by
 have:=List.length_pos_iff.2 h;rcases JG2 l n l.length with e|e
 ·unfold JCe;omega
 ·exact e
theorem JJn{α:Type}(q:α→Bool){l:List α}(h:l≠[]):fdQ q l<l.length:=by
 have:=List.length_pos_iff.2 h;unfold fdQ;cases e:l.findIdx? q with
 |none=>exact this
 |some k=>have:=(List.findIdx?_eq_some_iff_findIdx_eq.1 e).1;simpa using this
theorem JRc(n:Str)(h:p.schemas≠[]):JG3 p n=UW (p.schemas[(JCe p.schemas n).1]'(JG4 n h)).type:=by
 unfold JG3;rw[Vl (JG4 n h)];rfl
theorem JG5(n:Str)(h:p.services≠[]):JRb p n<p.services.length:=JJn _ h
theorem JPf(c:Kal)(h:p.services≠[]):tyC p c=[JG3 p (p.services[JRb p c.service]'(JG5 _ h)).request,JG3 p (p.services[JRb p c.service]'(JG5 _ h)).reply]:=by
 unfold tyC;rw[Vl (JG5 _ h)]
theorem JCf(hP:PB p):∀l:List Kal,(tyO p l).length=2*l.length
 |[]=>rfl
 |c::r=>by
  have:=JCf hP r;unfold tyO at this⊢;rw[List.flatMap_cons,Vg,this,JPf c hP.sv0];simp only[Vf,Vm];omega
theorem JAL(hP:PB p)(n:Str):∃(i:Nat) (b:Bool) (a:Sch),JCe p.schemas n=(i,b)∧i<p.schemas.length∧p.schemas[i]? =some a∧nth (p.schemas.map UB) i=UB a∧JG3 p n=UW a.type:=by
 have h:=JG4 n hP.sc0;refine⟨_,_,_,rfl,h,Vl h,JN UB h,JRc n hP.sc0⟩
theorem JG6(hP:PB p)(c:Kal):∃(si:Nat) (x:Svc),fdQ (fun x:Svc=>x.name==c.service) p.services=si∧si<p.services.length∧p.services[si]? =some x∧nth (p.services.map UR) si=UR x∧tyC p c=[JG3 p x.request,JG3 p x.reply]:=by
 have h:=JJn (fun x:Svc=>x.name==c.service) hP.sv0;refine⟨_,_,rfl,h,Vl h,JN UR h,JPf c hP.sv0⟩
set_option maxHeartbeats 1000000 in
theorem con30(p:Prg)(hP:PB p)(s:Ste)(hs:stQ s)(v s0 sv:Nat)(X:List Dat)(es ek ev:List (Dat×Dat)):
    Con Tryz.prog 30 [.ref 1001 0,.d (JE8 s)] (TMk p v s0 sv X es ek ev) (.d (JMH p s)) []:=by
  refine ok30.con (k:=none) (Nat.le_of_ble_eq_true rfl) (Zv _ _ _ _ _ _ _ _) trivial ?_
  have hcell:Dat.cells (Ys s.exprs)=[Ys s.exprs]∧Av.cells (.d (Ys s.exprs))=some [.d (Ys s.exprs)]:=by cases s.exprs<;>exact⟨rfl,rfl⟩
  obtain⟨g1,g2⟩:=hcell
  simp only[Dat.cells]at g1
  simp only[Av.cells]at g2
  unfold JE8 JMH exO nuO
  have hcl:=hs.ca
  have hbl:=hs.br
  have hex:=hs.ex
  generalize hcs:s.calls=calls at*
  by_cases hk:s.kind=11
  · have hk1:(s.kind==11)=true:=by simpa using hk
    have hk2:¬s.kind=12:=by omega
    have hk3:(s.kind==12)=false:=by simpa using hk2
    rw[hex hk]at g1 g2⊢
    simp only[hk2,if_false,Ys]
    rw[if_pos hk]
    simp only[go_sem,JQr,TMk,hk3,Vu,Vv,Vc,Nat.reduceAdd,Nat.reduceEqDiff,Nat.reduceBEq,Nat.reduceLeDiff,reduceCtorEq,↓reduceIte]
    refine JH (fun n st=>∃k:Nat,k≤s.branches.length∧n=s.branches.length-k∧
      st=⟨[(0,.ref 1001 0),(3,.ref 3 0),(4,.ref 4 0),(5,.ref 5 0),(6,.d (.int .i64 k))],
        (3,.box [.d (.str s.name),.d (.int .i64 s.kind),.d (.int .i64 s.number),.d (.int .i64 s.time),.d (.int .i64 s.limit),.d (.str s.text),.d (.str s.schema),.d (.nil 5),.d (.list 6 (s.rules.map Jz)),.d (.list 2 (calls.map JV)),.d (.list 2 (s.branches.map J5))])::
        (4,.box [.d (.str []),.d (.int .i64 0),.d (.int .i64 0),.d (.int .i64 0),.d (.int .i64 0),.d (.int .i64 0),.d (.int .i64 0),.d (.str []),.d (.int .i64 0),.d (.int .i64 0),.d (.int .i64 0),.d (.int .i64 0),.d (.nil 1),.d (.nil 7),.d (.nil 11),.d (.nil 7),.d (.nil 5),.d (.nil 6),.d (.nil 2),.d (.nil 1)])::
        (5,.box [.d (.str s.name),.d (.int .i64 s.kind),.d (.int .i64 0),.d (.int .i64 0),.d (.int .i64 s.number),.d (.int .i64 s.time),.d (.int .i64 s.limit),.d (.str s.text),.d (.int .i64 0),.d (.int .i64 0),.d (.int .i64 0),.d (.int .i64 0),.d (.nil 1),.d (.nil 7),.d (.nil 11),.d (.nil 7),.ms 76 k,.d (.list 6 (s.rules.map Jz)),.d (.list 2 (calls.map JV)),.d (.nil 1)])::
        (76,.row k 5 ((s.branches.take k).map exB))::TMk p v s0 sv X es ek ev⟩) ?_ ?_
    · refine⟨_,_,(Wk.JCr 5 16 76 5 _ rfl rfl rfl (by decide)).trans (Wk.less ?_),0,Nat.zero_le _,rfl,rfl⟩
      simp[go_sem,TMk]
    rintro n st ⟨k,hkl,rfl,rfl⟩
    by_cases hlt:k<s.branches.length
    · have hd:decide ((k:Int)<(s.branches.length:Int))=true:=by simp;omega
      have hx:=Ya hlt
      simp only[go_sem,TMk,hd,hk1,hx,Vv,Vc,Nat.reduceAdd,Nat.reduceEqDiff,Nat.reduceBEq,Nat.reduceLeDiff,reduceCtorEq,↓reduceIte]
      cases hcond:s.branches[k].cond with
      |nil=>
        have h0:decide (((0:Nat):Int)>0)=false:=rfl
        have hex1:exB s.branches[k]=JD6:=by unfold exB;rw[hcond]
        simp only[go_sem,hcond,Vb,Vm,TMk,h0,Vu,Vv,Vc,Nat.reduceAdd,Nat.reduceEqDiff,Nat.reduceBEq,Nat.reduceLeDiff,reduceCtorEq,↓reduceIte]
        refine⟨by simp,⟨by omega,by omega⟩,by decide,by simp,by simp;omega,s.branches.length-(k+1),_,by omega,Wk.less ?_,k+1,by omega,rfl,rfl⟩
        rw[List.take_succ_eq_append_getElem hlt,Vw,Va,Vb,hex1]
        simp only[go_sem,TMk,JE k (by omega),JD6,Vv,Vc,Nat.reduceAdd,Nat.reduceEqDiff,Nat.reduceBEq,Nat.reduceLeDiff,reduceCtorEq,↓reduceIte]
      |cons e r=>
        have h0:decide (((r.length+1:Nat):Int)>0)=true:=by simp
        have hex1:exB s.branches[k]=JX e:=by unfold exB;rw[hcond]
        have hn:nth (JX e::r.map JX) (Int.toNat 0)=JX e:=rfl
        rw[Jl]at hex1 hn
        simp only[go_sem,hcond,Va,Vf,TMk,h0,Jl,hn,Vv,Vc,Nat.reduceAdd,Nat.reduceEqDiff,Nat.reduceBEq,Nat.reduceLeDiff,reduceCtorEq,↓reduceIte]
        refine⟨by simp,⟨by omega,by omega⟩,by decide,⟨by omega,by omega⟩,by decide,⟨by decide,by omega⟩,by simp,by simp;omega,s.branches.length-(k+1),_,by omega,Wk.less ?_,k+1,by omega,rfl,rfl⟩
        rw[List.take_succ_eq_append_getElem hlt,Vw,Va,Vb,hex1]
        simp only[go_sem,TMk,JE k (by omega),Vv,Vc,Nat.reduceAdd,Nat.reduceEqDiff,Nat.reduceBEq,Nat.reduceLeDiff,reduceCtorEq,↓reduceIte]
    · have hd:decide ((k:Int)<(s.branches.length:Int))=false:=by simp;omega
      obtain rfl:k=s.branches.length:=by omega
      simp only[go_sem,TMk,hd,Vu,Vv,Vc,Nat.reduceAdd,Nat.reduceEqDiff,Nat.reduceBEq,Nat.reduceLeDiff,reduceCtorEq,↓reduceIte]
      refine JH (fun n st=>∃k:Nat,k≤calls.length∧n=calls.length-k∧
        st=⟨[(0,.ref 1001 0),(3,.ref 3 0),(4,.ref 4 0),(5,.ref 5 0),(8,.d (.int .i64 k))],
          (3,.box [.d (.str s.name),.d (.int .i64 s.kind),.d (.int .i64 s.number),.d (.int .i64 s.time),.d (.int .i64 s.limit),.d (.str s.text),.d (.str s.schema),.d (.nil 5),.d (.list 6 (s.rules.map Jz)),.d (.list 2 (calls.map JV)),.d (.list 2 (s.branches.map J5))])::
          (4,.box [.d (.str []),.d (.int .i64 0),.d (.int .i64 0),.d (.int .i64 0),.d (.int .i64 0),.d (.int .i64 0),.d (.int .i64 0),.d (.str []),.d (.int .i64 0),.d (.int .i64 0),.d (.int .i64 0),.d (.int .i64 0),.d (.nil 1),.d (.nil 7),.d (.nil 11),.d (.nil 7),.d (.nil 5),.d (.nil 6),.d (.nil 2),.d (.nil 1)])::
          (5,.box [.d (.str s.name),.d (.int .i64 s.kind),.d (.int .i64 0),.d (.int .i64 0),.d (.int .i64 s.number),.d (.int .i64 s.time),.d (.int .i64 s.limit),.d (.str s.text),.d (.int .i64 0),.d (.int .i64 0),.d (.int .i64 0),.d (.int .i64 0),.d (.nil 1),.d (.nil 7),.d (.nil 11),.ms 154 k,.d (.list 5 (s.branches.map exB)),.d (.list 6 (s.rules.map Jz)),.d (.list 2 (calls.map JV)),.d (.nil 1)])::
          (154,.row k 7 (tyO p (calls.take k)))::TMk p v s0 sv X es ek ev⟩) ?_ ?_
      · refine⟨_,_,(Wk.frzB 5 16 76 s.branches.length 5 ((s.branches.take s.branches.length).map exB) _ rfl rfl rfl).trans ((Wk.JCr 5 15 154 7 _ rfl rfl rfl (by decide)).trans (Wk.less ?_)),0,Nat.zero_le _,rfl,rfl⟩
        simp[go_sem,TMk,tyO]
      rintro n st ⟨k,hk,rfl,rfl⟩
      by_cases hlt:k<calls.length
      · have hd:decide ((k:Int)<(calls.length:Int))=true:=by simp;omega
        have hx:=JN JV hlt
        have htk:tyO p (calls.take (k+1))=tyO p (calls.take k)++tyC p calls[k]:=by unfold tyO;rw[List.take_succ_eq_append_getElem hlt,List.flatMap_append];simp
        have htl:=JCf hP (calls.take k)
        rw[List.length_take]at htl
        have c1:=(JJm p calls[k].service hP.sv).call (by simp[XE])
        obtain⟨si,x,e1,hsi,-,hsx,hty⟩:=JG6 hP calls[k]
        obtain⟨ia,ba,ta,e2,hia,-,hax,hta⟩:=JAL hP x.request
        obtain⟨ib,bb,tb,e3,hib,-,hbx,htb⟩:=JAL hP x.reply
        have c2:=(JAK p x.request hP.sc).call (by simp[XE])
        have c3:=(JAK p x.reply hP.sc).call (by simp[XE])
        rw[e1]at c1
        rw[e2]at c2
        rw[e3]at c3
        rw[hty,hta,htb,UA,UA]at htk
        simp only[UR,JV]at hsx hx
        simp only[UB]at hax hbx
        simp only[UH,Va,Vb]at c1 c2 c3
        simp only[go_sem,TMk,hd,hx,Vv,Vc,Nat.reduceAdd,Nat.reduceEqDiff,Nat.reduceBEq,Nat.reduceLeDiff,reduceCtorEq,↓reduceIte]
        refine⟨by omega,by decide,?_⟩
        refine JU rfl c1 trivial ?_
        simp only[go_sem,TMk,hsx,Vv,Vc,Nat.reduceAdd,Nat.reduceEqDiff,Nat.reduceBEq,Nat.reduceLeDiff,reduceCtorEq,↓reduceIte]
        refine⟨⟨by omega,by omega⟩,by decide,?_⟩
        refine JU rfl c2 trivial ?_
        simp only[go_sem,TMk,hsx,Vv,Vc,Nat.reduceAdd,Nat.reduceEqDiff,Nat.reduceBEq,Nat.reduceLeDiff,reduceCtorEq,↓reduceIte]
        refine⟨⟨by omega,by omega⟩,by decide,?_⟩
        refine JU rfl c3 trivial ?_
        simp only[go_sem,TMk,hax,hbx,Vv,Vc,Nat.reduceAdd,Nat.reduceEqDiff,Nat.reduceBEq,Nat.reduceLeDiff,reduceCtorEq,↓reduceIte]
        refine⟨⟨by omega,by omega⟩,⟨by omega,by omega⟩,by simp,by omega,rfl,calls.length-(k+1),_,by omega,Wk.less ?_,k+1,by omega,rfl,rfl⟩
        simp only[go_sem,TMk,JE k (by omega),htk,Vv,Vc,Nat.reduceAdd,Nat.reduceEqDiff,Nat.reduceBEq,Nat.reduceLeDiff,reduceCtorEq,↓reduceIte]
      · have hd:decide ((k:Int)<(calls.length:Int))=false:=by simp;omega
        obtain rfl:k=calls.length:=by omega
        simp only[go_sem,TMk,hd,Vv,Vc,Nat.reduceAdd,Nat.reduceEqDiff,Nat.reduceBEq,Nat.reduceLeDiff,reduceCtorEq,↓reduceIte]
        rw[List.take_length]
  · have hk1:(s.kind==11)=false:=by simpa using hk
    simp only[hk,if_false]
    obtain⟨EX,hEX⟩:∃E,E=Ys s.exprs:=⟨_,rfl⟩
    rw[←hEX]at g1 g2⊢
    by_cases hk2:s.kind=12
    · have hk3:(s.kind==12)=true:=by simpa using hk2
      rw[if_pos hk2]
      simp only[go_sem,JQr,TMk,g1,g2,hk3,Vv,Vc,Nat.reduceAdd,Nat.reduceEqDiff,Nat.reduceBEq,Nat.reduceLeDiff,reduceCtorEq,↓reduceIte]
      refine JH (fun n st=>st=⟨[(0,.ref 1001 0),(3,.ref 3 0),(4,.ref 4 0),(5,.ref 5 0),(6,.d (.int .i64 0))],
        (3,.box [.d (.str s.name),.d (.int .i64 s.kind),.d (.int .i64 s.number),.d (.int .i64 s.time),.d (.int .i64 s.limit),.d (.str s.text),.d (.str s.schema),.d EX,.d (.list 6 (s.rules.map Jz)),.d (.list 2 (calls.map JV)),.d (.list 2 (s.branches.map J5))])::
        (4,.box [.d (.str []),.d (.int .i64 0),.d (.int .i64 0),.d (.int .i64 0),.d (.int .i64 0),.d (.int .i64 0),.d (.int .i64 0),.d (.str []),.d (.int .i64 0),.d (.int .i64 0),.d (.int .i64 0),.d (.int .i64 0),.d (.nil 1),.d (.nil 7),.d (.nil 11),.d (.nil 7),.d (.nil 5),.d (.nil 6),.d (.nil 2),.d (.nil 1)])::
        (5,.box [.d (.str s.name),.d (.int .i64 s.kind),.d (.int .i64 0),.d (.int .i64 0),.d (.int .i64 s.branches.length),.d (.int .i64 s.time),.d (.int .i64 s.limit),.d (.str s.text),.d (.int .i64 0),.d (.int .i64 0),.d (.int .i64 0),.d (.int .i64 0),.d (.nil 1),.d (.nil 7),.d (.nil 11),.d (.nil 7),.d EX,.d (.list 6 (s.rules.map Jz)),.d (.list 2 (calls.map JV)),.d (.nil 1)])::
        TMk p v s0 sv X es ek ev⟩) ?_ ?_
      · refine⟨0,_,Wk.less ?_,rfl⟩
        simp[go_sem,TMk]
      rintro n st rfl
      simp only[go_sem,TMk,g1,g2,Vv,Vc,Nat.reduceAdd,Nat.reduceEqDiff,Nat.reduceBEq,Nat.reduceLeDiff,reduceCtorEq,↓reduceIte]
      refine XH false (fun _=>?_) ?_
      · simp only[go_sem,TMk,g1,g2,hk1,Vv,Vc,Nat.reduceAdd,Nat.reduceEqDiff,Nat.reduceBEq,Nat.reduceLeDiff,reduceCtorEq,↓reduceIte]
      simp only[go_sem,TMk,g1,g2,Bool.and_false,Vu,Vv,Vc,Nat.reduceAdd,Nat.reduceEqDiff,Nat.reduceBEq,Nat.reduceLeDiff,reduceCtorEq,↓reduceIte]
      refine JH (fun n st=>∃k:Nat,k≤calls.length∧n=calls.length-k∧
        st=⟨[(0,.ref 1001 0),(3,.ref 3 0),(4,.ref 4 0),(5,.ref 5 0),(8,.d (.int .i64 k))],
          (3,.box [.d (.str s.name),.d (.int .i64 s.kind),.d (.int .i64 s.number),.d (.int .i64 s.time),.d (.int .i64 s.limit),.d (.str s.text),.d (.str s.schema),.d EX,.d (.list 6 (s.rules.map Jz)),.d (.list 2 (calls.map JV)),.d (.list 2 (s.branches.map J5))])::
          (4,.box [.d (.str []),.d (.int .i64 0),.d (.int .i64 0),.d (.int .i64 0),.d (.int .i64 0),.d (.int .i64 0),.d (.int .i64 0),.d (.str []),.d (.int .i64 0),.d (.int .i64 0),.d (.int .i64 0),.d (.int .i64 0),.d (.nil 1),.d (.nil 7),.d (.nil 11),.d (.nil 7),.d (.nil 5),.d (.nil 6),.d (.nil 2),.d (.nil 1)])::
          (5,.box [.d (.str s.name),.d (.int .i64 s.kind),.d (.int .i64 0),.d (.int .i64 0),.d (.int .i64 s.branches.length),.d (.int .i64 s.time),.d (.int .i64 s.limit),.d (.str s.text),.d (.int .i64 0),.d (.int .i64 0),.d (.int .i64 0),.d (.int .i64 0),.d (.nil 1),.d (.nil 7),.d (.nil 11),.ms 154 k,.d EX,.d (.list 6 (s.rules.map Jz)),.d (.list 2 (calls.map JV)),.d (.nil 1)])::
          (154,.row k 7 (tyO p (calls.take k)))::TMk p v s0 sv X es ek ev⟩) ?_ ?_
      · refine⟨_,_,(Wk.JCr 5 15 154 7 _ rfl rfl rfl (by decide)).trans (Wk.less ?_),0,Nat.zero_le _,rfl,rfl⟩
        simp[go_sem,TMk,tyO]
      rintro n st ⟨k,hk,rfl,rfl⟩
      by_cases hlt:k<calls.length
      · have hd:decide ((k:Int)<(calls.length:Int))=true:=by simp;omega
        have hx:=JN JV hlt
        have htk:tyO p (calls.take (k+1))=tyO p (calls.take k)++tyC p calls[k]:=by unfold tyO;rw[List.take_succ_eq_append_getElem hlt,List.flatMap_append];simp
        have htl:=JCf hP (calls.take k)
        rw[List.length_take]at htl
        have c1:=(JJm p calls[k].service hP.sv).call (by simp[XE])
        obtain⟨si,x,e1,hsi,-,hsx,hty⟩:=JG6 hP calls[k]
        obtain⟨ia,ba,ta,e2,hia,-,hax,hta⟩:=JAL hP x.request
        obtain⟨ib,bb,tb,e3,hib,-,hbx,htb⟩:=JAL hP x.reply
        have c2:=(JAK p x.request hP.sc).call (by simp[XE])
        have c3:=(JAK p x.reply hP.sc).call (by simp[XE])
        rw[e1]at c1
        rw[e2]at c2
        rw[e3]at c3
        rw[hty,hta,htb,UA,UA]at htk
        simp only[UR,JV]at hsx hx
        simp only[UB]at hax hbx
        simp only[UH,Va,Vb]at c1 c2 c3
        simp only[go_sem,TMk,hd,hx,Vv,Vc,Nat.reduceAdd,Nat.reduceEqDiff,Nat.reduceBEq,Nat.reduceLeDiff,reduceCtorEq,↓reduceIte]
        refine⟨by omega,by decide,?_⟩
        refine JU rfl c1 trivial ?_
        simp only[go_sem,TMk,hsx,Vv,Vc,Nat.reduceAdd,Nat.reduceEqDiff,Nat.reduceBEq,Nat.reduceLeDiff,reduceCtorEq,↓reduceIte]
        refine⟨⟨by omega,by omega⟩,by decide,?_⟩
        refine JU rfl c2 trivial ?_
        simp only[go_sem,TMk,hsx,Vv,Vc,Nat.reduceAdd,Nat.reduceEqDiff,Nat.reduceBEq,Nat.reduceLeDiff,reduceCtorEq,↓reduceIte]
        refine⟨⟨by omega,by omega⟩,by decide,?_⟩
        refine JU rfl c3 trivial ?_
        simp only[go_sem,TMk,hax,hbx,Vv,Vc,Nat.reduceAdd,Nat.reduceEqDiff,Nat.reduceBEq,Nat.reduceLeDiff,reduceCtorEq,↓reduceIte]
        refine⟨⟨by omega,by omega⟩,⟨by omega,by omega⟩,by simp,by omega,rfl,calls.length-(k+1),_,by omega,Wk.less ?_,k+1,by omega,rfl,rfl⟩
        simp only[go_sem,TMk,JE k (by omega),htk,Vv,Vc,Nat.reduceAdd,Nat.reduceEqDiff,Nat.reduceBEq,Nat.reduceLeDiff,reduceCtorEq,↓reduceIte]
      · have hd:decide ((k:Int)<(calls.length:Int))=false:=by simp;omega
        obtain rfl:k=calls.length:=by omega
        simp only[go_sem,TMk,hd,Vv,Vc,Nat.reduceAdd,Nat.reduceEqDiff,Nat.reduceBEq,Nat.reduceLeDiff,reduceCtorEq,↓reduceIte]
        rw[List.take_length]
    · have hk3:(s.kind==12)=false:=by simpa using hk2
      simp only[hk2,if_false]
      simp only[go_sem,JQr,TMk,g1,g2,hk3,Vu,Vv,Vc,Nat.reduceAdd,Nat.reduceEqDiff,Nat.reduceBEq,Nat.reduceLeDiff,reduceCtorEq,↓reduceIte]
      refine JH (fun n st=>st=⟨[(0,.ref 1001 0),(3,.ref 3 0),(4,.ref 4 0),(5,.ref 5 0),(6,.d (.int .i64 0))],
        (3,.box [.d (.str s.name),.d (.int .i64 s.kind),.d (.int .i64 s.number),.d (.int .i64 s.time),.d (.int .i64 s.limit),.d (.str s.text),.d (.str s.schema),.d EX,.d (.list 6 (s.rules.map Jz)),.d (.list 2 (calls.map JV)),.d (.list 2 (s.branches.map J5))])::
        (4,.box [.d (.str []),.d (.int .i64 0),.d (.int .i64 0),.d (.int .i64 0),.d (.int .i64 0),.d (.int .i64 0),.d (.int .i64 0),.d (.str []),.d (.int .i64 0),.d (.int .i64 0),.d (.int .i64 0),.d (.int .i64 0),.d (.nil 1),.d (.nil 7),.d (.nil 11),.d (.nil 7),.d (.nil 5),.d (.nil 6),.d (.nil 2),.d (.nil 1)])::
        (5,.box [.d (.str s.name),.d (.int .i64 s.kind),.d (.int .i64 0),.d (.int .i64 0),.d (.int .i64 s.number),.d (.int .i64 s.time),.d (.int .i64 s.limit),.d (.str s.text),.d (.int .i64 0),.d (.int .i64 0),.d (.int .i64 0),.d (.int .i64 0),.d (.nil 1),.d (.nil 7),.d (.nil 11),.d (.nil 7),.d EX,.d (.list 6 (s.rules.map Jz)),.d (.list 2 (calls.map JV)),.d (.nil 1)])::
        TMk p v s0 sv X es ek ev⟩) ?_ ?_
      · refine⟨0,_,Wk.less ?_,rfl⟩
        simp[go_sem,TMk]
      rintro n st rfl
      simp only[go_sem,TMk,g1,g2,Vv,Vc,Nat.reduceAdd,Nat.reduceEqDiff,Nat.reduceBEq,Nat.reduceLeDiff,reduceCtorEq,↓reduceIte]
      refine XH false (fun _=>?_) ?_
      · simp only[go_sem,TMk,g1,g2,hk1,Vv,Vc,Nat.reduceAdd,Nat.reduceEqDiff,Nat.reduceBEq,Nat.reduceLeDiff,reduceCtorEq,↓reduceIte]
      simp only[go_sem,TMk,g1,g2,Bool.and_false,Vu,Vv,Vc,Nat.reduceAdd,Nat.reduceEqDiff,Nat.reduceBEq,Nat.reduceLeDiff,reduceCtorEq,↓reduceIte]
      refine JH (fun n st=>∃k:Nat,k≤calls.length∧n=calls.length-k∧
        st=⟨[(0,.ref 1001 0),(3,.ref 3 0),(4,.ref 4 0),(5,.ref 5 0),(8,.d (.int .i64 k))],
          (3,.box [.d (.str s.name),.d (.int .i64 s.kind),.d (.int .i64 s.number),.d (.int .i64 s.time),.d (.int .i64 s.limit),.d (.str s.text),.d (.str s.schema),.d EX,.d (.list 6 (s.rules.map Jz)),.d (.list 2 (calls.map JV)),.d (.list 2 (s.branches.map J5))])::
          (4,.box [.d (.str []),.d (.int .i64 0),.d (.int .i64 0),.d (.int .i64 0),.d (.int .i64 0),.d (.int .i64 0),.d (.int .i64 0),.d (.str []),.d (.int .i64 0),.d (.int .i64 0),.d (.int .i64 0),.d (.int .i64 0),.d (.nil 1),.d (.nil 7),.d (.nil 11),.d (.nil 7),.d (.nil 5),.d (.nil 6),.d (.nil 2),.d (.nil 1)])::
          (5,.box [.d (.str s.name),.d (.int .i64 s.kind),.d (.int .i64 0),.d (.int .i64 0),.d (.int .i64 s.number),.d (.int .i64 s.time),.d (.int .i64 s.limit),.d (.str s.text),.d (.int .i64 0),.d (.int .i64 0),.d (.int .i64 0),.d (.int .i64 0),.d (.nil 1),.d (.nil 7),.d (.nil 11),.ms 154 k,.d EX,.d (.list 6 (s.rules.map Jz)),.d (.list 2 (calls.map JV)),.d (.nil 1)])::
          (154,.row k 7 (tyO p (calls.take k)))::TMk p v s0 sv X es ek ev⟩) ?_ ?_
      · refine⟨_,_,(Wk.JCr 5 15 154 7 _ rfl rfl rfl (by decide)).trans (Wk.less ?_),0,Nat.zero_le _,rfl,rfl⟩
        simp[go_sem,TMk,tyO]
      rintro n st ⟨k,hk,rfl,rfl⟩
      by_cases hlt:k<calls.length
      · have hd:decide ((k:Int)<(calls.length:Int))=true:=by simp;omega
        have hx:=JN JV hlt
        have htk:tyO p (calls.take (k+1))=tyO p (calls.take k)++tyC p calls[k]:=by unfold tyO;rw[List.take_succ_eq_append_getElem hlt,List.flatMap_append];simp
        have htl:=JCf hP (calls.take k)
        rw[List.length_take]at htl
        have c1:=(JJm p calls[k].service hP.sv).call (by simp[XE])
        obtain⟨si,x,e1,hsi,-,hsx,hty⟩:=JG6 hP calls[k]
        obtain⟨ia,ba,ta,e2,hia,-,hax,hta⟩:=JAL hP x.request
        obtain⟨ib,bb,tb,e3,hib,-,hbx,htb⟩:=JAL hP x.reply
        have c2:=(JAK p x.request hP.sc).call (by simp[XE])
        have c3:=(JAK p x.reply hP.sc).call (by simp[XE])
        rw[e1]at c1
        rw[e2]at c2
        rw[e3]at c3
        rw[hty,hta,htb,UA,UA]at htk
        simp only[UR,JV]at hsx hx
        simp only[UB]at hax hbx
        simp only[UH,Va,Vb]at c1 c2 c3
        simp only[go_sem,TMk,hd,hx,Vv,Vc,Nat.reduceAdd,Nat.reduceEqDiff,Nat.reduceBEq,Nat.reduceLeDiff,reduceCtorEq,↓reduceIte]
        refine⟨by omega,by decide,?_⟩
        refine JU rfl c1 trivial ?_
        simp only[go_sem,TMk,hsx,Vv,Vc,Nat.reduceAdd,Nat.reduceEqDiff,Nat.reduceBEq,Nat.reduceLeDiff,reduceCtorEq,↓reduceIte]
        refine⟨⟨by omega,by omega⟩,by decide,?_⟩
        refine JU rfl c2 trivial ?_
        simp only[go_sem,TMk,hsx,Vv,Vc,Nat.reduceAdd,Nat.reduceEqDiff,Nat.reduceBEq,Nat.reduceLeDiff,reduceCtorEq,↓reduceIte]
        refine⟨⟨by omega,by omega⟩,by decide,?_⟩
        refine JU rfl c3 trivial ?_
        simp only[go_sem,TMk,hax,hbx,Vv,Vc,Nat.reduceAdd,Nat.reduceEqDiff,Nat.reduceBEq,Nat.reduceLeDiff,reduceCtorEq,↓reduceIte]
        refine⟨⟨by omega,by omega⟩,⟨by omega,by omega⟩,by simp,by omega,rfl,calls.length-(k+1),_,by omega,Wk.less ?_,k+1,by omega,rfl,rfl⟩
        simp only[go_sem,TMk,JE k (by omega),htk,Vv,Vc,Nat.reduceAdd,Nat.reduceEqDiff,Nat.reduceBEq,Nat.reduceLeDiff,reduceCtorEq,↓reduceIte]
      · have hd:decide ((k:Int)<(calls.length:Int))=false:=by simp;omega
        obtain rfl:k=calls.length:=by omega
        simp only[go_sem,TMk,hd,Vv,Vc,Nat.reduceAdd,Nat.reduceEqDiff,Nat.reduceBEq,Nat.reduceLeDiff,reduceCtorEq,↓reduceIte]
        rw[List.take_length]
end Go.Proofs
namespace Go.Proofs
open Go Av
def mpI(l:List (Str×Int)):List (Dat×Dat):=l.map fun e=>(.str e.1,.int .i64 e.2)
def lkS:List (Str×Int)→Str→Option Int
 |[],_=>none
 |e::r,k=>if k==e.1 then some e.2 else lkS r k
def lkI(l:List (Str×Int))(k:Str):Int:=(lkS l k).getD 0
def puS:List (Str×Int)→Str→Int→List (Str×Int)
 |[],k,v=>[(k,v)]
 |e::r,k,v=>if k==e.1 then(k,v)::r else e::puS r k v
theorem YJ(k:Str):∀l:List (Str×Int),YN .s (mpI l) (.str k)=some ((lkS l k).map fun n=>Dat.int .i64 n)
 |[]=>rfl
 |e::r=>by
  have ih:=YJ k r;simp only[mpI,Va,YN,UY]at ih⊢;cases h:k==e.1
  ·simp only[lkS,h,Vu,if_false];exact ih
  ·simp only[lkS,h,if_true];rfl
theorem JCg(k:Str)(v:Int):∀l:List (Str×Int),Z2 .s (mpI l) (.str k) (.int .i64 v)=mpI (puS l k v)
 |[]=>rfl
 |e::r=>by
  have ih:=JCg k v r;simp only[mpI,Va,Z2,UY]at ih⊢;cases h:k==e.1
  ·simp only[puS,h,Vu,if_false,Va,ih]
  ·simp only[puS,h,if_true,Va]
theorem JFH(o:Option Int):(o.map fun n=>Dat.int .i64 n).getD (.int .i64 0)=.int .i64 (o.getD 0):=by cases o<;>rfl
def bgn(es ek:List (Str×Int))(l:List Ste)(behind:Int):Int:=match l with
 |[]=>behind
 |s::_=>if s.kind==13 then lkI ek s.text else lkI es s.name
theorem JS5(p:Prg)(l:List Ste)(behind:Int)(v s0 sv:Nat)(X:List Dat)(es ek ev:List (Str×Int)):
  KT 32 [.ref 1001 0,.d (.list 11 (l.map JJ)),.d (.int .i64 behind)] (TMk p v s0 sv X (mpI es) (mpI ek) (mpI ev)) (.d (.int .i64 (bgn es ek l behind))) []:=by
 refine ok32.con (k:=some false) (Nat.le_of_ble_eq_true rfl) (Zv _ _ _ _ _ _ _ _) trivial ?_;cases l with
 |nil=>
  have h0:(((0:Nat):Int)==0)=true:=rfl;simp only[go_sem,JQs,TMk,Vb,Vm,h0,bgn,Vv,Vc,Nat.reduceAdd,Nat.reduceEqDiff,Nat.reduceBEq,Nat.reduceLeDiff,reduceCtorEq,↓reduceIte]
 |cons s r=>
  have h0:(((r.length+1:Nat):Int)==0)=false:=sO;have hn:nth (JJ s::r.map JJ) (Int.toNat 0)=JJ s:=rfl;rw[JW]at hn;cases hk:s.kind==13
  ·simp only[go_sem,JQs,TMk,Va,Vf,h0,JW s,hn,hk,YJ,JFH,Vu,bgn,Vv,Vc,Nat.reduceAdd,Nat.reduceEqDiff,Nat.reduceBEq,Nat.reduceLeDiff,reduceCtorEq,↓reduceIte];exact⟨⟨dC,oM⟩,dC,⟨dC,oM⟩,dC,rfl⟩
  ·simp only[go_sem,JQs,TMk,Va,Vf,h0,JW s,hn,hk,YJ,JFH,Vu,bgn,Vv,Vc,Nat.reduceAdd,Nat.reduceEqDiff,Nat.reduceBEq,Nat.reduceLeDiff,reduceCtorEq,↓reduceIte];exact⟨⟨dC,oM⟩,dC,⟨dC,oM⟩,dC,rfl⟩
structure Rn where
 name:Str
 kind:Int
 schema:Int
 result:Int
 number:Int
 time:Int
 limit:Int
 text:Str
 tk:Int
 tn:Int
 tm:Int
 tc:Int
 tw:Dat
 te:Dat
 tf:Dat
 ts:Dat
 ex:Dat
 ru:Dat
 ca:Dat
 next:List Int
def nxD(l:List Int):Dat:=match l with|[]=>.nil 1|_=>.own 1 (l.map (.int .i64))
def owN(n:Rn):Dat:=.agg [.str n.name,.int .i64 n.kind,.int .i64 n.schema,.int .i64 n.result,.int .i64 n.number,.int .i64 n.time,.int .i64 n.limit,.str n.text,.int .i64 n.tk,.int .i64 n.tn,.int .i64 n.tm,.int .i64 n.tc,n.tw,n.te,n.tf,n.ts,n.ex,n.ru,n.ca,nxD n.next]
structure Nd where
 name:Str
 kind:Int
 schema:Int
 result:Int
 number:Int
 time:Int
 limit:Int
 text:Str
 type:Typ
 types:List Typ
 exprs:List Exp
 rules:List Rule
 calls:List Kal
 next:List Int
def Uq(n:Nd):Dat:=.agg [.str n.name,.int .i64 n.kind,.int .i64 n.schema,.int .i64 n.result,.int .i64 n.number,.int .i64 n.time,.int .i64 n.limit,.str n.text,.int .i64 n.type.kind,.int .i64 n.type.min,.int .i64 n.type.max,.int .i64 n.type.scale,.list 1 (n.type.words.map .str),.list 7 (n.type.elem.map UW),.list 11 (n.type.fields.map Xy),.list 7 (n.types.map UW),.list 5 (n.exprs.map JX),.list 6 (n.rules.map Jz),.list 2 (n.calls.map JV),.list 1 (n.next.map (.int .i64))]
structure okR(n:Rn):Prop where
 w:J2 n.tw=false
 e:J2 n.te=false
 f:J2 n.tf=false
 tw:∃l:List Str,n.tw.dat.canon=.list 1 (l.map .str)
 te:∃l:List Typ,n.te.dat.canon=.list 7 (l.map UW)
 tf:∃l:List TFl,n.tf.dat.canon=.list 11 (l.map Xy)
 ts:∃l:List Typ,n.ts.dat.canon=.list 7 (l.map UW)∧l.length≤4000000000
 ex:∃l:List Exp,n.ex.dat.canon=.list 5 (l.map JX)∧l.length≤4000000000
 ru:∃l:List Rule,n.ru.dat.canon=.list 6 (l.map Jz)
 ca:∃l:List Kal,n.ca.dat.canon=.list 2 (l.map JV)∧l.length≤4000000000
def upN(N:List Rn)(i:Nat)(f:Rn→Rn):List Rn:=match N[i]? with
 |some n=>N.set i (f n)
 |none=>N
theorem JG7(N:List Rn)(i:Nat)(f:Rn→Rn):(upN N i f).length=N.length:=by unfold upN;split<;>simp
theorem JA2{N:List Rn}{i:Nat}(h:i<N.length)(f:Rn→Rn):upN N i f=N.set i (f N[i]):=by unfold upN;rw[Vl h]
theorem JRd{N:List Rn}{i:Nat}{f:Rn→Rn}{x:Rn}(h:x∈upN N i f):x∈N∨∃n∈N,x=f n:=by
 unfold upN at h;split at h
 ·rename_i n e;rcases List.mem_or_eq_of_mem_set h with h|h
  ·exact .inl h
  ·exact .inr ⟨n,List.mem_of_getElem? e,h⟩
 ·exact .inl h
def Rn.sch(n:Rn)(s r:Int):Rn:={n with schema:=s,result:=r}
def Rn.typ(n:Rn)(t:Typ):Rn:={n with tk:=t.kind,tn:=t.min,tm:=t.max,tc:=t.scale,tw:=.list 1 (t.words.map .str),te:=.list 7 (t.elem.map UW),tf:=.list 11 (t.fields.map Xy)}
def Rn.nxt(n:Rn)(l:List Int):Rn:={n with next:=l}
def schO(p:Prg)(n:Str):Option Typ:=(p.schemas[(JCe p.schemas n).1]?).map Sch.type
abbrev NS:=List Rn×Nat
def plT(p:Prg)(es:List (Str×Int))(s:Ste)(now:Int)(S:NS):Int×NS:=
 if s.schema==[]then(now,upN S.1 (lkI es s.name).toNat (·.sch now (-1)),S.2)
 else(((JCe p.schemas s.schema).1:Nat),upN S.1 (lkI es s.name).toNat (fun n=>match schO p s.schema with|some t=>(n.sch now ((JCe p.schemas s.schema).1:Nat)).typ t|none=>n),S.2)
def addN(S:NS)(i:Nat)(k:Int):NS:=(upN S.1 i (fun n=>n.nxt (n.next++[k])),match S.1[i]? with|some n=>if n.next=[]then S.2+1 else S.2+2|none=>S.2)
mutual
def plS(p:Prg)(es ek:List (Str×Int)):Ste→Int→Int→NS→Int×NS
 |.mk n k u t l x c e ru a b,nxt,now,S=>
  let q:=plT p es (.mk n k u t l x c e ru a b) now S
  if k==14 then q
  else if k==11||k==12 then
   let r:=Yc p es ek b (lkI es n).toNat nxt q.1 (-1) q.2
   (if decide (r.1≥0)then r.1 else q.1,r.2)
  else(q.1,upN q.2.1 (lkI es n).toNat (·.nxt [nxt]),q.2.2+1)
def Xf(p:Prg)(es ek:List (Str×Int)):List Ste→Int→Int→NS→Int×NS
 |[],now,_,S=>(now,S)
 |s::r,now,behind,S=>if s.kind==13 then Xf p es ek r now behind S
  else let q:=plS p es ek s (bgn es ek r behind) now S;Xf p es ek r q.1 behind q.2
def plB(p:Prg)(es ek:List (Str×Int)):Brn→Nat→Int→Int→Int→NS→Int×NS
 |.mk w l,i,nxt,now,after,S=>
  let q:=Xf p es ek l now nxt (addN S i (bgn es ek l nxt))
  (if decide (after<0)&& !Up l then q.1 else after,q.2)
def Yc(p:Prg)(es ek:List (Str×Int)):List Brn→Nat→Int→Int→Int→NS→Int×NS
 |[],_,_,_,after,S=>(after,S)
 |x::r,i,nxt,now,after,S=>let q:=plB p es ek x i nxt now after S;Yc p es ek r i nxt now q.1 q.2
end
end Go.Proofs
namespace Go.Proofs
open Go Av
variable {b:Nat}{n:Rn}
def NB(N:List Rn)(b:Nat):Prop:=∀n∈N,okR n∧n.next.length≤b
theorem NB.le{N:List Rn}{a:Nat}(h:NB N a)(hab:a≤b):NB N b:=fun n hn=>⟨(h n hn).1,Nat.le_trans (h n hn).2 hab⟩
theorem NB.up{N:List Rn}{a:Nat}(h:NB N a)(hab:a≤b)(i:Nat){f:Rn→Rn}(hf:∀n∈N,okR (f n)∧(f n).next.length≤b):NB (upN N i f) b:=by
 intro n hn;rcases JRd hn with hn|⟨m,hm,rfl⟩
 ·exact(h.le hab) n hn
 ·exact hf m hm
theorem okR.sch(h:okR n)(s r:Int):okR (n.sch s r):=⟨h.w,h.e,h.f,h.tw,h.te,h.tf,h.ts,h.ex,h.ru,h.ca⟩
theorem okR.nxt(h:okR n)(l:List Int):okR (n.nxt l):=⟨h.w,h.e,h.f,h.tw,h.te,h.tf,h.ts,h.ex,h.ru,h.ca⟩
theorem okR.typ(h:okR n)(t:Typ):okR (n.typ t):=⟨rfl,rfl,rfl,⟨t.words,by simp only[Rn.typ,Dat.dat,Dat.canon,YY]⟩,⟨t.elem,by simp only[Rn.typ,Dat.dat,Dat.canon,YZ]⟩,⟨t.fields,by simp only[Rn.typ,Dat.dat,Dat.canon,Za]⟩,h.ts,h.ex,h.ru,h.ca⟩
variable {p:Prg}{es ek:List (Str×Int)}
theorem JG8(s:Ste)(now:Int)(S:NS):(plT p es s now S).2.1.length=S.1.length:=by
 unfold plT;split<;>exact JG7 _ _ _
theorem JJo(s:Ste)(now:Int){S:NS}(h:NB S.1 b):NB (plT p es s now S).2.1 b:=by
 unfold plT;split
 ·exact h.up (Nat.le_refl _) _ fun n hn=>⟨(h n hn).1.sch _ _,(h n hn).2⟩
 ·refine h.up (Nat.le_refl _) _ fun n hn=>?_
  cases schO p s.schema with
  |none=>exact h n hn
  |some t=>exact⟨((h n hn).1.sch _ _).typ t,(h n hn).2⟩
theorem X8(S:NS)(i:Nat)(k:Int):(addN S i k).1.length=S.1.length:=JG7 _ _ _
theorem JCh{S:NS}(h:NB S.1 b)(i:Nat)(k:Int):NB (addN S i k).1 (b+1):=by
 refine h.up (Nat.le_succ _) _ fun n hn=>⟨(h n hn).1.nxt _,?_⟩
 have:=(h n hn).2;simp only[Rn.nxt,Vg,Vf,Vm];omega
theorem plS_eq(s:Ste)(nxt now:Int)(S:NS):plS p es ek s nxt now S=
  if s.kind==14 then plT p es s now S
  else if s.kind==11||s.kind==12 then
   (if decide ((Yc p es ek s.branches (lkI es s.name).toNat nxt (plT p es s now S).1 (-1) (plT p es s now S).2).1≥0)then(Yc p es ek s.branches (lkI es s.name).toNat nxt (plT p es s now S).1 (-1) (plT p es s now S).2).1 else(plT p es s now S).1,(Yc p es ek s.branches (lkI es s.name).toNat nxt (plT p es s now S).1 (-1) (plT p es s now S).2).2)
  else((plT p es s now S).1,upN (plT p es s now S).2.1 (lkI es s.name).toNat (·.nxt [nxt]),(plT p es s now S).2.2+1):=by
 cases s;simp only[plS];rfl
theorem JG9(x:Brn)(i:Nat)(nxt now after:Int)(S:NS):plB p es ek x i nxt now after S=
  (if decide (after<0)&& !Up x.steps then(Xf p es ek x.steps now nxt (addN S i (bgn es ek x.steps nxt))).1 else after,(Xf p es ek x.steps now nxt (addN S i (bgn es ek x.steps nxt))).2):=by
 cases x;simp only[plB];rfl
mutual
theorem JRe:∀(s:Ste) (nxt now:Int) (S:NS),(plS p es ek s nxt now S).2.1.length=S.1.length
 |.mk n k u t l x c e ru a b,nxt,now,S=>by
  simp only[plS];split
  ·exact JG8 _ _ _
  ·split
   ·show(Yc p es ek b _ _ _ _ _).2.1.length=_;rw[JIh b];exact JG8 _ _ _
   ·show(upN _ _ _).length=_;rw[JG7];exact JG8 _ _ _
theorem Yd:∀(l:List Ste) (now behind:Int) (S:NS),(Xf p es ek l now behind S).2.1.length=S.1.length
 |[],_,_,_=>rfl
 |s::r,now,behind,S=>by
  simp only[Xf];split
  ·exact Yd r _ _ _
  ·rw[Yd r,JRe s]
theorem JRf:∀(x:Brn) (i:Nat) (nxt now after:Int) (S:NS),(plB p es ek x i nxt now after S).2.1.length=S.1.length
 |.mk w l,i,nxt,now,after,S=>by
  simp only[plB];rw[Yd l,X8]
theorem JIh:∀(l:List Brn) (i:Nat) (nxt now after:Int) (S:NS),(Yc p es ek l i nxt now after S).2.1.length=S.1.length
 |[],_,_,_,_,_=>rfl
 |x::r,i,nxt,now,after,S=>by
  simp only[Yc];rw[JIh r,JRf x]
end
mutual
theorem plS_NB:∀(s:Ste) (nxt now:Int) (S:NS) (b:Nat),NB S.1 b→NB (plS p es ek s nxt now S).2.1 (b+szS s)
 |.mk n k u t l x c e ru a bs,nxt,now,S,b,h=>by
  have hT:=JJo (p:=p) (es:=es) (.mk n k u t l x c e ru a bs) now h;simp only[plS,szS];split
  ·exact hT.le oM
  ·split
   ·exact(JKy bs _ _ _ _ _ b hT).le oM
   ·refine hT.up oM _ fun n hn=>⟨(hT n hn).1.nxt _,?_⟩
    show[nxt].length≤_;simp only[Vf,Vm];omega
theorem Ze:∀(l:List Ste) (now behind:Int) (S:NS) (b:Nat),NB S.1 b→NB (Xf p es ek l now behind S).2.1 (b+UC l)
 |[],_,_,_,b,h=>h
 |s::r,now,behind,S,b,h=>by
  simp only[Xf,UC];split
  ·exact(Ze r _ _ _ b h).le oM
  ·exact(Ze r _ _ _ _ (plS_NB s _ _ _ b h)).le oM
theorem plB_NB:∀(x:Brn) (i:Nat) (nxt now after:Int) (S:NS) (b:Nat),NB S.1 b→NB (plB p es ek x i nxt now after S).2.1 (b+szB x)
 |.mk w l,i,nxt,now,after,S,b,h=>by
  simp only[plB,szB];exact(Ze l _ _ _ _ (JCh h i _)).le oM
theorem JKy:∀(l:List Brn) (i:Nat) (nxt now after:Int) (S:NS) (b:Nat),NB S.1 b→NB (Yc p es ek l i nxt now after S).2.1 (b+XX l)
 |[],_,_,_,_,_,b,h=>h
 |x::r,i,nxt,now,after,S,b,h=>by
  simp only[Yc,XX];exact(JKy r _ _ _ _ _ _ (plB_NB x _ _ _ _ _ b h)).le oM
end
end Go.Proofs
namespace Go.Proofs
open Go Av
variable {N:List Rn}{i:Nat}
theorem XM(n:Rn):owN n=.agg [.str n.name,.int .i64 n.kind,.int .i64 n.schema,.int .i64 n.result,.int .i64 n.number,.int .i64 n.time,.int .i64 n.limit,.str n.text,.int .i64 n.tk,.int .i64 n.tn,.int .i64 n.tm,.int .i64 n.tc,n.tw,n.te,n.tf,n.ts,n.ex,n.ru,n.ca,nxD n.next]:=rfl
theorem JRg(h:i<N.length)(n:Rn)(hl:n.next≠[]):nodeAt (.own 20 ((N.set i n).map owN)) [(i,19)]=some (.own 1 (n.next.map (.int .i64))):=by
 have e:((N.set i n).map owN)[i]? =some (owN n):=by simp[h]
 simp only[nodeAt,cellAt,e,Option.bind_some,owN,Dat.cells,List.getElem?_cons_succ,List.getElem?_cons_zero];unfold nxD;cases hn:n.next with
 |nil=>exact absurd hn hl
 |cons a r=>rfl
theorem JCi(h:i<N.length)(n:Rn)(hl:n.next≠[]):inner 20 ((N.set i n).map owN) [(i,19)]=some ([],i,19,1,n.next.map (.int .i64)):=by
 have:=JRg h n hl;simp only[inner,List.getLast?_singleton,this,List.dropLast_singleton]
theorem JKz(h:i<N.length)(n:Rn)(f:Rn→Rn):upN (N.set i n) i f=N.set i (f n):=by
 rw[JA2 (sX h)];simp
theorem XB(N:List Rn)(i:Nat)(m:Rn):(N.set i m).map owN=(N.map owN).set i (owN m):=List.map_set
theorem Zw:∀l:List Int,(flat (l.map (.int .i64))).any J2=false
 |[]=>rfl
 |a::r=>by
  have:=Zw r;unfold flat at this⊢;rw[Va,List.flatMap_cons,List.any_append,this];rfl
def V74(p:Prg)(es ek ev:List (Str×Int))(v s0:Nat)(l:List Ste):Prop:=∀(S:NS) (now behind:Int) (b:Nat),(∀k,∃i:Nat,lkI es k=i∧i<S.1.length)→NB S.1 b→b+UC l≤10000000000→
 KT 33 [.ref 1001 0,.d (.list 11 (l.map JJ)),.d (.int .i64 now),.d (.int .i64 behind)] (TMk p v s0 S.2 (S.1.map owN) (mpI es) (mpI ek) (mpI ev)) (.d (.int .i64 (Xf p es ek l now behind S).1)) [(1002,.tre v (Xf p es ek l now behind S).2.2 20 ((Xf p es ek l now behind S).2.1.map owN))]
theorem JK0{p:Prg}{v s0 s s':Nat}{X X':List Dat}{es ek ev:List (Dat×Dat)}(h:(JC (Av.get (TMk p v s0 s X es ek ev)) [(1002,.tre v s' 20 X')] i).isSome=true):i=1001∨i=1002∨i=1003∨i=1004∨i=1005:=by
 refine Decidable.byContradiction fun hn=>?_
 simp only[not_or]at hn;obtain⟨a1,a2,a3,a4,a5⟩:=hn;simp[TMk,JC,upd,Av.get,a1,a2,a3,a4,a5,Ne.symm a1,Ne.symm a2,Ne.symm a3,Ne.symm a4,Ne.symm a5]at h
theorem call33{p:Prg}{es ek ev:List (Str×Int)}{v s0:Nat}{l:List Ste}(h:V74 p es ek ev v s0 l)(S:NS)(now behind:Int)(b:Nat)(h1:∀k,∃i:Nat,lkI es k=i∧i<S.1.length)(h2:NB S.1 b)(h3:b+UC l≤10000000000):
  CT (.fn 33) [.ref 1001 0,.d (.list 11 (l.map JJ)),.d (.int .i64 now),.d (.int .i64 behind)] ((TMk p v s0 S.2 (S.1.map owN) (mpI es) (mpI ek) (mpI ev)).map fun x=>(x.1,some x.2)) (.d (.int .i64 (Xf p es ek l now behind S).1)) [(1002,.tre v (Xf p es ek l now behind S).2.2 20 ((Xf p es ek l now behind S).2.1.map owN))]:=by
 have:=(h S now behind b h1 h2 h3).call (fun i=>i) (fun i hi=>by
   simp only[TMk,Av.get]at hi
   repeat' split at hi
   all_goals first|(cases hi;done)|omega) (fun i j _ _ h=>h) (by simp[JS,Av.get]) (J4 (by simp[Jf,J8,JT,JS,Uk,Av.get])) [] (by simp[Av.get]) (JFG _ _ _ _ _ _ _ _ _ _) trivial
 simp only[TMk,Va,Vb,Obj.ren,Av.ren,UV,YH,List.append_nil]at this⊢;exact this
theorem call32(p:Prg)(l:List Ste)(behind:Int)(v s0 sv:Nat)(X:List Dat)(es ek ev:List (Str×Int)):
  CT (.fn 32) [.ref 1001 0,.d (.list 11 (l.map JJ)),.d (.int .i64 behind)] ((TMk p v s0 sv X (mpI es) (mpI ek) (mpI ev)).map fun x=>(x.1,some x.2)) (.d (.int .i64 (bgn es ek l behind))) []:=by
 have:=(JS5 p l behind v s0 sv X es ek ev).call (fun i=>i) (fun i hi=>by
   simp only[TMk,Av.get]at hi
   repeat' split at hi
   all_goals first|(cases hi;done)|omega) (fun i j _ _ h=>h) (by simp[JS,Av.get]) (J4 (by simp[Jf,J8,JT,JS,Uk,Av.get])) [] (by simp[Av.get]) (Zv _ _ _ _ _ _ _ _) trivial
 simp only[TMk,Va,Vb,Obj.ren,Av.ren,UV,YH,List.append_nil]at this⊢;exact this
end Go.Proofs
namespace Go.Proofs
open Go Av
set_option maxHeartbeats 4000000 in
theorem JPg{p:Prg}(hP:PB p){es ek ev:List (Str×Int)}{v s0:Nat}(l:List Ste)(h:∀x∈l,∀b∈x.branches,V74 p es ek ev v s0 b.steps):V74 p es ek ev v s0 l:=by
 intro S0 now0 behind b0 hE0 hNB0 hb0;refine Con.Jg ok33.has fun hfit=>?_
 have hl:l.length≤68719476736:=by have:=(hfit (.list 11 (l.map JJ)) sP).1;simpa using this
 have hfs:∀x∈l,x.branches.length≤68719476736:=by
  intro x hxm;have:=UQ.1 (hfit (.list 11 (l.map JJ)) sP).2 _ (VC.2 ⟨x,hxm,rfl⟩);rw[JW]at this;simp only[fits,Ua,Vc]at this;omega
 clear hfit;generalize hR:Xf p es ek l now0 behind S0=R;refine ok33.con (k:=some false) (Nat.le_of_ble_eq_true rfl) (JFG _ _ _ _ _ _ _ _ _ _) trivial ?_;simp only[go_sem,ir33,TMk,Vv,Vc,Nat.reduceAdd,Nat.reduceEqDiff,Nat.reduceBEq,Nat.reduceLeDiff,reduceCtorEq,↓reduceIte];refine JH (fun n st=>∃(k:Nat) (S:NS) (now:Int) (c:Nat),k≤l.length∧n=l.length-k∧Xf p es ek (l.drop k) now behind S=R∧(∀k,∃i:Nat,lkI es k=i∧i<S.1.length)∧NB S.1 c∧c+UC (l.drop k)≤10000000000∧
  st=⟨[(0,.ref 1001 0),(1,.d (.list 11 (l.map JJ))),(2,.d (.int .i64 now)),(3,.d (.int .i64 behind)),(9,.d (.int .i64 k))],TMk p v s0 S.2 (S.1.map owN) (mpI es) (mpI ek) (mpI ev)⟩) ?_ ?_
 ·refine⟨_,_,Wk.less ?_,0,S0,now0,b0,Nat.zero_le _,rfl,by simpa using hR,hE0,hNB0,by simpa using hb0,rfl⟩;simp[go_sem,TMk]
 clear hE0 hNB0 hb0 hR;rintro n st ⟨k,S,now,c,hk,rfl,hinv,hE,hNB,hb,rfl⟩;by_cases hlt:k<l.length
 ·have hn:=Zt hlt;have hdk:decide ((k:Int)<(l.length:Int))=true:=sO;have hw:IntKind.i64.wrap ((k:Int)+1)=((k+1:Nat):Int):=by rw[wrap64 oM oM];rfl
  have hbr:=hfs _ (Vk hlt);have hV:=h _ (Vk hlt);rw[Vq hlt,UC,JEx]at hb;rw[Vq hlt,Xf]at hinv;have hsl:(((l.map JJ).drop (k+1)).take ((l.length:Int)-((k+1:Nat):Int)).toNat)=(l.drop (k+1)).map JJ:=by
   rw[←List.map_drop,List.take_of_length_le sO]
  generalize hX:l[k]=x at*;have hc:=call32 p (l.drop (k+1)) behind v s0 S.2 (S.1.map owN) es ek ev;cases h13:x.kind==13
  ·rw[h13,if_neg Bool.false_ne_true,plS_eq]at hinv;obtain⟨i,hi,hil⟩:=hE x.name;generalize hz:bgn es ek (l.drop (k+1)) behind=z at*;have hi2:(lkS es x.name).getD 0=(i:Int):=hi;have hn0:∀Y:List Dat,nodeAt (.own 20 Y) []=some (.own 20 Y):=fun _=>rfl
   obtain⟨n,hnn⟩:∃n,n=S.1[i]:=⟨_,rfl⟩;have g0:nth (S.1.map owN) i=owN n:=by rw[hnn];exact JN owN hil
   have g1:(S.1.map owN).getD i .opq=owN n:=g0;have g2:∀y,nth ((S.1.map owN).set i y) i=y:=fun y=>by rw[XL (sX hil)];simp
   have g3:∀y,((S.1.map owN).set i y).getD i .opq=y:=g2;rw[XM n]at g0 g1;simp only[go_sem,TMk,hdk,hn,hw,hsl,Vv,Vc,Nat.reduceAdd,Nat.reduceEqDiff,Nat.reduceBEq,Nat.reduceLeDiff,reduceCtorEq,↓reduceIte];refine⟨⟨oM,oM⟩,⟨oM,oM,oM⟩,?_⟩;refine JU rfl hc ⟨rfl,rfl,rfl,rfl,rfl,trivial⟩ ?_;simp only[go_sem,h13,Vu,YJ,JFH,hi2,hn0,g0,g1,g2,g3,List.length_set,List.set_set,List.set_cons_succ,List.set_cons_zero,List.any_cons,List.any_nil,J2,Bool.or_false,Vv,Vc,Nat.reduceAdd,Nat.reduceEqDiff,Nat.reduceBEq,Nat.reduceLeDiff,reduceCtorEq,↓reduceIte];refine⟨⟨oM,oM⟩,hil,hil,?_⟩;cases hs:x.schema==[]
   ·obtain⟨ia,ba,ta,e2,hia,hia2,hax,hta⟩:=JAL hP x.schema;have cL:=(JAK p x.schema hP.sc).call (by simp[XE]);rw[e2]at cL;simp only[UH,Va,Vb]at cL;simp only[UB]at hax;have hT:plT p es x now S=(((ia:Nat):Int),S.1.set i ((n.sch now ia).typ ta.type),S.2):=by
     unfold plT schO;rw[hs,if_neg Bool.false_ne_true,hi,Vv,JA2 hil,←hnn,e2];simp only[hia2,Vj]
    obtain⟨n1,hn1⟩:∃n1,n1=(n.sch now ia).typ ta.type:=⟨_,rfl⟩;have hmap:owN n1=_:=(congrArg owN hn1).trans (XM _);simp only[Rn.sch,Rn.typ]at hmap;rw[←hn1]at hT;have hok:=(hNB n (by rw[hnn];exact Vk _)).1;have o1:=hok.w;have o2:=hok.e;have o3:=hok.f;simp only[J2]at o1 o2 o3;simp only[go_sem,hs,Vs,hn0,g0,g1,g2,g3,List.length_set,List.set_set,List.set_cons_succ,List.set_cons_zero,List.any_cons,List.any_nil,J2,Bool.or_false,Vu,Vv,Vc,Vv,Vc,Nat.reduceAdd,Nat.reduceEqDiff,Nat.reduceBEq,Nat.reduceLeDiff,reduceCtorEq,↓reduceIte];refine wn cL ?_;simp only[go_sem,hax,o1,o2,o3,hn0,g0,g1,g2,g3,List.length_set,List.set_set,List.set_cons_succ,List.set_cons_zero,List.any_cons,List.any_nil,J2,Bool.or_false,Vu,Vv,Vc,Vv,Vc,Nat.reduceAdd,Nat.reduceEqDiff,Nat.reduceBEq,Nat.reduceLeDiff,reduceCtorEq,↓reduceIte];refine⟨hil,⟨hil,dC⟩,⟨oM,oM⟩,hil,⟨hil,dC⟩,?_⟩;rw[hi,Vv]at hinv;have hNB':NB (S.1.set i n1) c:=by have:=JJo (p:=p) (es:=es) x now hNB;rw[hT]at this;exact this
    have hE':∀k,∃i_1:Nat,lkI es k=i_1∧i_1<(S.1.set i n1).length:=sX hE;cases h14:x.kind==14
    ·simp only[hT,h14,Vu,if_false]at hinv;cases h11:x.kind==11
     ·cases h12:x.kind==12
      ·simp only[h11,h12,Bool.or_false,Vu,if_false]at hinv;have hNB2:NB (upN (S.1.set i n1) i (·.nxt [z])) (c+1):=hNB'.up oM _ fun m hm=>⟨(hNB' m hm).1.nxt _,by simp[Rn.nxt]⟩
       rw[JKz hil]at hinv hNB2;have hmap2:=XM (n1.nxt [z]);rw[hn1]at hmap2;simp only[Rn.sch,Rn.typ,Rn.nxt,nxD,Va,Vb]at hmap2;simp only[hn1,Rn.sch,Rn.typ,Rn.nxt]at hinv hNB2;simp only[go_sem,hs,Vr,Vs,h14,h11,h12,hn0,g0,g1,g2,g3,List.length_set,List.set_set,List.set_cons_succ,List.set_cons_zero,List.any_cons,List.any_nil,J2,Bool.or_false,Vu,Vv,Vc,Vv,Vc,Nat.reduceAdd,Nat.reduceEqDiff,Nat.reduceBEq,Nat.reduceLeDiff,reduceCtorEq,↓reduceIte];refine⟨sP,hil,l.length-(k+1),_,oM,Wk.less ?_,k+1,(_,_),_,c+1,oM,rfl,hinv,by simpa using hE,hNB2,oM,rfl⟩;simp only[XB,hmap2,JE k oM];simp[go_sem,TMk]
      ·simp only[h12,Bool.or_true,if_true]at hinv;generalize hRB:Yc p es ek x.branches i z ((ia:Nat):Int) (-1) (S.1.set i n1,S.2)=RB at hinv;simp only[go_sem,hs,Vr,Vs,h14,h11,h12,hn0,g0,g1,g2,g3,List.length_set,List.set_set,List.set_cons_succ,List.set_cons_zero,List.any_cons,List.any_nil,J2,Bool.or_false,Vu,Vv,Vc,Vv,Vc,Nat.reduceAdd,Nat.reduceEqDiff,Nat.reduceBEq,Nat.reduceLeDiff,reduceCtorEq,↓reduceIte];refine JH (fun nn st=>∃(b:Nat) (S2:NS) (after:Int) (c2:Nat),b≤x.branches.length∧nn=x.branches.length-b∧Yc p es ek (x.branches.drop b) i z ((ia:Nat):Int) after S2=RB∧(∀k,∃i:Nat,lkI es k=i∧i<S2.1.length)∧i<S2.1.length∧NB S2.1 c2∧c2+XX (x.branches.drop b)+UC (l.drop (k+1))≤10000000000∧
        st=⟨[(0,.ref 1001 0),(1,.d (.list 11 (l.map JJ))),(2,.d (.int .i64 ((ia:Nat):Int))),(3,.d (.int .i64 behind)),(9,.d (.int .i64 k)),(10,.ref 10 0),(11,.d (.int .i64 z)),(12,.tr 1002 ⟨v,S.2,[],some (i,0)⟩),(13,.d (.int .i64 after)),(14,.d (.int .i64 b))],
         (10,.box [.d (.str x.name),.d (.int .i64 x.kind),.d (.int .i64 x.number),.d (.int .i64 x.time),.d (.int .i64 x.limit),.d (.str x.text),.d (.str x.schema),.d (.list 5 (x.exprs.map JX)),.d (.list 6 (x.rules.map Jz)),.d (.list 2 (x.calls.map JV)),.d (.list 2 (x.branches.map J5))])::TMk p v s0 S2.2 (S2.1.map owN) (mpI es) (mpI ek) (mpI ev)⟩) ?_ ?_
       ·refine⟨_,_,Wk.less ?_,0,(S.1.set i n1,S.2),-1,c,Nat.zero_le _,rfl,by simpa using hRB,hE',by simpa using hil,hNB',by simp only[List.drop_zero];omega,rfl⟩;simp only[XB,hmap];simp[go_sem,TMk]
       clear hRB;rintro nn st ⟨b,S2,after,c2,hbk,rfl,hinv2,hE2,hil2,hNB2,hb2,rfl⟩;by_cases hbl:b<x.branches.length
       ·have hbn:=Ya hbl;have hdb:decide ((b:Int)<(x.branches.length:Int))=true:=sO;have hVb:=hV _ (Vk hbl);rw[Vq hbl,XX,JAx]at hb2;rw[Vq hbl,Yc,JG9]at hinv2;generalize x.branches[b]=br at*;have hc3:=call32 p br.steps z v s0 S2.2 (S2.1.map owN) es ek ev;have hcF:=(p69 br.steps).call trivial;generalize hw2:bgn es ek br.steps z=w2 at*;obtain⟨n2,hn2⟩:∃n,n=S2.1[i]:=⟨_,rfl⟩;have q0:nth (S2.1.map owN) i=owN n2:=by rw[hn2];exact JN owN hil2
        have q1:(S2.1.map owN).getD i .opq=owN n2:=q0;have q2:∀y,nth ((S2.1.map owN).set i y) i=y:=fun y=>by rw[XL (sX hil2)];simp
        have q3:∀y,((S2.1.map owN).set i y).getD i .opq=y:=q2;rw[XM n2]at q0 q1;have hNB3:=JCh hNB2 i w2;have hE3:∀k,∃j:Nat,lkI es k=j∧j<(addN S2 i w2).1.length:=by simpa only[X8]using hE2
        have hV3:=call33 hVb (addN S2 i w2) ((ia:Nat):Int) z (c2+1) hE3 hNB3 oM;have hU1:=Ze (p:=p) (es:=es) (ek:=ek) br.steps ((ia:Nat):Int) z (addN S2 i w2) (c2+1) hNB3;have hU2:=Yd (p:=p) (es:=es) (ek:=ek) br.steps ((ia:Nat):Int) z (addN S2 i w2);rw[X8]at hU2;have ha1:(addN S2 i w2).1.map owN=(S2.1.map owN).set i (owN (n2.nxt (n2.next++[w2]))):=by
         unfold addN;rw[JA2 hil2,←hn2,XB]
        have ha2:(addN S2 i w2).2=if n2.next=[]then S2.2+1 else S2.2+2:=by
         unfold addN;rw[Vl hil2,←hn2]
        rw[ha1,ha2]at hV3;have hfin:∀(U:Int×NS),U=Xf p es ek br.steps ((ia:Nat):Int) z (addN S2 i w2)→True:=fun _ _=>trivial
        clear ha1 ha2;rw[XM]at hV3;generalize hUU:Xf p es ek br.steps ((ia:Nat):Int) z (addN S2 i w2)=U at*;obtain⟨u1,U2⟩:=U;simp only[Rn.nxt]at hV3 hinv2 hU1 hU2;cases hnx:n2.next with
        |nil=>
         simp only[hnx,List.nil_append,nxD,if_true,Va,Vb]at hV3 q0 q1;simp only[go_sem,TMk,hdb,hbn,hn0,q0,q1,q2,q3,List.length_set,List.set_set,List.set_cons_succ,List.set_cons_zero,List.any_cons,List.any_nil,J2,Bool.or_false,Vu,Vv,Vc,Vv,Vc,Nat.reduceAdd,Nat.reduceEqDiff,Nat.reduceBEq,Nat.reduceLeDiff,reduceCtorEq,↓reduceIte];refine⟨⟨oM,oM⟩,⟨hil2,dC⟩,?_⟩;refine JG rfl hc3 ⟨rfl,rfl,rfl,rfl,rfl,trivial⟩ ?_;simp only[go_sem,hn0,q0,q1,q2,q3,List.length_set,List.set_set,List.set_cons_succ,List.set_cons_zero,List.any_cons,List.any_nil,J2,Bool.or_false,Vu,Vv,Vc,Vv,Vc,Nat.reduceAdd,Nat.reduceEqDiff,Nat.reduceBEq,Nat.reduceLeDiff,reduceCtorEq,↓reduceIte];refine⟨sP,⟨dC,sP⟩,hil2,dC,?_⟩;refine JU rfl hV3 ⟨rfl,rfl,rfl,rfl,rfl,trivial⟩ ?_;simp only[go_sem,Vu,Vv,Vc,Nat.reduceAdd,Nat.reduceEqDiff,Nat.reduceBEq,Nat.reduceLeDiff,reduceCtorEq,↓reduceIte];refine sq (!Up br.steps) ?_ ?_
         ·simp only[go_sem,Vv,Vc,Nat.reduceAdd,Nat.reduceEqDiff,Nat.reduceBEq,Nat.reduceLeDiff,reduceCtorEq,↓reduceIte];refine wn hcF ?_;simp only[go_sem,Vv,Vc,Nat.reduceAdd,Nat.reduceEqDiff,Nat.reduceBEq,Nat.reduceLeDiff,reduceCtorEq,↓reduceIte]
         have hE4:∀k,∃j:Nat,lkI es k=j∧j<U2.1.length:=by simpa only[hU2]using hE2
         cases hq:(decide (after<0)&& !Up br.steps)
         ·simp only[hq,Vu,if_false]at hinv2;simp only[go_sem,hq,Vu,Vv,Vc,Nat.reduceAdd,Nat.reduceEqDiff,Nat.reduceBEq,Nat.reduceLeDiff,reduceCtorEq,↓reduceIte];refine⟨x.branches.length-(b+1),_,oM,Wk.less ?_,b+1,U2,after,_,oM,rfl,hinv2,hE4,oM,hU1,oM,rfl⟩;simp only[JE b oM];simp[go_sem,TMk]
         ·simp only[hq,if_true]at hinv2;simp only[go_sem,hq,Vu,Vv,Vc,Nat.reduceAdd,Nat.reduceEqDiff,Nat.reduceBEq,Nat.reduceLeDiff,reduceCtorEq,↓reduceIte];refine⟨x.branches.length-(b+1),_,oM,Wk.less ?_,b+1,U2,u1,_,oM,rfl,hinv2,hE4,oM,hU1,oM,rfl⟩;simp only[JE b oM];simp[go_sem,TMk]
        |cons o os=>
         have hin:=JCi hil2 n2 (by rw[hnx];simp);rw[show S2.1.set i n2=S2.1 from by rw[hn2];exact List.set_getElem_self _]at hin;have hfl:=Zw n2.next;have hnl:=(hNB2 n2 (by rw[hn2];exact Vk _)).2;simp only[hnx,Vf]at hnl;simp only[hnx,List.cons_append,nxD,reduceCtorEq,if_false,Va,Vw,Vb]at hV3 q0 q1 hin hfl;simp only[go_sem,TMk,hdb,hbn,hn0,q0,q1,q2,q3,List.length_set,List.set_set,List.set_cons_succ,List.set_cons_zero,List.any_cons,List.any_nil,J2,Bool.or_false,Vu,Vv,Vc,Vv,Vc,Nat.reduceAdd,Nat.reduceEqDiff,Nat.reduceBEq,Nat.reduceLeDiff,reduceCtorEq,↓reduceIte];refine⟨⟨oM,oM⟩,⟨hil2,dC⟩,?_⟩;refine JG rfl hc3 ⟨rfl,rfl,rfl,rfl,rfl,trivial⟩ ?_;simp only[go_sem,JAZ,hin,hfl,hn0,q0,q1,q2,q3,List.length_set,List.set_set,List.set_cons_succ,List.set_cons_zero,List.any_cons,List.any_nil,J2,Bool.or_false,Vu,Vv,Vc,Vv,Vc,Nat.reduceAdd,Nat.reduceEqDiff,Nat.reduceBEq,Nat.reduceLeDiff,reduceCtorEq,↓reduceIte];refine⟨sP,⟨dC,oM,sP⟩,hil2,dC,?_⟩;refine JU rfl hV3 ⟨rfl,rfl,rfl,rfl,rfl,trivial⟩ ?_;simp only[go_sem,Vu,Vv,Vc,Nat.reduceAdd,Nat.reduceEqDiff,Nat.reduceBEq,Nat.reduceLeDiff,reduceCtorEq,↓reduceIte];refine sq (!Up br.steps) ?_ ?_
         ·simp only[go_sem,Vv,Vc,Nat.reduceAdd,Nat.reduceEqDiff,Nat.reduceBEq,Nat.reduceLeDiff,reduceCtorEq,↓reduceIte];refine wn hcF ?_;simp only[go_sem,Vv,Vc,Nat.reduceAdd,Nat.reduceEqDiff,Nat.reduceBEq,Nat.reduceLeDiff,reduceCtorEq,↓reduceIte]
         have hE4:∀k,∃j:Nat,lkI es k=j∧j<U2.1.length:=by simpa only[hU2]using hE2
         cases hq:(decide (after<0)&& !Up br.steps)
         ·simp only[hq,Vu,if_false]at hinv2;simp only[go_sem,hq,Vu,Vv,Vc,Nat.reduceAdd,Nat.reduceEqDiff,Nat.reduceBEq,Nat.reduceLeDiff,reduceCtorEq,↓reduceIte];refine⟨x.branches.length-(b+1),_,oM,Wk.less ?_,b+1,U2,after,_,oM,rfl,hinv2,hE4,oM,hU1,oM,rfl⟩;simp only[JE b oM];simp[go_sem,TMk]
         ·simp only[hq,if_true]at hinv2;simp only[go_sem,hq,Vu,Vv,Vc,Nat.reduceAdd,Nat.reduceEqDiff,Nat.reduceBEq,Nat.reduceLeDiff,reduceCtorEq,↓reduceIte];refine⟨x.branches.length-(b+1),_,oM,Wk.less ?_,b+1,U2,u1,_,oM,rfl,hinv2,hE4,oM,hU1,oM,rfl⟩;simp only[JE b oM];simp[go_sem,TMk]
       ·have hdb:decide ((b:Int)<(x.branches.length:Int))=false:=sO;obtain rfl:b=x.branches.length:=oM;rw[List.drop_length,Yc]at hinv2;subst hinv2;cases hge:decide (after≥0)
        ·simp only[hge,Vu,if_false]at hinv;simp only[go_sem,TMk,hdb,hge,Vu,Vv,Vc,Nat.reduceAdd,Nat.reduceEqDiff,Nat.reduceBEq,Nat.reduceLeDiff,reduceCtorEq,↓reduceIte];refine⟨l.length-(k+1),_,oM,Wk.less ?_,k+1,S2,((ia:Nat):Int),c2,oM,rfl,hinv,hE2,hNB2,oM,rfl⟩;simp only[JE k oM];simp[go_sem,TMk]
        ·simp only[hge,if_true]at hinv;simp only[go_sem,TMk,hdb,hge,Vu,Vv,Vc,Nat.reduceAdd,Nat.reduceEqDiff,Nat.reduceBEq,Nat.reduceLeDiff,reduceCtorEq,↓reduceIte];refine⟨l.length-(k+1),_,oM,Wk.less ?_,k+1,S2,after,c2,oM,rfl,hinv,hE2,hNB2,oM,rfl⟩;simp only[JE k oM];simp[go_sem,TMk]
     ·simp only[h11,Bool.true_or,if_true]at hinv;generalize hRB:Yc p es ek x.branches i z ((ia:Nat):Int) (-1) (S.1.set i n1,S.2)=RB at hinv;simp only[go_sem,hs,Vr,Vs,h14,h11,hn0,g0,g1,g2,g3,List.length_set,List.set_set,List.set_cons_succ,List.set_cons_zero,List.any_cons,List.any_nil,J2,Bool.or_false,Vu,Vv,Vc,Vv,Vc,Nat.reduceAdd,Nat.reduceEqDiff,Nat.reduceBEq,Nat.reduceLeDiff,reduceCtorEq,↓reduceIte];refine JH (fun nn st=>∃(b:Nat) (S2:NS) (after:Int) (c2:Nat),b≤x.branches.length∧nn=x.branches.length-b∧Yc p es ek (x.branches.drop b) i z ((ia:Nat):Int) after S2=RB∧(∀k,∃i:Nat,lkI es k=i∧i<S2.1.length)∧i<S2.1.length∧NB S2.1 c2∧c2+XX (x.branches.drop b)+UC (l.drop (k+1))≤10000000000∧
       st=⟨[(0,.ref 1001 0),(1,.d (.list 11 (l.map JJ))),(2,.d (.int .i64 ((ia:Nat):Int))),(3,.d (.int .i64 behind)),(9,.d (.int .i64 k)),(10,.ref 10 0),(11,.d (.int .i64 z)),(12,.tr 1002 ⟨v,S.2,[],some (i,0)⟩),(13,.d (.int .i64 after)),(14,.d (.int .i64 b))],
        (10,.box [.d (.str x.name),.d (.int .i64 x.kind),.d (.int .i64 x.number),.d (.int .i64 x.time),.d (.int .i64 x.limit),.d (.str x.text),.d (.str x.schema),.d (.list 5 (x.exprs.map JX)),.d (.list 6 (x.rules.map Jz)),.d (.list 2 (x.calls.map JV)),.d (.list 2 (x.branches.map J5))])::TMk p v s0 S2.2 (S2.1.map owN) (mpI es) (mpI ek) (mpI ev)⟩) ?_ ?_
      ·refine⟨_,_,Wk.less ?_,0,(S.1.set i n1,S.2),-1,c,Nat.zero_le _,rfl,by simpa using hRB,hE',by simpa using hil,hNB',by simp only[List.drop_zero];omega,rfl⟩;simp only[XB,hmap];simp[go_sem,TMk]
      clear hRB;rintro nn st ⟨b,S2,after,c2,hbk,rfl,hinv2,hE2,hil2,hNB2,hb2,rfl⟩;by_cases hbl:b<x.branches.length
      ·have hbn:=Ya hbl;have hdb:decide ((b:Int)<(x.branches.length:Int))=true:=sO;have hVb:=hV _ (Vk hbl);rw[Vq hbl,XX,JAx]at hb2;rw[Vq hbl,Yc,JG9]at hinv2;generalize x.branches[b]=br at*;have hc3:=call32 p br.steps z v s0 S2.2 (S2.1.map owN) es ek ev;have hcF:=(p69 br.steps).call trivial;generalize hw2:bgn es ek br.steps z=w2 at*;obtain⟨n2,hn2⟩:∃n,n=S2.1[i]:=⟨_,rfl⟩;have q0:nth (S2.1.map owN) i=owN n2:=by rw[hn2];exact JN owN hil2
       have q1:(S2.1.map owN).getD i .opq=owN n2:=q0;have q2:∀y,nth ((S2.1.map owN).set i y) i=y:=fun y=>by rw[XL (sX hil2)];simp
       have q3:∀y,((S2.1.map owN).set i y).getD i .opq=y:=q2;rw[XM n2]at q0 q1;have hNB3:=JCh hNB2 i w2;have hE3:∀k,∃j:Nat,lkI es k=j∧j<(addN S2 i w2).1.length:=by simpa only[X8]using hE2
       have hV3:=call33 hVb (addN S2 i w2) ((ia:Nat):Int) z (c2+1) hE3 hNB3 oM;have hU1:=Ze (p:=p) (es:=es) (ek:=ek) br.steps ((ia:Nat):Int) z (addN S2 i w2) (c2+1) hNB3;have hU2:=Yd (p:=p) (es:=es) (ek:=ek) br.steps ((ia:Nat):Int) z (addN S2 i w2);rw[X8]at hU2;have ha1:(addN S2 i w2).1.map owN=(S2.1.map owN).set i (owN (n2.nxt (n2.next++[w2]))):=by
        unfold addN;rw[JA2 hil2,←hn2,XB]
       have ha2:(addN S2 i w2).2=if n2.next=[]then S2.2+1 else S2.2+2:=by
        unfold addN;rw[Vl hil2,←hn2]
       rw[ha1,ha2]at hV3;have hfin:∀(U:Int×NS),U=Xf p es ek br.steps ((ia:Nat):Int) z (addN S2 i w2)→True:=fun _ _=>trivial
       clear ha1 ha2;rw[XM]at hV3;generalize hUU:Xf p es ek br.steps ((ia:Nat):Int) z (addN S2 i w2)=U at*;obtain⟨u1,U2⟩:=U;simp only[Rn.nxt]at hV3 hinv2 hU1 hU2;cases hnx:n2.next with
       |nil=>
        simp only[hnx,List.nil_append,nxD,if_true,Va,Vb]at hV3 q0 q1;simp only[go_sem,TMk,hdb,hbn,hn0,q0,q1,q2,q3,List.length_set,List.set_set,List.set_cons_succ,List.set_cons_zero,List.any_cons,List.any_nil,J2,Bool.or_false,Vu,Vv,Vc,Vv,Vc,Nat.reduceAdd,Nat.reduceEqDiff,Nat.reduceBEq,Nat.reduceLeDiff,reduceCtorEq,↓reduceIte];refine⟨⟨oM,oM⟩,⟨hil2,dC⟩,?_⟩;refine JG rfl hc3 ⟨rfl,rfl,rfl,rfl,rfl,trivial⟩ ?_;simp only[go_sem,hn0,q0,q1,q2,q3,List.length_set,List.set_set,List.set_cons_succ,List.set_cons_zero,List.any_cons,List.any_nil,J2,Bool.or_false,Vu,Vv,Vc,Vv,Vc,Nat.reduceAdd,Nat.reduceEqDiff,Nat.reduceBEq,Nat.reduceLeDiff,reduceCtorEq,↓reduceIte];refine⟨sP,⟨dC,sP⟩,hil2,dC,?_⟩;refine JU rfl hV3 ⟨rfl,rfl,rfl,rfl,rfl,trivial⟩ ?_;simp only[go_sem,Vu,Vv,Vc,Nat.reduceAdd,Nat.reduceEqDiff,Nat.reduceBEq,Nat.reduceLeDiff,reduceCtorEq,↓reduceIte];refine sq (!Up br.steps) ?_ ?_
        ·simp only[go_sem,Vv,Vc,Nat.reduceAdd,Nat.reduceEqDiff,Nat.reduceBEq,Nat.reduceLeDiff,reduceCtorEq,↓reduceIte];refine wn hcF ?_;simp only[go_sem,Vv,Vc,Nat.reduceAdd,Nat.reduceEqDiff,Nat.reduceBEq,Nat.reduceLeDiff,reduceCtorEq,↓reduceIte]
        have hE4:∀k,∃j:Nat,lkI es k=j∧j<U2.1.length:=by simpa only[hU2]using hE2
        cases hq:(decide (after<0)&& !Up br.steps)
        ·simp only[hq,Vu,if_false]at hinv2;simp only[go_sem,hq,Vu,Vv,Vc,Nat.reduceAdd,Nat.reduceEqDiff,Nat.reduceBEq,Nat.reduceLeDiff,reduceCtorEq,↓reduceIte];refine⟨x.branches.length-(b+1),_,oM,Wk.less ?_,b+1,U2,after,_,oM,rfl,hinv2,hE4,oM,hU1,oM,rfl⟩;simp only[JE b oM];simp[go_sem,TMk]
        ·simp only[hq,if_true]at hinv2;simp only[go_sem,hq,Vu,Vv,Vc,Nat.reduceAdd,Nat.reduceEqDiff,Nat.reduceBEq,Nat.reduceLeDiff,reduceCtorEq,↓reduceIte];refine⟨x.branches.length-(b+1),_,oM,Wk.less ?_,b+1,U2,u1,_,oM,rfl,hinv2,hE4,oM,hU1,oM,rfl⟩;simp only[JE b oM];simp[go_sem,TMk]
       |cons o os=>
        have hin:=JCi hil2 n2 (by rw[hnx];simp);rw[show S2.1.set i n2=S2.1 from by rw[hn2];exact List.set_getElem_self _]at hin;have hfl:=Zw n2.next;have hnl:=(hNB2 n2 (by rw[hn2];exact Vk _)).2;simp only[hnx,Vf]at hnl;simp only[hnx,List.cons_append,nxD,reduceCtorEq,if_false,Va,Vw,Vb]at hV3 q0 q1 hin hfl;simp only[go_sem,TMk,hdb,hbn,hn0,q0,q1,q2,q3,List.length_set,List.set_set,List.set_cons_succ,List.set_cons_zero,List.any_cons,List.any_nil,J2,Bool.or_false,Vu,Vv,Vc,Vv,Vc,Nat.reduceAdd,Nat.reduceEqDiff,Nat.reduceBEq,Nat.reduceLeDiff,reduceCtorEq,↓reduceIte];refine⟨⟨oM,oM⟩,⟨hil2,dC⟩,?_⟩;refine JG rfl hc3 ⟨rfl,rfl,rfl,rfl,rfl,trivial⟩ ?_;simp only[go_sem,JAZ,hin,hfl,hn0,q0,q1,q2,q3,List.length_set,List.set_set,List.set_cons_succ,List.set_cons_zero,List.any_cons,List.any_nil,J2,Bool.or_false,Vu,Vv,Vc,Vv,Vc,Nat.reduceAdd,Nat.reduceEqDiff,Nat.reduceBEq,Nat.reduceLeDiff,reduceCtorEq,↓reduceIte];refine⟨sP,⟨dC,oM,sP⟩,hil2,dC,?_⟩;refine JU rfl hV3 ⟨rfl,rfl,rfl,rfl,rfl,trivial⟩ ?_;simp only[go_sem,Vu,Vv,Vc,Nat.reduceAdd,Nat.reduceEqDiff,Nat.reduceBEq,Nat.reduceLeDiff,reduceCtorEq,↓reduceIte];refine sq (!Up br.steps) ?_ ?_
        ·simp only[go_sem,Vv,Vc,Nat.reduceAdd,Nat.reduceEqDiff,Nat.reduceBEq,Nat.reduceLeDiff,reduceCtorEq,↓reduceIte];refine wn hcF ?_;simp only[go_sem,Vv,Vc,Nat.reduceAdd,Nat.reduceEqDiff,Nat.reduceBEq,Nat.reduceLeDiff,reduceCtorEq,↓reduceIte]
        have hE4:∀k,∃j:Nat,lkI es k=j∧j<U2.1.length:=by simpa only[hU2]using hE2
        cases hq:(decide (after<0)&& !Up br.steps)
        ·simp only[hq,Vu,if_false]at hinv2;simp only[go_sem,hq,Vu,Vv,Vc,Nat.reduceAdd,Nat.reduceEqDiff,Nat.reduceBEq,Nat.reduceLeDiff,reduceCtorEq,↓reduceIte];refine⟨x.branches.length-(b+1),_,oM,Wk.less ?_,b+1,U2,after,_,oM,rfl,hinv2,hE4,oM,hU1,oM,rfl⟩;simp only[JE b oM];simp[go_sem,TMk]
        ·simp only[hq,if_true]at hinv2;simp only[go_sem,hq,Vu,Vv,Vc,Nat.reduceAdd,Nat.reduceEqDiff,Nat.reduceBEq,Nat.reduceLeDiff,reduceCtorEq,↓reduceIte];refine⟨x.branches.length-(b+1),_,oM,Wk.less ?_,b+1,U2,u1,_,oM,rfl,hinv2,hE4,oM,hU1,oM,rfl⟩;simp only[JE b oM];simp[go_sem,TMk]
      ·have hdb:decide ((b:Int)<(x.branches.length:Int))=false:=sO;obtain rfl:b=x.branches.length:=oM;rw[List.drop_length,Yc]at hinv2;subst hinv2;cases hge:decide (after≥0)
       ·simp only[hge,Vu,if_false]at hinv;simp only[go_sem,TMk,hdb,hge,Vu,Vv,Vc,Nat.reduceAdd,Nat.reduceEqDiff,Nat.reduceBEq,Nat.reduceLeDiff,reduceCtorEq,↓reduceIte];refine⟨l.length-(k+1),_,oM,Wk.less ?_,k+1,S2,((ia:Nat):Int),c2,oM,rfl,hinv,hE2,hNB2,oM,rfl⟩;simp only[JE k oM];simp[go_sem,TMk]
       ·simp only[hge,if_true]at hinv;simp only[go_sem,TMk,hdb,hge,Vu,Vv,Vc,Nat.reduceAdd,Nat.reduceEqDiff,Nat.reduceBEq,Nat.reduceLeDiff,reduceCtorEq,↓reduceIte];refine⟨l.length-(k+1),_,oM,Wk.less ?_,k+1,S2,after,c2,oM,rfl,hinv,hE2,hNB2,oM,rfl⟩;simp only[JE k oM];simp[go_sem,TMk]
    ·simp only[hT,h14,if_true]at hinv;simp only[go_sem,hs,Vr,Vs,h14,hn0,g0,g1,g2,g3,List.length_set,List.set_set,List.set_cons_succ,List.set_cons_zero,List.any_cons,List.any_nil,J2,Bool.or_false,Vu,Vv,Vc,Vv,Vc,Nat.reduceAdd,Nat.reduceEqDiff,Nat.reduceBEq,Nat.reduceLeDiff,reduceCtorEq,↓reduceIte];refine⟨l.length-(k+1),_,oM,Wk.less ?_,k+1,(_,_),_,c,oM,rfl,hinv,hE',hNB',oM,rfl⟩;simp only[XB,hmap,JE k oM];simp[go_sem,TMk]
   ·have hT:plT p es x now S=(now,S.1.set i (n.sch now (-1)),S.2):=by
     unfold plT;rw[hs,if_pos rfl,hi,Vv,JA2 hil,←hnn]
    obtain⟨n1,hn1⟩:∃n1,n1=n.sch now (-1):=⟨_,rfl⟩;have hmap:owN n1=_:=(congrArg owN hn1).trans (XM _);simp only[Rn.sch]at hmap;rw[←hn1]at hT;rw[hi,Vv]at hinv;have hNB':NB (S.1.set i n1) c:=by have:=JJo (p:=p) (es:=es) x now hNB;rw[hT]at this;exact this
    have hE':∀k,∃i_1:Nat,lkI es k=i_1∧i_1<(S.1.set i n1).length:=sX hE;cases h14:x.kind==14
    ·simp only[hT,h14,Vu,if_false]at hinv;cases h11:x.kind==11
     ·cases h12:x.kind==12
      ·simp only[h11,h12,Bool.or_false,Vu,if_false]at hinv;have hNB2:NB (upN (S.1.set i n1) i (·.nxt [z])) (c+1):=hNB'.up oM _ fun m hm=>⟨(hNB' m hm).1.nxt _,by simp[Rn.nxt]⟩
       rw[JKz hil]at hinv hNB2;have hmap2:=XM (n1.nxt [z]);rw[hn1]at hmap2;simp only[Rn.sch,Rn.typ,Rn.nxt,nxD,Va,Vb]at hmap2;simp only[hn1,Rn.sch,Rn.typ,Rn.nxt]at hinv hNB2;simp only[go_sem,hs,Vr,Vs,h14,h11,h12,hn0,g0,g1,g2,g3,List.length_set,List.set_set,List.set_cons_succ,List.set_cons_zero,List.any_cons,List.any_nil,J2,Bool.or_false,Vu,Vv,Vc,Vv,Vc,Nat.reduceAdd,Nat.reduceEqDiff,Nat.reduceBEq,Nat.reduceLeDiff,reduceCtorEq,↓reduceIte];refine⟨sP,hil,l.length-(k+1),_,oM,Wk.less ?_,k+1,(_,_),_,c+1,oM,rfl,hinv,by simpa using hE,hNB2,oM,rfl⟩;simp only[XB,hmap2,JE k oM];simp[go_sem,TMk]
      ·simp only[h12,Bool.or_true,if_true]at hinv;generalize hRB:Yc p es ek x.branches i z now (-1) (S.1.set i n1,S.2)=RB at hinv;simp only[go_sem,hs,Vr,Vs,h14,h11,h12,hn0,g0,g1,g2,g3,List.length_set,List.set_set,List.set_cons_succ,List.set_cons_zero,List.any_cons,List.any_nil,J2,Bool.or_false,Vu,Vv,Vc,Vv,Vc,Nat.reduceAdd,Nat.reduceEqDiff,Nat.reduceBEq,Nat.reduceLeDiff,reduceCtorEq,↓reduceIte];refine JH (fun nn st=>∃(b:Nat) (S2:NS) (after:Int) (c2:Nat),b≤x.branches.length∧nn=x.branches.length-b∧Yc p es ek (x.branches.drop b) i z now after S2=RB∧(∀k,∃i:Nat,lkI es k=i∧i<S2.1.length)∧i<S2.1.length∧NB S2.1 c2∧c2+XX (x.branches.drop b)+UC (l.drop (k+1))≤10000000000∧
        st=⟨[(0,.ref 1001 0),(1,.d (.list 11 (l.map JJ))),(2,.d (.int .i64 now)),(3,.d (.int .i64 behind)),(9,.d (.int .i64 k)),(10,.ref 10 0),(11,.d (.int .i64 z)),(12,.tr 1002 ⟨v,S.2,[],some (i,0)⟩),(13,.d (.int .i64 after)),(14,.d (.int .i64 b))],
         (10,.box [.d (.str x.name),.d (.int .i64 x.kind),.d (.int .i64 x.number),.d (.int .i64 x.time),.d (.int .i64 x.limit),.d (.str x.text),.d (.str x.schema),.d (.list 5 (x.exprs.map JX)),.d (.list 6 (x.rules.map Jz)),.d (.list 2 (x.calls.map JV)),.d (.list 2 (x.branches.map J5))])::TMk p v s0 S2.2 (S2.1.map owN) (mpI es) (mpI ek) (mpI ev)⟩) ?_ ?_
       ·refine⟨_,_,Wk.less ?_,0,(S.1.set i n1,S.2),-1,c,Nat.zero_le _,rfl,by simpa using hRB,hE',by simpa using hil,hNB',by simp only[List.drop_zero];omega,rfl⟩;simp only[XB,hmap];simp[go_sem,TMk]
       clear hRB;rintro nn st ⟨b,S2,after,c2,hbk,rfl,hinv2,hE2,hil2,hNB2,hb2,rfl⟩;by_cases hbl:b<x.branches.length
       ·have hbn:=Ya hbl;have hdb:decide ((b:Int)<(x.branches.length:Int))=true:=sO;have hVb:=hV _ (Vk hbl);rw[Vq hbl,XX,JAx]at hb2;rw[Vq hbl,Yc,JG9]at hinv2;generalize x.branches[b]=br at*;have hc3:=call32 p br.steps z v s0 S2.2 (S2.1.map owN) es ek ev;have hcF:=(p69 br.steps).call trivial;generalize hw2:bgn es ek br.steps z=w2 at*;obtain⟨n2,hn2⟩:∃n,n=S2.1[i]:=⟨_,rfl⟩;have q0:nth (S2.1.map owN) i=owN n2:=by rw[hn2];exact JN owN hil2
        have q1:(S2.1.map owN).getD i .opq=owN n2:=q0;have q2:∀y,nth ((S2.1.map owN).set i y) i=y:=fun y=>by rw[XL (sX hil2)];simp
        have q3:∀y,((S2.1.map owN).set i y).getD i .opq=y:=q2;rw[XM n2]at q0 q1;have hNB3:=JCh hNB2 i w2;have hE3:∀k,∃j:Nat,lkI es k=j∧j<(addN S2 i w2).1.length:=by simpa only[X8]using hE2
        have hV3:=call33 hVb (addN S2 i w2) now z (c2+1) hE3 hNB3 oM;have hU1:=Ze (p:=p) (es:=es) (ek:=ek) br.steps now z (addN S2 i w2) (c2+1) hNB3;have hU2:=Yd (p:=p) (es:=es) (ek:=ek) br.steps now z (addN S2 i w2);rw[X8]at hU2;have ha1:(addN S2 i w2).1.map owN=(S2.1.map owN).set i (owN (n2.nxt (n2.next++[w2]))):=by
         unfold addN;rw[JA2 hil2,←hn2,XB]
        have ha2:(addN S2 i w2).2=if n2.next=[]then S2.2+1 else S2.2+2:=by
         unfold addN;rw[Vl hil2,←hn2]
        rw[ha1,ha2]at hV3;have hfin:∀(U:Int×NS),U=Xf p es ek br.steps now z (addN S2 i w2)→True:=fun _ _=>trivial
        clear ha1 ha2;rw[XM]at hV3;generalize hUU:Xf p es ek br.steps now z (addN S2 i w2)=U at*;obtain⟨u1,U2⟩:=U;simp only[Rn.nxt]at hV3 hinv2 hU1 hU2;cases hnx:n2.next with
        |nil=>
         simp only[hnx,List.nil_append,nxD,if_true,Va,Vb]at hV3 q0 q1;simp only[go_sem,TMk,hdb,hbn,hn0,q0,q1,q2,q3,List.length_set,List.set_set,List.set_cons_succ,List.set_cons_zero,List.any_cons,List.any_nil,J2,Bool.or_false,Vu,Vv,Vc,Vv,Vc,Nat.reduceAdd,Nat.reduceEqDiff,Nat.reduceBEq,Nat.reduceLeDiff,reduceCtorEq,↓reduceIte];refine⟨⟨oM,oM⟩,⟨hil2,dC⟩,?_⟩;refine JG rfl hc3 ⟨rfl,rfl,rfl,rfl,rfl,trivial⟩ ?_;simp only[go_sem,hn0,q0,q1,q2,q3,List.length_set,List.set_set,List.set_cons_succ,List.set_cons_zero,List.any_cons,List.any_nil,J2,Bool.or_false,Vu,Vv,Vc,Vv,Vc,Nat.reduceAdd,Nat.reduceEqDiff,Nat.reduceBEq,Nat.reduceLeDiff,reduceCtorEq,↓reduceIte];refine⟨sP,⟨dC,sP⟩,hil2,dC,?_⟩;refine JU rfl hV3 ⟨rfl,rfl,rfl,rfl,rfl,trivial⟩ ?_;simp only[go_sem,Vu,Vv,Vc,Nat.reduceAdd,Nat.reduceEqDiff,Nat.reduceBEq,Nat.reduceLeDiff,reduceCtorEq,↓reduceIte];refine sq (!Up br.steps) ?_ ?_
         ·simp only[go_sem,Vv,Vc,Nat.reduceAdd,Nat.reduceEqDiff,Nat.reduceBEq,Nat.reduceLeDiff,reduceCtorEq,↓reduceIte];refine wn hcF ?_;simp only[go_sem,Vv,Vc,Nat.reduceAdd,Nat.reduceEqDiff,Nat.reduceBEq,Nat.reduceLeDiff,reduceCtorEq,↓reduceIte]
         have hE4:∀k,∃j:Nat,lkI es k=j∧j<U2.1.length:=by simpa only[hU2]using hE2
         cases hq:(decide (after<0)&& !Up br.steps)
         ·simp only[hq,Vu,if_false]at hinv2;simp only[go_sem,hq,Vu,Vv,Vc,Nat.reduceAdd,Nat.reduceEqDiff,Nat.reduceBEq,Nat.reduceLeDiff,reduceCtorEq,↓reduceIte];refine⟨x.branches.length-(b+1),_,oM,Wk.less ?_,b+1,U2,after,_,oM,rfl,hinv2,hE4,oM,hU1,oM,rfl⟩;simp only[JE b oM];simp[go_sem,TMk]
         ·simp only[hq,if_true]at hinv2;simp only[go_sem,hq,Vu,Vv,Vc,Nat.reduceAdd,Nat.reduceEqDiff,Nat.reduceBEq,Nat.reduceLeDiff,reduceCtorEq,↓reduceIte];refine⟨x.branches.length-(b+1),_,oM,Wk.less ?_,b+1,U2,u1,_,oM,rfl,hinv2,hE4,oM,hU1,oM,rfl⟩;simp only[JE b oM];simp[go_sem,TMk]
        |cons o os=>
         have hin:=JCi hil2 n2 (by rw[hnx];simp);rw[show S2.1.set i n2=S2.1 from by rw[hn2];exact List.set_getElem_self _]at hin;have hfl:=Zw n2.next;have hnl:=(hNB2 n2 (by rw[hn2];exact Vk _)).2;simp only[hnx,Vf]at hnl;simp only[hnx,List.cons_append,nxD,reduceCtorEq,if_false,Va,Vw,Vb]at hV3 q0 q1 hin hfl;simp only[go_sem,TMk,hdb,hbn,hn0,q0,q1,q2,q3,List.length_set,List.set_set,List.set_cons_succ,List.set_cons_zero,List.any_cons,List.any_nil,J2,Bool.or_false,Vu,Vv,Vc,Vv,Vc,Nat.reduceAdd,Nat.reduceEqDiff,Nat.reduceBEq,Nat.reduceLeDiff,reduceCtorEq,↓reduceIte];refine⟨⟨oM,oM⟩,⟨hil2,dC⟩,?_⟩;refine JG rfl hc3 ⟨rfl,rfl,rfl,rfl,rfl,trivial⟩ ?_;simp only[go_sem,JAZ,hin,hfl,hn0,q0,q1,q2,q3,List.length_set,List.set_set,List.set_cons_succ,List.set_cons_zero,List.any_cons,List.any_nil,J2,Bool.or_false,Vu,Vv,Vc,Vv,Vc,Nat.reduceAdd,Nat.reduceEqDiff,Nat.reduceBEq,Nat.reduceLeDiff,reduceCtorEq,↓reduceIte];refine⟨sP,⟨dC,oM,sP⟩,hil2,dC,?_⟩;refine JU rfl hV3 ⟨rfl,rfl,rfl,rfl,rfl,trivial⟩ ?_;simp only[go_sem,Vu,Vv,Vc,Nat.reduceAdd,Nat.reduceEqDiff,Nat.reduceBEq,Nat.reduceLeDiff,reduceCtorEq,↓reduceIte];refine sq (!Up br.steps) ?_ ?_
         ·simp only[go_sem,Vv,Vc,Nat.reduceAdd,Nat.reduceEqDiff,Nat.reduceBEq,Nat.reduceLeDiff,reduceCtorEq,↓reduceIte];refine wn hcF ?_;simp only[go_sem,Vv,Vc,Nat.reduceAdd,Nat.reduceEqDiff,Nat.reduceBEq,Nat.reduceLeDiff,reduceCtorEq,↓reduceIte]
         have hE4:∀k,∃j:Nat,lkI es k=j∧j<U2.1.length:=by simpa only[hU2]using hE2
         cases hq:(decide (after<0)&& !Up br.steps)
         ·simp only[hq,Vu,if_false]at hinv2;simp only[go_sem,hq,Vu,Vv,Vc,Nat.reduceAdd,Nat.reduceEqDiff,Nat.reduceBEq,Nat.reduceLeDiff,reduceCtorEq,↓reduceIte];refine⟨x.branches.length-(b+1),_,oM,Wk.less ?_,b+1,U2,after,_,oM,rfl,hinv2,hE4,oM,hU1,oM,rfl⟩;simp only[JE b oM];simp[go_sem,TMk]
         ·simp only[hq,if_true]at hinv2;simp only[go_sem,hq,Vu,Vv,Vc,Nat.reduceAdd,Nat.reduceEqDiff,Nat.reduceBEq,Nat.reduceLeDiff,reduceCtorEq,↓reduceIte];refine⟨x.branches.length-(b+1),_,oM,Wk.less ?_,b+1,U2,u1,_,oM,rfl,hinv2,hE4,oM,hU1,oM,rfl⟩;simp only[JE b oM];simp[go_sem,TMk]
       ·have hdb:decide ((b:Int)<(x.branches.length:Int))=false:=sO;obtain rfl:b=x.branches.length:=oM;rw[List.drop_length,Yc]at hinv2;subst hinv2;cases hge:decide (after≥0)
        ·simp only[hge,Vu,if_false]at hinv;simp only[go_sem,TMk,hdb,hge,Vu,Vv,Vc,Nat.reduceAdd,Nat.reduceEqDiff,Nat.reduceBEq,Nat.reduceLeDiff,reduceCtorEq,↓reduceIte];refine⟨l.length-(k+1),_,oM,Wk.less ?_,k+1,S2,now,c2,oM,rfl,hinv,hE2,hNB2,oM,rfl⟩;simp only[JE k oM];simp[go_sem,TMk]
        ·simp only[hge,if_true]at hinv;simp only[go_sem,TMk,hdb,hge,Vu,Vv,Vc,Nat.reduceAdd,Nat.reduceEqDiff,Nat.reduceBEq,Nat.reduceLeDiff,reduceCtorEq,↓reduceIte];refine⟨l.length-(k+1),_,oM,Wk.less ?_,k+1,S2,after,c2,oM,rfl,hinv,hE2,hNB2,oM,rfl⟩;simp only[JE k oM];simp[go_sem,TMk]
     ·simp only[h11,Bool.true_or,if_true]at hinv;generalize hRB:Yc p es ek x.branches i z now (-1) (S.1.set i n1,S.2)=RB at hinv;simp only[go_sem,hs,Vr,Vs,h14,h11,hn0,g0,g1,g2,g3,List.length_set,List.set_set,List.set_cons_succ,List.set_cons_zero,List.any_cons,List.any_nil,J2,Bool.or_false,Vu,Vv,Vc,Vv,Vc,Nat.reduceAdd,Nat.reduceEqDiff,Nat.reduceBEq,Nat.reduceLeDiff,reduceCtorEq,↓reduceIte];refine JH (fun nn st=>∃(b:Nat) (S2:NS) (after:Int) (c2:Nat),b≤x.branches.length∧nn=x.branches.length-b∧Yc p es ek (x.branches.drop b) i z now after S2=RB∧(∀k,∃i:Nat,lkI es k=i∧i<S2.1.length)∧i<S2.1.length∧NB S2.1 c2∧c2+XX (x.branches.drop b)+UC (l.drop (k+1))≤10000000000∧
       st=⟨[(0,.ref 1001 0),(1,.d (.list 11 (l.map JJ))),(2,.d (.int .i64 now)),(3,.d (.int .i64 behind)),(9,.d (.int .i64 k)),(10,.ref 10 0),(11,.d (.int .i64 z)),(12,.tr 1002 ⟨v,S.2,[],some (i,0)⟩),(13,.d (.int .i64 after)),(14,.d (.int .i64 b))],
        (10,.box [.d (.str x.name),.d (.int .i64 x.kind),.d (.int .i64 x.number),.d (.int .i64 x.time),.d (.int .i64 x.limit),.d (.str x.text),.d (.str x.schema),.d (.list 5 (x.exprs.map JX)),.d (.list 6 (x.rules.map Jz)),.d (.list 2 (x.calls.map JV)),.d (.list 2 (x.branches.map J5))])::TMk p v s0 S2.2 (S2.1.map owN) (mpI es) (mpI ek) (mpI ev)⟩) ?_ ?_
      ·refine⟨_,_,Wk.less ?_,0,(S.1.set i n1,S.2),-1,c,Nat.zero_le _,rfl,by simpa using hRB,hE',by simpa using hil,hNB',by simp only[List.drop_zero];omega,rfl⟩;simp only[XB,hmap];simp[go_sem,TMk]
      clear hRB;rintro nn st ⟨b,S2,after,c2,hbk,rfl,hinv2,hE2,hil2,hNB2,hb2,rfl⟩;by_cases hbl:b<x.branches.length
      ·have hbn:=Ya hbl;have hdb:decide ((b:Int)<(x.branches.length:Int))=true:=sO;have hVb:=hV _ (Vk hbl);rw[Vq hbl,XX,JAx]at hb2;rw[Vq hbl,Yc,JG9]at hinv2;generalize x.branches[b]=br at*;have hc3:=call32 p br.steps z v s0 S2.2 (S2.1.map owN) es ek ev;have hcF:=(p69 br.steps).call trivial;generalize hw2:bgn es ek br.steps z=w2 at*;obtain⟨n2,hn2⟩:∃n,n=S2.1[i]:=⟨_,rfl⟩;have q0:nth (S2.1.map owN) i=owN n2:=by rw[hn2];exact JN owN hil2
       have q1:(S2.1.map owN).getD i .opq=owN n2:=q0;have q2:∀y,nth ((S2.1.map owN).set i y) i=y:=fun y=>by rw[XL (sX hil2)];simp
       have q3:∀y,((S2.1.map owN).set i y).getD i .opq=y:=q2;rw[XM n2]at q0 q1;have hNB3:=JCh hNB2 i w2;have hE3:∀k,∃j:Nat,lkI es k=j∧j<(addN S2 i w2).1.length:=by simpa only[X8]using hE2
       have hV3:=call33 hVb (addN S2 i w2) now z (c2+1) hE3 hNB3 oM;have hU1:=Ze (p:=p) (es:=es) (ek:=ek) br.steps now z (addN S2 i w2) (c2+1) hNB3;have hU2:=Yd (p:=p) (es:=es) (ek:=ek) br.steps now z (addN S2 i w2);rw[X8]at hU2;have ha1:(addN S2 i w2).1.map owN=(S2.1.map owN).set i (owN (n2.nxt (n2.next++[w2]))):=by
        unfold addN;rw[JA2 hil2,←hn2,XB]
       have ha2:(addN S2 i w2).2=if n2.next=[]then S2.2+1 else S2.2+2:=by
        unfold addN;rw[Vl hil2,←hn2]
       rw[ha1,ha2]at hV3;have hfin:∀(U:Int×NS),U=Xf p es ek br.steps now z (addN S2 i w2)→True:=fun _ _=>trivial
       clear ha1 ha2;rw[XM]at hV3;generalize hUU:Xf p es ek br.steps now z (addN S2 i w2)=U at*;obtain⟨u1,U2⟩:=U;simp only[Rn.nxt]at hV3 hinv2 hU1 hU2;cases hnx:n2.next with
       |nil=>
        simp only[hnx,List.nil_append,nxD,if_true,Va,Vb]at hV3 q0 q1;simp only[go_sem,TMk,hdb,hbn,hn0,q0,q1,q2,q3,List.length_set,List.set_set,List.set_cons_succ,List.set_cons_zero,List.any_cons,List.any_nil,J2,Bool.or_false,Vu,Vv,Vc,Vv,Vc,Nat.reduceAdd,Nat.reduceEqDiff,Nat.reduceBEq,Nat.reduceLeDiff,reduceCtorEq,↓reduceIte];refine⟨⟨oM,oM⟩,⟨hil2,dC⟩,?_⟩;refine JG rfl hc3 ⟨rfl,rfl,rfl,rfl,rfl,trivial⟩ ?_;simp only[go_sem,hn0,q0,q1,q2,q3,List.length_set,List.set_set,List.set_cons_succ,List.set_cons_zero,List.any_cons,List.any_nil,J2,Bool.or_false,Vu,Vv,Vc,Vv,Vc,Nat.reduceAdd,Nat.reduceEqDiff,Nat.reduceBEq,Nat.reduceLeDiff,reduceCtorEq,↓reduceIte];refine⟨sP,⟨dC,sP⟩,hil2,dC,?_⟩;refine JU rfl hV3 ⟨rfl,rfl,rfl,rfl,rfl,trivial⟩ ?_;simp only[go_sem,Vu,Vv,Vc,Nat.reduceAdd,Nat.reduceEqDiff,Nat.reduceBEq,Nat.reduceLeDiff,reduceCtorEq,↓reduceIte];refine sq (!Up br.steps) ?_ ?_
        ·simp only[go_sem,Vv,Vc,Nat.reduceAdd,Nat.reduceEqDiff,Nat.reduceBEq,Nat.reduceLeDiff,reduceCtorEq,↓reduceIte];refine wn hcF ?_;simp only[go_sem,Vv,Vc,Nat.reduceAdd,Nat.reduceEqDiff,Nat.reduceBEq,Nat.reduceLeDiff,reduceCtorEq,↓reduceIte]
        have hE4:∀k,∃j:Nat,lkI es k=j∧j<U2.1.length:=by simpa only[hU2]using hE2
        cases hq:(decide (after<0)&& !Up br.steps)
        ·simp only[hq,Vu,if_false]at hinv2;simp only[go_sem,hq,Vu,Vv,Vc,Nat.reduceAdd,Nat.reduceEqDiff,Nat.reduceBEq,Nat.reduceLeDiff,reduceCtorEq,↓reduceIte];refine⟨x.branches.length-(b+1),_,oM,Wk.less ?_,b+1,U2,after,_,oM,rfl,hinv2,hE4,oM,hU1,oM,rfl⟩;simp only[JE b oM];simp[go_sem,TMk]
        ·simp only[hq,if_true]at hinv2;simp only[go_sem,hq,Vu,Vv,Vc,Nat.reduceAdd,Nat.reduceEqDiff,Nat.reduceBEq,Nat.reduceLeDiff,reduceCtorEq,↓reduceIte];refine⟨x.branches.length-(b+1),_,oM,Wk.less ?_,b+1,U2,u1,_,oM,rfl,hinv2,hE4,oM,hU1,oM,rfl⟩;simp only[JE b oM];simp[go_sem,TMk]
       |cons o os=>
        have hin:=JCi hil2 n2 (by rw[hnx];simp);rw[show S2.1.set i n2=S2.1 from by rw[hn2];exact List.set_getElem_self _]at hin;have hfl:=Zw n2.next;have hnl:=(hNB2 n2 (by rw[hn2];exact Vk _)).2;simp only[hnx,Vf]at hnl;simp only[hnx,List.cons_append,nxD,reduceCtorEq,if_false,Va,Vw,Vb]at hV3 q0 q1 hin hfl;simp only[go_sem,TMk,hdb,hbn,hn0,q0,q1,q2,q3,List.length_set,List.set_set,List.set_cons_succ,List.set_cons_zero,List.any_cons,List.any_nil,J2,Bool.or_false,Vu,Vv,Vc,Vv,Vc,Nat.reduceAdd,Nat.reduceEqDiff,Nat.reduceBEq,Nat.reduceLeDiff,reduceCtorEq,↓reduceIte];refine⟨⟨oM,oM⟩,⟨hil2,dC⟩,?_⟩;refine JG rfl hc3 ⟨rfl,rfl,rfl,rfl,rfl,trivial⟩ ?_;simp only[go_sem,JAZ,hin,hfl,hn0,q0,q1,q2,q3,List.length_set,List.set_set,List.set_cons_succ,List.set_cons_zero,List.any_cons,List.any_nil,J2,Bool.or_false,Vu,Vv,Vc,Vv,Vc,Nat.reduceAdd,Nat.reduceEqDiff,Nat.reduceBEq,Nat.reduceLeDiff,reduceCtorEq,↓reduceIte];refine⟨sP,⟨dC,oM,sP⟩,hil2,dC,?_⟩;refine JU rfl hV3 ⟨rfl,rfl,rfl,rfl,rfl,trivial⟩ ?_;simp only[go_sem,Vu,Vv,Vc,Nat.reduceAdd,Nat.reduceEqDiff,Nat.reduceBEq,Nat.reduceLeDiff,reduceCtorEq,↓reduceIte];refine sq (!Up br.steps) ?_ ?_
        ·simp only[go_sem,Vv,Vc,Nat.reduceAdd,Nat.reduceEqDiff,Nat.reduceBEq,Nat.reduceLeDiff,reduceCtorEq,↓reduceIte];refine wn hcF ?_;simp only[go_sem,Vv,Vc,Nat.reduceAdd,Nat.reduceEqDiff,Nat.reduceBEq,Nat.reduceLeDiff,reduceCtorEq,↓reduceIte]
        have hE4:∀k,∃j:Nat,lkI es k=j∧j<U2.1.length:=by simpa only[hU2]using hE2
        cases hq:(decide (after<0)&& !Up br.steps)
        ·simp only[hq,Vu,if_false]at hinv2;simp only[go_sem,hq,Vu,Vv,Vc,Nat.reduceAdd,Nat.reduceEqDiff,Nat.reduceBEq,Nat.reduceLeDiff,reduceCtorEq,↓reduceIte];refine⟨x.branches.length-(b+1),_,oM,Wk.less ?_,b+1,U2,after,_,oM,rfl,hinv2,hE4,oM,hU1,oM,rfl⟩;simp only[JE b oM];simp[go_sem,TMk]
        ·simp only[hq,if_true]at hinv2;simp only[go_sem,hq,Vu,Vv,Vc,Nat.reduceAdd,Nat.reduceEqDiff,Nat.reduceBEq,Nat.reduceLeDiff,reduceCtorEq,↓reduceIte];refine⟨x.branches.length-(b+1),_,oM,Wk.less ?_,b+1,U2,u1,_,oM,rfl,hinv2,hE4,oM,hU1,oM,rfl⟩;simp only[JE b oM];simp[go_sem,TMk]
      ·have hdb:decide ((b:Int)<(x.branches.length:Int))=false:=sO;obtain rfl:b=x.branches.length:=oM;rw[List.drop_length,Yc]at hinv2;subst hinv2;cases hge:decide (after≥0)
       ·simp only[hge,Vu,if_false]at hinv;simp only[go_sem,TMk,hdb,hge,Vu,Vv,Vc,Nat.reduceAdd,Nat.reduceEqDiff,Nat.reduceBEq,Nat.reduceLeDiff,reduceCtorEq,↓reduceIte];refine⟨l.length-(k+1),_,oM,Wk.less ?_,k+1,S2,now,c2,oM,rfl,hinv,hE2,hNB2,oM,rfl⟩;simp only[JE k oM];simp[go_sem,TMk]
       ·simp only[hge,if_true]at hinv;simp only[go_sem,TMk,hdb,hge,Vu,Vv,Vc,Nat.reduceAdd,Nat.reduceEqDiff,Nat.reduceBEq,Nat.reduceLeDiff,reduceCtorEq,↓reduceIte];refine⟨l.length-(k+1),_,oM,Wk.less ?_,k+1,S2,after,c2,oM,rfl,hinv,hE2,hNB2,oM,rfl⟩;simp only[JE k oM];simp[go_sem,TMk]
    ·simp only[hT,h14,if_true]at hinv;simp only[go_sem,hs,Vr,Vs,h14,hn0,g0,g1,g2,g3,List.length_set,List.set_set,List.set_cons_succ,List.set_cons_zero,List.any_cons,List.any_nil,J2,Bool.or_false,Vu,Vv,Vc,Vv,Vc,Nat.reduceAdd,Nat.reduceEqDiff,Nat.reduceBEq,Nat.reduceLeDiff,reduceCtorEq,↓reduceIte];refine⟨l.length-(k+1),_,oM,Wk.less ?_,k+1,(_,_),_,c,oM,rfl,hinv,hE',hNB',oM,rfl⟩;simp only[XB,hmap,JE k oM];simp[go_sem,TMk]
  ·rw[h13,if_pos rfl]at hinv;simp only[go_sem,TMk,hdk,hn,hw,hsl,Vv,Vc,Nat.reduceAdd,Nat.reduceEqDiff,Nat.reduceBEq,Nat.reduceLeDiff,reduceCtorEq,↓reduceIte];refine⟨⟨oM,oM⟩,⟨oM,oM,oM⟩,?_⟩;refine JU rfl hc ⟨rfl,rfl,rfl,rfl,rfl,trivial⟩ ?_;simp only[go_sem,h13,Vv,Vc,Nat.reduceAdd,Nat.reduceEqDiff,Nat.reduceBEq,Nat.reduceLeDiff,reduceCtorEq,↓reduceIte];refine⟨l.length-(k+1),_,oM,Wk.less ?_,k+1,S,now,c,oM,rfl,hinv,hE,hNB,oM,rfl⟩;simp only[JE k oM];simp[go_sem,TMk]
 ·have hdk:decide ((k:Int)<(l.length:Int))=false:=sO;obtain rfl:k=l.length:=oM;rw[List.drop_length,Xf]at hinv;subst hinv;simp only[go_sem,TMk,hdk,Vv,Vc,Nat.reduceAdd,Nat.reduceEqDiff,Nat.reduceBEq,Nat.reduceLeDiff,reduceCtorEq,↓reduceIte]
mutual
theorem v74s{p:Prg}(hP:PB p){es ek ev:List (Str×Int)}{v s0:Nat}:∀(l:List Ste),∀x∈l,∀b∈x.branches,V74 p es ek ev v s0 b.steps
 |[],x,h,_,_=>by cases h
 |y::q,x,h,b,hb=>by
  by_cases e:x=y
  ·rw[e]at hb;exact v74S hP y b hb
  ·exact v74s hP q x ((VA.1 h).resolve_left e) b hb
theorem v74S{p:Prg}(hP:PB p){es ek ev:List (Str×Int)}{v s0:Nat}:∀(x:Ste),∀b∈x.branches,V74 p es ek ev v s0 b.steps
 |.mk n k u t l x c e ru a bs=>JS6 hP bs
theorem JS6{p:Prg}(hP:PB p){es ek ev:List (Str×Int)}{v s0:Nat}:∀(l:List Brn),∀b∈l,V74 p es ek ev v s0 b.steps
 |[],b,h=>by cases h
 |y::q,b,h=>by
  by_cases e:b=y
  ·rw[e];exact v74B hP y
  ·exact JS6 hP q b ((VA.1 h).resolve_left e)
theorem v74B{p:Prg}(hP:PB p){es ek ev:List (Str×Int)}{v s0:Nat}:∀(b:Brn),V74 p es ek ev v s0 b.steps
 |.mk w s=>JPg hP s (v74s hP s)
end
theorem w74{p:Prg}(hP:PB p){es ek ev:List (Str×Int)}{v s0:Nat}(l:List Ste):V74 p es ek ev v s0 l:=JPg hP l (v74s hP l)
end Go.Proofs
namespace Go.Proofs
open Go Av
variable {p:Prg}{n:Nat}{es:List (Str×Int)}
def JDp(p:Prg)(s:Ste):Rn:=⟨s.name,s.kind,0,0,nuO s,s.time,s.limit,s.text,0,0,0,0,.nil 1,.nil 7,.nil 11,.list 7 (tyO p s.calls),exO s,.list 6 (s.rules.map Jz),.list 2 (s.calls.map JV),[]⟩
theorem JPh(p:Prg)(s:Ste):owN (JDp p s)=JMH p s:=rfl
def rnE(n:Str)(kd s r:Int):Rn:=⟨n,kd,s,r,0,0,0,n,0,0,0,0,.nil 1,.nil 7,.nil 11,.nil 7,.nil 5,.nil 6,.nil 2,[]⟩
theorem JHA(n:Str)(kd s r:Int):okR (rnE n kd s r):=⟨rfl,rfl,rfl,⟨[],rfl⟩,⟨[],rfl⟩,⟨[],rfl⟩,⟨[],rfl,dC⟩,⟨[],rfl,dC⟩,⟨[],rfl⟩,⟨[],rfl,dC⟩⟩
def JS7:Exp:=.mk 1 0 [] [.mk 1 1 0 [] [] []] []
def exE(b:Brn):Exp:=match b.cond with|[]=>JS7|e::_=>e
theorem JMI(b:Brn):(exB b).canon=JX (exE b):=by
 unfold exB exE;cases b.cond with
 |nil=>simp[JD6,JS7,JY,JZ,Dat.canon,JI]
 |cons e r=>exact JBj e
theorem JJp(l:List Brn):JI (l.map exB)=(l.map exE).map JX:=by
 rw[J1,List.map_map,List.map_map];exact List.map_congr_left fun b _=>JMI b
theorem JJq(l:List Exp):(Ys l).dat.canon=.list 5 (l.map JX):=by
 cases l with
 |nil=>rfl
 |cons a r=>simp only[Ys,Dat.dat,Dat.canon,UK]
theorem JIi(hP:PB p):∀l:List Kal,∃ts:List Typ,tyO p l=ts.map UW
 |[]=>⟨[],rfl⟩
 |c::r=>by
  obtain⟨ts,h⟩:=JIi hP r;obtain⟨si,x,-,-,-,-,h1⟩:=JG6 hP c;obtain⟨_,_,a,-,-,-,-,h2⟩:=JAL hP x.request;obtain⟨_,_,b,-,-,-,-,h3⟩:=JAL hP x.reply;refine⟨a.type::b.type::ts,?_⟩;unfold tyO at h⊢;rw[List.flatMap_cons,h,h1,h2,h3];rfl
theorem JPi(hP:PB p)(s:Ste)(hs:stQ s):okR (JDp p s):=by
 refine⟨rfl,rfl,rfl,⟨[],rfl⟩,⟨[],rfl⟩,⟨[],rfl⟩,?_,?_,⟨s.rules,?_⟩,⟨s.calls,?_,by have:=hs.ca;omega⟩⟩
 ·obtain⟨ts,h⟩:=JIi hP s.calls;refine⟨ts,by simp only[JDp,h,Dat.dat,Dat.canon,YZ],?_⟩;have h1:=congrArg List.length h;rw[JCf hP,Vc]at h1;have:=hs.ca;omega
 ·simp only[JDp,exO];split
  ·exact⟨s.branches.map exE,by simp only[Dat.dat,Dat.canon,JJp],by rw[Vc];have:=hs.br;omega⟩
  ·exact⟨s.exprs,JJq _,by have:=hs.el;omega⟩
 ·simp only[JDp,Dat.dat,Dat.canon,Ul]
 ·simp only[JDp,Dat.dat,Dat.canon,Xt]
def scI(p:Prg)(n:Str)(v:Int):Nat:=fdQ (fun x:Sch=>x.name==n&&x.version==v) p.schemas
def epI(p:Prg)(n:Str):Nat:=fdQ (fun x:Epd=>x.name==n) p.endpoints
def p1R(p:Prg)(r:Rou):Rn:=match p.endpoints[epI p r.src]? with
 |some x=>rnE x.name 21 (scI p x.schema x.version:Nat) (scI p x.schema x.version:Nat)
 |none=>rnE [] 0 0 0
def ph1(p:Prg)(l:List Rou):List Rn:=l.map (p1R p)
structure P2 where
 N:List Rn
 es:List (Str×Int)
 us:List Str
 cs:List Str
def JHB(cs:List Str)(l:List Kal):List Str:=l.foldl (fun c k=>JMG c k.service) cs
def p2S(p:Prg)(S:P2)(s:Ste):P2:=if s.kind==13 then⟨S.N,S.es,JMG S.us s.text,JHB S.cs s.calls⟩else⟨S.N++[JDp p s],puS S.es s.name (S.N.length:Nat),S.us,JHB S.cs s.calls⟩
def ph2(p:Prg)(l:List Wlk)(S:P2):P2:=l.foldl (fun S w=>p2S p S w.step) S
def p3S(p:Prg)(us:List Str)(S:List Rn×List (Str×Int))(x:Epd):List Rn×List (Str×Int):=
 if us.contains x.name then(S.1++[rnE x.name 22 (scI p x.schema x.version:Nat) (-1)],puS S.2 x.name (S.1.length:Nat))else S
def ph3(p:Prg)(us:List Str)(l:List Epd)(S:List Rn×List (Str×Int)):List Rn×List (Str×Int):=l.foldl (p3S p us) S
def p4S(p:Prg)(cs:List Str)(N:List Rn)(x:Svc):List Rn:=if cs.contains x.name then N++[rnE x.name 23 ((JCe p.schemas x.request).1:Nat) ((JCe p.schemas x.reply).1:Nat)]else N
def ph4(p:Prg)(cs:List Str)(l:List Svc)(N:List Rn):List Rn:=l.foldl (p4S p cs) N
def p5A(es ek:List (Str×Int))(l:List Ste)(S:NS)(i:Nat):NS:=(upN S.1 i (·.nxt [bgn es ek l (-1)]),S.2+1)
def p5S(p:Prg)(es ek:List (Str×Int))(S:NS)(i:Nat):NS:=match p.routes[i]? with
 |some r=>(Xf p es ek r.steps (((p5A es ek r.steps S i).1[i]?.map Rn.schema).getD 0) (-1) (p5A es ek r.steps S i)).2
 |none=>S
def ph5(p:Prg)(es ek:List (Str×Int))(k:Nat)(S:NS):NS:=(List.range k).foldl (p5S p es ek) S
theorem JIj(p:Prg)(es ek:List (Str×Int))(k:Nat)(S:NS):ph5 p es ek (k+1) S=p5S p es ek (ph5 p es ek k S) k:=by
 unfold ph5;rw[List.range_succ,List.foldl_append];rfl
def plA(p:Prg):P2:=ph2 p (wkN p.routes p.routes.length) ⟨ph1 p p.routes,[],[],[]⟩
def plK(p:Prg):List Rn×List (Str×Int):=ph3 p (plA p).us p.endpoints ((plA p).N,[])
def plN(p:Prg):List Rn:=ph4 p (plA p).cs p.services (plK p).1
def plE(p:Prg):NS:=ph5 p (plA p).es (plK p).2 p.routes.length (plN p,0)
def plD(p:Prg):Dat:=.agg [.int .i64 p.version,.list 9 (p.schemas.map UB),.list 7 (p.endpoints.map Jp),.list 4 (p.services.map UR),.list 20 (JI (Dat.dat.datL ((plE p).1.map owN)))]
theorem JRh(l:List (Str×Int))(k:Str)(v:Int)(j:Str):lkI (puS l k v) j=if j==k then v else lkI l j:=by
 unfold lkI
 induction l with
 |nil=>simp only[puS,lkS];split<;>rfl
 |cons e r ih=>
  simp only[puS];by_cases h1:k==e.1
  ·have h1':k=e.1:=sX h1;simp only[h1,if_true,lkS];by_cases h2:j==k
   ·simp[h2]
   ·have h2':¬j=k:=sX h2;have:(j==e.1)=false:=by simp;rw[←h1'];exact h2'
    simp[h2,this]
  ·have h1':¬k=e.1:=sX h1;simp only[h1,if_false,lkS,Vu];by_cases h3:j==e.1
   ·have h3':j=e.1:=sX h3;have:(j==k)=false:=by simp;rw[h3'];exact fun e=>h1' e.symm
    simp[h3,this]
   ·simp only[h3,Vu,if_false];exact ih
def ME(es:List (Str×Int))(n:Nat):Prop:=∀k,∃i:Nat,lkI es k=i∧i<n
theorem ME.nil(h:0<n):ME [] n:=fun k=>⟨0,rfl,h⟩
theorem ME.put(h:ME es n)(k:Str)(i m:Nat)(hi:i<m)(hm:n≤m):ME (puS es k i) m:=by
 intro j;rw[JRh];split
 ·exact⟨i,rfl,hi⟩
 ·obtain⟨a,h1,h2⟩:=h j;exact⟨a,h1,oM⟩
theorem ME.le{m:Nat}(h:ME es n)(hm:n≤m):ME es m:=fun k=>by obtain⟨a,h1,h2⟩:=h k;exact⟨a,h1,oM⟩
abbrev TMp(p:Prg)(v s0 s:Nat)(X:List Dat)(es ek ev:List (Dat×Dat)):List (Nat×Av.Obj):=[(33,.box [.d (.int .i64 p.version),.d (.list 9 (p.schemas.map UB)),.d (.list 7 (p.endpoints.map Jp)),.d (.list 4 (p.services.map UR)),.d (.list 3 (p.routes.map Un)),.tr 1002 ⟨v,s0,[],none⟩,.mp 29,.mp 30,.mp 31]),
 (1002,.tre v s 20 X),(29,.mapo es),(30,.mapo ek),(31,.mapo ev)]
abbrev rp(i:Nat):Nat:=if i=1001 then 33 else if i=1003 then 29 else if i=1004 then 30 else if i=1005 then 31 else i
theorem JJr{i j:Nat}(hi:i=1001∨i=1002∨i=1003∨i=1004∨i=1005)(hj:j=1001∨j=1002∨j=1003∨j=1004∨j=1005)(h:rp i=rp j):i=j:=by
 rcases hi with rfl|rfl|rfl|rfl|rfl<;>rcases hj with rfl|rfl|rfl|rfl|rfl<;>first|rfl|(revert h;decide)
theorem JCj{v s0 s:Nat}{X:List Dat}{es ek ev:List (Dat×Dat)}{i:Nat}(h:(JC (Av.get (TMk p v s0 s X es ek ev)) [] i).isSome=true):i=1001∨i=1002∨i=1003∨i=1004∨i=1005:=by
 refine Decidable.byContradiction fun hn=>?_
 simp only[not_or]at hn;obtain⟨a1,a2,a3,a4,a5⟩:=hn;simp[TMk,JC,Av.get,Ne.symm a1,Ne.symm a2,Ne.symm a3,Ne.symm a4,Ne.symm a5]at h
theorem cp74{ek ev:List (Str×Int)}{v s0:Nat}{l:List Ste}(h:V74 p es ek ev v s0 l)(S:NS)(now behind:Int)(b:Nat)(h1:∀k,∃i:Nat,lkI es k=i∧i<S.1.length)(h2:NB S.1 b)(h3:b+UC l≤10000000000):
  CT (.fn 33) [.ref 33 0,.d (.list 11 (l.map JJ)),.d (.int .i64 now),.d (.int .i64 behind)] ((TMp p v s0 S.2 (S.1.map owN) (mpI es) (mpI ek) (mpI ev)).map fun x=>(x.1,some x.2)) (.d (.int .i64 (Xf p es ek l now behind S).1)) [(1002,.tre v (Xf p es ek l now behind S).2.2 20 ((Xf p es ek l now behind S).2.1.map owN))]:=by
 have:=(h S now behind b h1 h2 h3).call rp (fun i hi=>by
   simp only[TMk,Av.get]at hi
   repeat' split at hi
   all_goals first|(cases hi;done)|omega) (fun i j hi hj h=>JJr (JK0 hi) (JK0 hj) h) (by simp[JS,Av.get]) (J4 (by simp[Jf,J8,JT,JS,Uk,Av.get])) [] (by simp[Av.get]) (JFG _ _ _ _ _ _ _ _ _ _) trivial
 simp only[TMk,Va,Vb,Obj.ren,Av.ren,UV,YH,List.append_nil,rp,Nat.reduceEqDiff,↓reduceIte]at this⊢;exact this
theorem cp73(p:Prg)(l:List Ste)(behind:Int)(v s0 sv:Nat)(X:List Dat)(es ek ev:List (Str×Int)):
  CT (.fn 32) [.ref 33 0,.d (.list 11 (l.map JJ)),.d (.int .i64 behind)] ((TMp p v s0 sv X (mpI es) (mpI ek) (mpI ev)).map fun x=>(x.1,some x.2)) (.d (.int .i64 (bgn es ek l behind))) []:=by
 have:=(JS5 p l behind v s0 sv X es ek ev).call rp (fun i hi=>by
   simp only[TMk,Av.get]at hi
   repeat' split at hi
   all_goals first|(cases hi;done)|omega) (fun i j hi hj h=>JJr (JCj hi) (JCj hj) h) (by simp[JS,Av.get]) (J4 (by simp[Jf,J8,JT,JS,Uk,Av.get])) [] (by simp[Av.get]) (Zv _ _ _ _ _ _ _ _) trivial
 simp only[TMk,Va,Vb,Obj.ren,Av.ren,UV,YH,List.append_nil,rp,Nat.reduceEqDiff,↓reduceIte]at this⊢;exact this
theorem cp71(p:Prg)(hP:PB p)(s:Ste)(hs:stQ s)(v s0 sv:Nat)(X:List Dat)(es ek ev:List (Str×Int)):
  CT (.fn 30) [.ref 33 0,.d (JE8 s)] ((TMp p v s0 sv X (mpI es) (mpI ek) (mpI ev)).map fun x=>(x.1,some x.2)) (.d (JMH p s)) []:=by
 have:=(con30 p hP s hs v s0 sv X (mpI es) (mpI ek) (mpI ev)).call rp (fun i hi=>by
   simp only[TMk,Av.get]at hi
   repeat' split at hi
   all_goals first|(cases hi;done)|omega) (fun i j hi hj h=>JJr (JCj hi) (JCj hj) h) (by simp[JS,Av.get]) (J4 (by simp[Jf,J8,JT,JS,Uk,Av.get])) [] (by simp[Av.get]) (Zv _ _ _ _ _ _ _ _) trivial
 simp only[TMk,Va,Vb,Obj.ren,Av.ren,UV,YH,List.append_nil,rp,Nat.reduceEqDiff,↓reduceIte]at this⊢;exact this
end Go.Proofs
namespace Go.Proofs
open Go Av
variable {b i:Nat}{p:Prg}{es ek:List (Str×Int)}{S:NS}
theorem JPj(p:Prg)(l:List Rou):NB (ph1 p l) 0:=by
 intro n hn;obtain⟨r,-,rfl⟩:=VC.1 hn;unfold p1R;split<;>exact⟨JHA _ _ _ _,Nat.le_refl _⟩
theorem NB.app{N:List Rn}(h:NB N b){n:Rn}(hn:okR n)(hl:n.next.length≤b):NB (N++[n]) b:=by
 intro m hm;rcases List.mem_append.1 hm with hm|hm
 ·exact h m hm
 ·rw[List.mem_singleton.1 hm];exact⟨hn,hl⟩
theorem p2S_ok(hP:PB p)(S:P2)(s:Ste)(hs:stQ s)(h1:NB S.N 0)(h2:ME S.es S.N.length):NB (p2S p S s).N 0∧ME (p2S p S s).es (p2S p S s).N.length∧S.N.length≤(p2S p S s).N.length:=by
 unfold p2S;split
 ·exact⟨h1,h2,Nat.le_refl _⟩
 ·have hl:(S.N++[JDp p s]).length=S.N.length+1:=sP;refine⟨h1.app (JPi hP _ hs) (Nat.le_refl _),h2.put _ S.N.length _ ?_ ?_,?_⟩
  ·show S.N.length<(S.N++[JDp p s]).length;omega
  ·show S.N.length≤(S.N++[JDp p s]).length;omega
  ·show S.N.length≤(S.N++[JDp p s]).length;omega
theorem JJs(hP:PB p):∀(l:List Wlk) (S:P2),(∀w∈l,stQ w.step)→NB S.N 0→ME S.es S.N.length→NB (ph2 p l S).N 0∧ME (ph2 p l S).es (ph2 p l S).N.length∧S.N.length≤(ph2 p l S).N.length
 |[],S,_,h1,h2=>⟨h1,h2,Nat.le_refl _⟩
 |w::r,S,hq,h1,h2=>by
  obtain⟨a,b,c⟩:=p2S_ok hP S w.step (hq w Vh) h1 h2;obtain⟨d,e,f⟩:=JJs hP r _ (fun x hx=>hq x (Vn _ hx)) a b;exact⟨d,e,Nat.le_trans c f⟩
theorem p3S_ok(p:Prg)(us:List Str)(S:List Rn×List (Str×Int))(x:Epd)(h1:NB S.1 0):NB (p3S p us S x).1 0∧S.1.length≤(p3S p us S x).1.length:=by
 unfold p3S;split
 ·exact⟨h1.app (JHA _ _ _ _) (Nat.le_refl _),sP⟩
 ·exact⟨h1,Nat.le_refl _⟩
theorem JJt(p:Prg)(us:List Str):∀(l:List Epd) (S:List Rn×List (Str×Int)),NB S.1 0→NB (ph3 p us l S).1 0∧S.1.length≤(ph3 p us l S).1.length
 |[],S,h1=>⟨h1,Nat.le_refl _⟩
 |x::r,S,h1=>by
  obtain⟨a,c⟩:=p3S_ok p us S x h1;obtain⟨d,f⟩:=JJt p us r _ a;exact⟨d,Nat.le_trans c f⟩
theorem p4S_ok(p:Prg)(cs:List Str)(N:List Rn)(x:Svc)(h1:NB N 0):NB (p4S p cs N x) 0∧N.length≤(p4S p cs N x).length:=by
 unfold p4S;split
 ·exact⟨h1.app (JHA _ _ _ _) (Nat.le_refl _),sP⟩
 ·exact⟨h1,Nat.le_refl _⟩
theorem JJu(p:Prg)(cs:List Str):∀(l:List Svc) (N:List Rn),NB N 0→NB (ph4 p cs l N) 0∧N.length≤(ph4 p cs l N).length
 |[],N,h1=>⟨h1,Nat.le_refl _⟩
 |x::r,N,h1=>by
  obtain⟨a,c⟩:=p4S_ok p cs N x h1;obtain⟨d,f⟩:=JJu p cs r _ a;exact⟨d,Nat.le_trans c f⟩
theorem JPk(hi:i<p.routes.length)(hil:i<S.1.length):
  p5S p es ek S i=(Xf p es ek p.routes[i].steps S.1[i].schema (-1) (S.1.set i (S.1[i].nxt [bgn es ek p.routes[i].steps (-1)]),S.2+1)).2:=by
 unfold p5S;rw[Vl hi];have e:p5A es ek p.routes[i].steps S i=(S.1.set i (S.1[i].nxt [bgn es ek p.routes[i].steps (-1)]),S.2+1):=by
  unfold p5A;rw[JA2 hil]
 show(Xf p es ek p.routes[i].steps (((p5A es ek p.routes[i].steps S i).1[i]?.map Rn.schema).getD 0) (-1) (p5A es ek p.routes[i].steps S i)).2=_;rw[e];simp only[List.getElem?_set_self hil,Vj,Vp,Rn.nxt]
theorem NB.set{N:List Rn}(h:NB N b){n:Rn}(hn:okR n)(hl:n.next.length≤b):NB (N.set i n) b:=by
 intro m hm;rcases List.mem_or_eq_of_mem_set hm with hm|hm
 ·exact h m hm
 ·rw[hm];exact⟨hn,hl⟩
theorem JMJ{l:List Rou}{k:Nat}(h:k<l.length):XV (l.drop k)=UC l[k].steps+XV (l.drop (k+1)):=by
 rw[Vq h];rfl
theorem p5S_ok(hi:i<p.routes.length)(hil:i<S.1.length)(h:NB S.1 b):NB (p5S p es ek S i).1 (b+1+UC p.routes[i].steps)∧(p5S p es ek S i).1.length=S.1.length:=by
 rw[JPk hi hil];refine⟨Ze _ _ _ _ _ ((h.le (Nat.le_succ b)).set ((h _ (Vk hil)).1.nxt _) (by simp[Rn.nxt])),?_⟩;rw[Yd];simp
theorem JGC{l:List Rou}{k:Nat}(h:k<l.length):XV (l.take (k+1))=XV (l.take k)+UC l[k].steps:=by
 have h3:∀(a b:List Rou),XV (a++b)=XV a+XV b:=by
  intro a b
  induction a with
  |nil=>simp[XV]
  |cons x r ih=>simp only[List.cons_append,XV,ih];omega
 rw[List.take_succ_eq_append_getElem h,h3];rfl
theorem JJv(hl:p.routes.length≤S.1.length)(h:NB S.1 b):∀k:Nat,k≤p.routes.length→NB (ph5 p es ek k S).1 (b+k+XV (p.routes.take k))∧(ph5 p es ek k S).1.length=S.1.length
 |0,_=>⟨by simpa[XV,ph5]using h,rfl⟩
 |k+1,hk=>by
  obtain⟨h1,h2⟩:=JJv hl h k oM;rw[JIj];have:=p5S_ok (p:=p) (es:=es) (ek:=ek) (i:=k) oM (by rw[h2];omega) h1;refine⟨this.1.le ?_,this.2.trans h2⟩;rw[JGC oM];omega
end Go.Proofs
namespace Av
open Go
variable [Glb][Rls]
section
variable {β:JO}{A:Nat→Prop}{w:World}{H:Heap}{D:Nat→Prop}
theorem JR.borrow{P:Program}{f:Nat}{ds:List Dat}{r:Dat}(h:J3 P f ds (.d r))(hr:scalar r=true)(cs:List Av)(T:List (Nat×Option Obj))
  (hds:∀H:Heap,(∀e∈T,H e.1=e.2)→∃p ups,Jo H cs=some (p,ds,ups)∧p):JR P f cs T (.d r) []:=by
 intro β A w H vs hT hc hvs;obtain⟨p,ups,hd,hp⟩:=hds H hT;obtain⟨A1,s1,l1,r1,m1⟩:=XD hc hd hp (us:=vs.toList) (sX hvs.1) (fun k c u h1 h2=>hvs.2 k c u h1 (sX h2));have hc0:Core β A1 w (get []):=⟨(by intro i o hi;cases hi),(by intro i j o o' b hi;cases hi),(by intro i o b hi;cases hi),s1.core.old,s1.core.glob⟩;refine .inl ⟨h.1,(h.2 β A1 w vs hc0 ⟨by simpa using l1,?_⟩).mono ?_⟩
 ·intro k c v h1 h2;rw[Vo]at h1;cases e:ds[k]? with
  |none=>simp[e]at h1
  |some x=>
   simp only[e,Vj,Vd]at h1;subst h1;exact .d _ _ (r1 k x v e (sX h2))
 ·rintro e w' ⟨v,β1,A2,rfl,hsince,hc1,hv⟩;obtain⟨s1,s2,s3,s4,s5,sl,s6,s7,s8⟩:=hsince;dsimp only at s1 s2 s3 s4 s5 sl;have hsame:∀b,b<w.heap.size→w'.heap[b]? =w.heap[b]? :=fun b hb=>s5 b hb (by intro i o hi;cases hi)
  have hst:Stp β A w H β A w' H:=Stp.new hc s1 s2 s3 s4 hsame (fun _ h=>h) (fun _ h=>.inl h) (fun b hb=>by have:=hc.old b hb;omega);exact⟨v,rfl,β,A,hst,.d _ _ (hv.Jd.scalar hr)⟩
theorem Stp.JJ5(hc:Core β A w H){k sz:Nat}(hk:H k=none)(hsz:0<sz):Stp β A w H (upd β k (none:Option Nat)) A w (upd H k (some (.tre 0 0 sz []))):=by
 refine Stp.many hc (fun t=>t=k) (fun t ht=>JQ _ _ ht) (fun t ht=>JQ _ _ ht) rfl rfl rfl (Nat.le_refl _) (fun _ _ _=>rfl) (fun _ h=>h) (fun _ h=>.inl h) hc.old ?_ (fun t t' _ _ _ ht ht' _ _ _ _ _ _=>ht.trans ht'.symm) ?_ ?_ ?_
 ·rintro t o b rfl _ _ hb;rw[JF]at hb;cases hb
 ·rintro t c u rfl hh hvr;exact Xk (v:=0) (s:=0) (sz:=sz) (xs:=[]) (.inr hk) (JF _ _ _) (Nat.le_refl _) (Nat.le_refl _) hh hvr (fun h=>by rw[hk]at h;cases h)
 ·rintro _ t o rfl ho;rw[JF]at ho;cases ho;refine⟨.slice none 0 0,?_,?_,?_,?_⟩
  ·rw[JF];exact .nil sz none hsz
  ·rw[JF];exact List.Pairwise.nil
  ·exact .inl ⟨by rw[JF],rfl,none,rfl⟩
  ·rw[JF];rfl
 ·rintro b r _ ⟨t,o,rfl,ho,_,_⟩;rw[hk]at ho;cases ho
theorem VRep.JJ5{k sz:Nat}{u:Value}(hr:Rep A w (.nil sz) u):VRep (upd β k (none:Option Nat)) A w (upd H k (some (.tre 0 0 sz []))) (.tr k ⟨0,0,[],none⟩) u:=by
 cases hr with
 |nil _ ad=>
  refine .tr _ _ _ rfl sU (fun h=>by cases h) ?_;intro v3 s3 sz3 xs3 h3;simp only[upd,if_true,Vd,Obj.tre.injEq]at h3;obtain⟨rfl,rfl,rfl,rfl⟩:=h3;exact⟨Nat.le_refl _,Nat.le_refl _,fun _ _=>⟨_,_,.inl ⟨by rw[JF],rfl,ad,rfl⟩,rfl,rfl⟩⟩
theorem Wk.nilTB{st:St}(b j k sz:Nat)(cs:List Av)(hb:get st.hp b=some (.box cs))(hj:cs[j]? =some (.d (.nil sz)))(hk:get st.hp k=none)(hsz:0<sz):
  Wk D st ⟨st.tm,put (put st.hp k (.tre 0 0 sz [])) b (.box (cs.set j (.tr k ⟨0,0,[],none⟩)))⟩:=by
 refine Wk.JBr ?_;intro β A w a hc htr;have hne:b≠k:=fun e=>by subst e;rw[hk]at hb;cases hb
 have hst:=Stp.JJ5 (β:=β) hc hk hsz;have hb1:upd (get st.hp) k (some (.tre 0 0 sz [])) b=some (.box cs):=by rw[JQ _ _ hne];exact hb
 obtain⟨bb,C,T,e1,e2,e3,e4,e5⟩:=hst.core.objs b _ hb1;have hset:w.setRow bb C=w:=Xr e2;have hst2:=Stp.JDH (cs':=cs.set j (.tr k ⟨0,0,[],none⟩)) (C':=C) hst.core hb1 e1 e2 (sX e3) e4 (fun hall i c v hc' hv'=>by
  rw[List.getElem?_set]at hc';split at hc'
  ·rename_i e;subst e;split at hc'
   ·cases hc';obtain⟨bb0,C0,T0,q1,q2,q3,q4,q5⟩:=hc.objs b _ hb;have hbb:bb0=bb:=by
     rw[JQ _ _ hne]at e1;rw[q1]at e1;exact Option.some.inj (BK.mk.inj e1).1
    subst hbb;rw[e2]at q2;cases q2;have hr:=(q5 j _ v hj hv').Jd;exact hall _ _ (VRep.JJ5 hr)
   ·cases hc'
  ·exact hall _ _ (e5 i c v hc' hv'))
 rw[hset]at hst2;have hh:get (put (put st.hp k (.tre 0 0 sz [])) b (.box (cs.set j (.tr k ⟨0,0,[],none⟩))))=upd (upd (get st.hp) k (some (.tre 0 0 sz []))) b (some (.box (cs.set j (.tr k ⟨0,0,[],none⟩)))):=funext fun i=>by
  rw[UG,UG];rfl
 rw[hh];refine⟨_,A,hst.trans hst2,?_⟩;intro t v hv;obtain⟨u,q1,q2⟩:=htr t v hv;exact⟨u,q1,(hst.trans hst2).vals _ _ q2⟩
end
end Av
namespace Go.Proofs
open Go Av
theorem ep_ex{p:Prg}(hP:PB p)(n:Str):∃(i:Nat) (x:Epd),fdQ (fun x:Epd=>x.name==n) p.endpoints=i∧i<p.endpoints.length∧p.endpoints[i]? =some x∧nth (p.endpoints.map Jp) i=Jp x:=by
 have h:=JJn (fun x:Epd=>x.name==n) hP.ep0;exact⟨_,_,rfl,h,Vl h,JN Jp h⟩
section
@[instance_reducible] def JRi:Rls:={rl:=fun n=>n==1,tr:=fun n=>n==20}
attribute [local instance 2000] JRi
theorem YK(n:Nat): @Rls.rl JRi n=(n==1):=rfl
theorem Ye(n:Nat): @Rls.tr JRi n=(n==20):=rfl
theorem Ju(sz n:Nat): @Y7 JRi sz n=(sz==1&&n==1):=by unfold Y7;rw[YK];show((sz==1&&n==1)||(false&&_))=_;rw[Bool.false_and,Bool.or_false]
set_option maxHeartbeats 4000000 in
theorem walk9(p0:Prg)(hne:p0.routes≠[])(hsz:nmP p0)(hw:XV (UM p0).routes≤1000000000)(hq:∀w∈wkN (UM p0).routes (UM p0).routes.length,stQ w.step)(h1:p0.schemas≠[])(h2:p0.endpoints≠[])(h3:p0.services≠[])(h4:p0.routes.length≤1000000000)(h5:p0.endpoints.length≤1000000000)(h6:p0.services.length≤1000000000):
  PT 9 [UH p0] (.d (plD (UM p0))):=by
 refine J3.Jg ok9.has fun hfit=>?_
 have hlen:=hfit _ (Vh);simp only[UH,fits,Ua,Vc]at hlen;have hP:PB (UM p0):=⟨by simp only[UM];omega,by simp only[UM];omega,by simp only[UM];omega,h1,h2,h3⟩;have hrl:(UM p0).routes.length≤1000000000:=by simp only[UM,ZO];omega
 have hel:(UM p0).endpoints.length≤1000000000:=h5;have hsl:(UM p0).services.length≤1000000000:=h6;have hrn:(UM p0).routes≠[]:=by
  intro e;have:=congrArg List.length e;simp only[UM,ZO,Vm]at this;exact hne (List.eq_nil_of_length_eq_zero this)
 clear hlen hfit;refine ok9.pc ?_;have c26:=(JPb p0 hne hsz).call trivial;have c29:=(walk29 (UM p0) hw).call trivial;generalize UM p0=p at*;have hv:p.version=p.version:=rfl;simp only[UH,Va,Vb]at c26 c29;simp only[go_sem,ir9,UH,YK,Ye,Ju,Bool.false_and,Vu,nodeAt,Vv,Vc,Nat.reduceAdd,Nat.reduceEqDiff,Nat.reduceBEq,Nat.reduceLeDiff,reduceCtorEq,↓reduceIte];refine wn c26 ?_;simp only[go_sem,YK,Ye,Ju,Bool.false_and,Vu,nodeAt,Vv,Vc,Nat.reduceAdd,Nat.reduceEqDiff,Nat.reduceBEq,Nat.reduceLeDiff,reduceCtorEq,↓reduceIte];refine JH (fun n st=>∃k:Nat,k≤p.routes.length∧n=p.routes.length-k∧
  st=⟨[(1,.ref 1 0),(2,.ref 2 0),(3,.ref 33 0),(4,.d (.int .i64 k))],
   (1,.box [.d (.int .i64 p.version),.d (.list 9 (p.schemas.map UB)),.d (.list 7 (p.endpoints.map Jp)),.d (.list 4 (p.services.map UR)),.d (.list 3 (p.routes.map Un))])::
   (2,.box [.d (.int .i64 0),.d (.nil 9),.d (.nil 7),.d (.nil 4),.d (.nil 20)])::
   TMp p k 0 0 ((ph1 p (p.routes.take k)).map owN) (mpI []) (mpI []) (mpI [])⟩) ?_ ?_
 ·refine⟨_,_,(Wk.nilTB 33 5 1002 20 _ rfl rfl rfl dC).trans (Wk.less ?_),0,Nat.zero_le _,rfl,rfl⟩;simp[go_sem,TMp,mpI,ph1]
 ·rintro n st ⟨k,hk,rfl,rfl⟩;by_cases hlt:k<p.routes.length
  ·have hd:=dT hlt;have hx:=JN Un hlt;have hpk:ph1 p (p.routes.take (k+1))=ph1 p (p.routes.take k)++[p1R p p.routes[k]]:=by
    unfold ph1;rw[List.take_succ_eq_append_getElem hlt,Vw];rfl
   have hpl:(ph1 p (p.routes.take k)).length=k:=by unfold ph1;rw[Vc,List.length_take];omega
   generalize p.routes[k]=r at*;have c27:=(walk27 p r.src hP.ep).call (by simp[XE]);obtain⟨ei,x,e1,he,he2,hex⟩:=ep_ex hP r.src;rw[e1]at c27;have hp1:p1R p r=rnE x.name 21 (scI p x.schema x.version:Nat) (scI p x.schema x.version:Nat):=by unfold p1R epI;rw[e1,he2]
   have c28:=(JPe p x.schema x.version hP.sc).call (by simp[XE]);simp only[UH,Va,Vb]at c27 c28;simp only[Jp]at hex;simp only[Un]at hx;simp only[scI]at hp1;generalize fdQ (fun c:Sch=>c.name==x.schema&&c.version==x.version) p.schemas=si at*;simp only[go_sem,TMp,hd,hx,YK,Ye,Ju,Bool.false_and,Vu,nodeAt,Vv,Vc,Nat.reduceAdd,Nat.reduceEqDiff,Nat.reduceBEq,Nat.reduceLeDiff,reduceCtorEq,↓reduceIte];refine⟨⟨oM,oM⟩,dC,?_⟩;refine wn c27 ?_;simp only[go_sem,hex,YK,Ye,Ju,Bool.false_and,Vu,nodeAt,Vv,Vc,Nat.reduceAdd,Nat.reduceEqDiff,Nat.reduceBEq,Nat.reduceLeDiff,reduceCtorEq,↓reduceIte];refine⟨⟨oM,oM⟩,?_⟩;refine wn c28 ?_;simp only[go_sem,hex,JAZ,YK,Ye,Ju,Bool.false_and,Vu,nodeAt,Vv,Vc,Nat.reduceAdd,Nat.reduceEqDiff,Nat.reduceBEq,Nat.reduceLeDiff,reduceCtorEq,↓reduceIte];refine⟨sP,⟨dC,oM,sP⟩,dC,p.routes.length-(k+1),_,oM,Wk.less ?_,k+1,oM,rfl,rfl⟩;rw[hpk,hp1,Vw,Va,Vb,XM];simp only[rnE,nxD,JE k oM];simp[go_sem,TMp]
  ·have hd:=dF hlt;obtain rfl:k=p.routes.length:=oM;rw[List.take_length];simp only[go_sem,TMp,hd,YK,Ye,Ju,Bool.false_and,Vu,nodeAt,Vv,Vc,Nat.reduceAdd,Nat.reduceEqDiff,Nat.reduceBEq,Nat.reduceLeDiff,reduceCtorEq,↓reduceIte];have hwl:(wkN p.routes p.routes.length).length≤1000000000:=by
    have e1:=JD2 p.routes p.routes.length (Nat.le_refl _);have e2:=Zu p.routes p.routes.length;omega
   have hpl:(ph1 p p.routes).length=p.routes.length:=by unfold ph1;rw[Vc]
   have hN1:=JPj p p.routes;have hN0:0<(ph1 p p.routes).length:=by rw[hpl];exact List.length_pos_iff.2 hrn
   unfold plD plE plN plK plA;generalize wkN p.routes p.routes.length=W at*;generalize ph1 p p.routes=N1 at*;rw[←hpl];refine wn c29 ?_;simp only[go_sem,YK,Ye,Ju,Bool.false_and,Vu,nodeAt,Vv,Vc,Nat.reduceAdd,Nat.reduceEqDiff,Nat.reduceBEq,Nat.reduceLeDiff,reduceCtorEq,↓reduceIte];refine JH (fun n st=>∃(k:Nat) (S:P2),k≤W.length∧n=W.length-k∧S=ph2 p (W.take k) ⟨N1,[],[],[]⟩∧S.N.length≤N1.length+k∧
    st=⟨[(1,.ref 1 0),(2,.ref 2 0),(3,.ref 33 0),(10,.mp 86),(11,.mp 87),(12,.d (.list 13 (W.map Xe))),(13,.d (.int .i64 k))],
     (1,.box [.d (.int .i64 p.version),.d (.list 9 (p.schemas.map UB)),.d (.list 7 (p.endpoints.map Jp)),.d (.list 4 (p.services.map UR)),.d (.list 3 (p.routes.map Un))])::
     (2,.box [.d (.int .i64 0),.d (.nil 9),.d (.nil 7),.d (.nil 4),.d (.nil 20)])::
     (86,.mapo (mpS S.us))::(87,.mapo (mpS S.cs))::TMp p S.N.length 0 0 (S.N.map owN) (mpI S.es) (mpI []) (mpI [])⟩) ?_ ?_
   ·refine⟨_,_,Wk.less ?_,0,_,Nat.zero_le _,rfl,rfl,Nat.le_refl _,rfl⟩;simp[go_sem,TMp,mpI,mpS,ph2]
   ·rintro n st ⟨k,S,hk2,rfl,hS,hSN,rfl⟩;by_cases hlt2:k<W.length
    ·have hd2:decide ((k:Int)<(W.length:Int))=true:=sO;have hx:=JN Xe hlt2;have hS2:ph2 p (W.take (k+1)) ⟨N1,[],[],[]⟩=p2S p S W[k].step:=by
      rw[hS,List.take_succ_eq_append_getElem hlt2];unfold ph2;rw[List.foldl_append];rfl
     have hQ:=hq _ (Vk hlt2);generalize W[k]=w at*;obtain⟨rt,pl,s⟩:=w;simp only[Xe]at hx;simp only at hS2 hQ;have hcell:Dat.cells (Ys s.exprs)=[Ys s.exprs]∧Av.cells (.d (Ys s.exprs))=some [.d (Ys s.exprs)]:=by cases s.exprs<;>exact⟨rfl,rfl⟩
     obtain⟨g1,g2⟩:=hcell;simp only[Dat.cells]at g1;simp only[Av.cells]at g2;have hca:=hQ.ca;have c30:=cp71 p hP s hQ S.N.length 0 0 (S.N.map owN) (puS S.es s.name (S.N.length:Nat)) [] [];simp only[JE8,JMH]at c30;unfold p2S at hS2;generalize Ys s.exprs=E at*;generalize hcs:s.calls=cs at*;simp only[go_sem,TMp,hd2,hx,g1,g2,YK,Ye,Ju,Bool.false_and,Vu,nodeAt,Vv,Vc,Nat.reduceAdd,Nat.reduceEqDiff,Nat.reduceBEq,Nat.reduceLeDiff,reduceCtorEq,↓reduceIte];refine⟨⟨oM,oM⟩,?_⟩;refine JH (fun n st=>∃j:Nat,j≤cs.length∧n=cs.length-j∧
      st=⟨[(1,.ref 1 0),(2,.ref 2 0),(3,.ref 33 0),(10,.mp 86),(11,.mp 87),(12,.d (.list 13 (W.map Xe))),(13,.d (.int .i64 k)),(14,.ref 14 0),(15,.d (.int .i64 j))],
       (1,.box [.d (.int .i64 p.version),.d (.list 9 (p.schemas.map UB)),.d (.list 7 (p.endpoints.map Jp)),.d (.list 4 (p.services.map UR)),.d (.list 3 (p.routes.map Un))])::
       (2,.box [.d (.int .i64 0),.d (.nil 9),.d (.nil 7),.d (.nil 4),.d (.nil 20)])::
       (14,.box [.d (.str s.name),.d (.int .i64 s.kind),.d (.int .i64 s.number),.d (.int .i64 s.time),.d (.int .i64 s.limit),.d (.str s.text),.d (.str s.schema),.d E,.d (.list 6 (s.rules.map Jz)),.d (.list 2 (cs.map JV)),.d (.list 2 (s.branches.map J5))])::
       (86,.mapo (mpS S.us))::(87,.mapo (mpS (JHB S.cs (cs.take j))))::TMp p S.N.length 0 0 (S.N.map owN) (mpI S.es) (mpI []) (mpI [])⟩) ?_ ?_
     ·refine⟨_,_,Wk.less ?_,0,Nat.zero_le _,rfl,rfl⟩;simp[go_sem,TMp,JHB]
     ·rintro n st ⟨j,hj,rfl,rfl⟩;by_cases hjl:j<cs.length
      ·have hdj:decide ((j:Int)<(cs.length:Int))=true:=sO;have hxj:=JN JV hjl;have hcj:JHB S.cs (cs.take (j+1))=JMG (JHB S.cs (cs.take j)) cs[j].service:=by
        unfold JHB;rw[List.take_succ_eq_append_getElem hjl,List.foldl_append];rfl
       generalize cs[j]=c at*;simp only[JV]at hxj;simp only[go_sem,TMp,hdj,hxj,YI,JFF,YK,Ye,Ju,Bool.false_and,Vu,nodeAt,Vv,Vc,Nat.reduceAdd,Nat.reduceEqDiff,Nat.reduceBEq,Nat.reduceLeDiff,reduceCtorEq,↓reduceIte];refine⟨⟨oM,oM⟩,dC,cs.length-(j+1),_,oM,Wk.less ?_,j+1,oM,rfl,rfl⟩;rw[hcj];simp only[JE j oM];simp[go_sem,TMp]
      ·have hdj:decide ((j:Int)<(cs.length:Int))=false:=sO;obtain rfl:j=cs.length:=oM;rw[List.take_length];cases h13:s.kind==13
       ·rw[h13,if_neg Bool.false_ne_true]at hS2;simp only[go_sem,TMp,hdj,h13,YJ,JCg,g1,g2,YK,Ye,Ju,Bool.false_and,Vu,nodeAt,Vv,Vc,Nat.reduceAdd,Nat.reduceEqDiff,Nat.reduceBEq,Nat.reduceLeDiff,reduceCtorEq,↓reduceIte];refine JG rfl c30 ⟨rfl,rfl,rfl,rfl,rfl,trivial⟩ ?_;simp only[go_sem,JAZ,YK,Ye,Ju,Bool.false_and,Vu,nodeAt,Vv,Vc,Nat.reduceAdd,Nat.reduceEqDiff,Nat.reduceBEq,Nat.reduceLeDiff,reduceCtorEq,↓reduceIte];refine⟨sP,⟨dC,oM,sP⟩,dC,W.length-(k+1),_,oM,Wk.less ?_,k+1,⟨S.N++[JDp p s],puS S.es s.name (S.N.length:Nat),S.us,JHB S.cs cs⟩,oM,rfl,hS2.symm,by simp only[Vg,Vf,Vm];omega,rfl⟩;rw[Vw,Va,Vb,JPh,JMH];simp only[JE k oM,hcs,Vg,Vf,Vm];simp[go_sem,TMp]
       ·rw[h13,if_pos rfl]at hS2;simp only[go_sem,TMp,hdj,h13,YI,JFF,YK,Ye,Ju,Bool.false_and,Vu,nodeAt,Vv,Vc,Nat.reduceAdd,Nat.reduceEqDiff,Nat.reduceBEq,Nat.reduceLeDiff,reduceCtorEq,↓reduceIte];refine⟨W.length-(k+1),_,oM,Wk.less ?_,k+1,⟨S.N,S.es,JMG S.us s.text,JHB S.cs cs⟩,oM,rfl,hS2.symm,by show S.N.length≤_;omega,rfl⟩;simp only[JE k oM];simp[go_sem,TMp]
    ·have hd2:decide ((k:Int)<(W.length:Int))=false:=sO;obtain rfl:k=W.length:=oM;rw[List.take_length]at hS;rw[←hS];simp only[go_sem,TMp,hd2,YK,Ye,Ju,Bool.false_and,Vu,nodeAt,Vv,Vc,Nat.reduceAdd,Nat.reduceEqDiff,Nat.reduceBEq,Nat.reduceLeDiff,reduceCtorEq,↓reduceIte];have hSN2:S.N.length≤2000000000:=oM;obtain⟨k1,k2,k3⟩:NB S.N 0∧ME S.es S.N.length∧N1.length≤S.N.length:=by rw[hS];exact JJs hP W ⟨N1,[],[],[]⟩ hq hN1 (ME.nil hN0)
     clear hS hSN hlt2 hk2 hq hlt hk hd;refine JH (fun n st=>∃(k:Nat) (T:List Rn×List (Str×Int)),k≤p.endpoints.length∧n=p.endpoints.length-k∧T=ph3 p S.us (p.endpoints.take k) (S.N,[])∧T.1.length≤S.N.length+k∧
      st=⟨[(1,.ref 1 0),(2,.ref 2 0),(3,.ref 33 0),(10,.mp 86),(11,.mp 87),(16,.d (.int .i64 k))],
       (1,.box [.d (.int .i64 p.version),.d (.list 9 (p.schemas.map UB)),.d (.list 7 (p.endpoints.map Jp)),.d (.list 4 (p.services.map UR)),.d (.list 3 (p.routes.map Un))])::
       (2,.box [.d (.int .i64 0),.d (.nil 9),.d (.nil 7),.d (.nil 4),.d (.nil 20)])::
       (86,.mapo (mpS S.us))::(87,.mapo (mpS S.cs))::TMp p T.1.length 0 0 (T.1.map owN) (mpI S.es) (mpI T.2) (mpI [])⟩) ?_ ?_
     ·refine⟨_,_,Wk.less ?_,0,(S.N,[]),Nat.zero_le _,rfl,rfl,Nat.le_refl _,rfl⟩;simp[go_sem,TMp]
     ·rintro n st ⟨k,T,hk,rfl,hT,hTN,rfl⟩;by_cases hlt:k<p.endpoints.length
      ·have hd:=dT hlt;have hx:=JN Jp hlt;have hT2:ph3 p S.us (p.endpoints.take (k+1)) (S.N,[])=p3S p S.us T p.endpoints[k]:=by
        rw[hT,List.take_succ_eq_append_getElem hlt];unfold ph3;rw[List.foldl_append];rfl
       generalize p.endpoints[k]=x at*;unfold p3S scI at hT2;have c28:=(JPe p x.schema x.version hP.sc).call (by simp[XE]);simp only[UH,Va,Vb]at c28;simp only[Jp]at hx;generalize fdQ (fun c:Sch=>c.name==x.schema&&c.version==x.version) p.schemas=si at*;cases hc:S.us.contains x.name
       ·rw[hc,if_neg Bool.false_ne_true]at hT2;simp only[go_sem,TMp,hd,hx,YI,JD5,hc,YK,Ye,Ju,Bool.false_and,Vu,nodeAt,Vv,Vc,Nat.reduceAdd,Nat.reduceEqDiff,Nat.reduceBEq,Nat.reduceLeDiff,reduceCtorEq,↓reduceIte];refine⟨⟨oM,oM⟩,p.endpoints.length-(k+1),_,oM,Wk.less ?_,k+1,T,oM,rfl,hT2.symm,oM,rfl⟩;simp only[JE k oM];simp[go_sem,TMp]
       ·rw[hc,if_pos rfl]at hT2;simp only[go_sem,TMp,hd,hx,YI,JD5,hc,YK,Ye,Ju,Bool.false_and,Vu,nodeAt,Vv,Vc,Nat.reduceAdd,Nat.reduceEqDiff,Nat.reduceBEq,Nat.reduceLeDiff,reduceCtorEq,↓reduceIte];refine⟨⟨oM,oM⟩,?_⟩;refine wn c28 ?_;simp only[go_sem,YJ,JCg,JAZ,YK,Ye,Ju,Bool.false_and,Vu,nodeAt,Vv,Vc,Nat.reduceAdd,Nat.reduceEqDiff,Nat.reduceBEq,Nat.reduceLeDiff,reduceCtorEq,↓reduceIte];refine⟨sP,⟨dC,oM,sP⟩,dC,p.endpoints.length-(k+1),_,oM,Wk.less ?_,k+1,(T.1++[rnE x.name 22 (si:Nat) (-1)],puS T.2 x.name (T.1.length:Nat)),oM,rfl,hT2.symm,by simp only[Vg,Vf,Vm];omega,rfl⟩;simp only[Vw,Va,Vb,XM,rnE,nxD,JE k oM,Vg,Vf,Vm];simp[go_sem,TMp]
      ·have hd:=dF hlt;obtain rfl:k=p.endpoints.length:=oM;rw[List.take_length]at hT;rw[←hT];simp only[go_sem,TMp,hd,YK,Ye,Ju,Bool.false_and,Vu,nodeAt,Vv,Vc,Nat.reduceAdd,Nat.reduceEqDiff,Nat.reduceBEq,Nat.reduceLeDiff,reduceCtorEq,↓reduceIte];have hTN2:T.1.length≤3000000000:=oM;obtain⟨k4,k5⟩:NB T.1 0∧S.N.length≤T.1.length:=by rw[hT];exact JJt p S.us p.endpoints (S.N,[]) k1
       clear hlt hd hTN hSN2;refine JH (fun n st=>∃(k:Nat) (M:List Rn),k≤p.services.length∧n=p.services.length-k∧M=ph4 p S.cs (p.services.take k) T.1∧M.length≤T.1.length+k∧
        st=⟨[(1,.ref 1 0),(2,.ref 2 0),(3,.ref 33 0),(11,.mp 87),(20,.d (.int .i64 k))],
         (1,.box [.d (.int .i64 p.version),.d (.list 9 (p.schemas.map UB)),.d (.list 7 (p.endpoints.map Jp)),.d (.list 4 (p.services.map UR)),.d (.list 3 (p.routes.map Un))])::
         (2,.box [.d (.int .i64 0),.d (.nil 9),.d (.nil 7),.d (.nil 4),.d (.nil 20)])::
         (87,.mapo (mpS S.cs))::TMp p M.length 0 0 (M.map owN) (mpI S.es) (mpI T.2) (mpI [])⟩) ?_ ?_
       ·refine⟨_,_,Wk.less ?_,0,T.1,Nat.zero_le _,rfl,rfl,Nat.le_refl _,rfl⟩;simp[go_sem,TMp]
       ·rintro n st ⟨k,M,hk,rfl,hM,hMN,rfl⟩;by_cases hlt:k<p.services.length
        ·have hd:=dT hlt;have hx:=JN UR hlt;have hM2:ph4 p S.cs (p.services.take (k+1)) T.1=p4S p S.cs M p.services[k]:=by
          rw[hM,List.take_succ_eq_append_getElem hlt];unfold ph4;rw[List.foldl_append];rfl
         generalize p.services[k]=x at*;unfold p4S at hM2;have c31a:=(JAK p x.request hP.sc).call (by simp[XE]);have c31b:=(JAK p x.reply hP.sc).call (by simp[XE]);simp only[UH,Va,Vb]at c31a c31b;simp only[UR]at hx;generalize JCe p.schemas x.request=la at*;generalize JCe p.schemas x.reply=lb at*;cases hc:S.cs.contains x.name
         ·rw[hc,if_neg Bool.false_ne_true]at hM2;simp only[go_sem,TMp,hd,hx,YI,JD5,hc,YK,Ye,Ju,Bool.false_and,Vu,nodeAt,Vv,Vc,Nat.reduceAdd,Nat.reduceEqDiff,Nat.reduceBEq,Nat.reduceLeDiff,reduceCtorEq,↓reduceIte];refine⟨⟨oM,oM⟩,p.services.length-(k+1),_,oM,Wk.less ?_,k+1,M,oM,rfl,hM2.symm,oM,rfl⟩;simp only[JE k oM];simp[go_sem,TMp]
         ·rw[hc,if_pos rfl]at hM2;simp only[go_sem,TMp,hd,hx,YI,JD5,hc,YK,Ye,Ju,Bool.false_and,Vu,nodeAt,Vv,Vc,Nat.reduceAdd,Nat.reduceEqDiff,Nat.reduceBEq,Nat.reduceLeDiff,reduceCtorEq,↓reduceIte];refine⟨⟨oM,oM⟩,?_⟩;refine wn c31a ?_;simp only[go_sem,YK,Ye,Ju,Bool.false_and,Vu,nodeAt,Vv,Vc,Nat.reduceAdd,Nat.reduceEqDiff,Nat.reduceBEq,Nat.reduceLeDiff,reduceCtorEq,↓reduceIte];refine wn c31b ?_;simp only[go_sem,YJ,JCg,JAZ,YK,Ye,Ju,Bool.false_and,Vu,nodeAt,Vv,Vc,Nat.reduceAdd,Nat.reduceEqDiff,Nat.reduceBEq,Nat.reduceLeDiff,reduceCtorEq,↓reduceIte];refine⟨sP,⟨dC,oM,sP⟩,dC,p.services.length-(k+1),_,oM,Wk.less ?_,k+1,M++[rnE x.name 23 (la.1:Nat) (lb.1:Nat)],oM,rfl,hM2.symm,by simp only[Vg,Vf,Vm];omega,rfl⟩;simp only[Vw,Va,Vb,XM,rnE,nxD,JE k oM,Vg,Vf,Vm];simp[go_sem,TMp]
        ·have hd:=dF hlt;obtain rfl:k=p.services.length:=oM;rw[List.take_length]at hM;rw[←hM];simp only[go_sem,TMp,hd,YK,Ye,Ju,Bool.false_and,Vu,nodeAt,Vv,Vc,Nat.reduceAdd,Nat.reduceEqDiff,Nat.reduceBEq,Nat.reduceLeDiff,reduceCtorEq,↓reduceIte];obtain⟨k6,k7⟩:NB M 0∧T.1.length≤M.length:=by rw[hM];exact JJu p S.cs p.services T.1 k4
         have hRM:p.routes.length≤M.length:=oM;have hME:ME S.es M.length:=k2.le oM;have h5ok:=JJv (p:=p) (es:=S.es) (ek:=T.2) (S:=(M,0)) hRM k6;clear hlt hd hMN hM hT;refine JH (fun n st=>∃(k:Nat) (U:NS),k≤p.routes.length∧n=p.routes.length-k∧U=ph5 p S.es T.2 k (M,0)∧
          st=⟨[(1,.ref 1 0),(2,.ref 2 0),(3,.ref 33 0),(26,.d (.int .i64 k))],
           (1,.box [.d (.int .i64 p.version),.d (.list 9 (p.schemas.map UB)),.d (.list 7 (p.endpoints.map Jp)),.d (.list 4 (p.services.map UR)),.d (.list 3 (p.routes.map Un))])::
           (2,.box [.d (.int .i64 0),.d (.nil 9),.d (.nil 7),.d (.nil 4),.d (.nil 20)])::
           TMp p M.length 0 U.2 (U.1.map owN) (mpI S.es) (mpI T.2) (mpI [])⟩) ?_ ?_
         ·refine⟨_,_,Wk.less ?_,0,(M,0),Nat.zero_le _,rfl,rfl,rfl⟩;simp[go_sem,TMp]
         ·rintro n st ⟨k,U,hk,rfl,hU,rfl⟩;by_cases hlt:k<p.routes.length
          ·have hd:=dT hlt;have hx:=JN Un hlt;obtain⟨hNB,hUl⟩:=h5ok k oM;have hRs:=JMJ hlt;have hszs:=JGC hlt;have hszt:=Zu p.routes (k+1);rw[←hU]at hNB hUl;have hil:k<U.1.length:=by rw[hUl];show k<M.length;omega
           have hU2:=JIj p S.es T.2 k (M,0);rw[←hU,JPk hlt hil]at hU2;generalize p.routes[k]=r at*;have c32:=cp73 p r.steps (-1) M.length 0 U.2 (U.1.map owN) S.es T.2 [];generalize bgn S.es T.2 r.steps (-1)=z at*;obtain⟨n,hnn⟩:∃n,n=U.1[k]:=⟨_,rfl⟩;rw[←hnn]at hU2;have hn0:∀Y:List Dat,nodeAt (.own 20 Y) []=some (.own 20 Y):=fun _=>rfl
           have g0:nth (U.1.map owN) k=owN n:=by rw[hnn];exact JN owN hil
           have g1:(U.1.map owN).getD k .opq=owN n:=g0;have g2:∀y,nth ((U.1.map owN).set k y) k=y:=fun y=>by rw[XL (sX hil)];simp
           have g3:∀y,((U.1.map owN).set k y).getD k .opq=y:=g2;have hNB2:NB (U.1.set k (n.nxt [z])) (0+k+XV (p.routes.take k)+1):=(hNB.le (Nat.le_succ _)).set ((hNB n (by rw[hnn];exact Vk _)).1.nxt _) (by simp[Rn.nxt]);have c33:=cp74 (w74 hP r.steps) (es:=S.es) (ek:=T.2) (ev:=[]) (v:=M.length) (s0:=0) (U.1.set k (n.nxt [z]),U.2+1) n.schema (-1) _ (fun j=>by obtain⟨a,b1,b2⟩:=hME j;exact⟨a,b1,by show a<(U.1.set k _).length;rw[List.length_set,hUl];exact b2⟩) hNB2 oM;simp only at c33;rw[XB,XM]at c33;rw[XM n]at g0 g1;simp only[Rn.nxt,nxD,Va,Vb]at c33 hU2;simp only[Un]at hx;simp only[go_sem,TMp,hd,hx,YK,Ye,Ju,Bool.false_and,Vu,nodeAt,hn0,g0,g1,g2,g3,List.length_set,List.set_set,List.set_cons_succ,List.set_cons_zero,List.any_cons,List.any_nil,J2,Bool.or_false,Vt,Bool.true_or,Bool.or_true,decide_true,beq_self_eq_true,Vv,Vc,Nat.reduceAdd,Nat.reduceEqDiff,Nat.reduceBEq,Nat.reduceLeDiff,reduceCtorEq,↓reduceIte];refine⟨⟨oM,oM⟩,dC,?_⟩;refine JG rfl c32 ⟨rfl,rfl,rfl,rfl,rfl,trivial⟩ ?_;simp only[go_sem,hx,YK,Ye,Ju,Bool.false_and,Vu,nodeAt,hn0,g0,g1,g2,g3,List.length_set,List.set_set,List.set_cons_succ,List.set_cons_zero,List.any_cons,List.any_nil,J2,Bool.or_false,Vt,Bool.true_or,Bool.or_true,decide_true,beq_self_eq_true,Vv,Vc,Nat.reduceAdd,Nat.reduceEqDiff,Nat.reduceBEq,Nat.reduceLeDiff,reduceCtorEq,↓reduceIte];refine⟨sP,⟨oM,oM⟩,hil,dC,⟨oM,oM⟩,dC,⟨oM,oM⟩,⟨hil,dC⟩,?_⟩;refine JU rfl c33 ⟨rfl,rfl,rfl,rfl,rfl,trivial⟩ ?_;simp only[go_sem,YK,Ye,Ju,Bool.false_and,Vu,nodeAt,Vv,Vc,Nat.reduceAdd,Nat.reduceEqDiff,Nat.reduceBEq,Nat.reduceLeDiff,reduceCtorEq,↓reduceIte];refine⟨p.routes.length-(k+1),_,oM,Wk.less ?_,k+1,_,oM,rfl,hU2.symm,rfl⟩;simp only[JE k oM];simp[go_sem,TMp]
          ·have hd:=dF hlt;obtain rfl:k=p.routes.length:=oM;simp only[go_sem,TMp,hd,YK,Ye,Ju,Bool.false_and,Vu,nodeAt,Vv,Vc,Nat.reduceAdd,Nat.reduceEqDiff,Nat.reduceBEq,Nat.reduceLeDiff,reduceCtorEq,↓reduceIte];rw[hU,hpl]
end
end Go.Proofs
namespace Go.Proofs
open Go Av
structure Pn where
 version:Int
 schemas:List Sch
 endpoints:List Epd
 services:List Svc
 nodes:List Nd
def Ug(q:Pn):Dat:=.agg [.int .i64 q.version,.list 9 (q.schemas.map UB),.list 7 (q.endpoints.map Jp),.list 4 (q.services.map UR),.list 20 (q.nodes.map Uq)]
theorem JRj(l:List Int):(nxD l).dat.canon=.list 1 (l.map (.int .i64)):=by
 cases l with
 |nil=>rfl
 |cons a r=>
  simp only[nxD,Dat.dat,Dat.canon];have:∀l:List Int,JI (Dat.dat.datL (l.map (.int .i64)))=l.map (.int .i64):=by
   intro l
   induction l with
   |nil=>rfl
   |cons a r ih=>rw[Va,JBI,JI,ih];rfl
  rw[this]
structure BN(n:Nd):Prop where
 ts:n.types.length≤4000000000
 ex:n.exprs.length≤4000000000
 ca:n.calls.length≤4000000000
 nx:n.next.length≤4000000000
theorem okR.nd{n:Rn}(h:okR n)(hl:n.next.length≤4000000000):∃m:Nd,(owN n).dat.canon=Uq m∧BN m:=by
 obtain⟨w,h1⟩:=h.tw;obtain⟨e,h2⟩:=h.te;obtain⟨f,h3⟩:=h.tf;obtain⟨ts,h4,l4⟩:=h.ts;obtain⟨ex,h5,l5⟩:=h.ex;obtain⟨ru,h6⟩:=h.ru;obtain⟨ca,h7,l7⟩:=h.ca;refine⟨⟨n.name,n.kind,n.schema,n.result,n.number,n.time,n.limit,n.text,.mk n.tk n.tn n.tm n.tc w e f,ts,ex,ru,ca,n.next⟩,?_,⟨l4,l5,l7,hl⟩⟩;simp only[owN,Uq,Dat.dat,Dat.dat.datL,Dat.canon,JI,h1,h2,h3,h4,h5,h6,h7,JRj];rfl
theorem JPl:∀N:List Rn,NB N 4000000000→∃l:List Nd,JI (Dat.dat.datL (N.map owN))=l.map Uq∧l.length=N.length∧∀n∈l,BN n
 |[],_=>⟨[],rfl,rfl,fun _ h=>by cases h⟩
 |n::r,h=>by
  obtain⟨m,hm,hb⟩:=(h n Vh).1.nd (h n Vh).2;obtain⟨l,hl,hn,hbs⟩:=JPl r fun x hx=>h x (Vn _ hx)
  refine⟨m::l,by rw[Va,JBI,JI,hm,hl];rfl,by simp[hn],fun x hx=>?_⟩;rcases VA.1 hx with rfl|hx
  ·exact hb
  ·exact hbs x hx
theorem JK1(p:Prg):∀(l:List Wlk) (S:P2),(ph2 p l S).N.length≤S.N.length+l.length
 |[],S=>Nat.le_refl _
 |w::r,S=>by
  have h:=JK1 p r (p2S p S w.step);have h2:(p2S p S w.step).N.length≤S.N.length+1:=by unfold p2S;split<;>simp
  show(ph2 p r (p2S p S w.step)).N.length≤_;simp only[Vf];omega
theorem JK2(p:Prg)(us:List Str):∀(l:List Epd) (S:List Rn×List (Str×Int)),(ph3 p us l S).1.length≤S.1.length+l.length
 |[],S=>Nat.le_refl _
 |x::r,S=>by
  have h:=JK2 p us r (p3S p us S x);have h2:(p3S p us S x).1.length≤S.1.length+1:=by unfold p3S;split<;>simp
  show(ph3 p us r (p3S p us S x)).1.length≤_;simp only[Vf];omega
theorem JK3(p:Prg)(cs:List Str):∀(l:List Svc) (N:List Rn),(ph4 p cs l N).length≤N.length+l.length
 |[],N=>Nat.le_refl _
 |x::r,N=>by
  have h:=JK3 p cs r (p4S p cs N x);have h2:(p4S p cs N x).length≤N.length+1:=by unfold p4S;split<;>simp
  show(ph4 p cs r (p4S p cs N x)).length≤_;simp only[Vf];omega
structure PnB(q:Pn):Prop where
 n0:q.nodes.length≤4000000000
 n1:q.nodes≠[]
 nd:∀n∈q.nodes,BN n
theorem JRk{p:Prg}(hP:PB p)(hrn:p.routes≠[])(hw:XV p.routes≤1000000000)(hq:∀w∈wkN p.routes p.routes.length,stQ w.step)(h4:p.routes.length≤1000000000)(h5:p.endpoints.length≤1000000000)(h6:p.services.length≤1000000000):∃q:Pn,plD p=Ug q∧PnB q:=by
 have hN1:=JPj p p.routes;have hpl:(ph1 p p.routes).length=p.routes.length:=by unfold ph1;rw[Vc]
 have hN0:0<(ph1 p p.routes).length:=by rw[hpl];exact List.length_pos_iff.2 hrn
 obtain⟨k1,k2,k3⟩:=JJs hP (wkN p.routes p.routes.length) ⟨ph1 p p.routes,[],[],[]⟩ hq hN1 (ME.nil hN0);obtain⟨k4,k5⟩:=JJt p (plA p).us p.endpoints ((plA p).N,[]) k1;obtain⟨k6,k7⟩:=JJu p (plA p).cs p.services (plK p).1 k4;have e1:(ph1 p p.routes).length≤(plA p).N.length:=k3;have e2:(plA p).N.length≤(plK p).1.length:=k5;have hle:p.routes.length≤(plN p).length:=by
  show _≤(ph4 p (plA p).cs p.services (plK p).1).length;omega
 have hwl:(wkN p.routes p.routes.length).length≤1000000000:=by
  have e1:=JD2 p.routes p.routes.length (Nat.le_refl _);have e2:=Zu p.routes p.routes.length;omega
 have l2:(plA p).N.length≤(ph1 p p.routes).length+(wkN p.routes p.routes.length).length:=JK1 p _ _;have l3:(plK p).1.length≤(plA p).N.length+p.endpoints.length:=JK2 p _ _ _;have l4:(plN p).length≤(plK p).1.length+p.services.length:=JK3 p _ _ _;have h5:=JJv (p:=p) (es:=(plA p).es) (ek:=(plK p).2) (S:=(plN p,0)) hle k6 p.routes.length (Nat.le_refl _);rw[List.take_length]at h5;obtain⟨l,hl,hn,hb⟩:=JPl (plE p).1 (h5.1.le oM);have hn2:l.length=(plN p).length:=hn.trans h5.2;have hl0:l≠[]:=by
  intro e;have e2:l.length=0:=by rw[e];rfl
  omega
 exact⟨⟨p.version,p.schemas,p.endpoints,p.services,l⟩,by unfold plD Ug;rw[hl],⟨by show l.length≤_;omega,hl0,hb⟩⟩
def mkP(rs:List (List S3)):Prg:=UM (JE0 (XI rs 3))
theorem walk8(rs:List (List S3))(h:JG1 rs)(ch:Int)(ev:List Dat)(hsz:nmP (JE0 (XI rs 3))):
    ∃ev2:List Dat,J3 Tryz.prog 8 [ZP rs ch ev] (.tup [.d (UH (mkP rs)),.d (.list 6 ev2)]):=by
  refine⟨((ev.drop 0).take ((if(24:Int)<(ev.length:Int)then 24 else(ev.length:Int))-0).toNat),?_⟩
  refine ok8.con (k:=none) (Nat.le_of_ble_eq_true rfl) (by intro i o h;cases h) (by simp[inT,JS,JT]) ?_
  have c25:=(con25 rs h ch ev hsz).call trivial
  unfold mkP
  generalize UM (JE0 (XI rs 3))=q at*
  simp only[UH,ZP,Va,Vb]at c25⊢
  simp only[go_sem,ir8,Vv,Vc,Nat.reduceAdd,Nat.reduceEqDiff,Nat.reduceBEq,Nat.reduceLeDiff,reduceCtorEq,↓reduceIte]
  refine JG rfl c25 trivial ?_
  simp only[go_sem,Vv,Vc,Nat.reduceAdd,Nat.reduceEqDiff,Nat.reduceBEq,Nat.reduceLeDiff,reduceCtorEq,↓reduceIte]
  refine⟨⟨by omega,by split<;>omega,by split<;>omega⟩,by decide,rfl⟩
end Go.Proofs
namespace Go.Proofs
open Go Av
open Av.Y
def ir11:Ic:=q (.reg (oN 0 yT<|N))<|q (R (oo 1 (.bls 1 [.k (.str [97]),.k (.str [98]),.k (.str [99])])<|oo 2 (.bld yT [(0,1,i 4),(4,1,t 1)])<|oS 7 0 2<|N) [1,2])<|.ret
theorem ok11:FT 11 3 ir11 [.cell 0 (some 7)]:=.o Tryz.func11
end Go.Proofs
namespace Go.Proofs
open Go Av
variable {b:Nat}
structure Cg where
 node:Int
 field:Int
 number:Int
 text:Str
def Zx(c:Cg):Dat:=.agg [.int .u8 c.node,.int .u8 c.field,.int .i64 c.number,.str c.text]
def JIk(c:Cg):Prop:=0≤c.node∧c.node≤255∧0≤c.field∧c.field≤255
structure Rc where
 n:Nd
 exn:Bool
 ca:List (Bool×Kal)
def JIl(x:Bool×Kal):Dat:=.agg [.str x.2.service,if x.1 then .nil 6 else .list 6 (x.2.rules.map Jz)]
def exC(r:Rc):Dat:=if r.exn then .nil 5 else .list 5 (r.n.exprs.map JX)
def Xw(r:Rc):Dat:=.agg [.str r.n.name,.int .i64 r.n.kind,.int .i64 r.n.schema,.int .i64 r.n.result,.int .i64 r.n.number,.int .i64 r.n.time,.int .i64 r.n.limit,.str r.n.text,.int .i64 r.n.type.kind,.int .i64 r.n.type.min,.int .i64 r.n.type.max,.int .i64 r.n.type.scale,.list 1 (r.n.type.words.map .str),.list 7 (r.n.type.elem.map UW),.list 11 (r.n.type.fields.map Xy),.list 7 (r.n.types.map UW),exC r,.list 6 (r.n.rules.map Jz),.list 2 (r.ca.map JIl),.list 1 (r.n.next.map (.int .i64))]
def JFV(n:Nd):Rc:=⟨n,false,n.calls.map fun k=>(false,k)⟩
def JPm(r:Rc):Nd:={r.n with calls:=r.ca.map Prod.snd}
structure okC(b:Nat)(r:Rc):Prop where
 ex:r.exn=true→r.n.exprs=[]
 ca:∀x∈r.ca,x.1=true→x.2.rules=[]
 l1:r.n.types.length≤b
 l2:r.n.exprs.length≤b
 l3:r.ca.length≤b
 l4:r.n.next.length≤b
def JK4:Typ:=.mk 4 0 0 0 [[97],[98],[99]] [] []
def tx40(s:Str):Str:=s.take (if(40:Int)<(s.length:Int)then 40 else(s.length:Int)).toNat
def chR(first:Str)(c:Cg)(r:Rc):Rc:=
 let f:=c.field.tmod 12
 if f==0 then{r with n:={r.n with name:=tx40 c.text}}
 else if f==1 then{r with n:={r.n with kind:=c.number}}
 else if f==2 then{r with n:={r.n with schema:=c.number}}
 else if f==3 then{r with n:={r.n with result:=c.number}}
 else if f==4 then{r with n:={r.n with exprs:=r.n.exprs++[Jt 1]},exn:=false}
 else if f==5 then{r with n:={r.n with exprs:=[]},exn:=true}
 else if f==6 then{r with ca:=r.ca++[(true,⟨[112,97,121],[]⟩)]}
 else if f==7 then{r with n:={r.n with types:=r.n.types++[JK4]}}
 else if f==8 then{r with n:={r.n with next:=r.n.next++[c.number]}}
 else if f==9 then{r with n:={r.n with next:=[c.number]}}
 else if f==10 then{r with n:={r.n with number:=c.number}}
 else{r with n:={r.n with name:=first}}
def Yf(R:List Rc)(c:Cg):List Rc:=match R[(c.node.tmod R.length).toNat]? with
 |some r=>R.set (c.node.tmod R.length).toNat (chR ((R[0]?.map fun x=>x.n.name).getD []) c r)
 |none=>R
theorem JPn(R:List Rc)(c:Cg):(Yf R c).length=R.length:=by unfold Yf;split<;>simp
theorem walk11:PT 11 [] (.d (UW JK4)):=by
 refine ok11.pc ?_;simp only[go_sem,ir11,JK4,UA,Typ.kind,Typ.min,Typ.max,Typ.scale,Typ.words,Typ.elem,Typ.fields,Va,Vb,Vv,Vc,simprocAttr];simp
theorem X9{P:Prop}[Decidable P]{x y:Rc}(h1:okC b x)(h2:okC b y):okC b (if P then x else y):=by
 by_cases h:P
 ·rw[if_pos h];exact h1
 ·rw[if_neg h];exact h2
theorem chR_ok{r:Rc}(h:okC b r)(s:Str)(c:Cg):okC (b+1) (chR s c r):=by
 obtain⟨h1,h2,h3,h4,h5,h6⟩:=h;have p3:r.n.types.length≤b+1:=oM;have p4:r.n.exprs.length≤b+1:=oM;have p5:r.ca.length≤b+1:=oM;have p6:r.n.next.length≤b+1:=oM;unfold chR;refine X9 ⟨h1,h2,p3,p4,p5,p6⟩ (X9 ⟨h1,h2,p3,p4,p5,p6⟩ (X9 ⟨h1,h2,p3,p4,p5,p6⟩ (X9 ⟨h1,h2,p3,p4,p5,p6⟩ (X9 ⟨fun e=>(by cases e),h2,p3,?_,p5,p6⟩ (X9 ⟨fun _=>rfl,h2,p3,sP,p5,p6⟩
  (X9 ⟨h1,?_,p3,p4,?_,p6⟩ (X9 ⟨h1,h2,?_,p4,p5,p6⟩ (X9 ⟨h1,h2,p3,p4,p5,?_⟩ (X9 ⟨h1,h2,p3,p4,p5,sP⟩ (X9 ⟨h1,h2,p3,p4,p5,p6⟩ ⟨h1,h2,p3,p4,p5,p6⟩))))))))))
 ·simp only[Vg,Vf,Vm];omega
 ·intro x hx hx1;rcases List.mem_append.1 hx with hx|hx
  ·exact h2 x hx hx1
  ·rw[List.mem_singleton.1 hx]
 ·simp only[Vg,Vf,Vm];omega
 ·simp only[Vg,Vf,Vm];omega
 ·simp only[Vg,Vf,Vm];omega
theorem JRl{R:List Rc}(h:∀r∈R,okC b r)(c:Cg):∀r∈Yf R c,okC (b+1) r:=by
 have hm:∀r∈R,okC (b+1) r:=fun r hr=>by
  obtain⟨h1,h2,h3,h4,h5,h6⟩:=h r hr;exact⟨h1,h2,oM,oM,oM,oM⟩
 intro r hr;unfold Yf at hr;split at hr
 ·rename_i x e;rcases List.mem_or_eq_of_mem_set hr with hr|hr
  ·exact hm r hr
  ·rw[hr];exact chR_ok (h x (List.mem_of_getElem? e)) _ _
 ·exact hm r hr
theorem JJw{x:Bool×Kal}(h:x.1=true→x.2.rules=[]):(JIl x).canon=JV x.2:=by
 obtain⟨b,k⟩:=x;cases b with
 |false=>simp only[JIl,Dat.canon,JI,JV,Vu,if_false,Ul]
 |true=>
  have h2:k.rules=[]:=h rfl;simp only[JIl,Dat.canon,JI,JV,if_true,h2,Vb]
theorem JIm{r:Rc}(h:okC b r):(Xw r).canon=Uq (JPm r):=by
 have h1:JI (r.ca.map JIl)=(r.ca.map Prod.snd).map JV:=by
  rw[J1,List.map_map,List.map_map];exact List.map_congr_left fun x hx=>JJw (h.ca x hx)
 have h2:(exC r).canon=.list 5 (r.n.exprs.map JX):=by
  unfold exC;split
  ·rename_i e;rw[h.ex e];rfl
  ·simp only[Dat.canon,UK]
 simp only[Xw,Uq,JPm,Dat.canon,JI,h1,h2,YY,YZ,Za,Ul,XU]
end Go.Proofs
namespace Go.Proofs
open Go Av
open Go.Proofs.YteadlnapgiochaaGreatDoor.Rows (uptoBulk uptoBulkAll)
theorem qc3:Tryz.prog.cellsOf 3=1:=kR
theorem qc5:Tryz.prog.cellsOf 5=1:=kR
theorem qc9:Tryz.prog.cellsOf 9=1:=kR
theorem qc22:Tryz.prog.cellsOf 22=1:=kR
theorem qc23:Tryz.prog.cellsOf 23=1:=kR
theorem qc58:Tryz.prog.cellsOf 58=4:=kR
theorem qc135:Tryz.prog.cellsOf 135=1:=kR
theorem JS8:Tryz.prog.cellsOf 210=3:=kR
theorem JPo:Tryz.prog.cellsOf 538=1:=kR
theorem JS9:Tryz.prog.cellsOf 540=6:=kR
theorem qcW:Tryz.prog.cellsOf 25=3:=kR
section
variable {H:Type}{enc:TypeId×Value→H}{w:World}{base:Nat}{spare:Nat→Bool}{held:Bool}
theorem fl9{fs:Array Field}{n:Nat}{cs:List Value}{xs:List (DataW H×List MemPlace)}
  (hf:∀(i:Nat) (f:Field),fs[i]? =some f→DataW.trod enc Tryz.prog w base spare held n f.type ((cs.drop f.offset).take (Tryz.prog.cellsOf f.type))=xs[i]?)
  (i:Nat)(t off:Nat){k:Nat}(hi:(fs[i]?).map (fun f=>(f.type,f.offset))=some (t,off))(hc:Tryz.prog.cellsOf t=k):DataW.trod enc Tryz.prog w base spare held n t ((cs.drop off).take k)=xs[i]? :=by
 cases e:fs[i]? with
 |none=>rw[e]at hi;cases hi
 |some f=>
  rw[e]at hi;simp only[Vj,Vd,Ve]at hi;have:=hf i f e;rw[hi.1,hi.2,hc]at this;exact this
theorem JCk{fuel:Nat}{cs:List Value}{x:DataW H×List MemPlace}(h:DataW.trod enc Tryz.prog w base spare held fuel 5 cs=some x):
  ∃n:Int,0≤n∧n≤255∧CR (old w) w [.int .u8 n] cs:=by
 obtain⟨n,rfl,_,hw⟩:=DataW.trod_int Tryz.underlying5 h;have hw':IntKind.min .u8≤n∧n≤IntKind.max .u8:=by simpa[Lit.wf,Vi]using hw
 have e1:IntKind.u8.min=0:=dC;have e2:IntKind.u8.max=255:=dC;rw[e1,e2]at hw';refine⟨n,hw'.1,hw'.2,.one rfl (.int .u8 n ?_)⟩;simpa[Lit.wf,Vi]using hw
def JPp:Int×Int×Int×Int×Int×Int→Dat:=fun e=>.agg [.int .u8 e.1,.int .u8 e.2.1,.int .u8 e.2.2.1,.int .u16 e.2.2.2.1,.int .u16 e.2.2.2.2.1,.int .u16 e.2.2.2.2.2]
theorem rd_210(fuel:Nat):∀(cs:List Value) (x:DataW H×List MemPlace),DataW.trod enc Tryz.prog w base spare held fuel 210 cs=some x→uptoBulk x.1≤1048576→∃a:S3,JE6 a∧CR (old w) w (JAG a).cells cs:=by
 intro csn x hn hbn;obtain⟨xs,n',rfl,rfl,hl,hlen,hf⟩:=DataW.trod_struct Tryz.underlying210 hn;rw[JS8]at hl;have h0:=fl9 hf 0 5 0 rfl qc5;have h1:=fl9 hf 1 5 1 rfl qc5;have h2:=fl9 hf 2 5 2 rfl qc5
 match xs,hlen,csn,hl with
 |[y0,y1,y2],_,[a0,a1,a2],_=>
  simp only[Va,Vb,uptoBulk,uptoBulkAll]at hbn;obtain⟨z0,o0,p0,g0⟩:=JCk (show DataW.trod enc Tryz.prog w base spare held n' 5 [a0]=some y0 from h0);obtain⟨z1,o1,p1,g1⟩:=JCk (show DataW.trod enc Tryz.prog w base spare held n' 5 [a1]=some y1 from h1);obtain⟨z2,o2,p2,g2⟩:=JCk (show DataW.trod enc Tryz.prog w base spare held n' 5 [a2]=some y2 from h2);refine⟨⟨z0,z1,z2⟩,⟨o0,p0,o1,p1,o2,p2⟩,?_⟩;have:=g0.append (g1.append g2);simpa only[JAG,UL,Dat.cells,List.singleton_append,List.cons_append,List.nil_append,List.append_assoc]using this
theorem rd_135(fuel:Nat):∀(cs:List Value) (x:DataW H×List MemPlace),DataW.trod enc Tryz.prog w base spare held fuel 135 cs=some x→uptoBulk x.1≤1048576→∃a:List S3,(∀x∈a,JE6 x)∧CR (old w) w [.list 3 (a.map JAG)] cs:=by
 intro csn x hn hbn;obtain⟨z,_,o,g⟩:=JCK (encA:=JAG) (ok:=fun x=>JE6 x) Tryz.underlying135 JS8 dC (fun _=>rfl) hn hbn (fun m cs' y _ hy hyb=>rd_210 m cs' y hy hyb);exact⟨z,o,g⟩
theorem rd_22(fuel:Nat):∀(cs:List Value) (x:DataW H×List MemPlace),DataW.trod enc Tryz.prog w base spare held fuel 22 cs=some x→uptoBulk x.1≤1048576→∃a:List (List S3),(∀x∈a,∀y∈x,JE6 y)∧CR (old w) w [.list 1 (a.map (fun l:List S3=>Dat.list 3 (l.map JAG)))] cs:=by
 intro csn x hn hbn;obtain⟨z,_,o,g⟩:=JCK (encA:=(fun l:List S3=>Dat.list 3 (l.map JAG))) (ok:=fun x=>∀y∈x,JE6 y) Tryz.underlying22 qc135 dC (fun _=>rfl) hn hbn (fun m cs' y _ hy hyb=>by
  obtain⟨a,o,g⟩:=rd_135 m cs' y hy hyb;exact⟨a,o,g⟩)
 exact⟨z,o,g⟩
theorem rd_540(fuel:Nat):∀(cs:List Value) (x:DataW H×List MemPlace),DataW.trod enc Tryz.prog w base spare held fuel 540 cs=some x→uptoBulk x.1≤1048576→∃a:(Int×Int×Int×Int×Int×Int),True∧CR (old w) w (JPp a).cells cs:=by
 intro csn x hn hbn;obtain⟨xs,n',rfl,rfl,hl,hlen,hf⟩:=DataW.trod_struct Tryz.underlying540 hn;rw[JS9]at hl;have h0:=fl9 hf 0 5 0 rfl qc5;have h1:=fl9 hf 1 5 1 rfl qc5;have h2:=fl9 hf 2 5 2 rfl qc5;have h3:=fl9 hf 3 538 3 rfl JPo;have h4:=fl9 hf 4 538 4 rfl JPo;have h5:=fl9 hf 5 538 5 rfl JPo
 match xs,hlen,csn,hl with
 |[y0,y1,y2,y3,y4,y5],_,[a0,a1,a2,a3,a4,a5],_=>
  simp only[Va,Vb,uptoBulk,uptoBulkAll]at hbn;obtain⟨z0,o0,p0,g0⟩:=JCk (show DataW.trod enc Tryz.prog w base spare held n' 5 [a0]=some y0 from h0);obtain⟨z1,o1,p1,g1⟩:=JCk (show DataW.trod enc Tryz.prog w base spare held n' 5 [a1]=some y1 from h1);obtain⟨z2,o2,p2,g2⟩:=JCk (show DataW.trod enc Tryz.prog w base spare held n' 5 [a2]=some y2 from h2);obtain⟨z3,g3⟩:=JGh Tryz.underlying538 (show DataW.trod enc Tryz.prog w base spare held n' 538 [a3]=some y3 from h3);obtain⟨z4,g4⟩:=JGh Tryz.underlying538 (show DataW.trod enc Tryz.prog w base spare held n' 538 [a4]=some y4 from h4);obtain⟨z5,g5⟩:=JGh Tryz.underlying538 (show DataW.trod enc Tryz.prog w base spare held n' 538 [a5]=some y5 from h5);refine⟨⟨z0,z1,z2,z3,z4,z5⟩,trivial,?_⟩;have:=g0.append (g1.append (g2.append (g3.append (g4.append g5))));simpa only[JPp,Dat.cells,List.singleton_append,List.cons_append,List.nil_append,List.append_assoc]using this
theorem rd_23(fuel:Nat):∀(cs:List Value) (x:DataW H×List MemPlace),DataW.trod enc Tryz.prog w base spare held fuel 23 cs=some x→uptoBulk x.1≤1048576→∃a:List (Int×Int×Int×Int×Int×Int),(∀x∈a,True)∧CR (old w) w [.list 6 (a.map JPp)] cs:=by
 intro csn x hn hbn;obtain⟨z,_,o,g⟩:=JCK (encA:=JPp) (ok:=fun x=>True) Tryz.underlying23 JS9 dC (fun _=>rfl) hn hbn (fun m cs' y _ hy hyb=>rd_540 m cs' y hy hyb);exact⟨z,o,g⟩
theorem rd_25(fuel:Nat):∀(cs:List Value) (x:DataW H×List MemPlace),DataW.trod enc Tryz.prog w base spare held fuel 25 cs=some x→uptoBulk x.1≤1048576→∃a:(List (List S3)×Int×List Dat),JG1 a.1∧CR (old w) w (ZP a.1 a.2.1 a.2.2).cells cs:=by
 intro csn x hn hbn;obtain⟨xs,n',rfl,rfl,hl,hlen,hf⟩:=DataW.trod_struct Tryz.underlying25 hn;rw[qcW]at hl;have h0:=fl9 hf 0 22 0 rfl qc22;have h1:=fl9 hf 1 5 1 rfl qc5;have h2:=fl9 hf 2 23 2 rfl qc23
 match xs,hlen,csn,hl with
 |[y0,y1,y2],_,[a0,a1,a2],_=>
  simp only[Va,Vb,uptoBulk,uptoBulkAll]at hbn;obtain⟨z0,o0,g0⟩:=rd_22 n' _ y0 (show DataW.trod enc Tryz.prog w base spare held n' 22 [a0]=some y0 from h0) oM;obtain⟨z1,o1,p1,g1⟩:=JCk (show DataW.trod enc Tryz.prog w base spare held n' 5 [a1]=some y1 from h1);obtain⟨z2,o2,g2⟩:=rd_23 n' _ y2 (show DataW.trod enc Tryz.prog w base spare held n' 23 [a2]=some y2 from h2) oM;refine⟨⟨z0,z1,z2.map JPp⟩,o0,?_⟩;have:=g0.append (g1.append g2);simpa only[ZP,Dat.cells,List.singleton_append,List.cons_append,List.nil_append,List.append_assoc]using this
theorem rd_58(fuel:Nat):∀(cs:List Value) (x:DataW H×List MemPlace),DataW.trod enc Tryz.prog w base spare held fuel 58 cs=some x→uptoBulk x.1≤1048576→∃a:Cg,JIk a∧CR (old w) w (Zx a).cells cs:=by
 intro csn x hn hbn;obtain⟨xs,n',rfl,rfl,hl,hlen,hf⟩:=DataW.trod_struct Tryz.underlying58 hn;rw[qc58]at hl;have h0:=fl9 hf 0 5 0 rfl qc5;have h1:=fl9 hf 1 5 1 rfl qc5;have h2:=fl9 hf 2 3 2 rfl qc3;have h3:=fl9 hf 3 9 3 rfl qc9
 match xs,hlen,csn,hl with
 |[y0,y1,y2,y3],_,[a0,a1,a2,a3],_=>
  simp only[Va,Vb,uptoBulk,uptoBulkAll]at hbn;obtain⟨z0,o0,p0,g0⟩:=JCk (show DataW.trod enc Tryz.prog w base spare held n' 5 [a0]=some y0 from h0);obtain⟨z1,o1,p1,g1⟩:=JCk (show DataW.trod enc Tryz.prog w base spare held n' 5 [a1]=some y1 from h1);obtain⟨z2,g2⟩:=JGh Tryz.underlying3 (show DataW.trod enc Tryz.prog w base spare held n' 3 [a2]=some y2 from h2);obtain⟨z3,_,g3⟩:=cr_str Tryz.underlying9 (show DataW.trod enc Tryz.prog w base spare held n' 9 [a3]=some y3 from h3) oM;refine⟨⟨z0,z1,z2,z3⟩,⟨o0,p0,o1,p1⟩,?_⟩;have:=g0.append (g1.append (g2.append g3));simpa only[Zx,Dat.cells,List.singleton_append,List.cons_append,List.nil_append,List.append_assoc]using this
theorem rd_26(fuel:Nat):∀(cs:List Value) (x:DataW H×List MemPlace),DataW.trod enc Tryz.prog w base spare held fuel 26 cs=some x→uptoBulk x.1≤1048576→∃a:List Cg,(∀x∈a,JIk x)∧CR (old w) w [.list 4 (a.map Zx)] cs:=by
 intro csn x hn hbn;obtain⟨z,_,o,g⟩:=JCK (encA:=Zx) (ok:=fun x=>JIk x) Tryz.underlying26 qc58 dC (fun _=>rfl) hn hbn (fun m cs' y _ hy hyb=>rd_58 m cs' y hy hyb);exact⟨z,o,g⟩
end
end Go.Proofs
namespace Go.Proofs.YteadlnapgiochaaGreatDoor
open Go Go.Proofs Av Go.ChangeShapes Go.WideShapes Go.ChangeAt Go.RowKit
section
variable {H:Type}{enc:TypeId×Value→H}{w:World}{r:Reach}{base b0:Nat}{spare:Nat→Bool}{held:Bool}{v:Value}{d:DataW H}{ps:List MemPlace}
theorem JJx(hval:Value.okWide Tryz.prog w r b0 25 v)(hd:DataW.Trod enc Tryz.prog w base spare held 25 v d ps)(hb:Rows.uptoBulk d≤1048576):
  ∃rs ch ev,JG1 rs∧Rep (Av.old w) w (ZP rs ch ev) v:=by
 obtain⟨fuel,hf⟩:=hd;obtain⟨m,ho,hc⟩:=rd_25 fuel _ (d,ps) hf hb;refine⟨m.1,m.2.1,m.2.2,ho,?_⟩;unfold Value.okWide at hval;rw[Tryz.underlying25]at hval;obtain⟨cs,rfl,_,_⟩:=hval;obtain⟨h1,h2,h3⟩:=hc;have e:(Value.agg cs).cells=cs:=rfl;rw[e]at h1 h2 h3;have h1':(ZP m.1 m.2.1 m.2.2).cells.length=cs.size:=sX h1;unfold ZP at h1' h3⊢;exact .agg _ _ h1' h2 (fun i c v hc hv=>h3 i c v hc (sX hv))
theorem JGD(hval:Value.okWide Tryz.prog w r b0 26 v)(hd:DataW.Trod enc Tryz.prog w base spare held 26 v d ps)(hb:Rows.uptoBulk d≤1048576):
  ∃cs:List Cg,(∀c∈cs,JIk c)∧Rep (Av.old w) w (.list 4 (cs.map Zx)) v:=by
 obtain⟨fuel,hf⟩:=hd;obtain⟨m,ho,hc⟩:=rd_26 fuel _ (d,ps) hf hb;refine⟨m,ho,?_⟩;unfold Value.okWide at hval;obtain⟨h1,h2,h3⟩:=hc;cases v with
 |slice _ _ _=>exact h3 0 _ _ rfl rfl
 |_=>first|exact h3 0 _ _ rfl rfl|(rw[Tryz.underlying26]at hval;exact hval.elim)|(simp[Tryz.underlying26]at hval)
end
end Go.Proofs.YteadlnapgiochaaGreatDoor
namespace Go.Proofs.YteadlnapgiochaaGreatDoor
open Go Go.Proofs Av Go.ChangeShapes Go.WideShapes Go.ChangeAt Go.RowKit
theorem JPq(w:World)(hg:∀g cs,Y5 g=some cs→JBu (Av.old w) w g cs):Core (fun _=>(⟨none,[]⟩:BK)) (Av.old w) w (get []):=
 ⟨(by intro i o hi;cases hi),(by intro i j o o' b hi;cases hi),(by intro i o b hi;cases hi),fun _ h=>h,hg⟩
theorem JFW{P:Program}{f:Nat}{ds:List Dat}{b:Bool}(h:J3 P f ds (.d (.bool b))){w:World}{vs:Array Value}(hg:∀g cs,Y5 g=some cs→JBu (Av.old w) w g cs)(hl:ds.length=vs.size)
  (hv:∀(i:Nat) d v,ds[i]? =some d→vs[i]? =some v→Rep (Av.old w) w d v):
  Calls P f vs w fun e w'=>e=.returned (.bool b)∧Below w.heap.size w w':=by
 refine(h.2 (fun _=>(⟨none,[]⟩:BK)) (Av.old w) w vs (JPq w hg) ⟨by simpa using hl,?_⟩).mono ?_
 ·intro i c v hc hv';rw[Vo]at hc;cases e:ds[i]? with
  |none=>rw[e]at hc;cases hc
  |some d=>
   rw[e]at hc;cases hc;exact .d _ _ (hv i d v e hv')
 ·rintro e w' ⟨u,β',A',rfl,hs,_,hu⟩;have:=hu.Jd;cases this;exact⟨rfl,hs.os,hs.tape,hs.output,hs.size,fun k hk=>hs.same k hk (by intro i o hi;cases hi)⟩
theorem laidOut:laidOutB Tryz.prog=true:=kR
theorem JIn{H:Type}(l r:List (DataW H)):Rows.uptoBulkAll (l++r)=Rows.uptoBulkAll l+Rows.uptoBulkAll r:=by
 induction l with
 |nil=>simp[Rows.uptoBulkAll]
 |cons x l ih=>simp only[List.cons_append,Rows.uptoBulkAll,ih];omega
end Go.Proofs.YteadlnapgiochaaGreatDoor
