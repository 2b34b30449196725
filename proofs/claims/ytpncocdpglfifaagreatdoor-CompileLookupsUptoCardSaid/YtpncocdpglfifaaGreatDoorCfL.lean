/- Part L of a proof. -/
import Derived.Test.YtpncocdpglfifaaGreatDoorCfK
import Derived.Test.YtpncocdpglfifaaGreatDoorCfC
import Derived.Test.YtpncocdpglfifaaGreatDoorCfA
import Derived.Test.YtpncocdpglfifaaGreatDoorProg
import Derived.Test.YtpncocdpglfifaaGreatDoorCfD
set_option linter.unusedVariables false
set_option linter.unusedSimpArgs false
set_option linter.unusedSectionVars false
set_option linter.constructorNameAsVariable false
set_option linter.unnecessarySimpa false
set_option maxRecDepth 10000
namespace Go.Proofs
open Go Av
theorem JI6(a b:Str)(r:List Str)(sep:Str):Lib.join (a::b::r) sep=a++(sep++Lib.join (b::r) sep):=by
 simp[Lib.join,List.intercalate,List.intersperse]
theorem join_one(a:Str)(sep:Str):Lib.join [a] sep=a:=by simp[Lib.join,List.intercalate]
theorem JH1(sep:Str)(M:Nat):∀ss:List Str,(∀s∈ss,s.length≤M)→(Lib.join ss sep).length≤ss.length*(M+sep.length)
 |[],_=>by simp[Lib.join,List.intercalate]
 |[a],h=>by
  rw[join_one];have:=h a (List.mem_singleton.2 rfl);simp only[List.length_singleton];omega
 |a::b::r,h=>by
  rw[JI6];have h1:=h a Vh;have h2:=JH1 sep M (b::r) (fun s hs=>h s (Vn _ hs));simp only[Vg,Vf]at h2⊢;rw[Nat.add_mul (r.length+1) 1];omega
def ZX(l:List Int):List Str:=l.map Lib.itoa
def JKC(l:List Int):Prop:=∀n∈l,-9223372036854775808≤n∧n≤9223372036854775807
theorem JFr{l:List Int}(h:JKC l)(sep:Str)(hs:sep.length≤1):(Lib.join (ZX l) sep).length≤l.length*22:=by
 have:=JH1 sep 21 (ZX l) (fun s hs=>by
  obtain⟨n,hn,rfl⟩:=VC.1 hs;exact Lib.itoa_length_le n (h n hn).1 (h n hn).2)
 have e:(ZX l).length=l.length:=by simp[ZX]
 rw[e]at this;refine Nat.le_trans this (Nat.mul_le_mul_left _ oM)
theorem JFs{l:List Int}(h:fits (.list 1 (l.map (.int .i64)))):JKC l:=by
 intro n hn;have:=UG.1 h.2 (.int .i64 n) (VC.2 ⟨n,hn,rfl⟩);have e1:IntKind.i64.min= -9223372036854775808:=dC;have e2:IntKind.i64.max=9223372036854775807:=dC;simpa only[fits,e1,e2]using this
theorem fits_int{n:Int}(h:fits (.int .i64 n)): -9223372036854775808≤n∧n≤9223372036854775807:=by
 have e1:IntKind.i64.min= -9223372036854775808:=dC;have e2:IntKind.i64.max=9223372036854775807:=dC;simpa only[fits,e1,e2]using h
theorem JQX(l:List Int)(hne:l≠[])(hl:l.length≤1000000000)(sep:Str)(hs:sep.length≤1):PT 112 [.list 1 (l.map (.int .i64)),.str sep] (.d (.str (Lib.join (ZX l) sep))):=by
 refine J3.Jk JRf.has fun hfit=>?_
 have hok:JKC l:=JFs (hfit _ (Vh));clear hfit;refine JRf.pc ?_;have hj:=JJy (ZX l) sep (by simpa[ZX]using hne) (by have:=JFr hok sep hs;omega);simp only[go_sem,JRe,Vc,simprocAttr];refine JK (fun n s=>∃k:Nat,k≤l.length∧n=l.length-k∧
  s=⟨[(1,.d (.str sep)),(5,.ms 18 k),(8,.d (.list 1 (l.map (.int .i64)))),(9,.d (.int .i64 l.length)),(10,.d (.int .i64 k))],[(18,.row k 1 ((ZX (l.take k)).map .str))]⟩) ?_ ?_
 ·refine⟨_,_,(Wk.JGu 5 18 1 rfl rfl dC).trans (Wk.less ?_),0,Nat.zero_le _,rfl,rfl⟩;simp[put,go_sem,ZX]
 ·rintro n s ⟨k,hk,rfl,rfl⟩;by_cases hlt:k<l.length
  ·have hx:=JU (fun n=>Dat.int .i64 n) hlt;have hd:=dT hlt;have hc:=call184 l[k] (hok _ (Vk hlt)).1 (hok _ (Vk hlt)).2;refine zz6 ?_;refine⟨oM,dC,wn hc ?_⟩;refine zz ?_;refine⟨sP,by simp[ZX];omega,l.length-(k+1),_,oM,Wk.less ?_,k+1,oM,rfl,rfl⟩;rw[List.take_succ_eq_append_getElem hlt];simp only[go_sem,ZX,JF k oM,Vw,Va,Vb,simprocAttr]
  ·have hd:=dF hlt;obtain rfl:k=l.length:=oM;have hc2:=JN.datA (hp:=[(18,.row l.length 1 ((ZX (l.take l.length)).map .str))]) (vs:=[.ms 18 l.length,.d (.str sep)]) rfl ⟨rfl,trivial,trivial⟩ (by rw[List.take_length];exact hj);refine zz5 ?_;refine wc hc2 trivial
def JCN(r:Int)(l:List Int):Str:=115::Lib.join (ZX (r::l)) [95]
theorem JTI(r:Int)(l:List Int)(hl:l.length≤500000000):PT 61 [.int .i64 r,.list 1 (l.map (.int .i64))] (.d (.str (JCN r l))):=by
 refine J3.Jk ok61.has fun hfit=>?_
 have hb:(Lib.join (ZX (r::l)) [95]).length≤68719476735:=by
  have h0:JKC (r::l):=fun n hn=>by
   rcases VA.1 hn with rfl|hn
   ·exact fits_int (hfit _ (Vh))
   ·exact JFs (hfit (.list 1 (l.map (.int .i64))) sP) n hn
  have:=JFr h0 [95] dC;simp only[Vf]at this;omega
 refine ok61.pc ?_;have hc:=(JQX (r::l) sP sO [95] dC).call trivial;have hc2:=JN.datA (hp:=[(6,.row 1 1 (.int .i64 r::l.map (.int .i64)))]) (vs:=[.ms 6 1,.d (.str [95])]) rfl ⟨rfl,trivial,trivial⟩ hc;simp only[go_sem,ir61,simprocAttr];refine⟨sP,sO,wn hc2 ?_⟩;simp only[go_sem,JCN,hb,simprocAttr]
mutual
def owS:Ste→Dat
 |.mk n k u t l x c e r a b=>.agg [.str n,.int .i64 k,.int .i64 u,.int .i64 t,.int .i64 l,.str x,.str c,.list 5 (e.map Jf),.list 6 (r.map UT),.list 2 (a.map Je),match b with|[]=>.nil 2|y::q=>.own 2 (owB y::JGY q)]
def JGX:List Ste→List Dat
 |[]=>[]
 |v::r=>owS v::JGX r
def owB:Brn→Dat
 |.mk w s=>.agg [.list 5 (w.map Jf),match s with|[]=>.nil 11|y::q=>.own 11 (owS y::JGX q)]
def JGY:List Brn→List Dat
 |[]=>[]
 |v::r=>owB v::JGY r
end
theorem JEs:∀l:List Ste,JGX l=l.map owS
 |[]=>by simp[JGX]
 |v::r=>by simp[JGX,JEs r]
theorem JH2:∀l:List Brn,JGY l=l.map owB
 |[]=>by simp[JGY]
 |v::r=>by simp[JGY,JH2 r]
def JDU(l:List Ste):Dat:=match l with|[]=>.nil 11|_=>.own 11 (l.map owS)
def JOi(l:List Brn):Dat:=match l with|[]=>.nil 2|_=>.own 2 (l.map owB)
theorem Xj(s:Ste):owS s=.agg [.str s.name,.int .i64 s.kind,.int .i64 s.number,.int .i64 s.time,.int .i64 s.limit,.str s.text,.str s.schema,.list 5 (s.exprs.map Jf),.list 6 (s.rules.map UT),.list 2 (s.calls.map Je),JOi s.branches]:=by
 obtain⟨n,k,u,t,l,x,c,e,r,a,b⟩:=s;cases b<;>simp[owS,JOi,JH2,Ste.name,Ste.kind,Ste.number,Ste.time,Ste.limit,Ste.text,Ste.schema,Ste.exprs,Ste.rules,Ste.calls,Ste.branches]
theorem JAE(b:Brn):owB b=.agg [.list 5 (b.cond.map Jf),JDU b.steps]:=by
 obtain⟨w,s⟩:=b;cases s<;>simp[owB,JDU,JEs,Brn.cond,Brn.steps]
theorem JBA(x:Dat)(r:List Dat):Dat.dat.datL (x::r)=x.dat::Dat.dat.datL r:=by rw[XK,XK];rfl
mutual
theorem JQY:∀s:Ste,(owS s).dat.canon=JH s
 |.mk n k u t l x c e r a b=>by
  have hb:=JH3 b;cases b with
  |nil=>simp only[owS,Dat.dat,Dat.dat.datL,Dat.canon,JG,JH,Zn,UH,Uf,Xp]
  |cons y q=>
   simp only[JGY,XK]at hb;simp only[owS,Dat.dat,XK,Dat.dat.datL,Dat.canon,JG,JH,UH,Uf,Xp,Va]at hb⊢;rw[←hb]
theorem JEt:∀l:List Ste,JG (Dat.dat.datL (JGX l))=YB l
 |[]=>by simp[JGX,YB,Dat.dat.datL,JG]
 |v::r=>by simp only[JGX,YB,JBA,JG,JQY v,JEt r]
theorem JQZ:∀b:Brn,(owB b).dat.canon=J1 b
 |.mk w s=>by
  have hb:=JEt s;cases s with
  |nil=>simp only[owB,Dat.dat,Dat.dat.datL,Dat.canon,JG,J1,YB,UH]
  |cons y q=>
   simp only[JGX,XK]at hb;simp only[owB,Dat.dat,XK,Dat.dat.datL,Dat.canon,JG,J1,UH,Va]at hb⊢;rw[←hb]
theorem JH3:∀l:List Brn,JG (Dat.dat.datL (JGY l))=Zn l
 |[]=>by simp[JGY,Zn,Dat.dat.datL,JG]
 |v::r=>by simp only[JGY,Zn,JBA,JG,JQZ v,JH3 r]
end
mutual
def nmS(r:Int)(pl:List Int):Ste→Ste
 |.mk n k u t l x c e ru a b=>.mk (orS n (JCN r pl)) k u t l x c e ru a (JCO r pl 0 b)
def Yo(r:Int)(pl:List Int):Int→List Ste→List Ste
 |_,[]=>[]
 |i,v::q=>nmS r (pl++[i]) v::Yo r pl (i+1) q
def nmB(r:Int)(pl:List Int):Brn→Brn
 |.mk w s=>.mk w (Yo r pl 0 s)
def JCO(r:Int)(pl:List Int):Int→List Brn→List Brn
 |_,[]=>[]
 |i,v::q=>nmB r (pl++[i]) v::JCO r pl (i+1) q
end
end Go.Proofs
namespace Go.Proofs
open Go Av
open Av.Y
def ir59:Ic:=D (.regd [(4,7)] (om 5 1<|om 6 1<|oc 7 6<|of 8 7 0<|ol 9 8<|ol 10 2<|om 11 0<|cl 12 61 [t 10,t 11]<|oo 13 (.bls 1 [t 9,t 12])<|cl 14 60 [t 13]<|oc 15 5<|of 16 15 0<|os 16 14<|N)) [0,1,5,6,7,8,9,10,11,12,13,14,15,16]
theorem ok59:FT 59 17 ir59 []:=.o Tryz.func59
def ir55:Ic:=q (R (ok 2 (.k (.nil 3))<|N) [2])<|q (q (R (om 3 0<|oo 4 (.nilq false false (t 3))<|N) [3])<|D (I 4 (q (R (ok 2 (.k (.nil 3))<|N) [0,4])<|.ret) S) [4])<|q (R (oo 5 (.bls 3 [])<|om 6 0<|oo 7 (.app 3 (t 5) (t 6))<|om 2 7<|N) [0,5,6,7])<|.ret
theorem ok55:FT 55 8 ir55 [.tmp 2]:=.o Tryz.func55
def ir31:Ic:=q (R (ox 1 0<|oN 2 [.int .i64 0,.nil 9,.nil 7,.nil 4,.nil 3]<|N) [0])<|q (R (of 4 1 4<|ol 5 4<|cl 6 55 [t 5]<|of 7 1 4<|os 7 6<|N) [4,5,6,7])<|q (q (R (of 8 1 4<|ol 9 8<|oh 10 9<|oz 11 0<|N) [8,9])<|D (.block 0<|.loop (q (.reg (ot 12 .lss 11 10<|N))<|q (D (I 12 S (E 0)) [12])<|q (D (.block 1<|q (R (om 13 11<|oN 3 [.int .i64 0]<|os 3 13<|N) [13])<|q (D (.regd [(1,9),(2,9)] (of 14 1 4<|ol 15 14<|ol 16 3<|of 17 1 4<|ol 18 17<|ol 19 3<|oa true 20 3 18 19<|of 21 20 2<|ol 22 21<|cl 23 56 [t 22,.k (.fn (.func 57) [] [])]<|oa true 24 3 15 16<|of 25 24 2<|os 25 23<|N)) [14,15,16,17,18,19,20,21,22,23,24,25])<|R (of 26 1 4<|ol 27 26<|ol 28 3<|oa true 29 3 27 28<|of 30 29 2<|ol 31 30<|oo 32 (.fnv (.func 59) [] [t 3])<|cl 33 58 [t 31,t 32]<|N) [3,26,27,28,29,30,31,32,33]) [])<|R (oi 34 .add 11 1<|om 11 34<|N) [34])) [10,11,12,3])<|q (R (oL 35 5 1<|oS 5 2 35<|N) [1,35])<|.ret
theorem ok31:FT 31 36 ir31 [.cell 2 (some 5)]:=.o Tryz.func31
end Go.Proofs
namespace Go.Proofs
open Go Av
theorem con59(v tv ts:Nat)(q:List (Nat×Nat))(j:Nat)(r:Int)(a:Int)(pl:List Int)(X X' L:List Dat)(s:Ste)(hpl:pl.length≤400000000)
  (h1:nodeAt (.own 3 X) q=some (.own 11 L))(hj:j<L.length)(hs:nth L j=owS s)(h2:setAt (.own 3 X) q j 0 (.str (orS s.name (JCN r (a::pl))))=.own 3 X'):
  KT 59 [.ms 1006 v,.tr 1008 ⟨tv,ts,q,some (j,0)⟩,.ref 1005 0] [(1005,.box [.d (.int .i64 r)]),(1006,.row v 1 ((a::pl).map (.int .i64))),(1008,.tre tv ts 3 X)] (.tup []) [(1008,.tre tv ts 3 X')]:=by
 refine ok59.con (k:=some false) (Nat.le_of_ble_eq_true rfl) (Jn (by simp[U3,put,Jd,J5,JS,JR,Av.get])) trivial ?_;rw[Xj]at hs;have cA:CT 61 [.d (.int .i64 r),.ms 1006 v] [(1006,some (.row v 1 ((a::pl).map (.int .i64))))] (.d (.str (JCN r (a::pl)))) []:=by
  refine J3.borrow (ds:=[.int .i64 r,.list 1 ((a::pl).map (.int .i64))]) ?_ rfl (p:=True∧v=v∧True) (u:=[(1006,.frz v 1 ((a::pl).map (.int .i64)))]) (fun H hH=>by simp only[Jl,XI,Uw,hH (1006,_) (Vh),List.append_nil,JC];rfl) ⟨trivial,rfl,trivial⟩;simpa only[Va,Vb,Dat.canon,JG,XB]using JTI r (a::pl) sO
 have cO:=(JTD s.name (JCN r (a::pl))).call trivial;simp only[go_sem,ir59,h1,hs,Vv,Vc,Nat.reduceAdd,Nat.reduceEqDiff,Nat.reduceBEq,Nat.reduceLeDiff,reduceCtorEq,↓reduceIte];refine⟨⟨hj,dC⟩,?_⟩;refine JI rfl cA ⟨rfl,trivial⟩ ?_;simp only[go_sem,Vv,Vc,Nat.reduceAdd,Nat.reduceEqDiff,Nat.reduceBEq,Nat.reduceLeDiff,reduceCtorEq,↓reduceIte];refine⟨sP,?_⟩;refine JI rfl cO trivial ?_;simp only[go_sem,h1,hs,h2,Vv,Vc,Nat.reduceAdd,Nat.reduceEqDiff,Nat.reduceBEq,Nat.reduceLeDiff,reduceCtorEq,↓reduceIte];exact⟨hj,rfl,rfl⟩
theorem call59(v tv ts:Nat)(q:List (Nat×Nat))(j:Nat)(r:Int)(pl:List Int)(X X' L:List Dat)(s:Ste)(hpl:pl.length≤400000000)(hp0:0<pl.length)
  (h1:nodeAt (.own 3 X) q=some (.own 11 L))(hj:j<L.length)(hs:nth L j=owS s)(h2:setAt (.own 3 X) q j 0 (.str (orS s.name (JCN r pl)))=.own 3 X'):
  CT (.fn 59) [.ms 1006 v,.tr 1008 ⟨tv,ts,q,some (j,0)⟩,.ref 1005 0] [(1005,some (.box [.d (.int .i64 r)])),(1006,some (.row v 1 (pl.map (.int .i64)))),(1008,some (.tre tv ts 3 X))] (.tup []) [(1008,.tre tv ts 3 X')]:=by
 match pl,hp0,h2 with
 |a::p,_,h2=>
  have:=(con59 v tv ts q j r a p X X' L s (by simp at hpl;omega) h1 hj hs h2).call (fun i=>i) (fun i hi=>by
   simp only[Av.get]at hi
   repeat' split at hi
   all_goals first|(cases hi;done)|omega) (fun i j _ _ h=>h) (by simp[JR,Av.get]) (Jy (by simp[Jd,J5,JS,JR,Av.get])) [] (by simp[Av.get]) (Jn (by simp[U3,put,Jd,J5,JS,JR,Av.get])) trivial
  simp only[Va,Vb,Obj.ren,Av.ren,UQ,YC,List.append_nil]at this⊢;exact this
def _root_.Av.Ste.ren(s:Ste)(n:Str):Ste:=.mk n s.kind s.number s.time s.limit s.text s.schema s.exprs s.rules s.calls s.branches
def _root_.Av.Ste.Yr(s:Ste)(b:List Brn):Ste:=.mk s.name s.kind s.number s.time s.limit s.text s.schema s.exprs s.rules s.calls b
def _root_.Av.Brn.JKW(b:Brn)(s:List Ste):Brn:=.mk b.cond s
theorem ZI{α:Type}{A B:List α}{x d:α}:(A++x::B).getD A.length d=x:=by simp[List.getD]
theorem JBB{α:Type}{A B:List α}{x:α}:(A++x::B)[A.length]? =some x:=sP
theorem JDj{α:Type}{A B:List α}{x y:α}:(A++x::B).set A.length y=A++y::B:=by
 rw[List.set_append_right _ _ (Nat.le_refl _),Nat.sub_self];rfl
theorem XS{α:Type}(f:α→Dat)(A B:List α)(x:α):(A++x::B).map f=A.map f++f x::B.map f:=sP
theorem Yp{α:Type}(f:α→Dat)(A:List α):A.length=(A.map f).length:=sP
theorem JGZ(f:Ste→Dat)(A B:List Ste)(x:Ste):nth ((A++x::B).map f) A.length=f x:=by
 rw[XS,Yp f A];exact ZI
theorem JOj(A B:List Ste)(x:Ste)(n:Str):setAt (.own 11 ((A++x::B).map owS)) [] A.length 0 (.str n)=.own 11 ((A++x.ren n::B).map owS):=by
 rw[XS,XS,Yp owS A];simp only[setAt,ZI,JDj];rw[Xj x,Xj (x.ren n)];rfl
theorem JAF{bs:List Brn}(h:bs≠[]):JOi bs=.own 2 (bs.map owB):=by cases bs with|nil=>exact absurd rfl h|cons a b=>rfl
theorem JBC{ss:List Ste}(h:ss≠[]):JDU ss=.own 11 (ss.map owS):=by cases ss with|nil=>exact absurd rfl h|cons a b=>rfl
theorem JTJ(A B:List Ste)(x:Ste)(C D:List Brn)(br:Brn)(ss:List Ste):setAt (.own 11 ((A++x.Yr (C++br::D)::B).map owS)) [(A.length,10)] C.length 1 (JDU ss)=.own 11 ((A++x.Yr (C++br.JKW ss::D)::B).map owS):=by
 rw[XS,XS,Yp owS A];simp only[setAt,ZI,JDj];rw[Xj (x.Yr _),Xj (x.Yr _)];simp only[Ste.Yr,Ste.branches,JAF (List.append_ne_nil_of_right_ne_nil C (List.cons_ne_nil _ _)),Dat.cells,List.getD_cons_succ,List.getD_cons_zero,setAt,U0];rw[XS,XS,Yp owB C];simp only[ZI,JDj,U0,JAE br,JAE (br.JKW ss)];rfl
theorem JKD(A B:List Ste)(x:Ste)(bs:List Brn)(h:bs≠[]):nodeAt (.own 11 ((A++x.Yr bs::B).map owS)) [(A.length,10)]=some (.own 2 (bs.map owB)):=by
 rw[XS,Yp owS A];simp only[nodeAt,cellAt,JBB,Option.bind_some];rw[Xj (x.Yr _)];simp only[Ste.Yr,Ste.branches,JAF h,Dat.cells,List.getElem?_cons_succ,List.getElem?_cons_zero,nodeAt]
theorem JQa(A B:List Ste)(x:Ste)(C D:List Brn)(br:Brn)(h:br.steps≠[]):nodeAt (.own 11 ((A++x.Yr (C++br::D)::B).map owS)) [(A.length,10),(C.length,1)]=some (.own 11 (br.steps.map owS)):=by
 rw[XS,Yp owS A];simp only[nodeAt,cellAt,JBB,Option.bind_some];rw[Xj (x.Yr _)];simp only[Ste.Yr,Ste.branches,JAF (List.append_ne_nil_of_right_ne_nil C (List.cons_ne_nil _ _)),Dat.cells,List.getElem?_cons_succ,List.getElem?_cons_zero];rw[XS,Yp owB C];simp only[nodeAt,cellAt,JBB,Option.bind_some,JAE br,Dat.cells,List.getElem?_cons_succ,List.getElem?_cons_zero,JBC h]
theorem JTK(A B:List Ste)(x:Ste)(C D:List Brn)(br:Brn):Pos (.own 11 ((A++x.Yr (C++br::D)::B).map owS)) [(A.length,10)] C.length 1:=by
 rw[XS,Yp owS A];refine⟨_,_,by rw[JBB,Xj (x.Yr _)],rfl,?_⟩;simp only[Ste.Yr,Ste.branches,JAF (List.append_ne_nil_of_right_ne_nil C (List.cons_ne_nil _ _))];refine⟨[.list 5 (br.cond.map Jf),JDU br.steps],?_,sP⟩;rw[XS,Yp owB C,JBB,JAE]
theorem JAt(r:Int)(pl:List Int):∀(l:List Ste) (i:Int),(Yo r pl i l).length=l.length
 |[],_=>rfl
 |x::q,i=>by simp[Yo,JAt r pl q]
theorem JAu(r:Int)(pl:List Int):∀(l:List Brn) (i:Int),(JCO r pl i l).length=l.length
 |[],_=>rfl
 |x::q,i=>by simp[JCO,JAu r pl q]
theorem JH4(r:Int)(pl:List Int):∀(l:List Ste) (i:Int) (k:Nat) (h:k<l.length),(Yo r pl i l)[k]'(by rw[JAt];exact h)=nmS r (pl++[i+k]) l[k]
 |x::q,i,0,_=>by simp[Yo]
 |x::q,i,k+1,h=>by
  simp only[Yo,List.getElem_cons_succ];rw[JH4 r pl q (i+1) k (sX h)];congr 3;omega
theorem JH5(r:Int)(pl:List Int):∀(l:List Brn) (i:Int) (k:Nat) (h:k<l.length),(JCO r pl i l)[k]'(by rw[JAu];exact h)=nmB r (pl++[i+k]) l[k]
 |x::q,i,0,_=>by simp[JCO]
 |x::q,i,k+1,h=>by
  simp only[JCO,List.getElem_cons_succ];rw[JH5 r pl q (i+1) k (sX h)];congr 3;omega
theorem JOk(r:Int)(pl:List Int)(x:Ste):nmS r pl x=(x.ren (orS x.name (JCN r pl))).Yr (JCO r pl 0 x.branches):=by
 cases x;rfl
theorem JOl(r:Int)(pl:List Int)(b:Brn):nmB r pl b=b.JKW (Yo r pl 0 b.steps):=by
 cases b;rfl
theorem JFt(x:Ste):x.Yr x.branches=x:=by cases x;rfl
theorem JI7(b:Brn):b.JKW b.steps=b:=by cases b;rfl
theorem JGa(x:Ste)(n:Str):(x.ren n).branches=x.branches:=rfl
abbrev TVn(r:Int)(c:Av)(v:Nat)(xs:List Int)(tv ts:Nat)(X:List Dat):List (Nat×Av.Obj):=[(1001,.box [c]),(1002,.box [.clo (.func 59) [] [.ref 1005 0]]),(1003,.box [.clo (.func 111) [] [.ref 1001 0,.ref 1002 0,.ref 1003 0]]),
 (1005,.box [.d (.int .i64 r)]),(1006,.row v 1 (xs.map (.int .i64))),(1008,.tre tv ts 3 X)]
theorem JDk(r:Int)(v v':Nat)(xs xs':List Int)(tv ts:Nat)(X X':List Dat)(c:Av)(n:Nat)(hc:c=.ms 1006 n∨∃k,c=.sub 1006 n 0 k):closed (JC (get (TVn r (.ms 1006 v) v xs tv ts X)) (TVn r c v' xs' tv ts X')):=by
 refine Jn ?_;rcases hc with rfl|⟨k,rfl⟩<;>simp[TVn,U3,put,Jd,J5,JS,JR,Ue,Av.get]
theorem JKE{r:Int}{c:Av}{v:Nat}{xs:List Int}{tv ts:Nat}{X:List Dat}{i:Nat}(h:(get (TVn r c v xs tv ts X) i).isSome=true):1000≤i:=by
 simp only[TVn,Av.get]at h
 repeat' split at h
 all_goals first|(cases h;done)|omega
theorem conE(r:Int)(v:Nat)(xs:List Int)(tv ts:Nat)(X:List Dat):KT 111 [.d (.nil 11),.ref 1001 0,.ref 1002 0,.ref 1003 0] (TVn r (.ms 1006 v) v xs tv ts X) (.tup []) (TVn r (.sub 1006 v 0 xs.length) v xs tv ts X):=by
 refine JHw.con (k:=some false) (Nat.le_of_ble_eq_true rfl) (JDk r v v xs xs tv ts X X _ v (.inr ⟨_,rfl⟩)) trivial ?_;simp only[go_sem,TVn,JJ7,Vv,Vc,simprocAttr];refine JK (fun n st=>st=⟨[(0,.d (.nil 11)),(1,.ref 1001 0),(2,.ref 1002 0),(3,.ref 1003 0),(8,.d (.int .i64 0)),(9,.d (.int .i64 0))],TVn r (.sub 1006 v 0 xs.length) v xs tv ts X⟩) ?_ ?_
 ·refine⟨0,_,(Wk.JLm 1001 0 1006 v 1 (xs.map (.int .i64)) [.ms 1006 v] rfl rfl rfl).trans (Wk.less ?_),rfl⟩;simp[go_sem,TVn]
 ·rintro n st rfl;simp only[go_sem,TVn,Int.lt_irrefl,decide_false,Vu,Vv,Vc,simprocAttr]
def JEu(r:Int)(l:List Ste):Prop:=∀(v:Nat) (xs:List Int) (o:List Wlk) (tv ts:Nat) (X X':List Dat) (p:List (Nat×Nat)) (k c:Nat),xs.length+2*J6 l≤400000000→Pos (.own 3 X) p k c→
 nodeAt (.own 3 X) (p++[(k,c)])=some (.own 11 (l.map owS))→.own 3 X'=setAt (.own 3 X) p k c (.own 11 ((Yo r xs 0 l).map owS))→
 KT 111 [.tr 1008 ⟨tv,ts,p++[(k,c)],none⟩,.ref 1001 0,.ref 1002 0,.ref 1003 0] (TVn r (.ms 1006 v) v xs tv ts X) (.tup [])
  (TVn r (.sub 1006 (Ua r l 0 xs.length (v,xs,o)).1 0 xs.length) (Ua r l 0 xs.length (v,xs,o)).1 (Ua r l 0 xs.length (v,xs,o)).2.1 tv ts X')
theorem JRm{r:Int}{a:Av}{v:Nat}{xs:List Int}{tv ts:Nat}{X:List Dat}{v':Nat}{xs':List Int}{X':List Dat}{n:Nat}(ha:JR (get (TVn r (.ms 1006 v) v xs tv ts X)) a)(hr:a.ren (fun i=>i)=a)
  (h:KT 111 [a,.ref 1001 0,.ref 1002 0,.ref 1003 0] (TVn r (.ms 1006 v) v xs tv ts X) (.tup []) (TVn r (.sub 1006 v' 0 n) v' xs' tv ts X')):
  CT (.fn 111) [a,.ref 1001 0,.ref 1002 0,.ref 1003 0] ((TVn r (.ms 1006 v) v xs tv ts X).map fun x=>(x.1,some x.2)) (.tup []) (TVn r (.sub 1006 v' 0 n) v' xs' tv ts X'):=by
 have:=h.call (fun i=>i) (fun i hi=>JKE hi) (fun i j _ _ h=>h) (by
   intro c hc;simp only[VA,List.not_mem_nil,or_false]at hc;rcases hc with rfl|rfl|rfl|rfl
   ·exact ha
   all_goals simp[JR,Av.get]) (Jy (by simp[Jd,J5,JS,JR,Ue,Av.get])) [] (by simp[Av.get]) (JDk r v v' xs xs' tv ts X X' _ v' (.inr ⟨_,rfl⟩)) trivial
 simp only[TVn,Va,Vb,Obj.ren,Av.ren,UQ,YC,List.append_nil,hr]at this⊢;exact this
set_option maxHeartbeats 4000000 in
theorem JRn(r:Int)(l:List Ste)(hne:l≠[])(h:∀x∈l,∀b∈x.branches,b.steps≠[]→JEu r b.steps):JEu r l:=by
 intro v xs o tv ts X X' p k c hx hpos hnX hX';refine Con.Jk JHw.has fun hfit=>?_
 generalize hR:Ua r l 0 xs.length (v,xs,o)=R;clear hfit;have hl:l.length≤400000000:=by
  have:∀l:List Ste,l.length≤J6 l:=by
   intro l
   induction l with
   |nil=>simp[J6]
   |cons x q ih=>simp only[Vf,J6,JEe];omega
  have:=this l;omega
 refine JHw.con (k:=some false) (Nat.le_of_ble_eq_true rfl) (JDk r v _ xs _ tv ts X X' _ _ (.inr ⟨_,rfl⟩)) trivial ?_;generalize hd:xs.length=d at*;generalize hN:Yo r xs 0 l=N at*;have hNl:N.length=l.length:=by rw[←hN,JAt]
 simp only[go_sem,TVn,JJ7,hnX,Vv,Vc,Nat.reduceAdd,Nat.reduceEqDiff,Nat.reduceBEq,Nat.reduceLeDiff,reduceCtorEq,↓reduceIte];refine JK (fun n st=>∃(i:Nat) (S:PO) (Y:List Dat),i≤l.length∧n=l.length-i∧Ua r (l.drop i) i d S=R∧d≤S.2.1.length∧S.2.1.take d=xs∧ .own 3 Y=setAt (.own 3 X) p k c (.own 11 ((N.take i++l.drop i).map owS))∧
  st=⟨[(0,.tr 1008 ⟨tv,ts,p++[(k,c)],none⟩),(1,.ref 1001 0),(2,.ref 1002 0),(3,.ref 1003 0),(8,.d (.int .i64 l.length)),(9,.d (.int .i64 i))],TVn r (.sub 1006 S.1 0 d) S.1 S.2.1 tv ts Y⟩) ?_ ?_
 ·refine⟨_,_,(Wk.JLm 1001 0 1006 v 1 (xs.map (.int .i64)) [.ms 1006 v] rfl rfl rfl).trans (Wk.less ?_),0,(v,xs,o),X,Nat.zero_le _,rfl,by simpa using hR,by simp[hd],List.take_of_length_le (by simp[hd]),?_,rfl⟩
  ·simp[go_sem,TVn,hd]
  ·rw[List.take_zero,List.drop_zero,List.nil_append,JEn hpos hnX]
 ·rintro n st ⟨i,S,Y,hi,rfl,hinv,hS,hSt,hY,rfl⟩;by_cases hlt:i<l.length
  ·have hdk:decide ((i:Int)<(l.length:Int))=true:=sO;have hV:=h _ (Vk hlt);have hszd:szS l[i]≤J6 l:=JEf (Vk hlt);have hNi:N[i]'oM=nmS r (xs++[(i:Int)]) l[i]:=by
    have:=JH4 r xs l 0 i hlt;simp only[hN,Int.zero_add]at this;exact this
   have hA:(N.take i).length=i:=by rw[List.length_take];omega
   rw[JEe]at hszd;rw[Vq hlt]at hY;rw[Vq hlt,Ua,JJ8,hSt]at hinv;have hNt:N.take (i+1)=N.take i++[nmS r (xs++[(i:Int)]) l[i]]:=by rw[List.take_succ_eq_append_getElem oM,hNi]
   generalize hxx:l[i]=x at*;generalize hAA:N.take i=A at*;generalize hBB:l.drop (i+1)=B at*;have hnode:nodeAt (.own 3 Y) (p++[(k,c)])=some (.own 11 ((A++x::B).map owS)):=by
    rw[hY];exact Xi hpos _ []
   have hnth:nth ((A++x::B).map owS) i=owS x:=by rw[←hA];exact JGZ owS A B x
   have hlenL:((A++x::B).map owS).length=l.length:=by
    have:=congrArg List.length hBB;simp only[List.length_drop]at this;simp only[Vc,Vg,Vf,hA];omega
   generalize hnm:orS x.name (JCN r (xs++[(i:Int)]))=nm at*;obtain⟨Y1,hY1⟩:∃Y1,setAt (.own 3 Y) (p++[(k,c)]) i 0 (.str nm)=.own 3 Y1:=⟨_,(JHv _ _ _ _ _ _).symm⟩;have hY1': .own 3 Y1=setAt (.own 3 X) p k c (.own 11 ((A++x.ren nm::B).map owS)):=by
    rw[←hY1,hY,JCv hpos,←JOj,hA]
   have hnode1:nodeAt (.own 3 Y1) (p++[(k,c)])=some (.own 11 ((A++x.ren nm::B).map owS)):=by
    rw[hY1'];exact Xi hpos _ []
   have hc:=call59 (S.1+1) tv ts (p++[(k,c)]) i r (xs++[(i:Int)]) Y Y1 _ x (by simp[hd];omega) sP hnode (by rw[hlenL];exact hlt) hnth (by rw[hnm];exact hY1);rw[Vw]at hc;simp only[Va,Vb]at hc;have hS2:List.take d (List.map (Dat.int .i64) S.2.1)=xs.map (.int .i64):=by rw[←List.map_take,hSt]
   have hnth1:nth ((A++x.ren nm::B).map owS) i=owS (x.ren nm):=by rw[←hA];exact JGZ owS A B (x.ren nm)
   have hlenL1:((A++x.ren nm::B).map owS).length=l.length:=by
    have:=congrArg List.length hBB;simp only[List.length_drop]at this;simp only[Vc,Vg,Vf,hA];omega
   simp only[go_sem,TVn,hdk,hnode,hS2,hlenL,Vv,Vc,Nat.reduceAdd,Nat.reduceEqDiff,Nat.reduceBEq,Nat.reduceLeDiff,reduceCtorEq,↓reduceIte];refine⟨sP,⟨oM,oM⟩,⟨oM,oM⟩,JT rfl hc ⟨rfl,rfl,rfl,trivial⟩ ?_⟩;by_cases hbn:x.branches=[]
   ·have hrow:owS (x.ren nm)=.agg [.str nm,.int .i64 x.kind,.int .i64 x.number,.int .i64 x.time,.int .i64 x.limit,.str x.text,.str x.schema,.list 5 (x.exprs.map Jf),.list 6 (x.rules.map UT),.list 2 (x.calls.map Je),.nil 2]:=by
     rw[Xj,JGa,hbn];rfl
    rw[hrow]at hnth1;simp only[go_sem,hnode1,hnth1,hlenL1,Vv,Vc,Nat.reduceAdd,Nat.reduceEqDiff,Nat.reduceBEq,Nat.reduceLeDiff,reduceCtorEq,↓reduceIte];refine⟨⟨oM,oM⟩,⟨oM,dC⟩,?_⟩;rw[hbn,Xz]at hinv;refine JK (fun n st=>st=⟨[(0,.tr 1008 ⟨tv,ts,p++[(k,c)],none⟩),(1,.ref 1001 0),(2,.ref 1002 0),(3,.ref 1003 0),(8,.d (.int .i64 l.length)),(9,.d (.int .i64 i)),(5,.d (.int .i64 i)),(27,.d (.int .i64 0)),(28,.d (.int .i64 0))],TVn r (.sub 1006 (S.1+1) 0 (d+1)) (S.1+1) (xs++[(i:Int)]) tv ts Y1⟩) ?_ ?_
    ·refine⟨0,_,(Wk.JLm 1001 0 1006 (S.1+1) 1 _ [.ms 1006 (S.1+1)] rfl rfl rfl).trans (Wk.less ?_),rfl⟩;simp[go_sem,TVn,hd]
    ·rintro n st rfl;have e3:IntKind.i64.wrap (((d+1:Nat):Int)-1)=((d:Nat):Int):=XR (d+1) oM oM;have e4:((d:Int)-0).toNat=d:=oM;have e5:Int.toNat 0=0:=rfl;have e6:min (d+1) (xs++[(i:Int)]).length=d+1:=by simp[hd]
     simp only[go_sem,TVn,Int.lt_irrefl,decide_false,Vu,List.length_take,List.drop_zero,e3,e6,Vv,Vc,Nat.reduceAdd,Nat.reduceEqDiff,Nat.reduceBEq,Nat.reduceLeDiff,reduceCtorEq,↓reduceIte];refine⟨⟨oM,oM,oM⟩,l.length-(i+1),_,oM,Wk.less ?_,i+1,(S.1+1,xs++[(i:Int)],S.2.2++[Wlk.mk r (xs++[(i:Int)]) x]),Y1,oM,rfl,by rw[hBB];simpa using hinv,by simp[hd],by simp[←hd],?_,rfl⟩
     ·simp only[go_sem,TVn,e4,e5,JF i oM,Vv,Vc,Nat.reduceAdd,Nat.reduceEqDiff,Nat.reduceBEq,Nat.reduceLeDiff,reduceCtorEq,↓reduceIte]
     ·rw[hNt,hBB,List.append_assoc,hY1',JOk,hnm,hbn,JCO];have:=JFt (x.ren nm);rw[JGa,hbn]at this;rw[this];rfl
   ·have hrow:owS (x.ren nm)=.agg [.str nm,.int .i64 x.kind,.int .i64 x.number,.int .i64 x.time,.int .i64 x.limit,.str x.text,.str x.schema,.list 5 (x.exprs.map Jf),.list 6 (x.rules.map UT),.list 2 (x.calls.map Je),.own 2 (x.branches.map owB)]:=by
     rw[Xj,JGa,JAF hbn];rfl
    rw[hrow]at hnth1;have hnodeb:nodeAt (.own 3 Y1) (p++[(k,c)]++[(i,10)])=some (.own 2 (x.branches.map owB)):=by
     rw[hY1',List.append_assoc];have:=JKD A B (x.ren nm) x.branches hbn;rw[show(x.ren nm).Yr x.branches=x.ren nm from rfl,hA]at this;exact(Xi hpos _ [(i,10)]).trans this
    simp only[go_sem,hnode1,hnth1,hlenL1,hnodeb,Vv,Vc,Nat.reduceAdd,Nat.reduceEqDiff,Nat.reduceBEq,Nat.reduceLeDiff,reduceCtorEq,↓reduceIte];refine⟨⟨oM,oM⟩,⟨oM,dC⟩,?_⟩;generalize hbs:x.branches=bs at*;generalize hRB:Xz r bs 0 (d+1) _=RB at hinv;generalize hNB:JCO r (xs++[(i:Int)]) 0 bs=NB at*;refine JK (fun n st=>∃(b:Nat) (T:PO) (Z:List Dat),b≤bs.length∧n=bs.length-b∧Xz r (bs.drop b) b (d+1) T=RB∧d+1≤T.2.1.length∧T.2.1.take (d+1)=xs++[(i:Int)]∧
     .own 3 Z=setAt (.own 3 X) p k c (.own 11 ((A++(x.ren nm).Yr (NB.take b++bs.drop b)::B).map owS))∧
     st=⟨[(0,.tr 1008 ⟨tv,ts,p++[(k,c)],none⟩),(1,.ref 1001 0),(2,.ref 1002 0),(3,.ref 1003 0),(8,.d (.int .i64 l.length)),(9,.d (.int .i64 i)),(5,.d (.int .i64 i)),(27,.d (.int .i64 bs.length)),(28,.d (.int .i64 b))],TVn r (.sub 1006 T.1 0 (d+1)) T.1 T.2.1 tv ts Z⟩) ?_ ?_
    ·refine⟨_,_,(Wk.JLm 1001 0 1006 (S.1+1) 1 _ [.ms 1006 (S.1+1)] rfl rfl rfl).trans (Wk.less ?_),0,(S.1+1,xs++[(i:Int)],S.2.2++[Wlk.mk r (xs++[(i:Int)]) x]),Y1,Nat.zero_le _,rfl,by simpa using hRB,by simp[hd],List.take_of_length_le (by simp[hd]),?_,rfl⟩
     ·simp[go_sem,TVn,hd]
     ·have:=JFt (x.ren nm);rw[JGa,hbs]at this;rw[hY1',List.take_zero,List.drop_zero,List.nil_append,this]
    ·have hbsl:bs.length≤400000000:=by
      have:∀l:List Brn,l.length≤XQ l:=by
       intro l
       induction l with
       |nil=>simp[XQ]
       |cons x q ih=>simp only[Vf,XQ,JAp];omega
      have:=this bs;omega
     rintro n st ⟨b,T,Z,hbk,rfl,hinv2,hT,hTt,hZ,rfl⟩;by_cases hbl:b<bs.length
     ·have hdb:decide ((b:Int)<(bs.length:Int))=true:=sO;have hszb:szB bs[b]≤XQ bs:=JEg (Vk hbl);have hVb:=hV _ (Vk hbl);have hNBl:NB.length=bs.length:=by rw[←hNB,JAu]
      have hNBb:NB[b]'oM=nmB r (xs++[(i:Int)]++[(b:Int)]) bs[b]:=by
       have:=JH5 r (xs++[(i:Int)]) bs 0 b hbl;simp only[hNB,Int.zero_add]at this;exact this
      have hNBt:NB.take (b+1)=NB.take b++[nmB r (xs++[(i:Int)]++[(b:Int)]) bs[b]]:=by rw[List.take_succ_eq_append_getElem oM,hNBb]
      have hC:(NB.take b).length=b:=by rw[List.length_take];omega
      rw[Vq hbl]at hZ;rw[Vq hbl,Xz,JJ9,hTt]at hinv2;rw[JAp]at hszb;generalize bs[b]=br at*;generalize hCC:NB.take b=C at*;generalize hDD:bs.drop (b+1)=D at*;have hDl:C.length+(br::D).length=bs.length:=by
       have:=congrArg List.length hDD;simp only[List.length_drop]at this;simp only[Vf];omega
      have hnodeZ:nodeAt (.own 3 Z) (p++[(k,c)])=some (.own 11 ((A++(x.ren nm).Yr (C++br::D)::B).map owS)):=by
       rw[hZ];exact Xi hpos _ []
      have hlenZ:((A++(x.ren nm).Yr (C++br::D)::B).map owS).length=l.length:=by
       have:=congrArg List.length hBB;simp only[List.length_drop]at this;simp only[Vc,Vg,Vf,hA];omega
      have hnthZ:nth ((A++(x.ren nm).Yr (C++br::D)::B).map owS) i=.agg [.str nm,.int .i64 x.kind,.int .i64 x.number,.int .i64 x.time,.int .i64 x.limit,.str x.text,.str x.schema,.list 5 (x.exprs.map Jf),.list 6 (x.rules.map UT),.list 2 (x.calls.map Je),.own 2 ((C++br::D).map owB)]:=by
       have:=JGZ owS A B ((x.ren nm).Yr (C++br::D));rw[hA]at this;rw[this,Xj,←JAF (List.append_ne_nil_of_right_ne_nil C (List.cons_ne_nil br D))];rfl
      have hnodeZb:nodeAt (.own 3 Z) (p++[(k,c)]++[(i,10)])=some (.own 2 ((C++br::D).map owB)):=by
       rw[hZ,List.append_assoc];have:=JKD A B (x.ren nm) (C++br::D) (List.append_ne_nil_of_right_ne_nil C (List.cons_ne_nil br D));rw[hA]at this;exact(Xi hpos _ [(i,10)]).trans this
      have hlenb:((C++br::D).map owB).length=bs.length:=by simp only[Vc,Vg];exact hDl
      have hnthb:nth ((C++br::D).map owB) b=.agg [.list 5 (br.cond.map Jf),JDU br.steps]:=by
       rw[XS,←JAE];have:(C.map owB).length=b:=by rw[Vc,hC]
       rw[←this];exact ZI
      have hS3:List.take (d+1) (List.map (Dat.int .i64) T.2.1)=(xs++[(i:Int)]).map (.int .i64):=by rw[←List.map_take,hTt]
      by_cases hsn:br.steps=[]
      ·rw[hsn,show JDU []=.nil 11 from rfl]at hnthb;have hc2:=JRm (by simp[JR]) rfl (conE r (T.1+1) (xs++[(i:Int)]++[(b:Int)]) tv ts Z);rw[hsn,Ua]at hinv2;simp only[TVn,Vw,Va,Vb,Vg,Vf,Vm,hd,Nat.zero_add]at hc2;simp only[Vw,Va,Vb]at hS3;simp only[go_sem,TVn,hdb,hnodeZ,hnthZ,hnodeZb,hnthb,hlenZ,hlenb,hS3,Vv,Vc,Nat.reduceAdd,Nat.reduceEqDiff,Nat.reduceBEq,Nat.reduceLeDiff,reduceCtorEq,↓reduceIte];refine⟨sP,⟨oM,oM⟩,⟨oM,oM⟩,⟨oM,dC⟩,⟨oM,oM⟩,⟨oM,dC⟩,JT rfl hc2 ⟨rfl,rfl,rfl,rfl,rfl,rfl,trivial⟩ ?_⟩;obtain⟨U,hU0⟩:∃U:PO,U=(T.1+1,xs++[(i:Int)]++[(b:Int)],T.2.2):=⟨_,rfl⟩;have hUinv:Xz r D (b+1) (d+1) U=RB:=by rw[hU0];exact hinv2
       have hU:d+1+1≤U.2.1.length:=by rw[hU0];simp[hd]
       have hUt1:U.2.1.take (d+1)=xs++[(i:Int)]:=by
        rw[hU0];show List.take _ (xs++[(i:Int)]++[(b:Int)])=_;rw[List.take_append_of_le_length (by simp[hd]),List.take_of_length_le (by simp[hd])]
       obtain⟨Z',hZ0⟩:∃Z':List Dat,Z'=Z:=⟨_,rfl⟩;have hZ': .own 3 Z'=setAt (.own 3 X) p k c (.own 11 ((A++(x.ren nm).Yr (C++nmB r (xs++[(i:Int)]++[(b:Int)]) br::D)::B).map owS)):=by
        rw[hZ0,hZ,JOl,hsn,Yo,←hsn,JI7]
       rw[show(T.1+1)=U.1 by rw[hU0],show List.map (Dat.int .i64) xs++[Dat.int .i64 (i:Int)]++[Dat.int .i64 (b:Int)]=U.2.1.map (.int .i64) by rw[hU0];simp,←hZ0];have e2:min (d+1+1) U.2.1.length=d+1+1:=oM;have e3:IntKind.i64.wrap (((d+1+1:Nat):Int)-1)=((d+1:Nat):Int):=XR (d+2) oM oM;have e4:(((d+1:Nat):Int)-0).toNat=d+1:=oM;have e5:Int.toNat 0=0:=rfl;simp only[go_sem,List.length_take,List.drop_zero,e2,e3,Vv,Vc,Nat.reduceAdd,Nat.reduceEqDiff,Nat.reduceBEq,Nat.reduceLeDiff,reduceCtorEq,↓reduceIte];refine⟨⟨oM,oM,oM⟩,bs.length-(b+1),_,oM,Wk.less ?_,b+1,U,Z',oM,rfl,by rw[hDD];simpa using hUinv,oM,hUt1,?_,rfl⟩
       ·simp only[go_sem,TVn,e4,e5,JF b oM,Vv,Vc,Nat.reduceAdd,Nat.reduceEqDiff,Nat.reduceBEq,Nat.reduceLeDiff,reduceCtorEq,↓reduceIte]
       ·rw[hZ',hNBt,hDD,List.append_assoc C];rfl
      ·have hnodeZs:nodeAt (.own 3 Z) (p++[(k,c)]++[(i,10)]++[(b,1)])=some (.own 11 (br.steps.map owS)):=by
        rw[hZ,List.append_assoc,List.append_assoc];have:=JQa A B (x.ren nm) C D br hsn;rw[hA,hC]at this;exact(Xi hpos _ [(i,10),(b,1)]).trans this
       have hposZ:Pos (.own 3 Z) (p++[(k,c)]++[(i,10)]) b 1:=by
        rw[hZ,List.append_assoc];have:=JTK A B (x.ren nm) C D br;rw[hA,hC]at this;exact JJ6 hpos _ [(i,10)] b 1 this
       rw[JBC hsn]at hnthb;have hlen2:(xs++[(i:Int)]++[(b:Int)]).length=d+1+1:=by simp[hd]
       obtain⟨Z',hZ0⟩:∃Z',.own 3 Z'=setAt (.own 3 Z) (p++[(k,c)]++[(i,10)]) b 1 (.own 11 ((Yo r (xs++[(i:Int)]++[(b:Int)]) 0 br.steps).map owS)):=⟨_,JHv _ _ _ _ _ _⟩;have hZ': .own 3 Z'=setAt (.own 3 X) p k c (.own 11 ((A++(x.ren nm).Yr (C++nmB r (xs++[(i:Int)]++[(b:Int)]) br::D)::B).map owS)):=by
        have hne2:Yo r (xs++[(i:Int)]++[(b:Int)]) 0 br.steps≠[]:=by
         intro e;have:=congrArg List.length e;rw[JAt]at this;exact hsn (List.eq_nil_of_length_eq_zero this)
        have h1:=JTJ A B (x.ren nm) C D br (Yo r (xs++[(i:Int)]++[(b:Int)]) 0 br.steps);rw[hA,hC,JBC hne2]at h1;rw[hZ0,hZ,List.append_assoc];exact(JCv hpos _ [(i,10)] b 1 _).trans (by rw[h1,JOl])
       have hc2:=JRm (by simp[JR,Av.get]) rfl (hVb hsn (T.1+1) (xs++[(i:Int)]++[(b:Int)]) T.2.2 tv ts Z Z' (p++[(k,c)]++[(i,10)]) b 1 (by rw[hlen2];omega) hposZ hnodeZs hZ0);rw[hlen2]at hc2;have hkeep:=JAD r br.steps 0 (d+1+1) (T.1+1,xs++[(i:Int)]++[(b:Int)],T.2.2) (by show _≤List.length _;rw[hlen2];omega);have hUinv:Xz r D (b+1) (d+1) (Ua r br.steps 0 (d+1+1) (T.1+1,xs++[(i:Int)]++[(b:Int)],T.2.2))=RB:=hinv2;generalize hU0:Ua r br.steps 0 (d+1+1) (T.1+1,xs++[(i:Int)]++[(b:Int)],T.2.2)=U at*;have hU:d+1+1≤U.2.1.length:=hkeep.1;have hUt1:U.2.1.take (d+1)=xs++[(i:Int)]:=by
        have:=congrArg (List.take (d+1)) hkeep.2;rw[List.take_take,show min (d+1) (d+1+1)=d+1 by omega]at this;rw[this];show List.take _ (List.take _ (xs++[(i:Int)]++[(b:Int)]))=_;rw[List.take_take,show min (d+1) (d+1+1)=d+1 by omega,List.take_append_of_le_length (by simp[hd]),List.take_of_length_le (by simp[hd])]
       simp only[TVn,Vw,Va,Vb]at hc2;simp only[Vw,Va,Vb]at hS3;simp only[go_sem,TVn,hdb,hnodeZ,hnthZ,hnodeZb,hnthb,hlenZ,hlenb,hS3,Vv,Vc,Nat.reduceAdd,Nat.reduceEqDiff,Nat.reduceBEq,Nat.reduceLeDiff,reduceCtorEq,↓reduceIte];refine⟨sP,⟨oM,oM⟩,⟨oM,oM⟩,⟨oM,dC⟩,⟨oM,oM⟩,⟨oM,dC⟩,JT rfl hc2 ⟨rfl,rfl,rfl,rfl,rfl,rfl,trivial⟩ ?_⟩;have e2:min (d+1+1) U.2.1.length=d+1+1:=oM;have e3:IntKind.i64.wrap (((d+1+1:Nat):Int)-1)=((d+1:Nat):Int):=XR (d+2) oM oM;have e4:(((d+1:Nat):Int)-0).toNat=d+1:=oM;have e5:Int.toNat 0=0:=rfl;simp only[go_sem,List.length_take,List.drop_zero,e2,e3,Vv,Vc,Nat.reduceAdd,Nat.reduceEqDiff,Nat.reduceBEq,Nat.reduceLeDiff,reduceCtorEq,↓reduceIte];refine⟨⟨oM,oM,oM⟩,bs.length-(b+1),_,oM,Wk.less ?_,b+1,U,Z',oM,rfl,by rw[hDD];simpa using hUinv,oM,hUt1,?_,rfl⟩
       ·simp only[go_sem,TVn,e4,e5,JF b oM,Vv,Vc,Nat.reduceAdd,Nat.reduceEqDiff,Nat.reduceBEq,Nat.reduceLeDiff,reduceCtorEq,↓reduceIte]
       ·rw[hZ',hNBt,hDD,List.append_assoc C];rfl
     ·have hdb:decide ((b:Int)<(bs.length:Int))=false:=sO;obtain rfl:b=bs.length:=oM;rw[List.drop_length,Xz]at hinv2;subst hinv2;have hNBl:NB.length=bs.length:=by rw[←hNB,JAu]
      have e2:min (d+1) T.2.1.length=d+1:=oM;have e3:IntKind.i64.wrap (((d+1:Nat):Int)-1)=((d:Nat):Int):=XR (d+1) oM oM;have e4:((d:Int)-0).toNat=d:=oM;have e5:Int.toNat 0=0:=rfl;simp only[go_sem,TVn,hdb,List.length_take,List.drop_zero,e2,e3,Vv,Vc,Nat.reduceAdd,Nat.reduceEqDiff,Nat.reduceBEq,Nat.reduceLeDiff,reduceCtorEq,↓reduceIte];refine⟨⟨oM,oM,oM⟩,l.length-(i+1),_,oM,Wk.less ?_,i+1,T,Z,oM,rfl,by rw[hBB];simpa using hinv,oM,?_,?_,rfl⟩
      ·simp only[go_sem,TVn,e4,e5,JF i oM,Vv,Vc,Nat.reduceAdd,Nat.reduceEqDiff,Nat.reduceBEq,Nat.reduceLeDiff,reduceCtorEq,↓reduceIte]
      ·have:=congrArg (List.take d) hTt;rw[List.take_take,show min d (d+1)=d by omega]at this;rw[this];simp[←hd]
      ·rw[hZ,hNt,hBB,List.append_assoc A,JOk,hnm,hbs,hNB,List.drop_length,List.append_nil,←hNBl,List.take_length];rfl
  ·have hdk:decide ((i:Int)<(l.length:Int))=false:=sO;obtain rfl:i=l.length:=oM;rw[List.drop_length,Ua]at hinv;subst hinv;rw[List.drop_length,List.append_nil,←hNl,List.take_length,←hX']at hY;obtain rfl:Y=X':=by injection hY
   simp only[go_sem,TVn,hdk,Vv,Vc,Nat.reduceAdd,Nat.reduceEqDiff,Nat.reduceBEq,Nat.reduceLeDiff,reduceCtorEq,↓reduceIte]
mutual
theorem vNs(r:Int):∀(l:List Ste),∀x∈l,∀b∈x.branches,b.steps≠[]→JEu r b.steps
 |[],x,h,_,_,_=>by cases h
 |v::q,x,h,b,hb,hn=>by
  by_cases e:x=v
  ·rw[e]at hb;exact vNS r v b hb hn
  ·exact vNs r q x ((VA.1 h).resolve_left e) b hb hn
theorem vNS(r:Int):∀(x:Ste),∀b∈x.branches,b.steps≠[]→JEu r b.steps
 |.mk n k u t l x c e ru a bs=>vNbs r bs
theorem vNbs(r:Int):∀(l:List Brn),∀b∈l,b.steps≠[]→JEu r b.steps
 |[],b,h,_=>by cases h
 |v::q,b,h,hn=>by
  by_cases e:b=v
  ·rw[e]at hn⊢;exact vNB r v hn
  ·exact vNbs r q b ((VA.1 h).resolve_left e) hn
theorem vNB(r:Int):∀(b:Brn),b.steps≠[]→JEu r b.steps
 |.mk w s,hn=>JRn r s hn (vNs r s)
end
theorem wN(r:Int)(l:List Ste)(hne:l≠[]):JEu r l:=JRn r l hne (vNs r l)
theorem JH6{r:Int}{c:Av}{v:Nat}{xs:List Int}{tv ts:Nat}{X:List Dat}{c':Av}{v':Nat}{xs':List Int}{X':List Dat}{i:Nat}(h:(JC (get (TVn r c v xs tv ts X)) (TVn r c' v' xs' tv ts X') i).isSome=true):i=1001∨i=1002∨i=1003∨i=1005∨i=1006∨i=1008:=by
 refine Decidable.byContradiction fun hn=>?_
 simp only[not_or]at hn;obtain⟨a1,a2,a3,a5,a6,a7⟩:=hn;simp[TVn,JC,upd,Av.get,a1,a2,a3,a5,a6,a7,Ne.symm a1,Ne.symm a2,Ne.symm a3,Ne.symm a5,Ne.symm a6,Ne.symm a7]at h
theorem JLa{i j:Nat}(hi:i=1001∨i=1002∨i=1003∨i=1005∨i=1006∨i=1008)(hj:j=1001∨j=1002∨j=1003∨j=1005∨j=1006∨j=1008)(h:JFD i=JFD j):i=j:=by
 rcases hi with rfl|rfl|rfl|rfl|rfl|rfl<;>rcases hj with rfl|rfl|rfl|rfl|rfl|rfl<;>first|rfl|(revert h;decide)
theorem JTL{r:Int}{a:Av}{tv ts:Nat}{X X':List Dat}{v':Nat}{xs':List Int}(ha:JR (get (TVn r (.ms 1006 0) 0 [] tv ts X)) a)(hr:a.ren JFD=a)
  (hw:KT 111 [a,.ref 1001 0,.ref 1002 0,.ref 1003 0] (TVn r (.ms 1006 0) 0 [] tv ts X) (.tup []) (TVn r (.sub 1006 v' 0 0) v' xs' tv ts X')):
  CT (.fn 111) [a,.ref 4 0,.ref 3 0,.ref 5 0]
   [(4,some (.box [.d (.nil 1)])),(6,none),(3,some (.box [.clo (.func 59) [] [.ref 1005 0]])),(5,some (.box [.clo (.func 111) [] [.ref 4 0,.ref 3 0,.ref 5 0]])),(1005,some (.box [.d (.int .i64 r)])),(1008,some (.tre tv ts 3 X))] (.tup [])
   [(4,.box [.sub 6 v' 0 0]),(3,.box [.clo (.func 59) [] [.ref 1005 0]]),(5,.box [.clo (.func 111) [] [.ref 4 0,.ref 3 0,.ref 5 0]]),(1005,.box [.d (.int .i64 r)]),(6,.row v' 1 (xs'.map (.int .i64))),(1008,.tre tv ts 3 X')]:=by
 have h:=hw.call JFD (fun i hi=>JKE hi) (fun i j hi hj=>JLa (JH6 hi) (JH6 hj)) (by
   intro c hc;simp only[VA,List.not_mem_nil,or_false]at hc;rcases hc with rfl|rfl|rfl|rfl
   ·exact ha
   all_goals simp[JR,Av.get]) (Jy (by simp[Jd,J5,JS,JR,Ue,Av.get])) [] (by simp[Av.get]) (JDk r 0 v' [] xs' tv ts X X' _ v' (.inr ⟨_,rfl⟩)) trivial
 simp only[TVn,Va,Vb,Vm,Obj.ren,Av.ren,UQ,JFD,YC,List.append_nil,Nat.reduceEqDiff,↓reduceIte]at h;rw[show a.ren (fun i=>if i=1001 then 4 else if i=1002 then 3 else if i=1003 then 5 else if i=1006 then 6 else i)=a from hr]at h;refine JN.JLk (JN.JJQ (j:=0) (JN.JLk h ?_) ?_ dC rfl dC rfl rfl) (fun e he=>he)
 ·simp
 ·simp
abbrev TW(r:Int)(tv ts:Nat)(X:List Dat):List (Nat×Av.Obj):=[(1005,.box [.d (.int .i64 r)]),(1008,.tre tv ts 3 X)]
theorem JOm(r:Int)(a:Av)(tv ts:Nat)(X X':List Dat)(v':Nat)(xs':List Int)(ha:JR (get (TW r tv ts X)) a)(ha2:JR (get (TVn r (.ms 1006 0) 0 [] tv ts X)) a)(hr:a.ren JFD=a)
  (hw:KT 111 [a,.ref 1001 0,.ref 1002 0,.ref 1003 0] (TVn r (.ms 1006 0) 0 [] tv ts X) (.tup []) (TVn r (.sub 1006 v' 0 0) v' xs' tv ts X')):
  KT 58 [a,.clo (.func 59) [] [.ref 1005 0]] (TW r tv ts X) (.tup []) (TW r tv ts X'):=by
 refine ok58.con (k:=some false) (Nat.le_of_ble_eq_true rfl) (Jn (by simp[TW,U3,put,Jd,J5,JS,JR,Av.get])) trivial ?_;have hc:=JTL ha2 hr hw;simp only[go_sem,TW,JS5,Vv,Vc,simprocAttr];refine JT rfl hc ⟨rfl,rfl,rfl,rfl,rfl,rfl,trivial⟩ ?_;simp only[go_sem,Vv,Vc,simprocAttr]
theorem visN(r:Int)(l:List Ste)(hl:J6 l≤100000000)(tv ts:Nat)(X X':List Dat)(p:List (Nat×Nat))(k c:Nat)(hne:l≠[])(hpos:Pos (.own 3 X) p k c)
  (hn:nodeAt (.own 3 X) (p++[(k,c)])=some (.own 11 (l.map owS)))(hX: .own 3 X'=setAt (.own 3 X) p k c (.own 11 ((Yo r [] 0 l).map owS))):
  KT 58 [.tr 1008 ⟨tv,ts,p++[(k,c)],none⟩,.clo (.func 59) [] [.ref 1005 0]] (TW r tv ts X) (.tup []) (TW r tv ts X'):=
 JOm r _ tv ts X X' _ _ (by simp[JR,Av.get]) (by simp[JR,Av.get]) rfl (wN r l hne 0 [] [] tv ts X X' p k c sO hpos hn hX)
theorem visE(r:Int)(tv ts:Nat)(X:List Dat):KT 58 [.d (.nil 11),.clo (.func 59) [] [.ref 1005 0]] (TW r tv ts X) (.tup []) (TW r tv ts X):=
 JOm r _ tv ts X X _ _ (by simp[JR]) (by simp[JR]) rfl (conE r 0 [] tv ts X)
end Go.Proofs
namespace Go.Proofs
open Go Av
@[instance_reducible] def JQb:Rls:={rl:=fun n=>n==1,tr:=fun n=>n==11||n==2}
attribute [local instance 2000] JQb
theorem JGb(n:Nat): @Rls.rl JQb n=(n==1):=rfl
theorem JH7(n:Nat): @Rls.tr JQb n=(n==11||n==2):=rfl
theorem YW(sz n:Nat): @Y0 JQb sz n=(sz==1&&n==1):=by unfold Y0;rw[JGb];show((sz==1&&n==1)||(false&&_))=_;rw[Bool.false_and,Bool.or_false]
def stA(s:Ste)(i:Nat):Av:=.agg [.d (.str s.name),.d (.int .i64 s.kind),.d (.int .i64 s.number),.d (.int .i64 s.time),.d (.int .i64 s.limit),.d (.str s.text),.d (.str s.schema),.d (.list 5 (s.exprs.map Jf)),.d (.list 6 (s.rules.map UT)),.d (.list 2 (s.calls.map Je)),.tr i ⟨s.branches.length-1,0,[],none⟩]
def brA(b:Brn)(i:Nat):Av:=.agg [.d (.list 5 (b.cond.map Jf)),.tr i ⟨b.steps.length-1,0,[],none⟩]
def JOn(s:Ste):Prop:=(s.branches=[]→CT 57 [.d (JH s)] [] (.d (owS s)) [])∧(s.branches≠[]→∀i,CT 57 [.d (JH s)] [(i,none)] (stA s i) [(i,.tre (s.branches.length-1) 0 2 (s.branches.map owB))])
def JOo(b:Brn):Prop:=(b.steps=[]→CT 110 [.d (J1 b)] [] (.d (owB b)) [])∧(b.steps≠[]→∀i,CT 110 [.d (J1 b)] [(i,none)] (brA b i) [(i,.tre (b.steps.length-1) 0 11 (b.steps.map owS))])
def C164(l:List Brn):Prop:=(l=[]→CT 109 [.d (.list 2 []),.d (.fn (.func 110) [] [])] [] (.d (.nil 2)) [])∧(l≠[]→∀i,CT 109 [.d (.list 2 (l.map J1)),.d (.fn (.func 110) [] [])] [(i,none)] (.tr i ⟨l.length-1,0,[],none⟩) [(i,.tre (l.length-1) 0 2 (l.map owB))])
def JTM(l:List Ste):Prop:=(l=[]→CT 56 [.d (.list 11 []),.d (.fn (.func 57) [] [])] [] (.d (.nil 11)) [])∧(l≠[]→∀i,CT 56 [.d (.list 11 (l.map JH)),.d (.fn (.func 57) [] [])] [(i,none)] (.tr i ⟨l.length-1,0,[],none⟩) [(i,.tre (l.length-1) 0 11 (l.map owS))])
theorem JTN:CT 56 [.d (.list 11 []),.d (.fn (.func 57) [] [])] [] (.d (.nil 11)) []:=by
 refine Con.JKV (ds:=[.list 11 [],.fn (.func 57) [] []]) ?_;refine JOE.con (k:=some true) (Nat.le_of_ble_eq_true rfl) (by intro i o h;cases h) trivial ?_;simp only[go_sem,JP6,Vm,Vv,Vc,simprocAttr];refine JK (fun n s=>s=⟨[(1,.d (.fn (.func 57) [] [])),(5,.d (.nil 11)),(8,.d (.list 11 [])),(9,.d (.int .i64 0)),(10,.d (.int .i64 0))],[]⟩) ?_ ?_
 ·exact⟨0,_,Wk.refl _,rfl⟩
 ·rintro n s rfl;simp only[go_sem,Int.lt_irrefl,decide_false,Vu,Vv,Vc,simprocAttr]
theorem con56(l:List Ste)(hne:l≠[])(h:∀x∈l,JOn x):KT 56 [.d (.list 11 (l.map JH)),.d (.fn (.func 57) [] [])] [] (.tr 19 ⟨l.length-1,0,[],none⟩) [(19,.tre (l.length-1) 0 11 (l.map owS))]:=by
 refine Con.Jk JOE.has fun hfit=>?_
 have hl:l.length≤68719476736:=by have:=(hfit (.list 11 (l.map JH)) sP).1;simpa using this
 clear hfit;refine JOE.con (k:=some true) (Nat.le_of_ble_eq_true rfl) (Jn (by simp[U3,put,Jd,J5])) (by simp[JC,upd,inT,JR,JS]) ?_;simp only[go_sem,JP6,Vv,Vc,Nat.reduceAdd,Nat.reduceEqDiff,Nat.reduceBEq,Nat.reduceLeDiff,reduceCtorEq,↓reduceIte];refine JK (fun n s=>∃k:Nat,k≤l.length∧n=l.length-k∧
  s=⟨[(1,.d (.fn (.func 57) [] [])),(5,match k with|0=>.d (.nil 11)|j+1=>.tr 19 ⟨j,0,[],none⟩),(8,.d (.list 11 (l.map JH))),(9,.d (.int .i64 l.length)),(10,.d (.int .i64 k))],match k with|0=>[]|j+1=>[(19,.tre j 0 11 ((l.take k).map owS))]⟩) ?_ ?_
 ·exact⟨_,_,Wk.refl _,0,Nat.zero_le _,rfl,rfl⟩
 ·rintro n s ⟨k,hk,rfl,rfl⟩;by_cases hlt:k<l.length
  ·have hx:=Zo hlt;have hd:=dT hlt;have hc:=h _ (Vk hlt);have htk:=List.take_succ_eq_append_getElem hlt;generalize l[k]=x at*;by_cases hb:x.branches=[]
   ·have hc1:=hc.1 hb;rw[JV,Xj,hb,show JOi []=.nil 2 from rfl,Vb]at hc1;have how:owS x=.agg [.str x.name,.int .i64 x.kind,.int .i64 x.number,.int .i64 x.time,.int .i64 x.limit,.str x.text,.str x.schema,.list 5 (x.exprs.map Jf),.list 6 (x.rules.map UT),.list 2 (x.calls.map Je),.nil 2]:=by rw[Xj,hb];rfl
    rw[hb,Vb]at hx;cases k with
    |zero=>
     refine zz6 ?_;refine⟨oM,wn hc1 ?_⟩;simp only[go_sem,JGb,JH7,YW,Bool.false_and,Nat.reduceEqDiff,Bool.or_false,Bool.false_or,Bool.or_true,Bool.true_or,Vv,Vc,Nat.reduceAdd,Nat.reduceEqDiff,Nat.reduceBEq,Nat.reduceLeDiff,reduceCtorEq,↓reduceIte];refine⟨sP,⟨dC,dC,sP⟩,l.length-1,_,oM,Wk.less ?_,1,oM,rfl,rfl⟩;rw[htk,List.take_zero,List.nil_append];simp only[go_sem,Va,Vb,how,Vv,Vc,Nat.reduceAdd,Nat.reduceEqDiff,Nat.reduceBEq,Nat.reduceLeDiff,reduceCtorEq,↓reduceIte]
     try rfl
    |succ j=>
     refine zz6 ?_;refine⟨oM,wn hc1 ?_⟩;simp only[go_sem,JGb,JH7,YW,Bool.false_and,Nat.reduceEqDiff,Bool.or_false,Bool.false_or,Bool.or_true,Bool.true_or,JAR,Vv,Vc,Nat.reduceAdd,Nat.reduceEqDiff,Nat.reduceBEq,Nat.reduceLeDiff,reduceCtorEq,↓reduceIte];refine⟨sP,⟨dC,sO,sP⟩,l.length-(j+1+1),_,oM,Wk.less ?_,j+1+1,oM,rfl,rfl⟩;rw[htk,Vw];simp only[go_sem,Va,Vb,how,JF (j+1) oM,Vv,Vc,Nat.reduceAdd,Nat.reduceEqDiff,Nat.reduceBEq,Nat.reduceLeDiff,reduceCtorEq,↓reduceIte]
   ·have hc2:=hc.2 hb 17;rw[JV,stA]at hc2;have how:owS x=.agg [.str x.name,.int .i64 x.kind,.int .i64 x.number,.int .i64 x.time,.int .i64 x.limit,.str x.text,.str x.schema,.list 5 (x.exprs.map Jf),.list 6 (x.rules.map UT),.list 2 (x.calls.map Je),.own 2 (x.branches.map owB)]:=by rw[Xj,JAF hb]
    cases k with
    |zero=>
     refine zz6 ?_;refine⟨oM,wn hc2 ?_⟩;simp only[go_sem,JGb,JH7,YW,Bool.false_and,Nat.reduceEqDiff,Bool.or_false,Bool.false_or,Bool.or_true,Bool.true_or,Vv,Vc,Nat.reduceAdd,Nat.reduceEqDiff,Nat.reduceBEq,Nat.reduceLeDiff,reduceCtorEq,↓reduceIte];refine⟨sP,l.length-1,_,oM,Wk.less ?_,1,oM,rfl,rfl⟩;rw[htk,List.take_zero,List.nil_append];simp only[go_sem,Va,Vb,how,Vv,Vc,Nat.reduceAdd,Nat.reduceEqDiff,Nat.reduceBEq,Nat.reduceLeDiff,reduceCtorEq,↓reduceIte]
     try rfl
    |succ j=>
     refine zz6 ?_;refine⟨oM,wn hc2 ?_⟩;simp only[go_sem,JGb,JH7,YW,Bool.false_and,Nat.reduceEqDiff,Bool.or_false,Bool.false_or,Bool.or_true,Bool.true_or,Vv,Vc,Nat.reduceAdd,Nat.reduceEqDiff,Nat.reduceBEq,Nat.reduceLeDiff,reduceCtorEq,↓reduceIte];refine⟨⟨oM,sO⟩,l.length-(j+1+1),_,oM,Wk.less ?_,j+1+1,oM,rfl,rfl⟩;rw[htk,Vw];simp only[go_sem,Va,Vb,how,JF (j+1) oM,Vv,Vc,Nat.reduceAdd,Nat.reduceEqDiff,Nat.reduceBEq,Nat.reduceLeDiff,reduceCtorEq,↓reduceIte]
  ·have hd:=dF hlt;obtain rfl:k=l.length:=oM;obtain⟨j,hj⟩:∃j,l.length=j+1:=⟨l.length-1,by have:=List.length_pos_iff.2 hne;omega⟩;simp only[go_sem,hd,hj,List.take_length,Int.lt_irrefl,decide_false,Vu,Vv,Vc,Nat.reduceAdd,Nat.reduceEqDiff,Nat.reduceBEq,Nat.reduceLeDiff,reduceCtorEq,↓reduceIte];rw[show List.take (j+1) l=l by rw[←hj,List.take_length]];exact⟨rfl,rfl⟩
theorem JTO:CT 109 [.d (.list 2 []),.d (.fn (.func 110) [] [])] [] (.d (.nil 2)) []:=by
 refine Con.JKV (ds:=[.list 2 [],.fn (.func 110) [] []]) ?_;refine JHo.con (k:=some true) (Nat.le_of_ble_eq_true rfl) (by intro i o h;cases h) trivial ?_;simp only[go_sem,JJ0,Vm,Vv,Vc,simprocAttr];refine JK (fun n s=>s=⟨[(1,.d (.fn (.func 110) [] [])),(5,.d (.nil 2)),(8,.d (.list 2 [])),(9,.d (.int .i64 0)),(10,.d (.int .i64 0))],[]⟩) ?_ ?_
 ·exact⟨0,_,Wk.refl _,rfl⟩
 ·rintro n s rfl;simp only[go_sem,Int.lt_irrefl,decide_false,Vu,Vv,Vc,simprocAttr]
theorem JTP(l:List Brn)(hne:l≠[])(h:∀x∈l,JOo x):KT 109 [.d (.list 2 (l.map J1)),.d (.fn (.func 110) [] [])] [] (.tr 19 ⟨l.length-1,0,[],none⟩) [(19,.tre (l.length-1) 0 2 (l.map owB))]:=by
 refine Con.Jk JHo.has fun hfit=>?_
 have hl:l.length≤68719476736:=by have:=(hfit (.list 2 (l.map J1)) sP).1;simpa using this
 clear hfit;refine JHo.con (k:=some true) (Nat.le_of_ble_eq_true rfl) (Jn (by simp[U3,put,Jd,J5])) (by simp[JC,upd,inT,JR,JS]) ?_;simp only[go_sem,JJ0,Vv,Vc,Nat.reduceAdd,Nat.reduceEqDiff,Nat.reduceBEq,Nat.reduceLeDiff,reduceCtorEq,↓reduceIte];refine JK (fun n s=>∃k:Nat,k≤l.length∧n=l.length-k∧
  s=⟨[(1,.d (.fn (.func 110) [] [])),(5,match k with|0=>.d (.nil 2)|j+1=>.tr 19 ⟨j,0,[],none⟩),(8,.d (.list 2 (l.map J1))),(9,.d (.int .i64 l.length)),(10,.d (.int .i64 k))],match k with|0=>[]|j+1=>[(19,.tre j 0 2 ((l.take k).map owB))]⟩) ?_ ?_
 ·exact⟨_,_,Wk.refl _,0,Nat.zero_le _,rfl,rfl⟩
 ·rintro n s ⟨k,hk,rfl,rfl⟩;by_cases hlt:k<l.length
  ·have hx:=YV hlt;have hd:=dT hlt;have hc:=h _ (Vk hlt);have htk:=List.take_succ_eq_append_getElem hlt;generalize l[k]=x at*;by_cases hb:x.steps=[]
   ·have hc1:=hc.1 hb;rw[Xy,JAE,hb,show JDU []=.nil 11 from rfl,Vb]at hc1;have how:owB x=.agg [.list 5 (x.cond.map Jf),.nil 11]:=by rw[JAE,hb];rfl
    rw[hb,Vb]at hx;cases k with
    |zero=>
     refine zz6 ?_;refine⟨oM,wn hc1 ?_⟩;simp only[go_sem,JGb,JH7,YW,Bool.false_and,Nat.reduceEqDiff,Bool.or_false,Bool.false_or,Bool.or_true,Bool.true_or,Vv,Vc,Nat.reduceAdd,Nat.reduceEqDiff,Nat.reduceBEq,Nat.reduceLeDiff,reduceCtorEq,↓reduceIte];refine⟨sP,⟨dC,dC,sP⟩,l.length-1,_,oM,Wk.less ?_,1,oM,rfl,rfl⟩;rw[htk,List.take_zero,List.nil_append];simp only[go_sem,Va,Vb,how,Vv,Vc,Nat.reduceAdd,Nat.reduceEqDiff,Nat.reduceBEq,Nat.reduceLeDiff,reduceCtorEq,↓reduceIte]
     try rfl
    |succ j=>
     refine zz6 ?_;refine⟨oM,wn hc1 ?_⟩;simp only[go_sem,JGb,JH7,YW,Bool.false_and,Nat.reduceEqDiff,Bool.or_false,Bool.false_or,Bool.or_true,Bool.true_or,JAR,Vv,Vc,Nat.reduceAdd,Nat.reduceEqDiff,Nat.reduceBEq,Nat.reduceLeDiff,reduceCtorEq,↓reduceIte];refine⟨sP,⟨dC,sO,sP⟩,l.length-(j+1+1),_,oM,Wk.less ?_,j+1+1,oM,rfl,rfl⟩;rw[htk,Vw];simp only[go_sem,Va,Vb,how,JF (j+1) oM,Vv,Vc,Nat.reduceAdd,Nat.reduceEqDiff,Nat.reduceBEq,Nat.reduceLeDiff,reduceCtorEq,↓reduceIte]
   ·have hc2:=hc.2 hb 17;rw[Xy,brA]at hc2;have how:owB x=.agg [.list 5 (x.cond.map Jf),.own 11 (x.steps.map owS)]:=by rw[JAE,JBC hb]
    cases k with
    |zero=>
     refine zz6 ?_;refine⟨oM,wn hc2 ?_⟩;simp only[go_sem,JGb,JH7,YW,Bool.false_and,Nat.reduceEqDiff,Bool.or_false,Bool.false_or,Bool.or_true,Bool.true_or,Vv,Vc,Nat.reduceAdd,Nat.reduceEqDiff,Nat.reduceBEq,Nat.reduceLeDiff,reduceCtorEq,↓reduceIte];refine⟨sP,l.length-1,_,oM,Wk.less ?_,1,oM,rfl,rfl⟩;rw[htk,List.take_zero,List.nil_append];simp only[go_sem,Va,Vb,how,Vv,Vc,Nat.reduceAdd,Nat.reduceEqDiff,Nat.reduceBEq,Nat.reduceLeDiff,reduceCtorEq,↓reduceIte]
     try rfl
    |succ j=>
     refine zz6 ?_;refine⟨oM,wn hc2 ?_⟩;simp only[go_sem,JGb,JH7,YW,Bool.false_and,Nat.reduceEqDiff,Bool.or_false,Bool.false_or,Bool.or_true,Bool.true_or,Vv,Vc,Nat.reduceAdd,Nat.reduceEqDiff,Nat.reduceBEq,Nat.reduceLeDiff,reduceCtorEq,↓reduceIte];refine⟨⟨oM,sO⟩,l.length-(j+1+1),_,oM,Wk.less ?_,j+1+1,oM,rfl,rfl⟩;rw[htk,Vw];simp only[go_sem,Va,Vb,how,JF (j+1) oM,Vv,Vc,Nat.reduceAdd,Nat.reduceEqDiff,Nat.reduceBEq,Nat.reduceLeDiff,reduceCtorEq,↓reduceIte]
  ·have hd:=dF hlt;obtain rfl:k=l.length:=oM;obtain⟨j,hj⟩:∃j,l.length=j+1:=⟨l.length-1,by have:=List.length_pos_iff.2 hne;omega⟩;simp only[go_sem,hd,hj,List.take_length,Int.lt_irrefl,decide_false,Vu,Vv,Vc,Nat.reduceAdd,Nat.reduceEqDiff,Nat.reduceBEq,Nat.reduceLeDiff,reduceCtorEq,↓reduceIte];rw[show List.take (j+1) l=l by rw[←hj,List.take_length]];exact⟨rfl,rfl⟩
theorem c109(l:List Brn)(h:∀x∈l,JOo x):C164 l:=⟨fun _=>JTO,fun hne i=>Con.JPP (ds:=[.list 2 (l.map J1),.fn (.func 110) [] []]) (JTP l hne h) (by simp[JC,upd,inT,JR,JS]) i⟩
theorem c56(l:List Ste)(h:∀x∈l,JOn x):JTM l:=⟨fun _=>JTN,fun hne i=>Con.JPP (ds:=[.list 11 (l.map JH),.fn (.func 57) [] []]) (con56 l hne h) (by simp[JC,upd,inT,JR,JS]) i⟩
theorem c110(b:Brn)(h:JTM b.steps):JOo b:=by
 have h1:=(JDh b.cond fun x _=>p81 x).call trivial;refine⟨fun hb=>?_,fun hb i=>?_⟩
 ·refine Con.JKV (ds:=[J1 b]) ?_;refine JOD.con (k:=some true) (Nat.le_of_ble_eq_true rfl) (by intro i o h;cases h) trivial ?_;have hc:=h.1 hb;rw[Xy,JAE,hb,show JDU []=.nil 11 from rfl];simp only[go_sem,JJ1,Vv,Vc,simprocAttr];refine JI rfl h1 trivial ?_;simp only[go_sem,Vv,Vc,simprocAttr];refine JI rfl hc trivial ?_;simp only[go_sem,Vv,Vc,simprocAttr];rfl
 ·have:KT 110 [.d (J1 b)] [] (brA b 8) [(8,.tre (b.steps.length-1) 0 11 (b.steps.map owS))]:=by
   refine JOD.con (k:=some true) (Nat.le_of_ble_eq_true rfl) (Jn (by simp[U3,put,Jd,J5])) (by simp[brA,JC,upd,inT,JR,JS]) ?_;have hc:=h.2 hb 8;rw[Xy,brA];simp only[go_sem,JJ1,Vv,Vc,simprocAttr];refine JI rfl h1 trivial ?_;simp only[go_sem,Vv,Vc,simprocAttr];refine JI rfl hc ⟨rfl,trivial⟩ ?_;simp only[go_sem,Vv,Vc,simprocAttr];rfl
  exact Con.JPP (ds:=[J1 b]) this (by simp[brA,JC,upd,inT,JR,JS]) i
theorem c57(s:Ste)(h:C164 s.branches):JOn s:=by
 have h1:=(JDh s.exprs fun x _=>p81 x).call trivial;have h2:=(p82 s.rules).call trivial;have h3:=(JGQ s.calls fun x _=>JSb x).call trivial;simp only[JD,Va,Vb]at h2;refine⟨fun hb=>?_,fun hb i=>?_⟩
 ·refine Con.JKV (ds:=[JH s]) ?_;refine JP7.con (k:=some true) (Nat.le_of_ble_eq_true rfl) (by intro i o h;cases h) trivial ?_;have hc:=h.1 hb;rw[JV,Xj,hb,show JOi []=.nil 2 from rfl];simp only[go_sem,JOF,Vv,Vc,simprocAttr];refine wn h1 ?_;simp only[go_sem,Vv,Vc,simprocAttr];refine wn h2 ?_;simp only[go_sem,Vv,Vc,simprocAttr];refine wn h3 ?_;simp only[go_sem,Vv,Vc,simprocAttr];refine wn hc ?_;simp only[go_sem,Vv,Vc,simprocAttr]
 ·have:KT 57 [.d (JH s)] [] (stA s 17) [(17,.tre (s.branches.length-1) 0 2 (s.branches.map owB))]:=by
   refine JP7.con (k:=some true) (Nat.le_of_ble_eq_true rfl) (Jn (by simp[U3,put,Jd,J5])) (by simp[stA,JC,upd,inT,JR,JS]) ?_;have hc:=h.2 hb 17;rw[JV,stA];simp only[go_sem,JOF,Vv,Vc,simprocAttr];refine wn h1 ?_;simp only[go_sem,Vv,Vc,simprocAttr];refine wn h2 ?_;simp only[go_sem,Vv,Vc,simprocAttr];refine wn h3 ?_;simp only[go_sem,Vv,Vc,simprocAttr];refine wn hc ?_;simp only[go_sem,Vv,Vc,simprocAttr]
  exact Con.JPP (ds:=[JH s]) this (by simp[stA,JC,upd,inT,JR,JS]) i
mutual
theorem k106:∀(s:Ste),JOn s
 |.mk n k u t l x c e r a b=>c57 _ (c109 b (JRo b))
theorem JOp:∀(l:List Ste),∀x∈l,JOn x
 |[],x,h=>by cases h
 |v::r,x,h=>by
  by_cases e:x=v
  ·rw[e];exact k106 v
  ·exact JOp r x ((VA.1 h).resolve_left e)
theorem k165:∀(b:Brn),JOo b
 |.mk w s=>c110 _ (c56 s (JOp s))
theorem JRo:∀(l:List Brn),∀x∈l,JOo x
 |[],x,h=>by cases h
 |v::r,x,h=>by
  by_cases e:x=v
  ·rw[e];exact k165 v
  ·exact JRo r x ((VA.1 h).resolve_left e)
end
theorem k105(l:List Ste):JTM l:=c56 l (JOp l)
end Go.Proofs
namespace Go.Proofs
open Go Av
section
@[instance_reducible] def JQc:Rls:={rl:=fun n=>n==1,tr:=fun n=>n==3}
attribute [local instance 2000] JQc
theorem rl_3(n:Nat): @Rls.rl JQc n=(n==1):=rfl
theorem tr_3(n:Nat): @Rls.tr JQc n=(n==3):=rfl
theorem JOq(sz n:Nat): @Y0 JQc sz n=(sz==1&&n==1):=by unfold Y0;rw[rl_3];show((sz==1&&n==1)||(false&&_))=_;rw[Bool.false_and,Bool.or_false]
theorem call55(l:List Rou)(hne:l≠[])(i:Nat):CT 55 [.d (.list 3 (l.map Ui))] [(i,none)] (.tr i ⟨0,0,[],none⟩) [(i,.tre 0 0 3 (l.map Ui))]:=by
 have:KT 55 [.d (.list 3 (l.map Ui))] [] (.tr 7 ⟨0,0,[],none⟩) [(7,.tre 0 0 3 (l.map Ui))]:=by
  refine Con.Jk ok55.has fun hfit=>?_
  have hl:l.length≤68719476736:=by have:=(hfit (.list 3 (l.map Ui)) sP).1;simpa using this
  clear hfit;refine ok55.con (k:=some true) (Nat.le_of_ble_eq_true rfl) (Jn (by simp[U3,put,Jd,J5])) (by simp[JC,upd,inT,JR,JS]) ?_;obtain⟨x,q,rfl⟩:∃x q,l=x::q:=by cases l with|nil=>exact absurd rfl hne|cons x q=>exact⟨x,q,rfl⟩
  have hcl:∀y∈Ui x::q.map Ui,y.cells.length=3:=by
   intro y hy;rw[←Va]at hy;obtain⟨z,_,rfl⟩:=VC.1 hy;rfl
  simp only[Dat.cells]at hcl;simp only[go_sem,ir55,rl_3,tr_3,JOq,Va,Vm,Vu,Bool.false_and,Vv,Vc,Nat.reduceAdd,Nat.reduceEqDiff,Nat.reduceBEq,Nat.reduceLeDiff,reduceCtorEq,↓reduceIte];exact⟨sP,dC,sP,by simpa using hl,hcl⟩
 exact Con.JPP (ds:=[.list 3 (l.map Ui)]) this (by simp[JC,upd,inT,JR,JS]) i
end
theorem JRp{r:Int}{a:Av}{tv ts:Nat}{X X':List Dat}{a':Av}(ha:JR (get (TW r tv ts X)) a)(hr:a.ren (fun i=>if i=1005 then 3 else if i=1008 then 6 else i)=a')
  (h:KT 58 [a,.clo (.func 59) [] [.ref 1005 0]] (TW r tv ts X) (.tup []) (TW r tv ts X')):
  CT (.fn 58) [a',.clo (.func 59) [] [.ref 3 0]] [(3,some (.box [.d (.int .i64 r)])),(6,some (.tre tv ts 3 X))] (.tup []) [(3,.box [.d (.int .i64 r)]),(6,.tre tv ts 3 X')]:=by
 have hd:∀o i,(JC (get (TW r tv ts X)) (TW r tv ts o) i).isSome=true→i=1005∨i=1008:=by
  intro o i h;refine Decidable.byContradiction fun hn=>?_
  simp only[not_or]at hn;obtain⟨a1,a2⟩:=hn;simp[TW,JC,upd,Av.get,a1,a2,Ne.symm a1,Ne.symm a2]at h
 have h:=h.call (fun i=>if i=1005 then 3 else if i=1008 then 6 else i) (fun i hi=>by
   simp only[TW,Av.get]at hi
   repeat' split at hi
   all_goals first|(cases hi;done)|omega) (fun i j hi hj h=>by
   rcases hd _ i hi with rfl|rfl<;>rcases hd _ j hj with rfl|rfl<;>first|rfl|(revert h;decide)) (by
   intro c hc;simp only[VA,List.not_mem_nil,or_false]at hc;rcases hc with rfl|rfl
   ·exact ha
   ·simp[JR,JS,Av.get]) (Jy (by simp[Jd,J5,JS,JR,Ue,Av.get])) [] (by simp[Av.get])
   (Jn (by simp[TW,U3,put,Jd,J5,JS,JR,Av.get])) trivial
 simp only[TW,Va,Vb,Vm,Obj.ren,Av.ren,UQ,YC,List.append_nil,Nat.reduceEqDiff,↓reduceIte,hr]at h;exact h
def owO(x:Rou):Dat:=.agg [.str x.name,.str x.src,JDU x.steps]
def nmO(i:Int)(x:Rou):Rou:=⟨x.name,x.src,Yo i [] 0 x.steps⟩
def ZL:Int→List Rou→List Rou
 |_,[]=>[]
 |i,x::r=>nmO i x::ZL (i+1) r
theorem ZJ:∀(l:List Rou) (i:Int),(ZL i l).length=l.length
 |[],_=>rfl
 |x::q,i=>by simp[ZL,ZJ q]
theorem JH8:∀(l:List Rou) (i:Int) (k:Nat) (h:k<l.length),(ZL i l)[k]'(by rw[ZJ];exact h)=nmO (i+k) l[k]
 |x::q,i,0,_=>by simp[ZL]
 |x::q,i,k+1,h=>by
  simp only[ZL,List.getElem_cons_succ];rw[JH8 q (i+1) k (sX h)];congr 1;omega
theorem JOr(l:List Ste):(JDU l).dat.canon=.list 11 (l.map JH):=by
 have:=JEt l;rw[JEs,Z9]at this;cases l with
 |nil=>rfl
 |cons x r=>simp only[JDU,Dat.dat,Dat.canon];rw[this]
theorem JQd(x:Rou):(owO x).dat.canon=Ui x:=by
 have:=JOr x.steps;simp only[owO,Dat.dat,Dat.dat.datL,Dat.canon,JG,Ui,this]
def UJ(p:Prg):Prg:=⟨p.version,p.schemas,p.endpoints,p.services,ZL 0 p.routes⟩
def nmP(p:Prg):Prop:=∀x∈p.routes,J6 x.steps≤100000000
theorem JOs(p:Prg)(hne:p.routes≠[])(hsz:nmP p):PT 31 [UD p] (.d (UD (UJ p))):=by
 refine J3.Jk ok31.has fun hfit=>?_
 have hl:p.routes.length≤68719476736:=by
  have:=hfit _ (Vh);simp only[UD,fits,Un,Vc]at this;omega
 clear hfit;refine ok31.pc ?_;have c0:=call55 p.routes hne 6;unfold UJ;unfold nmP at hsz;generalize hN:ZL 0 p.routes=N at*;have hNl:N.length=p.routes.length:=by rw[←hN,ZJ]
 generalize hll:p.routes=l at*;obtain⟨p0,hp0⟩:∃p0:List (Nat×Nat),p0=[]:=⟨_,rfl⟩;rw[←hp0]at c0;have hn0:∀Y:List Dat,nodeAt (.own 3 Y) p0=some (.own 3 Y):=by intro Y;rw[hp0];rfl
 simp only[go_sem,ir31,UD,Vv,Vc,Nat.reduceAdd,Nat.reduceEqDiff,Nat.reduceBEq,Nat.reduceLeDiff,reduceCtorEq,↓reduceIte];rw[hll];refine wn c0 ?_;simp only[go_sem,hn0,Vv,Vc,Nat.reduceAdd,Nat.reduceEqDiff,Nat.reduceBEq,Nat.reduceLeDiff,reduceCtorEq,↓reduceIte];refine JK (fun n st=>∃(k sv:Nat) (X:List Dat),k≤l.length∧n=l.length-k∧X=(N.take k).map owO++(l.drop k).map Ui∧
  st=⟨[(1,.ref 1 0),(2,.ref 2 0),(10,.d (.int .i64 l.length)),(11,.d (.int .i64 k))],
   [(1,.box [.d (.int .i64 p.version),.d (.list 9 (p.schemas.map UB)),.d (.list 7 (p.endpoints.map Jo)),.d (.list 4 (p.services.map Uy)),.tr 6 ⟨0,0,p0,none⟩]),
    (2,.box [.d (.int .i64 0),.d (.nil 9),.d (.nil 7),.d (.nil 4),.d (.nil 3)]),(6,.tre 0 sv 3 X)]⟩) ?_ ?_
 ·refine⟨_,_,Wk.less ?_,0,0,l.map Ui,Nat.zero_le _,rfl,sP,rfl⟩;simp[go_sem]
 ·rintro n st ⟨k,sv,X,hk,rfl,hX,rfl⟩;by_cases hlt:k<l.length
  ·have hd:=dT hlt;have hszx:=hsz _ (Vk hlt);have hNk:N[k]'oM=nmO k l[k]:=by
    have:=JH8 l 0 k hlt;simp only[hN,Int.zero_add]at this;exact this
   have hNt:N.take (k+1)=N.take k++[nmO k l[k]]:=by rw[List.take_succ_eq_append_getElem oM,hNk]
   have hA:(N.take k).length=k:=by rw[List.length_take];omega
   rw[Vq hlt,Va]at hX;have hXl:X.length=l.length:=by rw[hX];simp only[Vg,Vc,Vf,List.length_drop,hA];omega
   generalize hxx:l[k]=x at*;generalize hAA:N.take k=A at*;generalize hBB:l.drop (k+1)=B at*;have hA2:(A.map owO).length=k:=by rw[Vc,hA]
   have hmid:∀y:Dat,nth (A.map owO++y::B.map Ui) k=y:=by intro y;rw[←hA2];exact ZI
   have hsetm:∀(cs:List Dat) (c:Nat) (y:Dat),setAt (.own 3 (A.map owO++ .agg cs::B.map Ui)) p0 k c y=.own 3 (A.map owO++ .agg (cs.set c y)::B.map Ui):=by
    intro cs c y;rw[hp0,←hA2];simp only[setAt,ZI,JDj,U0]
   have hnthX:nth X k=.agg [.str x.name,.str x.src,.list 11 (x.steps.map JH)]:=by rw[hX];exact hmid (Ui x)
   have hlen1:∀y:Dat,(A.map owO++y::B.map Ui).length=l.length:=by
    intro y;have:=congrArg List.length hBB;simp only[List.length_drop]at this;simp only[Vg,Vc,Vf,hA];omega
   by_cases hs:x.steps=[]
   ·have hc:=(k105 x.steps).1 hs;rw[hs,Vb]at hnthX;obtain⟨X1,hX1⟩:∃X1,X1=A.map owO++owO x::B.map Ui:=⟨_,rfl⟩;have hset:setAt (.own 3 X) p0 k 2 (.nil 11)=.own 3 X1:=by
     rw[hX,hX1];refine(hsetm [.str x.name,.str x.src,.list 11 (x.steps.map JH)] 2 (.nil 11)).trans ?_;rw[owO,hs];rfl
    have hnth1:nth X1 k=.agg [.str x.name,.str x.src,.nil 11]:=by rw[hX1,hmid,owO,hs];rfl
    have hl1:X1.length=l.length:=by rw[hX1];exact hlen1 _
    have hV:=JRp (a':=.d (.nil 11)) (by simp[JR]) rfl (visE (k:Int) 0 sv X1);simp only[go_sem,hd,hn0,hnthX,hXl,Vv,Vc,Nat.reduceAdd,Nat.reduceEqDiff,Nat.reduceBEq,Nat.reduceLeDiff,reduceCtorEq,↓reduceIte];refine⟨⟨.inl hp0,oM,oM⟩,⟨oM,dC⟩,?_⟩;refine JI rfl hc trivial ?_;simp only[go_sem,hn0,hnthX,hXl,hset,hnth1,hl1,List.any_cons,List.any_nil,Jx,Bool.or_false,Vu,Vv,Vc,Nat.reduceAdd,Nat.reduceEqDiff,Nat.reduceBEq,Nat.reduceLeDiff,reduceCtorEq,↓reduceIte];refine⟨⟨.inl hp0,oM,oM⟩,hlt,rfl,⟨.inl hp0,oM,oM⟩,⟨hlt,dC⟩,wn hV ?_⟩;simp only[go_sem,Vv,Vc,Nat.reduceAdd,Nat.reduceEqDiff,Nat.reduceBEq,Nat.reduceLeDiff,reduceCtorEq,↓reduceIte];refine⟨l.length-(k+1),_,oM,Wk.less ?_,k+1,sv,X1,oM,rfl,?_,rfl⟩
    ·simp only[go_sem,JF k oM,Vv,Vc,Nat.reduceAdd,Nat.reduceEqDiff,Nat.reduceBEq,Nat.reduceLeDiff,reduceCtorEq,↓reduceIte]
    ·rw[hX1,hNt,hBB,Vw,List.append_assoc];have:nmO (k:Int) x=x:=by
      unfold nmO;rw[hs,Yo,←hs]
     rw[this];rfl
   ·have hc:=(k105 x.steps).2 hs 23;obtain⟨X1,hX1⟩:∃X1,X1=A.map owO++owO x::B.map Ui:=⟨_,rfl⟩;have how:owO x=.agg [.str x.name,.str x.src,.own 11 (x.steps.map owS)]:=by rw[owO,JBC hs]
    have hset:setAt (.own 3 X) p0 k 2 (.own 11 (x.steps.map owS))=.own 3 X1:=by
     rw[hX,hX1,how];exact hsetm [.str x.name,.str x.src,.list 11 (x.steps.map JH)] 2 (.own 11 (x.steps.map owS))
    have hnth1:nth X1 k=.agg [.str x.name,.str x.src,.own 11 (x.steps.map owS)]:=by rw[hX1,hmid,how]
    have hl1:X1.length=l.length:=by rw[hX1];exact hlen1 _
    have hne2:Yo (k:Int) [] 0 x.steps≠[]:=by
     intro e;have:=congrArg List.length e;rw[JAt]at this;exact hs (List.eq_nil_of_length_eq_zero this)
    obtain⟨X2,hX2⟩:∃X2,X2=A.map owO++owO (nmO k x)::B.map Ui:=⟨_,rfl⟩;have hset2: .own 3 X2=setAt (.own 3 X1) p0 k 2 (.own 11 ((Yo (k:Int) [] 0 x.steps).map owS)):=by
     rw[hX2,hX1,how,hsetm];simp only[owO,nmO,JBC hne2,List.set_cons_succ,List.set_cons_zero]
    have hget1:X1[k]? =some (.agg [.str x.name,.str x.src,.own 11 (x.steps.map owS)]):=by
     rw[hX1,how,←hA2];exact JBB
    have hpos1:Pos (.own 3 X1) p0 k 2:=by
     rw[hp0];exact⟨_,hget1,sP⟩
    have hnode1:nodeAt (.own 3 X1) (p0++[(k,2)])=some (.own 11 (x.steps.map owS)):=by
     rw[hp0,List.nil_append];simp only[nodeAt,cellAt,hget1,Option.bind_some,Dat.cells,List.getElem?_cons_succ,List.getElem?_cons_zero]
    have hV:=JRp (a':=.tr 6 ⟨0,sv+1,p0++[(k,2)],none⟩) (by simp[JR,Av.get]) rfl (visN (k:Int) x.steps hszx 0 (sv+1) X1 X2 p0 k 2 hs hpos1 hnode1 hset2);simp only[go_sem,hd,hn0,hnthX,hXl,Vv,Vc,Nat.reduceAdd,Nat.reduceEqDiff,Nat.reduceBEq,Nat.reduceLeDiff,reduceCtorEq,↓reduceIte];refine⟨⟨.inl hp0,oM,oM⟩,⟨oM,dC⟩,?_⟩;refine JI rfl hc ⟨rfl,trivial⟩ ?_;simp only[go_sem,hn0,hnthX,hXl,hset,hnth1,hl1,hnode1,Vv,Vc,Nat.reduceAdd,Nat.reduceEqDiff,Nat.reduceBEq,Nat.reduceLeDiff,reduceCtorEq,↓reduceIte];refine⟨⟨.inl hp0,oM,oM⟩,hlt,rfl,⟨hp0,oM,oM⟩,⟨hlt,dC⟩,wn hV ?_⟩;simp only[go_sem,Vv,Vc,Nat.reduceAdd,Nat.reduceEqDiff,Nat.reduceBEq,Nat.reduceLeDiff,reduceCtorEq,↓reduceIte];refine⟨l.length-(k+1),_,oM,Wk.less ?_,k+1,sv+1,X2,oM,rfl,?_,rfl⟩
    ·simp only[go_sem,JF k oM,Vv,Vc,Nat.reduceAdd,Nat.reduceEqDiff,Nat.reduceBEq,Nat.reduceLeDiff,reduceCtorEq,↓reduceIte]
    ·rw[hX2,hNt,hBB,Vw,List.append_assoc];rfl
  ·have hd:=dF hlt;obtain rfl:k=l.length:=oM;simp only[go_sem,hd,hp0,Vv,Vc,Nat.reduceAdd,Nat.reduceEqDiff,Nat.reduceBEq,Nat.reduceLeDiff,reduceCtorEq,↓reduceIte];rw[hX,List.drop_length,Vb,List.append_nil,←hNl,List.take_length,XK,Jw,List.map_map,List.map_map];rw[List.map_congr_left (fun x _=>show((Dat.canon∘Dat.dat)∘owO) x=Ui x from JQd x)]
end Go.Proofs
namespace Go.Proofs
open Go Av
open Av.Y
def JRq:Ic:=q (R (oz 4 0<|N) [4])<|q (q (R (om 6 0<|oh 7 6<|oz 8 0<|N) [6])<|D (.block 0<|.loop (q (.reg (ot 9 .lss 8 7<|N))<|q (D (I 9 S (E 0)) [9])<|q (D (.block 1<|q (R (om 10 8<|om 5 10<|N) [10])<|q (R (om 11 1<|om 12 0<|om 13 5<|oa true 14 9 12 13<|oL 15 9 14<|.call (some 16) (.dyn (t 11)) [t 15] N) [11,12,13,14,15])<|D (I 16 (q (R (om 17 5<|om 4 17<|N) [0,1,7,8,5,16,17])<|.ret) S) [5,16]) [])<|R (oi 18 .add 8 1<|om 8 18<|N) [18])) [0,1,7,8,9,10,5,11])<|q (.reg (oz 4 (-1)<|N))<|.ret
theorem ok113:FT 113 19 JRq [.tmp 4]:=.o Tryz.func113
def ir26:Ic:=q (R (oz 4 0<|N) [4])<|q (q (R (om 6 0<|oh 7 6<|oz 8 0<|N) [6])<|D (.block 0<|.loop (q (.reg (ot 9 .lss 8 7<|N))<|q (D (I 9 S (E 0)) [9])<|q (D (.block 1<|q (R (om 10 8<|om 5 10<|N) [10])<|q (R (om 11 1<|om 12 0<|om 13 5<|oa true 14 7 12 13<|oL 15 7 14<|.call (some 16) (.dyn (t 11)) [t 15] N) [11,12,13,14,15])<|D (I 16 (q (R (om 17 5<|om 4 17<|N) [0,1,7,8,5,16,17])<|.ret) S) [5,16]) [])<|R (oi 18 .add 8 1<|om 8 18<|N) [18])) [0,1,7,8,9,10,5,11])<|q (.reg (oz 4 (-1)<|N))<|.ret
theorem ok26:FT 26 19 ir26 [.tmp 4]:=.o Tryz.func26
def JRr:Ic:=q (R (oz 4 0<|N) [4])<|q (q (R (om 6 0<|oh 7 6<|oz 8 0<|N) [6])<|D (.block 0<|.loop (q (.reg (ot 9 .lss 8 7<|N))<|q (D (I 9 S (E 0)) [9])<|q (D (.block 1<|q (R (om 10 8<|om 5 10<|N) [10])<|q (R (om 11 1<|om 12 0<|om 13 5<|oa true 14 4 12 13<|oL 15 4 14<|.call (some 16) (.dyn (t 11)) [t 15] N) [11,12,13,14,15])<|D (I 16 (q (R (om 17 5<|om 4 17<|N) [0,1,7,8,5,16,17])<|.ret) S) [5,16]) [])<|R (oi 18 .add 8 1<|om 8 18<|N) [18])) [0,1,7,8,9,10,5,11])<|q (.reg (oz 4 (-1)<|N))<|.ret
theorem ok186:FT 186 19 JRr [.tmp 4]:=.o Tryz.func186
def ir64:Ic:=q (R (oz 4 0<|ow 5 false<|N) [4,5])<|q (R (om 7 0<|om 8 1<|cl 9 113 [t 7,t 8]<|om 6 9<|N) [0,1,7,8,9])<|q (R (om 10 6<|oo 11 (.mx (t 10) (i 0))<|om 12 6<|oi 13 .geq 12 0<|om 4 11<|om 5 13<|N) [6,10,11,12,13])<|.ret
theorem ok64:FT 64 14 ir64 [.tmp 4,.tmp 5]:=.o Tryz.func64
def ir62:Ic:=q (R (oz 4 0<|ow 5 false<|N) [4,5])<|q (R (om 7 0<|om 8 1<|cl 9 26 [t 7,t 8]<|om 6 9<|N) [0,1,7,8,9])<|q (R (om 10 6<|oo 11 (.mx (t 10) (i 0))<|om 12 6<|oi 13 .geq 12 0<|om 4 11<|om 5 13<|N) [6,10,11,12,13])<|.ret
theorem ok62:FT 62 14 ir62 [.tmp 4,.tmp 5]:=.o Tryz.func62
def JRs:Ic:=q (R (oz 4 0<|ow 5 false<|N) [4,5])<|q (R (om 7 0<|om 8 1<|cl 9 186 [t 7,t 8]<|om 6 9<|N) [0,1,7,8,9])<|q (R (om 10 6<|oo 11 (.mx (t 10) (i 0))<|om 12 6<|oi 13 .geq 12 0<|om 4 11<|om 5 13<|N) [6,10,11,12,13])<|.ret
theorem ok115:FT 115 14 JRs [.tmp 4,.tmp 5]:=.o Tryz.func115
def ir65:Ic:=q (R (ox 3 0<|ow 4 false<|N) [0,4])<|q (R (of 5 3 0<|ol 6 5<|ol 7 1<|ot 8 .seq 6 7<|om 9 8<|.sc 9 true (of 10 3 1<|ol 11 10<|ol 12 2<|ot 13 .eql 11 12<|N) (t 13) 14 (om 4 14<|N)) [3,5,6,7,8,9,14])<|.ret
theorem ok65:FT 65 15 ir65 [.tmp 4]:=.o Tryz.func65
def ir63:Ic:=q (R (ox 2 0<|ow 3 false<|N) [0,3])<|q (R (of 4 2 0<|ol 5 4<|ol 6 1<|ot 7 .seq 5 6<|om 3 7<|N) [2,4,5,6,7])<|.ret
theorem ok63:FT 63 8 ir63 [.tmp 3]:=.o Tryz.func63
def JOv:Ic:=q (R (ox 2 0<|ow 3 false<|N) [0,3])<|q (R (of 4 2 0<|ol 5 4<|ol 6 1<|ot 7 .seq 5 6<|om 3 7<|N) [2,4,5,6,7])<|.ret
theorem ok116:FT 116 8 JOv [.tmp 3]:=.o Tryz.func116
def ir33:Ic:=q (R (ox 3 0<|ox 4 1<|ox 5 2<|oz 6 0<|ow 7 false<|N) [0,1,2,6,7])<|q (R (of 8 3 1<|ol 9 8<|oo 10 (.fnv (.func 65) [] [t 4,t 5])<|cl 11 64 [t 9,t 10]<|oe 12 11 0<|oe 13 11 1<|om 6 12<|om 7 13<|N) [3,4,5,8,9,10,11,12,13])<|.ret
theorem ok33:FT 33 14 ir33 [.tmp 6,.tmp 7]:=.o Tryz.func33
def ir32:Ic:=q (R (ox 2 0<|ox 3 1<|oz 4 0<|ow 5 false<|N) [0,1,4,5])<|q (R (of 6 2 2<|ol 7 6<|oo 8 (.fnv (.func 63) [] [t 3])<|cl 9 62 [t 7,t 8]<|oe 10 9 0<|oe 11 9 1<|om 4 10<|om 5 11<|N) [2,3,6,7,8,9,10,11])<|.ret
theorem ok32:FT 32 12 ir32 [.tmp 4,.tmp 5]:=.o Tryz.func32
def ir67:Ic:=q (R (ox 2 0<|ox 3 1<|oz 4 0<|ow 5 false<|N) [0,1,4,5])<|q (R (of 6 2 3<|ol 7 6<|oo 8 (.fnv (.func 116) [] [t 3])<|cl 9 115 [t 7,t 8]<|oe 10 9 0<|oe 11 9 1<|om 4 10<|om 5 11<|N) [2,3,6,7,8,9,10,11])<|.ret
theorem ok67:FT 67 12 ir67 [.tmp 4,.tmp 5]:=.o Tryz.func67
def ir36:Ic:=q (R (ox 2 0<|oz 4 0<|ow 5 false<|N) [0,4,5])<|q (.reg (oz 6 0<|ow 7 false<|N))<|q (q (R (of 10 2 1<|ol 11 10<|oh 12 11<|oz 13 0<|N) [10])<|D (.block 0<|.loop (q (.reg (ot 14 .lss 13 12<|N))<|q (D (I 14 S (E 0)) [14])<|q (D (.block 1<|q (R (om 15 13<|oa true 16 9 11 13<|oL 17 9 16<|oN 9 [.str [],.int .i64 0,.int .i64 0,.int .i64 0,.int .i64 0,.int .i64 0,.nil 1,.nil 7,.nil 11]<|om 8 15<|oS 9 9 17<|N) [15,16,17])<|q (R (of 18 9 0<|ol 19 18<|om 20 1<|ot 21 .seq 19 20<|om 22 21<|.sc 22 true (om 23 7<|og 24 23<|om 25 24<|.sc 25 false (of 26 9 1<|ol 27 26<|of 28 2 1<|ol 29 28<|om 30 6<|oa true 31 9 29 30<|of 32 31 1<|ol 33 32<|ot 34 .gtr 27 33<|N) (t 34) 35 N) (t 35) 36 N) [9,18,19,20,21,22])<|D (I 36 (R (om 37 8<|om 6 37<|ow 7 true<|N) [8,36,37]) S) [8,36]) [])<|R (oi 38 .add 13 1<|om 13 38<|N) [38])) [1,2,11,12,13,14,9,8])<|q (R (om 39 6<|om 40 7<|om 4 39<|om 5 40<|N) [6,7,39,40])<|.ret
theorem ok36:FT 36 41 ir36 [.tmp 4,.tmp 5]:=.o Tryz.func36
end Go.Proofs
namespace Go.Proofs
open Go Av
variable {g:Nat}{cs:List Dat}
def fdQ{α:Type}(q:α→Bool)(l:List α):Nat:=(l.findIdx? q).getD 0
theorem JCw{α:Type}(q:α→Bool)(l:List α):(if(0:Int)>ixQ q l then 0 else ixQ q l)=(fdQ q l:Int):=by
 unfold ixQ fdQ;cases e:l.findIdx? q with
 |none=>rfl
 |some k=>simp only[Vp];split<;>omega
theorem ix180{q:Sch→Bool}(l:List Sch)(hq:∀x∈l,PT g (UB x::cs) (.d (.bool (q x))))(hl:l.length≤68719476736):
  PT 113 [.list 9 (l.map UB),.fn (.func g) [] cs] (.d (.int .i64 (ixQ q l))):=by
 refine ok113.pc ?_;simp only[go_sem,JRq,Vc,simprocAttr];refine JK (fun n s=>∃k:Nat,k≤l.length∧n=l.length-k∧(∀(j:Nat) (h1:j<l.length),j<k→q l[j]=false)∧
  s=⟨[(0,.d (.list 9 (l.map UB))),(1,.d (.fn (.func g) [] cs)),(7,.d (.int .i64 l.length)),(8,.d (.int .i64 k))],[]⟩) ?_ ?_
 ·exact⟨_,_,Wk.refl _,0,Nat.zero_le _,rfl,sP,rfl⟩
 ·rintro n s ⟨k,hk,rfl,hinv,rfl⟩;by_cases hlt:k<l.length
  ·have hx:=JU UB hlt;have hd:=dT hlt;have hc:=(hq l[k] (Vk _)).call trivial;simp only[UB,Va]at hc hx;refine zz6 ?_;refine⟨oM,wn hc ?_⟩;refine zz ?_;apply ik<;>intro hf
   ·rw[Zp hlt hf hinv]
   ·refine⟨l.length-(k+1),_,oM,Wk.less ?_,k+1,oM,rfl,fun j h1 hj=>?_,rfl⟩
    ·exact zz7 trivial
    ·by_cases e:j=k
     ·subst e;exact hf
     ·exact hinv j h1 oM
  ·have hd:=dF hlt;refine zz5 ?_;rw[Zq (fun j h=>hinv j h oM)]
theorem JRt{q:Epd→Bool}(l:List Epd)(hq:∀x∈l,PT g (Jo x::cs) (.d (.bool (q x))))(hl:l.length≤68719476736):
  PT 26 [.list 7 (l.map Jo),.fn (.func g) [] cs] (.d (.int .i64 (ixQ q l))):=by
 refine ok26.pc ?_;simp only[go_sem,ir26,Vc,simprocAttr];refine JK (fun n s=>∃k:Nat,k≤l.length∧n=l.length-k∧(∀(j:Nat) (h1:j<l.length),j<k→q l[j]=false)∧
  s=⟨[(0,.d (.list 7 (l.map Jo))),(1,.d (.fn (.func g) [] cs)),(7,.d (.int .i64 l.length)),(8,.d (.int .i64 k))],[]⟩) ?_ ?_
 ·exact⟨_,_,Wk.refl _,0,Nat.zero_le _,rfl,sP,rfl⟩
 ·rintro n s ⟨k,hk,rfl,hinv,rfl⟩;by_cases hlt:k<l.length
  ·have hx:=JU Jo hlt;have hd:=dT hlt;have hc:=(hq l[k] (Vk _)).call trivial;simp only[Jo,Va]at hc hx;refine zz6 ?_;refine⟨oM,wn hc ?_⟩;refine zz ?_;apply ik<;>intro hf
   ·rw[Zp hlt hf hinv]
   ·refine⟨l.length-(k+1),_,oM,Wk.less ?_,k+1,oM,rfl,fun j h1 hj=>?_,rfl⟩
    ·exact zz7 trivial
    ·by_cases e:j=k
     ·subst e;exact hf
     ·exact hinv j h1 oM
  ·have hd:=dF hlt;refine zz5 ?_;rw[Zq (fun j h=>hinv j h oM)]
theorem ix350{q:Svc→Bool}(l:List Svc)(hq:∀x∈l,PT g (Uy x::cs) (.d (.bool (q x))))(hl:l.length≤68719476736):
  PT 186 [.list 4 (l.map Uy),.fn (.func g) [] cs] (.d (.int .i64 (ixQ q l))):=by
 refine ok186.pc ?_;simp only[go_sem,JRr,Vc,simprocAttr];refine JK (fun n s=>∃k:Nat,k≤l.length∧n=l.length-k∧(∀(j:Nat) (h1:j<l.length),j<k→q l[j]=false)∧
  s=⟨[(0,.d (.list 4 (l.map Uy))),(1,.d (.fn (.func g) [] cs)),(7,.d (.int .i64 l.length)),(8,.d (.int .i64 k))],[]⟩) ?_ ?_
 ·exact⟨_,_,Wk.refl _,0,Nat.zero_le _,rfl,sP,rfl⟩
 ·rintro n s ⟨k,hk,rfl,hinv,rfl⟩;by_cases hlt:k<l.length
  ·have hx:=JU Uy hlt;have hd:=dT hlt;have hc:=(hq l[k] (Vk _)).call trivial;simp only[Uy,Va]at hc hx;refine zz6 ?_;refine⟨oM,wn hc ?_⟩;refine zz ?_;apply ik<;>intro hf
   ·rw[Zp hlt hf hinv]
   ·refine⟨l.length-(k+1),_,oM,Wk.less ?_,k+1,oM,rfl,fun j h1 hj=>?_,rfl⟩
    ·exact zz7 trivial
    ·by_cases e:j=k
     ·subst e;exact hf
     ·exact hinv j h1 oM
  ·have hd:=dF hlt;refine zz5 ?_;rw[Zq (fun j h=>hinv j h oM)]
theorem JTQ{q:Sch→Bool}(l:List Sch)(hq:∀x∈l,PT g (UB x::cs) (.d (.bool (q x))))(hl:l.length≤68719476736):
  PT 64 [.list 9 (l.map UB),.fn (.func g) [] cs] (.tup [.d (.int .i64 (fdQ q l)),.d (.bool (l.any q))]):=by
 refine ok64.pc ?_;have c:=(ix180 l hq hl).call trivial;rw[←JAB,←JCw];simp only[go_sem,ir64,simprocAttr];refine wc c trivial
theorem walk62{q:Epd→Bool}(l:List Epd)(hq:∀x∈l,PT g (Jo x::cs) (.d (.bool (q x))))(hl:l.length≤68719476736):
  PT 62 [.list 7 (l.map Jo),.fn (.func g) [] cs] (.tup [.d (.int .i64 (fdQ q l)),.d (.bool (l.any q))]):=by
 refine ok62.pc ?_;have c:=(JRt l hq hl).call trivial;rw[←JAB,←JCw];simp only[go_sem,ir62,simprocAttr];refine wc c trivial
theorem JQe{q:Svc→Bool}(l:List Svc)(hq:∀x∈l,PT g (Uy x::cs) (.d (.bool (q x))))(hl:l.length≤68719476736):
  PT 115 [.list 4 (l.map Uy),.fn (.func g) [] cs] (.tup [.d (.int .i64 (fdQ q l)),.d (.bool (l.any q))]):=by
 refine ok115.pc ?_;have c:=(ix350 l hq hl).call trivial;rw[←JAB,←JCw];simp only[go_sem,JRs,simprocAttr];refine wc c trivial
theorem J3.JLn{P:Program}{f:Nat}{ds c1 c2:List Dat}{r:Av}(h:J3 P f (ds++[.fn (.func g) [] [.ptr c1,.ptr c2]]) r)(hr:Ug r)(i j:Nat)(hij:i≠j):
  JN P f (ds.map .d++[.clo (.func g) [] [.ref i 0,.ref j 0]]) [(i,some (.box (c1.map .d))),(j,some (.box (c2.map .d)))] r [(i,.fbox c1),(j,.fbox c2)]:=by
 intro β A w H vs hT hc hvs;have hi:H i=some (.box (c1.map .d)):=hT (i,_) sP;have hj:H j=some (.box (c2.map .d)):=hT (j,_) sP;have st1:=Stp.XT hc hi (ZE c1);have hj1:upd H i (some (.fbox c1)) j=some (.box (c2.map .d)):=by rw[JQ _ _ (Ne.symm hij)];exact hj
 have st2:=Stp.XT st1.core hj1 (ZE c2);have st:=st1.trans st2;have hlen:(ds.map Av.d).length=ds.length:=sP;have hc':=h.call hr β _ w (upd (upd H i (some (.fbox c1))) j (some (.fbox c2))) vs sP st.core ⟨by have:=hvs.1;simp at this⊢;omega,fun k c v h1 h2=>by
  rw[Vo]at h1;cases e:(ds++[Dat.fn (.func g) [] [.ptr c1,.ptr c2]])[k]? with
  |none=>simp[e]at h1
  |some x=>
   simp only[e,Vj,Vd]at h1;subst h1;by_cases hk:k<ds.length
   ·rw[Vz hk]at e;have:=hvs.2 k (.d x) v (by rw[Vz (sX hk),Vo,e];rfl) h2;exact st.vals _ _ this
   ·rw[Vy oM]at e;have hk0:k-ds.length=0:=by
     rcases Nat.eq_zero_or_pos (k-ds.length)with h|h
     ·exact h
     ·rw[List.getElem?_eq_none sO]at e;cases e
    rw[hk0]at e;cases e;have:=hvs.2 k (.clo (.func g) [] [.ref i 0,.ref j 0]) v (by rw[Vy sO,hlen,hk0];rfl) h2;have h3:=st.vals _ _ this;cases h3 with
    |clo _ _ _ a1 a2 l1 l2 hf hvv=>
     refine .d _ _ (.fn _ _ _ a1 a2 l1 (sX l2) (by intro j c v hj;cases hj) ?_);intro k c v hk hkv
     match k,hk with
     |0,hk=>
      cases hk;have hrf:=hvv 0 _ v rfl hkv;cases hrf with
      |ref _ _ _ _ _ hu g0 g1 g2=>
       have:=g2 c1 (by rw[JQ _ _ hij,JE]);simpa using this
     |1,hk=>
      cases hk;have hrf:=hvv 1 _ v rfl hkv;cases hrf with
      |ref _ _ _ _ _ hu g0 g1 g2=>
       have:=g2 c2 (JE _ _ _);simpa using this
     |k+2,hk=>cases hk⟩
 rcases hc' with⟨a1,a2⟩|⟨u,w',a1,β',A',a2,a3⟩
 ·refine .inl ⟨a1,a2.mono ?_⟩;rintro e w' ⟨u,rfl,β',A',b1,b2⟩;exact⟨u,rfl,β',A',st.trans b1,b2⟩
 ·exact .inr ⟨u,w',a1,β',A',st.trans a2,a3⟩
theorem walk65(x:Sch)(n:Str)(v:Int):PT 65 [UB x,.ptr [.str n],.ptr [.int .i64 v]] (.d (.bool (x.name==n&&x.version==v))):=by
 refine ok65.pc ?_;simp only[go_sem,ir65,UB,Nat.reduceAdd,Nat.reduceEqDiff,Nat.reduceBEq,Nat.reduceLeDiff,reduceCtorEq,↓reduceIte];refine⟨dC,Xc (x.version==v) (fun _=>?_) ?_⟩
 ·refine zz ?_;simp
 ·exact zz trivial
theorem walk63(x:Epd)(n:Str):PT 63 [Jo x,.ptr [.str n]] (.d (.bool (x.name==n))):=by
 refine ok63.pc ?_;simp only[go_sem,ir63,Jo,Nat.reduceAdd,Nat.reduceEqDiff,Nat.reduceBEq,Nat.reduceLeDiff,reduceCtorEq,↓reduceIte];decide
theorem JQf(x:Svc)(n:Str):PT 116 [Uy x,.ptr [.str n]] (.d (.bool (x.name==n))):=by
 refine ok116.pc ?_;simp only[go_sem,JOv,Uy,Nat.reduceAdd,Nat.reduceEqDiff,Nat.reduceBEq,Nat.reduceLeDiff,reduceCtorEq,↓reduceIte];decide
theorem JOw(p:Prg)(n:Str)(v:Int)(hl:p.schemas.length≤68719476736):PT 33 [UD p,.str n,.int .i64 v] (.tup [.d (.int .i64 (fdQ (fun x:Sch=>x.name==n&&x.version==v) p.schemas)),.d (.bool (p.schemas.any fun x=>x.name==n&&x.version==v))]):=by
 refine ok33.pc ?_;have c:=J3.JLn (ds:=[.list 9 (p.schemas.map UB)]) (JTQ p.schemas (fun x _=>walk65 x n v) hl) (by simp[Ug]) 4 5 dC;simp only[go_sem,ir33,UD,simprocAttr];refine wc c trivial
theorem walk32(p:Prg)(n:Str)(hl:p.endpoints.length≤68719476736):PT 32 [UD p,.str n] (.tup [.d (.int .i64 (fdQ (fun x:Epd=>x.name==n) p.endpoints)),.d (.bool (p.endpoints.any fun x=>x.name==n))]):=by
 refine ok32.pc ?_;have c:=J3.JKU (walk62 p.endpoints (fun x _=>walk63 x n) hl) (by simp[Ug]) 3;simp only[go_sem,ir32,UD,simprocAttr];refine wc c trivial
theorem JI9(p:Prg)(n:Str)(hl:p.services.length≤68719476736):PT 67 [UD p,.str n] (.tup [.d (.int .i64 (fdQ (fun x:Svc=>x.name==n) p.services)),.d (.bool (p.services.any fun x=>x.name==n))]):=by
 refine ok67.pc ?_;have c:=J3.JKU (JQe p.services (fun x _=>JQf x n) hl) (by simp[Ug]) 3;simp only[go_sem,ir67,UD,simprocAttr];refine wc c trivial
def ltS(l:List Sch)(n:Str)(s:Nat×Bool)(i:Nat):Nat×Bool:=match l[i]? with
 |some x=>if x.name==n&&((!s.2)||decide ((l[s.1]?.map Sch.version).getD 0<x.version))then(i,true)else s
 |none=>s
def ltR(l:List Sch)(n:Str)(k:Nat):Nat×Bool:=(List.range k).foldl (ltS l n) (0,false)
theorem JIA(l:List Sch)(n:Str)(k:Nat):ltR l n (k+1)=ltS l n (ltR l n k) k:=by
 unfold ltR;rw[List.range_succ,List.foldl_append];rfl
theorem JGd(l:List Sch)(n:Str):∀k:Nat,(ltR l n k).1=0∨(ltR l n k).1<l.length
 |0=>.inl rfl
 |k+1=>by
  rw[JIA];unfold ltS;split
  ·rename_i x h;split
   ·exact .inr (VB.1 h).1
   ·exact JGd l n k
  ·exact JGd l n k
theorem ltR_bd(l:List Sch)(n:Str)(k:Nat)(hk:k<l.length):(ltR l n k).1<l.length:=by
 rcases JGd l n k with h|h<;>omega
def JCP(l:List Sch)(n:Str):Nat×Bool:=ltR l n l.length
theorem JAG(p:Prg)(n:Str)(hl:p.schemas.length≤68719476736):PT 36 [UD p,.str n] (.tup [.d (.int .i64 (JCP p.schemas n).1),.d (.bool (JCP p.schemas n).2)]):=by
 refine ok36.pc ?_;simp only[go_sem,ir36,UD,Vc,Nat.reduceAdd,Nat.reduceEqDiff,Nat.reduceBEq,Nat.reduceLeDiff,reduceCtorEq,↓reduceIte];generalize hL:p.schemas=l at*;refine JK (fun r s=>∃k:Nat,k≤l.length∧r=l.length-k∧
  s=⟨[(1,.d (.str n)),(2,.ref 2 0),(6,.d (.int .i64 (ltR l n k).1)),(7,.d (.bool (ltR l n k).2)),(11,.d (.list 9 (l.map UB))),(12,.d (.int .i64 l.length)),(13,.d (.int .i64 k))],
   [(2,.box [.d (.int .i64 p.version),.d (.list 9 (l.map UB)),.d (.list 7 (p.endpoints.map Jo)),.d (.list 4 (p.services.map Uy)),.d (.list 3 (p.routes.map Ui))])]⟩) ?_ ?_
 ·refine⟨_,_,Wk.less ?_,0,Nat.zero_le _,rfl,rfl⟩;simp[go_sem,ltR]
 ·rintro r s ⟨k,hk,rfl,rfl⟩;by_cases hlt:k<l.length
  ·have hx:=JU UB hlt;have hd:=dT hlt;have hb:=ltR_bd l n k hlt;have hy:=JU UB hb;have hs:=JIA l n k;have hg:l[k]? =some l[k]:=Vl hlt;have hg2:l[(ltR l n k).1]? =some l[(ltR l n k).1]:=Vl hb;simp only[ltS,hg,hg2,Vj,Vp]at hs;generalize hR:ltR l n k=R at*;simp only[UB]at hx hy;refine zz6 ?_;refine⟨oM,?_⟩;refine sq ((!R.2)||(decide (l[R.1].version<l[k].version))) ?_ ?_
   ·refine zz ?_;refine sq (decide (l[R.1].version<l[k].version)) ?_ ?_
    ·simp only[go_sem,hy,Vv,Vc,Nat.reduceAdd,Nat.reduceEqDiff,Nat.reduceBEq,Nat.reduceLeDiff,reduceCtorEq,↓reduceIte];exact⟨⟨oM,oM⟩,dC⟩
    ·exact zz trivial
   refine zz ?_;generalize hc:(l[k].name==n&&((!R.2)||decide (l[R.1].version<l[k].version)))=c at*;cases c with
   |true=>
    refine zz ?_;refine⟨l.length-(k+1),_,oM,Wk.less ?_,k+1,oM,rfl,rfl⟩;simp only[Vu,if_true,if_false]at hs;simp only[go_sem,hs,JF k oM,Nat.reduceAdd,Nat.reduceEqDiff,Nat.reduceBEq,Nat.reduceLeDiff,reduceCtorEq,↓reduceIte]
   |false=>
    refine zz ?_;refine⟨l.length-(k+1),_,oM,Wk.less ?_,k+1,oM,rfl,rfl⟩;simp only[Vu,if_true,if_false]at hs;simp only[go_sem,hs,JF k oM,Nat.reduceAdd,Nat.reduceEqDiff,Nat.reduceBEq,Nat.reduceLeDiff,reduceCtorEq,↓reduceIte]
  ·have hd:=dF hlt;obtain rfl:k=l.length:=oM;refine zz5 ?_;rfl
def mpS(ns:List Str):List (Dat×Dat):=ns.map fun s=>(.str s,.bool true)
def JLb(ns:List Str)(k:Str):List Str:=if ns.contains k then ns else ns++[k]
theorem YD(k:Str):∀ns:List Str,YI .s (mpS ns) (.str k)=some (if ns.contains k then some (.bool true)else none)
 |[]=>rfl
 |a::r=>by
  have ih:=YD k r;simp only[mpS,Va,YI,US]at ih⊢;rw[ih,List.contains_cons];cases k==a<;>simp
theorem JEw(k:Str):∀ns:List Str,Zy .s (mpS ns) (.str k) (.bool true)=mpS (JLb ns k)
 |[]=>rfl
 |a::r=>by
  have ih:=JEw k r;simp only[mpS,Va,Zy,US,JLb]at ih⊢;rw[ih,List.contains_cons];by_cases h:(k==a)=true
  ·have e:k=a:=sX h;subst e;simp
  ·simp only[Bool.not_eq_true]at h;simp only[h,Bool.false_or];split<;>rfl
theorem JDl(c:Bool):(if c=true then some (Dat.bool true)else none).getD (.bool false)=.bool c:=by cases c<;>rfl
end Go.Proofs
namespace Av
open Go
variable [Glb][Rls]
theorem Wk.frzB{D:Nat→Prop}{st:St}(b j i v sz:Nat)(xs:List Dat)(cs:List Av)(hb:get st.hp b=some (.box cs))(hj:cs[j]? =some (.ms i v))(hi:get st.hp i=some (.row v sz xs)):
  Wk D st ⟨st.tm,put (put st.hp i (.frz v sz xs)) b (.box (cs.set j (.d (.list sz xs))))⟩:=by
 refine Wk.JBh ?_;intro β A w a hc htr;have hne:b≠i:=fun e=>by subst e;rw[hi]at hb;cases hb
 have hst:=Stp.freeze hc hi;have hb1:upd (get st.hp) i (some (.frz v sz xs)) b=some (.box cs):=by rw[JQ _ _ hne];exact hb
 obtain⟨bb,C,T,e1,e2,e3,e4,e5⟩:=hst.core.objs b _ hb1;have hset:w.setRow bb C=w:=Xn e2;have hst2:=Stp.JCx (cs':=cs.set j (.d (.list sz xs))) (C':=C) hst.core hb1 e1 e2 (sX e3) e4 (fun hall k c u hc' hv'=>by
  rw[List.getElem?_set]at hc';split at hc'
  ·rename_i e;subst e;split at hc'
   ·cases hc';refine hall _ _ ?_;cases e5 j _ u hj hv' with|ms _ _ _ hu h0 g1 g2=>exact .d _ _ (g2 _ _ (JE _ _ _))
   ·cases hc'
  ·exact hall _ _ (e5 k c u hc' hv'))
 rw[hset]at hst2;have hh:get (put (put st.hp i (.frz v sz xs)) b (.box (cs.set j (.d (.list sz xs)))))=upd (upd (get st.hp) i (some (.frz v sz xs))) b (some (.box (cs.set j (.d (.list sz xs))))):=funext fun k=>by
  rw[UC,UC];rfl
 rw[hh];refine⟨_,_,hst.trans hst2,?_⟩;intro t x hx;obtain⟨u,q1,q2⟩:=htr t x hx;exact⟨u,q1,(hst.trans hst2).vals _ _ q2⟩
end Av
namespace Go.Proofs
open Go Av
variable {p:Prg}
abbrev TMk(p:Prg)(v s0 s:Nat)(X:List Dat)(es ek ev:List (Dat×Dat)):List (Nat×Av.Obj):=[(1001,.box [.d (.int .i64 p.version),.d (.list 9 (p.schemas.map UB)),.d (.list 7 (p.endpoints.map Jo)),.d (.list 4 (p.services.map Uy)),.d (.list 3 (p.routes.map Ui)),.tr 1002 ⟨v,s0,[],none⟩,.mp 1003,.mp 1004,.mp 1005]),
 (1002,.tre v s 20 X),(1003,.mapo es),(1004,.mapo ek),(1005,.mapo ev)]
theorem JEx(p:Prg)(v s0 s:Nat)(X X':List Dat)(es ek ev:List (Dat×Dat))(s':Nat):closed (JC (get (TMk p v s0 s X es ek ev)) [(1002,.tre v s' 20 X')]):=Jn (by simp[TMk,U3,put,Jd,J5,JS,JR,Ue,Av.get])
theorem Zs(p:Prg)(v s0 s:Nat)(X:List Dat)(es ek ev:List (Dat×Dat)):closed (JC (get (TMk p v s0 s X es ek ev)) []):=Jy (by simp[TMk,U3,put,Jd,J5,JS,JR,Ue,Av.get])
def JDm:Dat:=.agg [.int .i64 1,.int .i64 0,.str [],.list 6 [.agg [.int .i64 1,.int .i64 1,.int .i64 0,.str [],.nil 6,.nil 7]],.nil 5]
def exB(b:Brn):Dat:=match b.cond with|[]=>JDm|e::_=>Jf e
def exO(s:Ste):Dat:=if s.kind=11 then .list 5 (s.branches.map exB)else Yn s.exprs
def JGe(p:Prg)(n:Str):Dat:=((p.schemas[(JCP p.schemas n).1]?).map fun c=>UX c.type).getD .opq
def JQg(p:Prg)(n:Str):Nat:=fdQ (fun x:Svc=>x.name==n) p.services
def tyC(p:Prg)(c:Kal):List Dat:=match p.services[JQg p c.service]? with|some x=>[JGe p x.request,JGe p x.reply]|none=>[]
def tyO(p:Prg)(l:List Kal):List Dat:=l.flatMap (tyC p)
def nuO(s:Ste):Int:=if s.kind=12 then s.branches.length else s.number
def JLc(p:Prg)(s:Ste):Dat:=.agg [.str s.name,.int .i64 s.kind,.int .i64 0,.int .i64 0,.int .i64 (nuO s),.int .i64 s.time,.int .i64 s.limit,.str s.text,.int .i64 0,.int .i64 0,.int .i64 0,.int .i64 0,.nil 1,.nil 7,.nil 11,
 .list 7 (tyO p s.calls),exO s,.list 6 (s.rules.map UT),.list 2 (s.calls.map Je),.nil 1]
structure stQ(s:Ste):Prop where
 ex:s.kind=11→s.exprs=[]
 ca:s.calls.length≤1000000000
 br:s.branches.length≤1000000000
 el:s.exprs.length≤1000000000
structure PB(p:Prg):Prop where
 sc:p.schemas.length≤68719476736
 ep:p.endpoints.length≤68719476736
 sv:p.services.length≤68719476736
 sc0:p.schemas≠[]
 ep0:p.endpoints≠[]
 sv0:p.services≠[]
theorem JGf{l:List Sch}(n:Str)(h:l≠[]):(JCP l n).1<l.length:=by
 have:=List.length_pos_iff.2 h;rcases JGd l n l.length with e|e
 ·unfold JCP;omega
 ·exact e
theorem JJA{α:Type}(q:α→Bool){l:List α}(h:l≠[]):fdQ q l<l.length:=by
 have:=List.length_pos_iff.2 h;unfold fdQ;cases e:l.findIdx? q with
 |none=>exact this
 |some k=>have:=(List.findIdx?_eq_some_iff_findIdx_eq.1 e).1;simpa using this
theorem JQh(n:Str)(h:p.schemas≠[]):JGe p n=UX (p.schemas[(JCP p.schemas n).1]'(JGf n h)).type:=by
 unfold JGe;rw[Vl (JGf n h)];rfl
theorem JGg(n:Str)(h:p.services≠[]):JQg p n<p.services.length:=JJA _ h
theorem JOx(c:Kal)(h:p.services≠[]):tyC p c=[JGe p (p.services[JQg p c.service]'(JGg _ h)).request,JGe p (p.services[JQg p c.service]'(JGg _ h)).reply]:=by
 unfold tyC;rw[Vl (JGg _ h)]
theorem JCQ(hP:PB p):∀l:List Kal,(tyO p l).length=2*l.length
 |[]=>rfl
 |c::r=>by
  have:=JCQ hP r;unfold tyO at this⊢;rw[List.flatMap_cons,Vg,this,JOx c hP.sv0];simp only[Vf,Vm];omega
theorem JAH(hP:PB p)(n:Str):∃(i:Nat) (b:Bool) (a:Sch),JCP p.schemas n=(i,b)∧i<p.schemas.length∧p.schemas[i]? =some a∧nth (p.schemas.map UB) i=UB a∧JGe p n=UX a.type:=by
 have h:=JGf n hP.sc0;refine⟨_,_,_,rfl,h,Vl h,JU UB h,JQh n hP.sc0⟩
theorem JGh(hP:PB p)(c:Kal):∃(si:Nat) (x:Svc),fdQ (fun x:Svc=>x.name==c.service) p.services=si∧si<p.services.length∧p.services[si]? =some x∧nth (p.services.map Uy) si=Uy x∧tyC p c=[JGe p x.request,JGe p x.reply]:=by
 have h:=JJA (fun x:Svc=>x.name==c.service) hP.sv0;refine⟨_,_,rfl,h,Vl h,JU Uy h,JOx c hP.sv0⟩
set_option maxHeartbeats 1000000 in
theorem con35(p:Prg)(hP:PB p)(s:Ste)(hs:stQ s)(v s0 sv:Nat)(X:List Dat)(es ek ev:List (Dat×Dat)):
    Con Tryz.prog 35 [.ref 1001 0,.d (JEo s)] (TMk p v s0 sv X es ek ev) (.d (JLc p s)) []:=by
  refine ok35.con (k:=none) (Nat.le_of_ble_eq_true rfl) (Zs _ _ _ _ _ _ _ _) trivial ?_
  have hcell:Dat.cells (Yn s.exprs)=[Yn s.exprs]∧Av.cells (.d (Yn s.exprs))=some [.d (Yn s.exprs)]:=by cases s.exprs<;>exact⟨rfl,rfl⟩
  obtain⟨g1,g2⟩:=hcell
  simp only[Dat.cells]at g1
  simp only[Av.cells]at g2
  unfold JEo JLc exO nuO
  have hcl:=hs.ca
  have hbl:=hs.br
  have hex:=hs.ex
  generalize hcs:s.calls=calls at*
  by_cases hk:s.kind=11
  · have hk1:(s.kind==11)=true:=by simpa using hk
    have hk2:¬s.kind=12:=by omega
    have hk3:(s.kind==12)=false:=by simpa using hk2
    rw[hex hk]at g1 g2⊢
    simp only[hk2,if_false,Yn]
    rw[if_pos hk]
    simp only[go_sem,JP4,TMk,hk3,Vu,Vv,Vc,Nat.reduceAdd,Nat.reduceEqDiff,Nat.reduceBEq,Nat.reduceLeDiff,reduceCtorEq,↓reduceIte]
    refine JK (fun n st=>∃k:Nat,k≤s.branches.length∧n=s.branches.length-k∧
      st=⟨[(0,.ref 1001 0),(3,.ref 3 0),(4,.ref 4 0),(5,.ref 5 0),(6,.d (.int .i64 k))],
        (3,.box [.d (.str s.name),.d (.int .i64 s.kind),.d (.int .i64 s.number),.d (.int .i64 s.time),.d (.int .i64 s.limit),.d (.str s.text),.d (.str s.schema),.d (.nil 5),.d (.list 6 (s.rules.map UT)),.d (.list 2 (calls.map Je)),.d (.list 2 (s.branches.map J1))])::
        (4,.box [.d (.str []),.d (.int .i64 0),.d (.int .i64 0),.d (.int .i64 0),.d (.int .i64 0),.d (.int .i64 0),.d (.int .i64 0),.d (.str []),.d (.int .i64 0),.d (.int .i64 0),.d (.int .i64 0),.d (.int .i64 0),.d (.nil 1),.d (.nil 7),.d (.nil 11),.d (.nil 7),.d (.nil 5),.d (.nil 6),.d (.nil 2),.d (.nil 1)])::
        (5,.box [.d (.str s.name),.d (.int .i64 s.kind),.d (.int .i64 0),.d (.int .i64 0),.d (.int .i64 s.number),.d (.int .i64 s.time),.d (.int .i64 s.limit),.d (.str s.text),.d (.int .i64 0),.d (.int .i64 0),.d (.int .i64 0),.d (.int .i64 0),.d (.nil 1),.d (.nil 7),.d (.nil 11),.d (.nil 7),.ms 76 k,.d (.list 6 (s.rules.map UT)),.d (.list 2 (calls.map Je)),.d (.nil 1)])::
        (76,.row k 5 ((s.branches.take k).map exB))::TMk p v s0 sv X es ek ev⟩) ?_ ?_
    · refine⟨_,_,(Wk.JCZ 5 16 76 5 _ rfl rfl rfl (by decide)).trans (Wk.less ?_),0,Nat.zero_le _,rfl,rfl⟩
      simp[go_sem,TMk]
    rintro n st ⟨k,hkl,rfl,rfl⟩
    by_cases hlt:k<s.branches.length
    · have hd:decide ((k:Int)<(s.branches.length:Int))=true:=by simp;omega
      have hx:=YV hlt
      simp only[go_sem,TMk,hd,hk1,hx,Vv,Vc,Nat.reduceAdd,Nat.reduceEqDiff,Nat.reduceBEq,Nat.reduceLeDiff,reduceCtorEq,↓reduceIte]
      cases hcond:s.branches[k].cond with
      |nil=>
        have h0:decide (((0:Nat):Int)>0)=false:=rfl
        have hex1:exB s.branches[k]=JDm:=by unfold exB;rw[hcond]
        simp only[go_sem,hcond,Vb,Vm,TMk,h0,Vu,Vv,Vc,Nat.reduceAdd,Nat.reduceEqDiff,Nat.reduceBEq,Nat.reduceLeDiff,reduceCtorEq,↓reduceIte]
        refine⟨by simp,⟨by omega,by omega⟩,by decide,by simp,by simp;omega,s.branches.length-(k+1),_,by omega,Wk.less ?_,k+1,by omega,rfl,rfl⟩
        rw[List.take_succ_eq_append_getElem hlt,Vw,Va,Vb,hex1]
        simp only[go_sem,TMk,JF k (by omega),JDm,Vv,Vc,Nat.reduceAdd,Nat.reduceEqDiff,Nat.reduceBEq,Nat.reduceLeDiff,reduceCtorEq,↓reduceIte]
      |cons e r=>
        have h0:decide (((r.length+1:Nat):Int)>0)=true:=by simp
        have hex1:exB s.branches[k]=Jf e:=by unfold exB;rw[hcond]
        have hn:nth (Jf e::r.map Jf) (Int.toNat 0)=Jf e:=rfl
        rw[Jz]at hex1 hn
        simp only[go_sem,hcond,Va,Vf,TMk,h0,Jz,hn,Vv,Vc,Nat.reduceAdd,Nat.reduceEqDiff,Nat.reduceBEq,Nat.reduceLeDiff,reduceCtorEq,↓reduceIte]
        refine⟨by simp,⟨by omega,by omega⟩,by decide,⟨by omega,by omega⟩,by decide,⟨by decide,by omega⟩,by simp,by simp;omega,s.branches.length-(k+1),_,by omega,Wk.less ?_,k+1,by omega,rfl,rfl⟩
        rw[List.take_succ_eq_append_getElem hlt,Vw,Va,Vb,hex1]
        simp only[go_sem,TMk,JF k (by omega),Vv,Vc,Nat.reduceAdd,Nat.reduceEqDiff,Nat.reduceBEq,Nat.reduceLeDiff,reduceCtorEq,↓reduceIte]
    · have hd:decide ((k:Int)<(s.branches.length:Int))=false:=by simp;omega
      obtain rfl:k=s.branches.length:=by omega
      simp only[go_sem,TMk,hd,Vu,Vv,Vc,Nat.reduceAdd,Nat.reduceEqDiff,Nat.reduceBEq,Nat.reduceLeDiff,reduceCtorEq,↓reduceIte]
      refine JK (fun n st=>∃k:Nat,k≤calls.length∧n=calls.length-k∧
        st=⟨[(0,.ref 1001 0),(3,.ref 3 0),(4,.ref 4 0),(5,.ref 5 0),(8,.d (.int .i64 k))],
          (3,.box [.d (.str s.name),.d (.int .i64 s.kind),.d (.int .i64 s.number),.d (.int .i64 s.time),.d (.int .i64 s.limit),.d (.str s.text),.d (.str s.schema),.d (.nil 5),.d (.list 6 (s.rules.map UT)),.d (.list 2 (calls.map Je)),.d (.list 2 (s.branches.map J1))])::
          (4,.box [.d (.str []),.d (.int .i64 0),.d (.int .i64 0),.d (.int .i64 0),.d (.int .i64 0),.d (.int .i64 0),.d (.int .i64 0),.d (.str []),.d (.int .i64 0),.d (.int .i64 0),.d (.int .i64 0),.d (.int .i64 0),.d (.nil 1),.d (.nil 7),.d (.nil 11),.d (.nil 7),.d (.nil 5),.d (.nil 6),.d (.nil 2),.d (.nil 1)])::
          (5,.box [.d (.str s.name),.d (.int .i64 s.kind),.d (.int .i64 0),.d (.int .i64 0),.d (.int .i64 s.number),.d (.int .i64 s.time),.d (.int .i64 s.limit),.d (.str s.text),.d (.int .i64 0),.d (.int .i64 0),.d (.int .i64 0),.d (.int .i64 0),.d (.nil 1),.d (.nil 7),.d (.nil 11),.ms 154 k,.d (.list 5 (s.branches.map exB)),.d (.list 6 (s.rules.map UT)),.d (.list 2 (calls.map Je)),.d (.nil 1)])::
          (154,.row k 7 (tyO p (calls.take k)))::TMk p v s0 sv X es ek ev⟩) ?_ ?_
      · refine⟨_,_,(Wk.frzB 5 16 76 s.branches.length 5 ((s.branches.take s.branches.length).map exB) _ rfl rfl rfl).trans ((Wk.JCZ 5 15 154 7 _ rfl rfl rfl (by decide)).trans (Wk.less ?_)),0,Nat.zero_le _,rfl,rfl⟩
        simp[go_sem,TMk,tyO]
      rintro n st ⟨k,hk,rfl,rfl⟩
      by_cases hlt:k<calls.length
      · have hd:decide ((k:Int)<(calls.length:Int))=true:=by simp;omega
        have hx:=JU Je hlt
        have htk:tyO p (calls.take (k+1))=tyO p (calls.take k)++tyC p calls[k]:=by unfold tyO;rw[List.take_succ_eq_append_getElem hlt,List.flatMap_append];simp
        have htl:=JCQ hP (calls.take k)
        rw[List.length_take]at htl
        have c1:=(JI9 p calls[k].service hP.sv).call (by simp[Ug])
        obtain⟨si,x,e1,hsi,-,hsx,hty⟩:=JGh hP calls[k]
        obtain⟨ia,ba,ta,e2,hia,-,hax,hta⟩:=JAH hP x.request
        obtain⟨ib,bb,tb,e3,hib,-,hbx,htb⟩:=JAH hP x.reply
        have c2:=(JAG p x.request hP.sc).call (by simp[Ug])
        have c3:=(JAG p x.reply hP.sc).call (by simp[Ug])
        rw[e1]at c1
        rw[e2]at c2
        rw[e3]at c3
        rw[hty,hta,htb,Us,Us]at htk
        simp only[Uy,Je]at hsx hx
        simp only[UB]at hax hbx
        simp only[UD,Va,Vb]at c1 c2 c3
        simp only[go_sem,TMk,hd,hx,Vv,Vc,Nat.reduceAdd,Nat.reduceEqDiff,Nat.reduceBEq,Nat.reduceLeDiff,reduceCtorEq,↓reduceIte]
        refine⟨by omega,by decide,?_⟩
        refine JT rfl c1 trivial ?_
        simp only[go_sem,TMk,hsx,Vv,Vc,Nat.reduceAdd,Nat.reduceEqDiff,Nat.reduceBEq,Nat.reduceLeDiff,reduceCtorEq,↓reduceIte]
        refine⟨⟨by omega,by omega⟩,by decide,?_⟩
        refine JT rfl c2 trivial ?_
        simp only[go_sem,TMk,hsx,Vv,Vc,Nat.reduceAdd,Nat.reduceEqDiff,Nat.reduceBEq,Nat.reduceLeDiff,reduceCtorEq,↓reduceIte]
        refine⟨⟨by omega,by omega⟩,by decide,?_⟩
        refine JT rfl c3 trivial ?_
        simp only[go_sem,TMk,hax,hbx,Vv,Vc,Nat.reduceAdd,Nat.reduceEqDiff,Nat.reduceBEq,Nat.reduceLeDiff,reduceCtorEq,↓reduceIte]
        refine⟨⟨by omega,by omega⟩,⟨by omega,by omega⟩,by simp,by omega,rfl,calls.length-(k+1),_,by omega,Wk.less ?_,k+1,by omega,rfl,rfl⟩
        simp only[go_sem,TMk,JF k (by omega),htk,Vv,Vc,Nat.reduceAdd,Nat.reduceEqDiff,Nat.reduceBEq,Nat.reduceLeDiff,reduceCtorEq,↓reduceIte]
      · have hd:decide ((k:Int)<(calls.length:Int))=false:=by simp;omega
        obtain rfl:k=calls.length:=by omega
        simp only[go_sem,TMk,hd,Vv,Vc,Nat.reduceAdd,Nat.reduceEqDiff,Nat.reduceBEq,Nat.reduceLeDiff,reduceCtorEq,↓reduceIte]
        rw[List.take_length]
  · have hk1:(s.kind==11)=false:=by simpa using hk
    simp only[hk,if_false]
    obtain⟨EX,hEX⟩:∃E,E=Yn s.exprs:=⟨_,rfl⟩
    rw[←hEX]at g1 g2⊢
    by_cases hk2:s.kind=12
    · have hk3:(s.kind==12)=true:=by simpa using hk2
      rw[if_pos hk2]
      simp only[go_sem,JP4,TMk,g1,g2,hk3,Vv,Vc,Nat.reduceAdd,Nat.reduceEqDiff,Nat.reduceBEq,Nat.reduceLeDiff,reduceCtorEq,↓reduceIte]
      refine JK (fun n st=>st=⟨[(0,.ref 1001 0),(3,.ref 3 0),(4,.ref 4 0),(5,.ref 5 0),(6,.d (.int .i64 0))],
        (3,.box [.d (.str s.name),.d (.int .i64 s.kind),.d (.int .i64 s.number),.d (.int .i64 s.time),.d (.int .i64 s.limit),.d (.str s.text),.d (.str s.schema),.d EX,.d (.list 6 (s.rules.map UT)),.d (.list 2 (calls.map Je)),.d (.list 2 (s.branches.map J1))])::
        (4,.box [.d (.str []),.d (.int .i64 0),.d (.int .i64 0),.d (.int .i64 0),.d (.int .i64 0),.d (.int .i64 0),.d (.int .i64 0),.d (.str []),.d (.int .i64 0),.d (.int .i64 0),.d (.int .i64 0),.d (.int .i64 0),.d (.nil 1),.d (.nil 7),.d (.nil 11),.d (.nil 7),.d (.nil 5),.d (.nil 6),.d (.nil 2),.d (.nil 1)])::
        (5,.box [.d (.str s.name),.d (.int .i64 s.kind),.d (.int .i64 0),.d (.int .i64 0),.d (.int .i64 s.branches.length),.d (.int .i64 s.time),.d (.int .i64 s.limit),.d (.str s.text),.d (.int .i64 0),.d (.int .i64 0),.d (.int .i64 0),.d (.int .i64 0),.d (.nil 1),.d (.nil 7),.d (.nil 11),.d (.nil 7),.d EX,.d (.list 6 (s.rules.map UT)),.d (.list 2 (calls.map Je)),.d (.nil 1)])::
        TMk p v s0 sv X es ek ev⟩) ?_ ?_
      · refine⟨0,_,Wk.less ?_,rfl⟩
        simp[go_sem,TMk]
      rintro n st rfl
      simp only[go_sem,TMk,g1,g2,Vv,Vc,Nat.reduceAdd,Nat.reduceEqDiff,Nat.reduceBEq,Nat.reduceLeDiff,reduceCtorEq,↓reduceIte]
      refine Xc false (fun _=>?_) ?_
      · simp only[go_sem,TMk,g1,g2,hk1,Vv,Vc,Nat.reduceAdd,Nat.reduceEqDiff,Nat.reduceBEq,Nat.reduceLeDiff,reduceCtorEq,↓reduceIte]
      simp only[go_sem,TMk,g1,g2,Bool.and_false,Vu,Vv,Vc,Nat.reduceAdd,Nat.reduceEqDiff,Nat.reduceBEq,Nat.reduceLeDiff,reduceCtorEq,↓reduceIte]
      refine JK (fun n st=>∃k:Nat,k≤calls.length∧n=calls.length-k∧
        st=⟨[(0,.ref 1001 0),(3,.ref 3 0),(4,.ref 4 0),(5,.ref 5 0),(8,.d (.int .i64 k))],
          (3,.box [.d (.str s.name),.d (.int .i64 s.kind),.d (.int .i64 s.number),.d (.int .i64 s.time),.d (.int .i64 s.limit),.d (.str s.text),.d (.str s.schema),.d EX,.d (.list 6 (s.rules.map UT)),.d (.list 2 (calls.map Je)),.d (.list 2 (s.branches.map J1))])::
          (4,.box [.d (.str []),.d (.int .i64 0),.d (.int .i64 0),.d (.int .i64 0),.d (.int .i64 0),.d (.int .i64 0),.d (.int .i64 0),.d (.str []),.d (.int .i64 0),.d (.int .i64 0),.d (.int .i64 0),.d (.int .i64 0),.d (.nil 1),.d (.nil 7),.d (.nil 11),.d (.nil 7),.d (.nil 5),.d (.nil 6),.d (.nil 2),.d (.nil 1)])::
          (5,.box [.d (.str s.name),.d (.int .i64 s.kind),.d (.int .i64 0),.d (.int .i64 0),.d (.int .i64 s.branches.length),.d (.int .i64 s.time),.d (.int .i64 s.limit),.d (.str s.text),.d (.int .i64 0),.d (.int .i64 0),.d (.int .i64 0),.d (.int .i64 0),.d (.nil 1),.d (.nil 7),.d (.nil 11),.ms 154 k,.d EX,.d (.list 6 (s.rules.map UT)),.d (.list 2 (calls.map Je)),.d (.nil 1)])::
          (154,.row k 7 (tyO p (calls.take k)))::TMk p v s0 sv X es ek ev⟩) ?_ ?_
      · refine⟨_,_,(Wk.JCZ 5 15 154 7 _ rfl rfl rfl (by decide)).trans (Wk.less ?_),0,Nat.zero_le _,rfl,rfl⟩
        simp[go_sem,TMk,tyO]
      rintro n st ⟨k,hk,rfl,rfl⟩
      by_cases hlt:k<calls.length
      · have hd:decide ((k:Int)<(calls.length:Int))=true:=by simp;omega
        have hx:=JU Je hlt
        have htk:tyO p (calls.take (k+1))=tyO p (calls.take k)++tyC p calls[k]:=by unfold tyO;rw[List.take_succ_eq_append_getElem hlt,List.flatMap_append];simp
        have htl:=JCQ hP (calls.take k)
        rw[List.length_take]at htl
        have c1:=(JI9 p calls[k].service hP.sv).call (by simp[Ug])
        obtain⟨si,x,e1,hsi,-,hsx,hty⟩:=JGh hP calls[k]
        obtain⟨ia,ba,ta,e2,hia,-,hax,hta⟩:=JAH hP x.request
        obtain⟨ib,bb,tb,e3,hib,-,hbx,htb⟩:=JAH hP x.reply
        have c2:=(JAG p x.request hP.sc).call (by simp[Ug])
        have c3:=(JAG p x.reply hP.sc).call (by simp[Ug])
        rw[e1]at c1
        rw[e2]at c2
        rw[e3]at c3
        rw[hty,hta,htb,Us,Us]at htk
        simp only[Uy,Je]at hsx hx
        simp only[UB]at hax hbx
        simp only[UD,Va,Vb]at c1 c2 c3
        simp only[go_sem,TMk,hd,hx,Vv,Vc,Nat.reduceAdd,Nat.reduceEqDiff,Nat.reduceBEq,Nat.reduceLeDiff,reduceCtorEq,↓reduceIte]
        refine⟨by omega,by decide,?_⟩
        refine JT rfl c1 trivial ?_
        simp only[go_sem,TMk,hsx,Vv,Vc,Nat.reduceAdd,Nat.reduceEqDiff,Nat.reduceBEq,Nat.reduceLeDiff,reduceCtorEq,↓reduceIte]
        refine⟨⟨by omega,by omega⟩,by decide,?_⟩
        refine JT rfl c2 trivial ?_
        simp only[go_sem,TMk,hsx,Vv,Vc,Nat.reduceAdd,Nat.reduceEqDiff,Nat.reduceBEq,Nat.reduceLeDiff,reduceCtorEq,↓reduceIte]
        refine⟨⟨by omega,by omega⟩,by decide,?_⟩
        refine JT rfl c3 trivial ?_
        simp only[go_sem,TMk,hax,hbx,Vv,Vc,Nat.reduceAdd,Nat.reduceEqDiff,Nat.reduceBEq,Nat.reduceLeDiff,reduceCtorEq,↓reduceIte]
        refine⟨⟨by omega,by omega⟩,⟨by omega,by omega⟩,by simp,by omega,rfl,calls.length-(k+1),_,by omega,Wk.less ?_,k+1,by omega,rfl,rfl⟩
        simp only[go_sem,TMk,JF k (by omega),htk,Vv,Vc,Nat.reduceAdd,Nat.reduceEqDiff,Nat.reduceBEq,Nat.reduceLeDiff,reduceCtorEq,↓reduceIte]
      · have hd:decide ((k:Int)<(calls.length:Int))=false:=by simp;omega
        obtain rfl:k=calls.length:=by omega
        simp only[go_sem,TMk,hd,Vv,Vc,Nat.reduceAdd,Nat.reduceEqDiff,Nat.reduceBEq,Nat.reduceLeDiff,reduceCtorEq,↓reduceIte]
        rw[List.take_length]
    · have hk3:(s.kind==12)=false:=by simpa using hk2
      simp only[hk2,if_false]
      simp only[go_sem,JP4,TMk,g1,g2,hk3,Vu,Vv,Vc,Nat.reduceAdd,Nat.reduceEqDiff,Nat.reduceBEq,Nat.reduceLeDiff,reduceCtorEq,↓reduceIte]
      refine JK (fun n st=>st=⟨[(0,.ref 1001 0),(3,.ref 3 0),(4,.ref 4 0),(5,.ref 5 0),(6,.d (.int .i64 0))],
        (3,.box [.d (.str s.name),.d (.int .i64 s.kind),.d (.int .i64 s.number),.d (.int .i64 s.time),.d (.int .i64 s.limit),.d (.str s.text),.d (.str s.schema),.d EX,.d (.list 6 (s.rules.map UT)),.d (.list 2 (calls.map Je)),.d (.list 2 (s.branches.map J1))])::
        (4,.box [.d (.str []),.d (.int .i64 0),.d (.int .i64 0),.d (.int .i64 0),.d (.int .i64 0),.d (.int .i64 0),.d (.int .i64 0),.d (.str []),.d (.int .i64 0),.d (.int .i64 0),.d (.int .i64 0),.d (.int .i64 0),.d (.nil 1),.d (.nil 7),.d (.nil 11),.d (.nil 7),.d (.nil 5),.d (.nil 6),.d (.nil 2),.d (.nil 1)])::
        (5,.box [.d (.str s.name),.d (.int .i64 s.kind),.d (.int .i64 0),.d (.int .i64 0),.d (.int .i64 s.number),.d (.int .i64 s.time),.d (.int .i64 s.limit),.d (.str s.text),.d (.int .i64 0),.d (.int .i64 0),.d (.int .i64 0),.d (.int .i64 0),.d (.nil 1),.d (.nil 7),.d (.nil 11),.d (.nil 7),.d EX,.d (.list 6 (s.rules.map UT)),.d (.list 2 (calls.map Je)),.d (.nil 1)])::
        TMk p v s0 sv X es ek ev⟩) ?_ ?_
      · refine⟨0,_,Wk.less ?_,rfl⟩
        simp[go_sem,TMk]
      rintro n st rfl
      simp only[go_sem,TMk,g1,g2,Vv,Vc,Nat.reduceAdd,Nat.reduceEqDiff,Nat.reduceBEq,Nat.reduceLeDiff,reduceCtorEq,↓reduceIte]
      refine Xc false (fun _=>?_) ?_
      · simp only[go_sem,TMk,g1,g2,hk1,Vv,Vc,Nat.reduceAdd,Nat.reduceEqDiff,Nat.reduceBEq,Nat.reduceLeDiff,reduceCtorEq,↓reduceIte]
      simp only[go_sem,TMk,g1,g2,Bool.and_false,Vu,Vv,Vc,Nat.reduceAdd,Nat.reduceEqDiff,Nat.reduceBEq,Nat.reduceLeDiff,reduceCtorEq,↓reduceIte]
      refine JK (fun n st=>∃k:Nat,k≤calls.length∧n=calls.length-k∧
        st=⟨[(0,.ref 1001 0),(3,.ref 3 0),(4,.ref 4 0),(5,.ref 5 0),(8,.d (.int .i64 k))],
          (3,.box [.d (.str s.name),.d (.int .i64 s.kind),.d (.int .i64 s.number),.d (.int .i64 s.time),.d (.int .i64 s.limit),.d (.str s.text),.d (.str s.schema),.d EX,.d (.list 6 (s.rules.map UT)),.d (.list 2 (calls.map Je)),.d (.list 2 (s.branches.map J1))])::
          (4,.box [.d (.str []),.d (.int .i64 0),.d (.int .i64 0),.d (.int .i64 0),.d (.int .i64 0),.d (.int .i64 0),.d (.int .i64 0),.d (.str []),.d (.int .i64 0),.d (.int .i64 0),.d (.int .i64 0),.d (.int .i64 0),.d (.nil 1),.d (.nil 7),.d (.nil 11),.d (.nil 7),.d (.nil 5),.d (.nil 6),.d (.nil 2),.d (.nil 1)])::
          (5,.box [.d (.str s.name),.d (.int .i64 s.kind),.d (.int .i64 0),.d (.int .i64 0),.d (.int .i64 s.number),.d (.int .i64 s.time),.d (.int .i64 s.limit),.d (.str s.text),.d (.int .i64 0),.d (.int .i64 0),.d (.int .i64 0),.d (.int .i64 0),.d (.nil 1),.d (.nil 7),.d (.nil 11),.ms 154 k,.d EX,.d (.list 6 (s.rules.map UT)),.d (.list 2 (calls.map Je)),.d (.nil 1)])::
          (154,.row k 7 (tyO p (calls.take k)))::TMk p v s0 sv X es ek ev⟩) ?_ ?_
      · refine⟨_,_,(Wk.JCZ 5 15 154 7 _ rfl rfl rfl (by decide)).trans (Wk.less ?_),0,Nat.zero_le _,rfl,rfl⟩
        simp[go_sem,TMk,tyO]
      rintro n st ⟨k,hk,rfl,rfl⟩
      by_cases hlt:k<calls.length
      · have hd:decide ((k:Int)<(calls.length:Int))=true:=by simp;omega
        have hx:=JU Je hlt
        have htk:tyO p (calls.take (k+1))=tyO p (calls.take k)++tyC p calls[k]:=by unfold tyO;rw[List.take_succ_eq_append_getElem hlt,List.flatMap_append];simp
        have htl:=JCQ hP (calls.take k)
        rw[List.length_take]at htl
        have c1:=(JI9 p calls[k].service hP.sv).call (by simp[Ug])
        obtain⟨si,x,e1,hsi,-,hsx,hty⟩:=JGh hP calls[k]
        obtain⟨ia,ba,ta,e2,hia,-,hax,hta⟩:=JAH hP x.request
        obtain⟨ib,bb,tb,e3,hib,-,hbx,htb⟩:=JAH hP x.reply
        have c2:=(JAG p x.request hP.sc).call (by simp[Ug])
        have c3:=(JAG p x.reply hP.sc).call (by simp[Ug])
        rw[e1]at c1
        rw[e2]at c2
        rw[e3]at c3
        rw[hty,hta,htb,Us,Us]at htk
        simp only[Uy,Je]at hsx hx
        simp only[UB]at hax hbx
        simp only[UD,Va,Vb]at c1 c2 c3
        simp only[go_sem,TMk,hd,hx,Vv,Vc,Nat.reduceAdd,Nat.reduceEqDiff,Nat.reduceBEq,Nat.reduceLeDiff,reduceCtorEq,↓reduceIte]
        refine⟨by omega,by decide,?_⟩
        refine JT rfl c1 trivial ?_
        simp only[go_sem,TMk,hsx,Vv,Vc,Nat.reduceAdd,Nat.reduceEqDiff,Nat.reduceBEq,Nat.reduceLeDiff,reduceCtorEq,↓reduceIte]
        refine⟨⟨by omega,by omega⟩,by decide,?_⟩
        refine JT rfl c2 trivial ?_
        simp only[go_sem,TMk,hsx,Vv,Vc,Nat.reduceAdd,Nat.reduceEqDiff,Nat.reduceBEq,Nat.reduceLeDiff,reduceCtorEq,↓reduceIte]
        refine⟨⟨by omega,by omega⟩,by decide,?_⟩
        refine JT rfl c3 trivial ?_
        simp only[go_sem,TMk,hax,hbx,Vv,Vc,Nat.reduceAdd,Nat.reduceEqDiff,Nat.reduceBEq,Nat.reduceLeDiff,reduceCtorEq,↓reduceIte]
        refine⟨⟨by omega,by omega⟩,⟨by omega,by omega⟩,by simp,by omega,rfl,calls.length-(k+1),_,by omega,Wk.less ?_,k+1,by omega,rfl,rfl⟩
        simp only[go_sem,TMk,JF k (by omega),htk,Vv,Vc,Nat.reduceAdd,Nat.reduceEqDiff,Nat.reduceBEq,Nat.reduceLeDiff,reduceCtorEq,↓reduceIte]
      · have hd:decide ((k:Int)<(calls.length:Int))=false:=by simp;omega
        obtain rfl:k=calls.length:=by omega
        simp only[go_sem,TMk,hd,Vv,Vc,Nat.reduceAdd,Nat.reduceEqDiff,Nat.reduceBEq,Nat.reduceLeDiff,reduceCtorEq,↓reduceIte]
        rw[List.take_length]
end Go.Proofs
namespace Go.Proofs
open Go Av
def mpI(l:List (Str×Int)):List (Dat×Dat):=l.map fun e=>(.str e.1,.int .i64 e.2)
def lkS:List (Str×Int)→Str→Option Int
 |[],_=>none
 |e::r,k=>if k==e.1 then some e.2 else lkS r k
def lkI(l:List (Str×Int))(k:Str):Int:=(lkS l k).getD 0
def puS:List (Str×Int)→Str→Int→List (Str×Int)
 |[],k,v=>[(k,v)]
 |e::r,k,v=>if k==e.1 then(k,v)::r else e::puS r k v
theorem YE(k:Str):∀l:List (Str×Int),YI .s (mpI l) (.str k)=some ((lkS l k).map fun n=>Dat.int .i64 n)
 |[]=>rfl
 |e::r=>by
  have ih:=YE k r;simp only[mpI,Va,YI,US]at ih⊢;cases h:k==e.1
  ·simp only[lkS,h,Vu,if_false];exact ih
  ·simp only[lkS,h,if_true];rfl
theorem JCR(k:Str)(v:Int):∀l:List (Str×Int),Zy .s (mpI l) (.str k) (.int .i64 v)=mpI (puS l k v)
 |[]=>rfl
 |e::r=>by
  have ih:=JCR k v r;simp only[mpI,Va,Zy,US]at ih⊢;cases h:k==e.1
  ·simp only[puS,h,Vu,if_false,Va,ih]
  ·simp only[puS,h,if_true,Va]
theorem JEy(o:Option Int):(o.map fun n=>Dat.int .i64 n).getD (.int .i64 0)=.int .i64 (o.getD 0):=by cases o<;>rfl
def bgn(es ek:List (Str×Int))(l:List Ste)(behind:Int):Int:=match l with
 |[]=>behind
 |s::_=>if s.kind==13 then lkI ek s.text else lkI es s.name
theorem JRu(p:Prg)(l:List Ste)(behind:Int)(v s0 sv:Nat)(X:List Dat)(es ek ev:List (Str×Int)):
  KT 37 [.ref 1001 0,.d (.list 11 (l.map JH)),.d (.int .i64 behind)] (TMk p v s0 sv X (mpI es) (mpI ek) (mpI ev)) (.d (.int .i64 (bgn es ek l behind))) []:=by
 refine ok37.con (k:=some false) (Nat.le_of_ble_eq_true rfl) (Zs _ _ _ _ _ _ _ _) trivial ?_;cases l with
 |nil=>
  have h0:(((0:Nat):Int)==0)=true:=rfl;simp only[go_sem,JP5,TMk,Vb,Vm,h0,bgn,Vv,Vc,Nat.reduceAdd,Nat.reduceEqDiff,Nat.reduceBEq,Nat.reduceLeDiff,reduceCtorEq,↓reduceIte]
 |cons s r=>
  have h0:(((r.length+1:Nat):Int)==0)=false:=sO;have hn:nth (JH s::r.map JH) (Int.toNat 0)=JH s:=rfl;rw[JV]at hn;cases hk:s.kind==13
  ·simp only[go_sem,JP5,TMk,Va,Vf,h0,JV s,hn,hk,YE,JEy,Vu,bgn,Vv,Vc,Nat.reduceAdd,Nat.reduceEqDiff,Nat.reduceBEq,Nat.reduceLeDiff,reduceCtorEq,↓reduceIte];exact⟨⟨dC,oM⟩,dC,⟨dC,oM⟩,dC,rfl⟩
  ·simp only[go_sem,JP5,TMk,Va,Vf,h0,JV s,hn,hk,YE,JEy,Vu,bgn,Vv,Vc,Nat.reduceAdd,Nat.reduceEqDiff,Nat.reduceBEq,Nat.reduceLeDiff,reduceCtorEq,↓reduceIte];exact⟨⟨dC,oM⟩,dC,⟨dC,oM⟩,dC,rfl⟩
structure Rn where
 name:Str
 kind:Int
 schema:Int
 result:Int
 number:Int
 time:Int
 limit:Int
 text:Str
 tk:Int
 tn:Int
 tm:Int
 tc:Int
 tw:Dat
 te:Dat
 tf:Dat
 ts:Dat
 ex:Dat
 ru:Dat
 ca:Dat
 next:List Int
def nxD(l:List Int):Dat:=match l with|[]=>.nil 1|_=>.own 1 (l.map (.int .i64))
def owN(n:Rn):Dat:=.agg [.str n.name,.int .i64 n.kind,.int .i64 n.schema,.int .i64 n.result,.int .i64 n.number,.int .i64 n.time,.int .i64 n.limit,.str n.text,.int .i64 n.tk,.int .i64 n.tn,.int .i64 n.tm,.int .i64 n.tc,n.tw,n.te,n.tf,n.ts,n.ex,n.ru,n.ca,nxD n.next]
structure Nd where
 name:Str
 kind:Int
 schema:Int
 result:Int
 number:Int
 time:Int
 limit:Int
 text:Str
 type:Typ
 types:List Typ
 exprs:List Exp
 rules:List Rule
 calls:List Kal
 next:List Int
def XO(n:Nd):Dat:=.agg [.str n.name,.int .i64 n.kind,.int .i64 n.schema,.int .i64 n.result,.int .i64 n.number,.int .i64 n.time,.int .i64 n.limit,.str n.text,.int .i64 n.type.kind,.int .i64 n.type.min,.int .i64 n.type.max,.int .i64 n.type.scale,.list 1 (n.type.words.map .str),.list 7 (n.type.elem.map UX),.list 11 (n.type.fields.map XY),.list 7 (n.types.map UX),.list 5 (n.exprs.map Jf),.list 6 (n.rules.map UT),.list 2 (n.calls.map Je),.list 1 (n.next.map (.int .i64))]
structure okR(n:Rn):Prop where
 w:Jx n.tw=false
 e:Jx n.te=false
 f:Jx n.tf=false
 tw:∃l:List Str,n.tw.dat.canon=.list 1 (l.map .str)
 te:∃l:List Typ,n.te.dat.canon=.list 7 (l.map UX)
 tf:∃l:List TFl,n.tf.dat.canon=.list 11 (l.map XY)
 ts:∃l:List Typ,n.ts.dat.canon=.list 7 (l.map UX)∧l.length≤4000000000
 ex:∃l:List Exp,n.ex.dat.canon=.list 5 (l.map Jf)∧l.length≤4000000000
 ru:∃l:List Rule,n.ru.dat.canon=.list 6 (l.map UT)
 ca:∃l:List Kal,n.ca.dat.canon=.list 2 (l.map Je)∧l.length≤4000000000
def upN(N:List Rn)(i:Nat)(f:Rn→Rn):List Rn:=match N[i]? with
 |some n=>N.set i (f n)
 |none=>N
theorem JGi(N:List Rn)(i:Nat)(f:Rn→Rn):(upN N i f).length=N.length:=by unfold upN;split<;>simp
theorem JAv{N:List Rn}{i:Nat}(h:i<N.length)(f:Rn→Rn):upN N i f=N.set i (f N[i]):=by unfold upN;rw[Vl h]
theorem JQi{N:List Rn}{i:Nat}{f:Rn→Rn}{x:Rn}(h:x∈upN N i f):x∈N∨∃n∈N,x=f n:=by
 unfold upN at h;split at h
 ·rename_i n e;rcases List.mem_or_eq_of_mem_set h with h|h
  ·exact .inl h
  ·exact .inr ⟨n,List.mem_of_getElem? e,h⟩
 ·exact .inl h
def Rn.sch(n:Rn)(s r:Int):Rn:={n with schema:=s,result:=r}
def Rn.typ(n:Rn)(t:Typ):Rn:={n with tk:=t.kind,tn:=t.min,tm:=t.max,tc:=t.scale,tw:=.list 1 (t.words.map .str),te:=.list 7 (t.elem.map UX),tf:=.list 11 (t.fields.map XY)}
def Rn.nxt(n:Rn)(l:List Int):Rn:={n with next:=l}
def schO(p:Prg)(n:Str):Option Typ:=(p.schemas[(JCP p.schemas n).1]?).map Sch.type
abbrev NS:=List Rn×Nat
def plT(p:Prg)(es:List (Str×Int))(s:Ste)(now:Int)(S:NS):Int×NS:=
 if s.schema==[]then(now,upN S.1 (lkI es s.name).toNat (·.sch now (-1)),S.2)
 else(((JCP p.schemas s.schema).1:Nat),upN S.1 (lkI es s.name).toNat (fun n=>match schO p s.schema with|some t=>(n.sch now ((JCP p.schemas s.schema).1:Nat)).typ t|none=>n),S.2)
def addN(S:NS)(i:Nat)(k:Int):NS:=(upN S.1 i (fun n=>n.nxt (n.next++[k])),match S.1[i]? with|some n=>if n.next=[]then S.2+1 else S.2+2|none=>S.2)
mutual
def plS(p:Prg)(es ek:List (Str×Int)):Ste→Int→Int→NS→Int×NS
 |.mk n k u t l x c e ru a b,nxt,now,S=>
  let q:=plT p es (.mk n k u t l x c e ru a b) now S
  if k==14 then q
  else if k==11||k==12 then
   let r:=YX p es ek b (lkI es n).toNat nxt q.1 (-1) q.2
   (if decide (r.1≥0)then r.1 else q.1,r.2)
  else(q.1,upN q.2.1 (lkI es n).toNat (·.nxt [nxt]),q.2.2+1)
def Xa(p:Prg)(es ek:List (Str×Int)):List Ste→Int→Int→NS→Int×NS
 |[],now,_,S=>(now,S)
 |s::r,now,behind,S=>if s.kind==13 then Xa p es ek r now behind S
  else let q:=plS p es ek s (bgn es ek r behind) now S;Xa p es ek r q.1 behind q.2
def plB(p:Prg)(es ek:List (Str×Int)):Brn→Nat→Int→Int→Int→NS→Int×NS
 |.mk w l,i,nxt,now,after,S=>
  let q:=Xa p es ek l now nxt (addN S i (bgn es ek l nxt))
  (if decide (after<0)&& !Uk l then q.1 else after,q.2)
def YX(p:Prg)(es ek:List (Str×Int)):List Brn→Nat→Int→Int→Int→NS→Int×NS
 |[],_,_,_,after,S=>(after,S)
 |x::r,i,nxt,now,after,S=>let q:=plB p es ek x i nxt now after S;YX p es ek r i nxt now q.1 q.2
end
end Go.Proofs
namespace Go.Proofs
open Go Av
variable {b:Nat}{n:Rn}
def NB(N:List Rn)(b:Nat):Prop:=∀n∈N,okR n∧n.next.length≤b
theorem NB.le{N:List Rn}{a:Nat}(h:NB N a)(hab:a≤b):NB N b:=fun n hn=>⟨(h n hn).1,Nat.le_trans (h n hn).2 hab⟩
theorem NB.up{N:List Rn}{a:Nat}(h:NB N a)(hab:a≤b)(i:Nat){f:Rn→Rn}(hf:∀n∈N,okR (f n)∧(f n).next.length≤b):NB (upN N i f) b:=by
 intro n hn;rcases JQi hn with hn|⟨m,hm,rfl⟩
 ·exact(h.le hab) n hn
 ·exact hf m hm
theorem okR.sch(h:okR n)(s r:Int):okR (n.sch s r):=⟨h.w,h.e,h.f,h.tw,h.te,h.tf,h.ts,h.ex,h.ru,h.ca⟩
theorem okR.nxt(h:okR n)(l:List Int):okR (n.nxt l):=⟨h.w,h.e,h.f,h.tw,h.te,h.tf,h.ts,h.ex,h.ru,h.ca⟩
theorem okR.typ(h:okR n)(t:Typ):okR (n.typ t):=⟨rfl,rfl,rfl,⟨t.words,by simp only[Rn.typ,Dat.dat,Dat.canon,YT]⟩,⟨t.elem,by simp only[Rn.typ,Dat.dat,Dat.canon,YU]⟩,⟨t.fields,by simp only[Rn.typ,Dat.dat,Dat.canon,ZU]⟩,h.ts,h.ex,h.ru,h.ca⟩
variable {p:Prg}{es ek:List (Str×Int)}
theorem JGj(s:Ste)(now:Int)(S:NS):(plT p es s now S).2.1.length=S.1.length:=by
 unfold plT;split<;>exact JGi _ _ _
theorem JJB(s:Ste)(now:Int){S:NS}(h:NB S.1 b):NB (plT p es s now S).2.1 b:=by
 unfold plT;split
 ·exact h.up (Nat.le_refl _) _ fun n hn=>⟨(h n hn).1.sch _ _,(h n hn).2⟩
 ·refine h.up (Nat.le_refl _) _ fun n hn=>?_
  cases schO p s.schema with
  |none=>exact h n hn
  |some t=>exact⟨((h n hn).1.sch _ _).typ t,(h n hn).2⟩
theorem X0(S:NS)(i:Nat)(k:Int):(addN S i k).1.length=S.1.length:=JGi _ _ _
theorem JCS{S:NS}(h:NB S.1 b)(i:Nat)(k:Int):NB (addN S i k).1 (b+1):=by
 refine h.up (Nat.le_succ _) _ fun n hn=>⟨(h n hn).1.nxt _,?_⟩
 have:=(h n hn).2;simp only[Rn.nxt,Vg,Vf,Vm];omega
theorem plS_eq(s:Ste)(nxt now:Int)(S:NS):plS p es ek s nxt now S=
  if s.kind==14 then plT p es s now S
  else if s.kind==11||s.kind==12 then
   (if decide ((YX p es ek s.branches (lkI es s.name).toNat nxt (plT p es s now S).1 (-1) (plT p es s now S).2).1≥0)then(YX p es ek s.branches (lkI es s.name).toNat nxt (plT p es s now S).1 (-1) (plT p es s now S).2).1 else(plT p es s now S).1,(YX p es ek s.branches (lkI es s.name).toNat nxt (plT p es s now S).1 (-1) (plT p es s now S).2).2)
  else((plT p es s now S).1,upN (plT p es s now S).2.1 (lkI es s.name).toNat (·.nxt [nxt]),(plT p es s now S).2.2+1):=by
 cases s;simp only[plS];rfl
theorem JGk(x:Brn)(i:Nat)(nxt now after:Int)(S:NS):plB p es ek x i nxt now after S=
  (if decide (after<0)&& !Uk x.steps then(Xa p es ek x.steps now nxt (addN S i (bgn es ek x.steps nxt))).1 else after,(Xa p es ek x.steps now nxt (addN S i (bgn es ek x.steps nxt))).2):=by
 cases x;simp only[plB];rfl
mutual
theorem JQj:∀(s:Ste) (nxt now:Int) (S:NS),(plS p es ek s nxt now S).2.1.length=S.1.length
 |.mk n k u t l x c e ru a b,nxt,now,S=>by
  simp only[plS];split
  ·exact JGj _ _ _
  ·split
   ·show(YX p es ek b _ _ _ _ _).2.1.length=_;rw[JIB b];exact JGj _ _ _
   ·show(upN _ _ _).length=_;rw[JGi];exact JGj _ _ _
theorem YY:∀(l:List Ste) (now behind:Int) (S:NS),(Xa p es ek l now behind S).2.1.length=S.1.length
 |[],_,_,_=>rfl
 |s::r,now,behind,S=>by
  simp only[Xa];split
  ·exact YY r _ _ _
  ·rw[YY r,JQj s]
theorem JQk:∀(x:Brn) (i:Nat) (nxt now after:Int) (S:NS),(plB p es ek x i nxt now after S).2.1.length=S.1.length
 |.mk w l,i,nxt,now,after,S=>by
  simp only[plB];rw[YY l,X0]
theorem JIB:∀(l:List Brn) (i:Nat) (nxt now after:Int) (S:NS),(YX p es ek l i nxt now after S).2.1.length=S.1.length
 |[],_,_,_,_,_=>rfl
 |x::r,i,nxt,now,after,S=>by
  simp only[YX];rw[JIB r,JQk x]
end
mutual
theorem plS_NB:∀(s:Ste) (nxt now:Int) (S:NS) (b:Nat),NB S.1 b→NB (plS p es ek s nxt now S).2.1 (b+szS s)
 |.mk n k u t l x c e ru a bs,nxt,now,S,b,h=>by
  have hT:=JJB (p:=p) (es:=es) (.mk n k u t l x c e ru a bs) now h;simp only[plS,szS];split
  ·exact hT.le oM
  ·split
   ·exact(JKF bs _ _ _ _ _ b hT).le oM
   ·refine hT.up oM _ fun n hn=>⟨(hT n hn).1.nxt _,?_⟩
    show[nxt].length≤_;simp only[Vf,Vm];omega
theorem ZY:∀(l:List Ste) (now behind:Int) (S:NS) (b:Nat),NB S.1 b→NB (Xa p es ek l now behind S).2.1 (b+J6 l)
 |[],_,_,_,b,h=>h
 |s::r,now,behind,S,b,h=>by
  simp only[Xa,J6];split
  ·exact(ZY r _ _ _ b h).le oM
  ·exact(ZY r _ _ _ _ (plS_NB s _ _ _ b h)).le oM
theorem plB_NB:∀(x:Brn) (i:Nat) (nxt now after:Int) (S:NS) (b:Nat),NB S.1 b→NB (plB p es ek x i nxt now after S).2.1 (b+szB x)
 |.mk w l,i,nxt,now,after,S,b,h=>by
  simp only[plB,szB];exact(ZY l _ _ _ _ (JCS h i _)).le oM
theorem JKF:∀(l:List Brn) (i:Nat) (nxt now after:Int) (S:NS) (b:Nat),NB S.1 b→NB (YX p es ek l i nxt now after S).2.1 (b+XQ l)
 |[],_,_,_,_,_,b,h=>h
 |x::r,i,nxt,now,after,S,b,h=>by
  simp only[YX,XQ];exact(JKF r _ _ _ _ _ _ (plB_NB x _ _ _ _ _ b h)).le oM
end
end Go.Proofs
namespace Go.Proofs
open Go Av
variable {N:List Rn}{i:Nat}
theorem XH(n:Rn):owN n=.agg [.str n.name,.int .i64 n.kind,.int .i64 n.schema,.int .i64 n.result,.int .i64 n.number,.int .i64 n.time,.int .i64 n.limit,.str n.text,.int .i64 n.tk,.int .i64 n.tn,.int .i64 n.tm,.int .i64 n.tc,n.tw,n.te,n.tf,n.ts,n.ex,n.ru,n.ca,nxD n.next]:=rfl
theorem JQl(h:i<N.length)(n:Rn)(hl:n.next≠[]):nodeAt (.own 20 ((N.set i n).map owN)) [(i,19)]=some (.own 1 (n.next.map (.int .i64))):=by
 have e:((N.set i n).map owN)[i]? =some (owN n):=by simp[h]
 simp only[nodeAt,cellAt,e,Option.bind_some,owN,Dat.cells,List.getElem?_cons_succ,List.getElem?_cons_zero];unfold nxD;cases hn:n.next with
 |nil=>exact absurd hn hl
 |cons a r=>rfl
theorem JCT(h:i<N.length)(n:Rn)(hl:n.next≠[]):inner 20 ((N.set i n).map owN) [(i,19)]=some ([],i,19,1,n.next.map (.int .i64)):=by
 have:=JQl h n hl;simp only[inner,List.getLast?_singleton,this,List.dropLast_singleton]
theorem JKG(h:i<N.length)(n:Rn)(f:Rn→Rn):upN (N.set i n) i f=N.set i (f n):=by
 rw[JAv (sX h)];simp
theorem U8(N:List Rn)(i:Nat)(m:Rn):(N.set i m).map owN=(N.map owN).set i (owN m):=List.map_set
theorem Zt:∀l:List Int,(flat (l.map (.int .i64))).any Jx=false
 |[]=>rfl
 |a::r=>by
  have:=Zt r;unfold flat at this⊢;rw[Va,List.flatMap_cons,List.any_append,this];rfl
def V74(p:Prg)(es ek ev:List (Str×Int))(v s0:Nat)(l:List Ste):Prop:=∀(S:NS) (now behind:Int) (b:Nat),(∀k,∃i:Nat,lkI es k=i∧i<S.1.length)→NB S.1 b→b+J6 l≤10000000000→
 KT 38 [.ref 1001 0,.d (.list 11 (l.map JH)),.d (.int .i64 now),.d (.int .i64 behind)] (TMk p v s0 S.2 (S.1.map owN) (mpI es) (mpI ek) (mpI ev)) (.d (.int .i64 (Xa p es ek l now behind S).1)) [(1002,.tre v (Xa p es ek l now behind S).2.2 20 ((Xa p es ek l now behind S).2.1.map owN))]
theorem JKH{p:Prg}{v s0 s s':Nat}{X X':List Dat}{es ek ev:List (Dat×Dat)}(h:(JC (Av.get (TMk p v s0 s X es ek ev)) [(1002,.tre v s' 20 X')] i).isSome=true):i=1001∨i=1002∨i=1003∨i=1004∨i=1005:=by
 refine Decidable.byContradiction fun hn=>?_
 simp only[not_or]at hn;obtain⟨a1,a2,a3,a4,a5⟩:=hn;simp[TMk,JC,upd,Av.get,a1,a2,a3,a4,a5,Ne.symm a1,Ne.symm a2,Ne.symm a3,Ne.symm a4,Ne.symm a5]at h
theorem call38{p:Prg}{es ek ev:List (Str×Int)}{v s0:Nat}{l:List Ste}(h:V74 p es ek ev v s0 l)(S:NS)(now behind:Int)(b:Nat)(h1:∀k,∃i:Nat,lkI es k=i∧i<S.1.length)(h2:NB S.1 b)(h3:b+J6 l≤10000000000):
  CT (.fn 38) [.ref 1001 0,.d (.list 11 (l.map JH)),.d (.int .i64 now),.d (.int .i64 behind)] ((TMk p v s0 S.2 (S.1.map owN) (mpI es) (mpI ek) (mpI ev)).map fun x=>(x.1,some x.2)) (.d (.int .i64 (Xa p es ek l now behind S).1)) [(1002,.tre v (Xa p es ek l now behind S).2.2 20 ((Xa p es ek l now behind S).2.1.map owN))]:=by
 have:=(h S now behind b h1 h2 h3).call (fun i=>i) (fun i hi=>by
   simp only[TMk,Av.get]at hi
   repeat' split at hi
   all_goals first|(cases hi;done)|omega) (fun i j _ _ h=>h) (by simp[JR,Av.get]) (Jy (by simp[Jd,J5,JS,JR,Ue,Av.get])) [] (by simp[Av.get]) (JEx _ _ _ _ _ _ _ _ _ _) trivial
 simp only[TMk,Va,Vb,Obj.ren,Av.ren,UQ,YC,List.append_nil]at this⊢;exact this
theorem call37(p:Prg)(l:List Ste)(behind:Int)(v s0 sv:Nat)(X:List Dat)(es ek ev:List (Str×Int)):
  CT (.fn 37) [.ref 1001 0,.d (.list 11 (l.map JH)),.d (.int .i64 behind)] ((TMk p v s0 sv X (mpI es) (mpI ek) (mpI ev)).map fun x=>(x.1,some x.2)) (.d (.int .i64 (bgn es ek l behind))) []:=by
 have:=(JRu p l behind v s0 sv X es ek ev).call (fun i=>i) (fun i hi=>by
   simp only[TMk,Av.get]at hi
   repeat' split at hi
   all_goals first|(cases hi;done)|omega) (fun i j _ _ h=>h) (by simp[JR,Av.get]) (Jy (by simp[Jd,J5,JS,JR,Ue,Av.get])) [] (by simp[Av.get]) (Zs _ _ _ _ _ _ _ _) trivial
 simp only[TMk,Va,Vb,Obj.ren,Av.ren,UQ,YC,List.append_nil]at this⊢;exact this
end Go.Proofs
namespace Go.Proofs
open Go Av
set_option maxHeartbeats 4000000 in
theorem JOy{p:Prg}(hP:PB p){es ek ev:List (Str×Int)}{v s0:Nat}(l:List Ste)(h:∀x∈l,∀b∈x.branches,V74 p es ek ev v s0 b.steps):V74 p es ek ev v s0 l:=by
 intro S0 now0 behind b0 hE0 hNB0 hb0;refine Con.Jk ok38.has fun hfit=>?_
 have hl:l.length≤68719476736:=by have:=(hfit (.list 11 (l.map JH)) sP).1;simpa using this
 have hfs:∀x∈l,x.branches.length≤68719476736:=by
  intro x hxm;have:=UG.1 (hfit (.list 11 (l.map JH)) sP).2 _ (VC.2 ⟨x,hxm,rfl⟩);rw[JV]at this;simp only[fits,Un,Vc]at this;omega
 clear hfit;generalize hR:Xa p es ek l now0 behind S0=R;refine ok38.con (k:=some false) (Nat.le_of_ble_eq_true rfl) (JEx _ _ _ _ _ _ _ _ _ _) trivial ?_;simp only[go_sem,ir38,TMk,Vv,Vc,Nat.reduceAdd,Nat.reduceEqDiff,Nat.reduceBEq,Nat.reduceLeDiff,reduceCtorEq,↓reduceIte];refine JK (fun n st=>∃(k:Nat) (S:NS) (now:Int) (c:Nat),k≤l.length∧n=l.length-k∧Xa p es ek (l.drop k) now behind S=R∧(∀k,∃i:Nat,lkI es k=i∧i<S.1.length)∧NB S.1 c∧c+J6 (l.drop k)≤10000000000∧
  st=⟨[(0,.ref 1001 0),(1,.d (.list 11 (l.map JH))),(2,.d (.int .i64 now)),(3,.d (.int .i64 behind)),(9,.d (.int .i64 k))],TMk p v s0 S.2 (S.1.map owN) (mpI es) (mpI ek) (mpI ev)⟩) ?_ ?_
 ·refine⟨_,_,Wk.less ?_,0,S0,now0,b0,Nat.zero_le _,rfl,by simpa using hR,hE0,hNB0,by simpa using hb0,rfl⟩;simp[go_sem,TMk]
 clear hE0 hNB0 hb0 hR;rintro n st ⟨k,S,now,c,hk,rfl,hinv,hE,hNB,hb,rfl⟩;by_cases hlt:k<l.length
 ·have hn:=Zo hlt;have hdk:decide ((k:Int)<(l.length:Int))=true:=sO;have hw:IntKind.i64.wrap ((k:Int)+1)=((k+1:Nat):Int):=by rw[wrap64 oM oM];rfl
  have hbr:=hfs _ (Vk hlt);have hV:=h _ (Vk hlt);rw[Vq hlt,J6,JEe]at hb;rw[Vq hlt,Xa]at hinv;have hsl:(((l.map JH).drop (k+1)).take ((l.length:Int)-((k+1:Nat):Int)).toNat)=(l.drop (k+1)).map JH:=by
   rw[←List.map_drop,List.take_of_length_le sO]
  generalize hX:l[k]=x at*;have hc:=call37 p (l.drop (k+1)) behind v s0 S.2 (S.1.map owN) es ek ev;cases h13:x.kind==13
  ·rw[h13,if_neg Bool.false_ne_true,plS_eq]at hinv;obtain⟨i,hi,hil⟩:=hE x.name;generalize hz:bgn es ek (l.drop (k+1)) behind=z at*;have hi2:(lkS es x.name).getD 0=(i:Int):=hi;have hn0:∀Y:List Dat,nodeAt (.own 20 Y) []=some (.own 20 Y):=fun _=>rfl
   obtain⟨n,hnn⟩:∃n,n=S.1[i]:=⟨_,rfl⟩;have g0:nth (S.1.map owN) i=owN n:=by rw[hnn];exact JU owN hil
   have g1:(S.1.map owN).getD i .opq=owN n:=g0;have g2:∀y,nth ((S.1.map owN).set i y) i=y:=fun y=>by rw[XW (sX hil)];simp
   have g3:∀y,((S.1.map owN).set i y).getD i .opq=y:=g2;rw[XH n]at g0 g1;simp only[go_sem,TMk,hdk,hn,hw,hsl,Vv,Vc,Nat.reduceAdd,Nat.reduceEqDiff,Nat.reduceBEq,Nat.reduceLeDiff,reduceCtorEq,↓reduceIte];refine⟨⟨oM,oM⟩,⟨oM,oM,oM⟩,?_⟩;refine JT rfl hc ⟨rfl,rfl,rfl,rfl,rfl,trivial⟩ ?_;simp only[go_sem,h13,Vu,YE,JEy,hi2,hn0,g0,g1,g2,g3,List.length_set,List.set_set,List.set_cons_succ,List.set_cons_zero,List.any_cons,List.any_nil,Jx,Bool.or_false,Vv,Vc,Nat.reduceAdd,Nat.reduceEqDiff,Nat.reduceBEq,Nat.reduceLeDiff,reduceCtorEq,↓reduceIte];refine⟨⟨oM,oM⟩,hil,hil,?_⟩;cases hs:x.schema==[]
   ·obtain⟨ia,ba,ta,e2,hia,hia2,hax,hta⟩:=JAH hP x.schema;have cL:=(JAG p x.schema hP.sc).call (by simp[Ug]);rw[e2]at cL;simp only[UD,Va,Vb]at cL;simp only[UB]at hax;have hT:plT p es x now S=(((ia:Nat):Int),S.1.set i ((n.sch now ia).typ ta.type),S.2):=by
     unfold plT schO;rw[hs,if_neg Bool.false_ne_true,hi,Vv,JAv hil,←hnn,e2];simp only[hia2,Vj]
    obtain⟨n1,hn1⟩:∃n1,n1=(n.sch now ia).typ ta.type:=⟨_,rfl⟩;have hmap:owN n1=_:=(congrArg owN hn1).trans (XH _);simp only[Rn.sch,Rn.typ]at hmap;rw[←hn1]at hT;have hok:=(hNB n (by rw[hnn];exact Vk _)).1;have o1:=hok.w;have o2:=hok.e;have o3:=hok.f;simp only[Jx]at o1 o2 o3;simp only[go_sem,hs,Vs,hn0,g0,g1,g2,g3,List.length_set,List.set_set,List.set_cons_succ,List.set_cons_zero,List.any_cons,List.any_nil,Jx,Bool.or_false,Vu,Vv,Vc,Vv,Vc,Nat.reduceAdd,Nat.reduceEqDiff,Nat.reduceBEq,Nat.reduceLeDiff,reduceCtorEq,↓reduceIte];refine wn cL ?_;simp only[go_sem,hax,o1,o2,o3,hn0,g0,g1,g2,g3,List.length_set,List.set_set,List.set_cons_succ,List.set_cons_zero,List.any_cons,List.any_nil,Jx,Bool.or_false,Vu,Vv,Vc,Vv,Vc,Nat.reduceAdd,Nat.reduceEqDiff,Nat.reduceBEq,Nat.reduceLeDiff,reduceCtorEq,↓reduceIte];refine⟨hil,⟨hil,dC⟩,⟨oM,oM⟩,hil,⟨hil,dC⟩,?_⟩;rw[hi,Vv]at hinv;have hNB':NB (S.1.set i n1) c:=by have:=JJB (p:=p) (es:=es) x now hNB;rw[hT]at this;exact this
    have hE':∀k,∃i_1:Nat,lkI es k=i_1∧i_1<(S.1.set i n1).length:=sX hE;cases h14:x.kind==14
    ·simp only[hT,h14,Vu,if_false]at hinv;cases h11:x.kind==11
     ·cases h12:x.kind==12
      ·simp only[h11,h12,Bool.or_false,Vu,if_false]at hinv;have hNB2:NB (upN (S.1.set i n1) i (·.nxt [z])) (c+1):=hNB'.up oM _ fun m hm=>⟨(hNB' m hm).1.nxt _,by simp[Rn.nxt]⟩
       rw[JKG hil]at hinv hNB2;have hmap2:=XH (n1.nxt [z]);rw[hn1]at hmap2;simp only[Rn.sch,Rn.typ,Rn.nxt,nxD,Va,Vb]at hmap2;simp only[hn1,Rn.sch,Rn.typ,Rn.nxt]at hinv hNB2;simp only[go_sem,hs,Vr,Vs,h14,h11,h12,hn0,g0,g1,g2,g3,List.length_set,List.set_set,List.set_cons_succ,List.set_cons_zero,List.any_cons,List.any_nil,Jx,Bool.or_false,Vu,Vv,Vc,Vv,Vc,Nat.reduceAdd,Nat.reduceEqDiff,Nat.reduceBEq,Nat.reduceLeDiff,reduceCtorEq,↓reduceIte];refine⟨sP,hil,l.length-(k+1),_,oM,Wk.less ?_,k+1,(_,_),_,c+1,oM,rfl,hinv,by simpa using hE,hNB2,oM,rfl⟩;simp only[U8,hmap2,JF k oM];simp[go_sem,TMk]
      ·simp only[h12,Bool.or_true,if_true]at hinv;generalize hRB:YX p es ek x.branches i z ((ia:Nat):Int) (-1) (S.1.set i n1,S.2)=RB at hinv;simp only[go_sem,hs,Vr,Vs,h14,h11,h12,hn0,g0,g1,g2,g3,List.length_set,List.set_set,List.set_cons_succ,List.set_cons_zero,List.any_cons,List.any_nil,Jx,Bool.or_false,Vu,Vv,Vc,Vv,Vc,Nat.reduceAdd,Nat.reduceEqDiff,Nat.reduceBEq,Nat.reduceLeDiff,reduceCtorEq,↓reduceIte];refine JK (fun nn st=>∃(b:Nat) (S2:NS) (after:Int) (c2:Nat),b≤x.branches.length∧nn=x.branches.length-b∧YX p es ek (x.branches.drop b) i z ((ia:Nat):Int) after S2=RB∧(∀k,∃i:Nat,lkI es k=i∧i<S2.1.length)∧i<S2.1.length∧NB S2.1 c2∧c2+XQ (x.branches.drop b)+J6 (l.drop (k+1))≤10000000000∧
        st=⟨[(0,.ref 1001 0),(1,.d (.list 11 (l.map JH))),(2,.d (.int .i64 ((ia:Nat):Int))),(3,.d (.int .i64 behind)),(9,.d (.int .i64 k)),(10,.ref 10 0),(11,.d (.int .i64 z)),(12,.tr 1002 ⟨v,S.2,[],some (i,0)⟩),(13,.d (.int .i64 after)),(14,.d (.int .i64 b))],
         (10,.box [.d (.str x.name),.d (.int .i64 x.kind),.d (.int .i64 x.number),.d (.int .i64 x.time),.d (.int .i64 x.limit),.d (.str x.text),.d (.str x.schema),.d (.list 5 (x.exprs.map Jf)),.d (.list 6 (x.rules.map UT)),.d (.list 2 (x.calls.map Je)),.d (.list 2 (x.branches.map J1))])::TMk p v s0 S2.2 (S2.1.map owN) (mpI es) (mpI ek) (mpI ev)⟩) ?_ ?_
       ·refine⟨_,_,Wk.less ?_,0,(S.1.set i n1,S.2),-1,c,Nat.zero_le _,rfl,by simpa using hRB,hE',by simpa using hil,hNB',by simp only[List.drop_zero];omega,rfl⟩;simp only[U8,hmap];simp[go_sem,TMk]
       clear hRB;rintro nn st ⟨b,S2,after,c2,hbk,rfl,hinv2,hE2,hil2,hNB2,hb2,rfl⟩;by_cases hbl:b<x.branches.length
       ·have hbn:=YV hbl;have hdb:decide ((b:Int)<(x.branches.length:Int))=true:=sO;have hVb:=hV _ (Vk hbl);rw[Vq hbl,XQ,JAp]at hb2;rw[Vq hbl,YX,JGk]at hinv2;generalize x.branches[b]=br at*;have hc3:=call37 p br.steps z v s0 S2.2 (S2.1.map owN) es ek ev;have hcF:=(p68 br.steps).call trivial;generalize hw2:bgn es ek br.steps z=w2 at*;obtain⟨n2,hn2⟩:∃n,n=S2.1[i]:=⟨_,rfl⟩;have q0:nth (S2.1.map owN) i=owN n2:=by rw[hn2];exact JU owN hil2
        have q1:(S2.1.map owN).getD i .opq=owN n2:=q0;have q2:∀y,nth ((S2.1.map owN).set i y) i=y:=fun y=>by rw[XW (sX hil2)];simp
        have q3:∀y,((S2.1.map owN).set i y).getD i .opq=y:=q2;rw[XH n2]at q0 q1;have hNB3:=JCS hNB2 i w2;have hE3:∀k,∃j:Nat,lkI es k=j∧j<(addN S2 i w2).1.length:=by simpa only[X0]using hE2
        have hV3:=call38 hVb (addN S2 i w2) ((ia:Nat):Int) z (c2+1) hE3 hNB3 oM;have hU1:=ZY (p:=p) (es:=es) (ek:=ek) br.steps ((ia:Nat):Int) z (addN S2 i w2) (c2+1) hNB3;have hU2:=YY (p:=p) (es:=es) (ek:=ek) br.steps ((ia:Nat):Int) z (addN S2 i w2);rw[X0]at hU2;have ha1:(addN S2 i w2).1.map owN=(S2.1.map owN).set i (owN (n2.nxt (n2.next++[w2]))):=by
         unfold addN;rw[JAv hil2,←hn2,U8]
        have ha2:(addN S2 i w2).2=if n2.next=[]then S2.2+1 else S2.2+2:=by
         unfold addN;rw[Vl hil2,←hn2]
        rw[ha1,ha2]at hV3;have hfin:∀(U:Int×NS),U=Xa p es ek br.steps ((ia:Nat):Int) z (addN S2 i w2)→True:=fun _ _=>trivial
        clear ha1 ha2;rw[XH]at hV3;generalize hUU:Xa p es ek br.steps ((ia:Nat):Int) z (addN S2 i w2)=U at*;obtain⟨u1,U2⟩:=U;simp only[Rn.nxt]at hV3 hinv2 hU1 hU2;cases hnx:n2.next with
        |nil=>
         simp only[hnx,List.nil_append,nxD,if_true,Va,Vb]at hV3 q0 q1;simp only[go_sem,TMk,hdb,hbn,hn0,q0,q1,q2,q3,List.length_set,List.set_set,List.set_cons_succ,List.set_cons_zero,List.any_cons,List.any_nil,Jx,Bool.or_false,Vu,Vv,Vc,Vv,Vc,Nat.reduceAdd,Nat.reduceEqDiff,Nat.reduceBEq,Nat.reduceLeDiff,reduceCtorEq,↓reduceIte];refine⟨⟨oM,oM⟩,⟨hil2,dC⟩,?_⟩;refine JI rfl hc3 ⟨rfl,rfl,rfl,rfl,rfl,trivial⟩ ?_;simp only[go_sem,hn0,q0,q1,q2,q3,List.length_set,List.set_set,List.set_cons_succ,List.set_cons_zero,List.any_cons,List.any_nil,Jx,Bool.or_false,Vu,Vv,Vc,Vv,Vc,Nat.reduceAdd,Nat.reduceEqDiff,Nat.reduceBEq,Nat.reduceLeDiff,reduceCtorEq,↓reduceIte];refine⟨sP,⟨dC,sP⟩,hil2,dC,?_⟩;refine JT rfl hV3 ⟨rfl,rfl,rfl,rfl,rfl,trivial⟩ ?_;simp only[go_sem,Vu,Vv,Vc,Nat.reduceAdd,Nat.reduceEqDiff,Nat.reduceBEq,Nat.reduceLeDiff,reduceCtorEq,↓reduceIte];refine sq (!Uk br.steps) ?_ ?_
         ·simp only[go_sem,Vv,Vc,Nat.reduceAdd,Nat.reduceEqDiff,Nat.reduceBEq,Nat.reduceLeDiff,reduceCtorEq,↓reduceIte];refine wn hcF ?_;simp only[go_sem,Vv,Vc,Nat.reduceAdd,Nat.reduceEqDiff,Nat.reduceBEq,Nat.reduceLeDiff,reduceCtorEq,↓reduceIte]
         have hE4:∀k,∃j:Nat,lkI es k=j∧j<U2.1.length:=by simpa only[hU2]using hE2
         cases hq:(decide (after<0)&& !Uk br.steps)
         ·simp only[hq,Vu,if_false]at hinv2;simp only[go_sem,hq,Vu,Vv,Vc,Nat.reduceAdd,Nat.reduceEqDiff,Nat.reduceBEq,Nat.reduceLeDiff,reduceCtorEq,↓reduceIte];refine⟨x.branches.length-(b+1),_,oM,Wk.less ?_,b+1,U2,after,_,oM,rfl,hinv2,hE4,oM,hU1,oM,rfl⟩;simp only[JF b oM];simp[go_sem,TMk]
         ·simp only[hq,if_true]at hinv2;simp only[go_sem,hq,Vu,Vv,Vc,Nat.reduceAdd,Nat.reduceEqDiff,Nat.reduceBEq,Nat.reduceLeDiff,reduceCtorEq,↓reduceIte];refine⟨x.branches.length-(b+1),_,oM,Wk.less ?_,b+1,U2,u1,_,oM,rfl,hinv2,hE4,oM,hU1,oM,rfl⟩;simp only[JF b oM];simp[go_sem,TMk]
        |cons o os=>
         have hin:=JCT hil2 n2 (by rw[hnx];simp);rw[show S2.1.set i n2=S2.1 from by rw[hn2];exact List.set_getElem_self _]at hin;have hfl:=Zt n2.next;have hnl:=(hNB2 n2 (by rw[hn2];exact Vk _)).2;simp only[hnx,Vf]at hnl;simp only[hnx,List.cons_append,nxD,reduceCtorEq,if_false,Va,Vw,Vb]at hV3 q0 q1 hin hfl;simp only[go_sem,TMk,hdb,hbn,hn0,q0,q1,q2,q3,List.length_set,List.set_set,List.set_cons_succ,List.set_cons_zero,List.any_cons,List.any_nil,Jx,Bool.or_false,Vu,Vv,Vc,Vv,Vc,Nat.reduceAdd,Nat.reduceEqDiff,Nat.reduceBEq,Nat.reduceLeDiff,reduceCtorEq,↓reduceIte];refine⟨⟨oM,oM⟩,⟨hil2,dC⟩,?_⟩;refine JI rfl hc3 ⟨rfl,rfl,rfl,rfl,rfl,trivial⟩ ?_;simp only[go_sem,JAR,hin,hfl,hn0,q0,q1,q2,q3,List.length_set,List.set_set,List.set_cons_succ,List.set_cons_zero,List.any_cons,List.any_nil,Jx,Bool.or_false,Vu,Vv,Vc,Vv,Vc,Nat.reduceAdd,Nat.reduceEqDiff,Nat.reduceBEq,Nat.reduceLeDiff,reduceCtorEq,↓reduceIte];refine⟨sP,⟨dC,oM,sP⟩,hil2,dC,?_⟩;refine JT rfl hV3 ⟨rfl,rfl,rfl,rfl,rfl,trivial⟩ ?_;simp only[go_sem,Vu,Vv,Vc,Nat.reduceAdd,Nat.reduceEqDiff,Nat.reduceBEq,Nat.reduceLeDiff,reduceCtorEq,↓reduceIte];refine sq (!Uk br.steps) ?_ ?_
         ·simp only[go_sem,Vv,Vc,Nat.reduceAdd,Nat.reduceEqDiff,Nat.reduceBEq,Nat.reduceLeDiff,reduceCtorEq,↓reduceIte];refine wn hcF ?_;simp only[go_sem,Vv,Vc,Nat.reduceAdd,Nat.reduceEqDiff,Nat.reduceBEq,Nat.reduceLeDiff,reduceCtorEq,↓reduceIte]
         have hE4:∀k,∃j:Nat,lkI es k=j∧j<U2.1.length:=by simpa only[hU2]using hE2
         cases hq:(decide (after<0)&& !Uk br.steps)
         ·simp only[hq,Vu,if_false]at hinv2;simp only[go_sem,hq,Vu,Vv,Vc,Nat.reduceAdd,Nat.reduceEqDiff,Nat.reduceBEq,Nat.reduceLeDiff,reduceCtorEq,↓reduceIte];refine⟨x.branches.length-(b+1),_,oM,Wk.less ?_,b+1,U2,after,_,oM,rfl,hinv2,hE4,oM,hU1,oM,rfl⟩;simp only[JF b oM];simp[go_sem,TMk]
         ·simp only[hq,if_true]at hinv2;simp only[go_sem,hq,Vu,Vv,Vc,Nat.reduceAdd,Nat.reduceEqDiff,Nat.reduceBEq,Nat.reduceLeDiff,reduceCtorEq,↓reduceIte];refine⟨x.branches.length-(b+1),_,oM,Wk.less ?_,b+1,U2,u1,_,oM,rfl,hinv2,hE4,oM,hU1,oM,rfl⟩;simp only[JF b oM];simp[go_sem,TMk]
       ·have hdb:decide ((b:Int)<(x.branches.length:Int))=false:=sO;obtain rfl:b=x.branches.length:=oM;rw[List.drop_length,YX]at hinv2;subst hinv2;cases hge:decide (after≥0)
        ·simp only[hge,Vu,if_false]at hinv;simp only[go_sem,TMk,hdb,hge,Vu,Vv,Vc,Nat.reduceAdd,Nat.reduceEqDiff,Nat.reduceBEq,Nat.reduceLeDiff,reduceCtorEq,↓reduceIte];refine⟨l.length-(k+1),_,oM,Wk.less ?_,k+1,S2,((ia:Nat):Int),c2,oM,rfl,hinv,hE2,hNB2,oM,rfl⟩;simp only[JF k oM];simp[go_sem,TMk]
        ·simp only[hge,if_true]at hinv;simp only[go_sem,TMk,hdb,hge,Vu,Vv,Vc,Nat.reduceAdd,Nat.reduceEqDiff,Nat.reduceBEq,Nat.reduceLeDiff,reduceCtorEq,↓reduceIte];refine⟨l.length-(k+1),_,oM,Wk.less ?_,k+1,S2,after,c2,oM,rfl,hinv,hE2,hNB2,oM,rfl⟩;simp only[JF k oM];simp[go_sem,TMk]
     ·simp only[h11,Bool.true_or,if_true]at hinv;generalize hRB:YX p es ek x.branches i z ((ia:Nat):Int) (-1) (S.1.set i n1,S.2)=RB at hinv;simp only[go_sem,hs,Vr,Vs,h14,h11,hn0,g0,g1,g2,g3,List.length_set,List.set_set,List.set_cons_succ,List.set_cons_zero,List.any_cons,List.any_nil,Jx,Bool.or_false,Vu,Vv,Vc,Vv,Vc,Nat.reduceAdd,Nat.reduceEqDiff,Nat.reduceBEq,Nat.reduceLeDiff,reduceCtorEq,↓reduceIte];refine JK (fun nn st=>∃(b:Nat) (S2:NS) (after:Int) (c2:Nat),b≤x.branches.length∧nn=x.branches.length-b∧YX p es ek (x.branches.drop b) i z ((ia:Nat):Int) after S2=RB∧(∀k,∃i:Nat,lkI es k=i∧i<S2.1.length)∧i<S2.1.length∧NB S2.1 c2∧c2+XQ (x.branches.drop b)+J6 (l.drop (k+1))≤10000000000∧
       st=⟨[(0,.ref 1001 0),(1,.d (.list 11 (l.map JH))),(2,.d (.int .i64 ((ia:Nat):Int))),(3,.d (.int .i64 behind)),(9,.d (.int .i64 k)),(10,.ref 10 0),(11,.d (.int .i64 z)),(12,.tr 1002 ⟨v,S.2,[],some (i,0)⟩),(13,.d (.int .i64 after)),(14,.d (.int .i64 b))],
        (10,.box [.d (.str x.name),.d (.int .i64 x.kind),.d (.int .i64 x.number),.d (.int .i64 x.time),.d (.int .i64 x.limit),.d (.str x.text),.d (.str x.schema),.d (.list 5 (x.exprs.map Jf)),.d (.list 6 (x.rules.map UT)),.d (.list 2 (x.calls.map Je)),.d (.list 2 (x.branches.map J1))])::TMk p v s0 S2.2 (S2.1.map owN) (mpI es) (mpI ek) (mpI ev)⟩) ?_ ?_
      ·refine⟨_,_,Wk.less ?_,0,(S.1.set i n1,S.2),-1,c,Nat.zero_le _,rfl,by simpa using hRB,hE',by simpa using hil,hNB',by simp only[List.drop_zero];omega,rfl⟩;simp only[U8,hmap];simp[go_sem,TMk]
      clear hRB;rintro nn st ⟨b,S2,after,c2,hbk,rfl,hinv2,hE2,hil2,hNB2,hb2,rfl⟩;by_cases hbl:b<x.branches.length
      ·have hbn:=YV hbl;have hdb:decide ((b:Int)<(x.branches.length:Int))=true:=sO;have hVb:=hV _ (Vk hbl);rw[Vq hbl,XQ,JAp]at hb2;rw[Vq hbl,YX,JGk]at hinv2;generalize x.branches[b]=br at*;have hc3:=call37 p br.steps z v s0 S2.2 (S2.1.map owN) es ek ev;have hcF:=(p68 br.steps).call trivial;generalize hw2:bgn es ek br.steps z=w2 at*;obtain⟨n2,hn2⟩:∃n,n=S2.1[i]:=⟨_,rfl⟩;have q0:nth (S2.1.map owN) i=owN n2:=by rw[hn2];exact JU owN hil2
       have q1:(S2.1.map owN).getD i .opq=owN n2:=q0;have q2:∀y,nth ((S2.1.map owN).set i y) i=y:=fun y=>by rw[XW (sX hil2)];simp
       have q3:∀y,((S2.1.map owN).set i y).getD i .opq=y:=q2;rw[XH n2]at q0 q1;have hNB3:=JCS hNB2 i w2;have hE3:∀k,∃j:Nat,lkI es k=j∧j<(addN S2 i w2).1.length:=by simpa only[X0]using hE2
       have hV3:=call38 hVb (addN S2 i w2) ((ia:Nat):Int) z (c2+1) hE3 hNB3 oM;have hU1:=ZY (p:=p) (es:=es) (ek:=ek) br.steps ((ia:Nat):Int) z (addN S2 i w2) (c2+1) hNB3;have hU2:=YY (p:=p) (es:=es) (ek:=ek) br.steps ((ia:Nat):Int) z (addN S2 i w2);rw[X0]at hU2;have ha1:(addN S2 i w2).1.map owN=(S2.1.map owN).set i (owN (n2.nxt (n2.next++[w2]))):=by
        unfold addN;rw[JAv hil2,←hn2,U8]
       have ha2:(addN S2 i w2).2=if n2.next=[]then S2.2+1 else S2.2+2:=by
        unfold addN;rw[Vl hil2,←hn2]
       rw[ha1,ha2]at hV3;have hfin:∀(U:Int×NS),U=Xa p es ek br.steps ((ia:Nat):Int) z (addN S2 i w2)→True:=fun _ _=>trivial
       clear ha1 ha2;rw[XH]at hV3;generalize hUU:Xa p es ek br.steps ((ia:Nat):Int) z (addN S2 i w2)=U at*;obtain⟨u1,U2⟩:=U;simp only[Rn.nxt]at hV3 hinv2 hU1 hU2;cases hnx:n2.next with
       |nil=>
        simp only[hnx,List.nil_append,nxD,if_true,Va,Vb]at hV3 q0 q1;simp only[go_sem,TMk,hdb,hbn,hn0,q0,q1,q2,q3,List.length_set,List.set_set,List.set_cons_succ,List.set_cons_zero,List.any_cons,List.any_nil,Jx,Bool.or_false,Vu,Vv,Vc,Vv,Vc,Nat.reduceAdd,Nat.reduceEqDiff,Nat.reduceBEq,Nat.reduceLeDiff,reduceCtorEq,↓reduceIte];refine⟨⟨oM,oM⟩,⟨hil2,dC⟩,?_⟩;refine JI rfl hc3 ⟨rfl,rfl,rfl,rfl,rfl,trivial⟩ ?_;simp only[go_sem,hn0,q0,q1,q2,q3,List.length_set,List.set_set,List.set_cons_succ,List.set_cons_zero,List.any_cons,List.any_nil,Jx,Bool.or_false,Vu,Vv,Vc,Vv,Vc,Nat.reduceAdd,Nat.reduceEqDiff,Nat.reduceBEq,Nat.reduceLeDiff,reduceCtorEq,↓reduceIte];refine⟨sP,⟨dC,sP⟩,hil2,dC,?_⟩;refine JT rfl hV3 ⟨rfl,rfl,rfl,rfl,rfl,trivial⟩ ?_;simp only[go_sem,Vu,Vv,Vc,Nat.reduceAdd,Nat.reduceEqDiff,Nat.reduceBEq,Nat.reduceLeDiff,reduceCtorEq,↓reduceIte];refine sq (!Uk br.steps) ?_ ?_
        ·simp only[go_sem,Vv,Vc,Nat.reduceAdd,Nat.reduceEqDiff,Nat.reduceBEq,Nat.reduceLeDiff,reduceCtorEq,↓reduceIte];refine wn hcF ?_;simp only[go_sem,Vv,Vc,Nat.reduceAdd,Nat.reduceEqDiff,Nat.reduceBEq,Nat.reduceLeDiff,reduceCtorEq,↓reduceIte]
        have hE4:∀k,∃j:Nat,lkI es k=j∧j<U2.1.length:=by simpa only[hU2]using hE2
        cases hq:(decide (after<0)&& !Uk br.steps)
        ·simp only[hq,Vu,if_false]at hinv2;simp only[go_sem,hq,Vu,Vv,Vc,Nat.reduceAdd,Nat.reduceEqDiff,Nat.reduceBEq,Nat.reduceLeDiff,reduceCtorEq,↓reduceIte];refine⟨x.branches.length-(b+1),_,oM,Wk.less ?_,b+1,U2,after,_,oM,rfl,hinv2,hE4,oM,hU1,oM,rfl⟩;simp only[JF b oM];simp[go_sem,TMk]
        ·simp only[hq,if_true]at hinv2;simp only[go_sem,hq,Vu,Vv,Vc,Nat.reduceAdd,Nat.reduceEqDiff,Nat.reduceBEq,Nat.reduceLeDiff,reduceCtorEq,↓reduceIte];refine⟨x.branches.length-(b+1),_,oM,Wk.less ?_,b+1,U2,u1,_,oM,rfl,hinv2,hE4,oM,hU1,oM,rfl⟩;simp only[JF b oM];simp[go_sem,TMk]
       |cons o os=>
        have hin:=JCT hil2 n2 (by rw[hnx];simp);rw[show S2.1.set i n2=S2.1 from by rw[hn2];exact List.set_getElem_self _]at hin;have hfl:=Zt n2.next;have hnl:=(hNB2 n2 (by rw[hn2];exact Vk _)).2;simp only[hnx,Vf]at hnl;simp only[hnx,List.cons_append,nxD,reduceCtorEq,if_false,Va,Vw,Vb]at hV3 q0 q1 hin hfl;simp only[go_sem,TMk,hdb,hbn,hn0,q0,q1,q2,q3,List.length_set,List.set_set,List.set_cons_succ,List.set_cons_zero,List.any_cons,List.any_nil,Jx,Bool.or_false,Vu,Vv,Vc,Vv,Vc,Nat.reduceAdd,Nat.reduceEqDiff,Nat.reduceBEq,Nat.reduceLeDiff,reduceCtorEq,↓reduceIte];refine⟨⟨oM,oM⟩,⟨hil2,dC⟩,?_⟩;refine JI rfl hc3 ⟨rfl,rfl,rfl,rfl,rfl,trivial⟩ ?_;simp only[go_sem,JAR,hin,hfl,hn0,q0,q1,q2,q3,List.length_set,List.set_set,List.set_cons_succ,List.set_cons_zero,List.any_cons,List.any_nil,Jx,Bool.or_false,Vu,Vv,Vc,Vv,Vc,Nat.reduceAdd,Nat.reduceEqDiff,Nat.reduceBEq,Nat.reduceLeDiff,reduceCtorEq,↓reduceIte];refine⟨sP,⟨dC,oM,sP⟩,hil2,dC,?_⟩;refine JT rfl hV3 ⟨rfl,rfl,rfl,rfl,rfl,trivial⟩ ?_;simp only[go_sem,Vu,Vv,Vc,Nat.reduceAdd,Nat.reduceEqDiff,Nat.reduceBEq,Nat.reduceLeDiff,reduceCtorEq,↓reduceIte];refine sq (!Uk br.steps) ?_ ?_
        ·simp only[go_sem,Vv,Vc,Nat.reduceAdd,Nat.reduceEqDiff,Nat.reduceBEq,Nat.reduceLeDiff,reduceCtorEq,↓reduceIte];refine wn hcF ?_;simp only[go_sem,Vv,Vc,Nat.reduceAdd,Nat.reduceEqDiff,Nat.reduceBEq,Nat.reduceLeDiff,reduceCtorEq,↓reduceIte]
        have hE4:∀k,∃j:Nat,lkI es k=j∧j<U2.1.length:=by simpa only[hU2]using hE2
        cases hq:(decide (after<0)&& !Uk br.steps)
        ·simp only[hq,Vu,if_false]at hinv2;simp only[go_sem,hq,Vu,Vv,Vc,Nat.reduceAdd,Nat.reduceEqDiff,Nat.reduceBEq,Nat.reduceLeDiff,reduceCtorEq,↓reduceIte];refine⟨x.branches.length-(b+1),_,oM,Wk.less ?_,b+1,U2,after,_,oM,rfl,hinv2,hE4,oM,hU1,oM,rfl⟩;simp only[JF b oM];simp[go_sem,TMk]
        ·simp only[hq,if_true]at hinv2;simp only[go_sem,hq,Vu,Vv,Vc,Nat.reduceAdd,Nat.reduceEqDiff,Nat.reduceBEq,Nat.reduceLeDiff,reduceCtorEq,↓reduceIte];refine⟨x.branches.length-(b+1),_,oM,Wk.less ?_,b+1,U2,u1,_,oM,rfl,hinv2,hE4,oM,hU1,oM,rfl⟩;simp only[JF b oM];simp[go_sem,TMk]
      ·have hdb:decide ((b:Int)<(x.branches.length:Int))=false:=sO;obtain rfl:b=x.branches.length:=oM;rw[List.drop_length,YX]at hinv2;subst hinv2;cases hge:decide (after≥0)
       ·simp only[hge,Vu,if_false]at hinv;simp only[go_sem,TMk,hdb,hge,Vu,Vv,Vc,Nat.reduceAdd,Nat.reduceEqDiff,Nat.reduceBEq,Nat.reduceLeDiff,reduceCtorEq,↓reduceIte];refine⟨l.length-(k+1),_,oM,Wk.less ?_,k+1,S2,((ia:Nat):Int),c2,oM,rfl,hinv,hE2,hNB2,oM,rfl⟩;simp only[JF k oM];simp[go_sem,TMk]
       ·simp only[hge,if_true]at hinv;simp only[go_sem,TMk,hdb,hge,Vu,Vv,Vc,Nat.reduceAdd,Nat.reduceEqDiff,Nat.reduceBEq,Nat.reduceLeDiff,reduceCtorEq,↓reduceIte];refine⟨l.length-(k+1),_,oM,Wk.less ?_,k+1,S2,after,c2,oM,rfl,hinv,hE2,hNB2,oM,rfl⟩;simp only[JF k oM];simp[go_sem,TMk]
    ·simp only[hT,h14,if_true]at hinv;simp only[go_sem,hs,Vr,Vs,h14,hn0,g0,g1,g2,g3,List.length_set,List.set_set,List.set_cons_succ,List.set_cons_zero,List.any_cons,List.any_nil,Jx,Bool.or_false,Vu,Vv,Vc,Vv,Vc,Nat.reduceAdd,Nat.reduceEqDiff,Nat.reduceBEq,Nat.reduceLeDiff,reduceCtorEq,↓reduceIte];refine⟨l.length-(k+1),_,oM,Wk.less ?_,k+1,(_,_),_,c,oM,rfl,hinv,hE',hNB',oM,rfl⟩;simp only[U8,hmap,JF k oM];simp[go_sem,TMk]
   ·have hT:plT p es x now S=(now,S.1.set i (n.sch now (-1)),S.2):=by
     unfold plT;rw[hs,if_pos rfl,hi,Vv,JAv hil,←hnn]
    obtain⟨n1,hn1⟩:∃n1,n1=n.sch now (-1):=⟨_,rfl⟩;have hmap:owN n1=_:=(congrArg owN hn1).trans (XH _);simp only[Rn.sch]at hmap;rw[←hn1]at hT;rw[hi,Vv]at hinv;have hNB':NB (S.1.set i n1) c:=by have:=JJB (p:=p) (es:=es) x now hNB;rw[hT]at this;exact this
    have hE':∀k,∃i_1:Nat,lkI es k=i_1∧i_1<(S.1.set i n1).length:=sX hE;cases h14:x.kind==14
    ·simp only[hT,h14,Vu,if_false]at hinv;cases h11:x.kind==11
     ·cases h12:x.kind==12
      ·simp only[h11,h12,Bool.or_false,Vu,if_false]at hinv;have hNB2:NB (upN (S.1.set i n1) i (·.nxt [z])) (c+1):=hNB'.up oM _ fun m hm=>⟨(hNB' m hm).1.nxt _,by simp[Rn.nxt]⟩
       rw[JKG hil]at hinv hNB2;have hmap2:=XH (n1.nxt [z]);rw[hn1]at hmap2;simp only[Rn.sch,Rn.typ,Rn.nxt,nxD,Va,Vb]at hmap2;simp only[hn1,Rn.sch,Rn.typ,Rn.nxt]at hinv hNB2;simp only[go_sem,hs,Vr,Vs,h14,h11,h12,hn0,g0,g1,g2,g3,List.length_set,List.set_set,List.set_cons_succ,List.set_cons_zero,List.any_cons,List.any_nil,Jx,Bool.or_false,Vu,Vv,Vc,Vv,Vc,Nat.reduceAdd,Nat.reduceEqDiff,Nat.reduceBEq,Nat.reduceLeDiff,reduceCtorEq,↓reduceIte];refine⟨sP,hil,l.length-(k+1),_,oM,Wk.less ?_,k+1,(_,_),_,c+1,oM,rfl,hinv,by simpa using hE,hNB2,oM,rfl⟩;simp only[U8,hmap2,JF k oM];simp[go_sem,TMk]
      ·simp only[h12,Bool.or_true,if_true]at hinv;generalize hRB:YX p es ek x.branches i z now (-1) (S.1.set i n1,S.2)=RB at hinv;simp only[go_sem,hs,Vr,Vs,h14,h11,h12,hn0,g0,g1,g2,g3,List.length_set,List.set_set,List.set_cons_succ,List.set_cons_zero,List.any_cons,List.any_nil,Jx,Bool.or_false,Vu,Vv,Vc,Vv,Vc,Nat.reduceAdd,Nat.reduceEqDiff,Nat.reduceBEq,Nat.reduceLeDiff,reduceCtorEq,↓reduceIte];refine JK (fun nn st=>∃(b:Nat) (S2:NS) (after:Int) (c2:Nat),b≤x.branches.length∧nn=x.branches.length-b∧YX p es ek (x.branches.drop b) i z now after S2=RB∧(∀k,∃i:Nat,lkI es k=i∧i<S2.1.length)∧i<S2.1.length∧NB S2.1 c2∧c2+XQ (x.branches.drop b)+J6 (l.drop (k+1))≤10000000000∧
        st=⟨[(0,.ref 1001 0),(1,.d (.list 11 (l.map JH))),(2,.d (.int .i64 now)),(3,.d (.int .i64 behind)),(9,.d (.int .i64 k)),(10,.ref 10 0),(11,.d (.int .i64 z)),(12,.tr 1002 ⟨v,S.2,[],some (i,0)⟩),(13,.d (.int .i64 after)),(14,.d (.int .i64 b))],
         (10,.box [.d (.str x.name),.d (.int .i64 x.kind),.d (.int .i64 x.number),.d (.int .i64 x.time),.d (.int .i64 x.limit),.d (.str x.text),.d (.str x.schema),.d (.list 5 (x.exprs.map Jf)),.d (.list 6 (x.rules.map UT)),.d (.list 2 (x.calls.map Je)),.d (.list 2 (x.branches.map J1))])::TMk p v s0 S2.2 (S2.1.map owN) (mpI es) (mpI ek) (mpI ev)⟩) ?_ ?_
       ·refine⟨_,_,Wk.less ?_,0,(S.1.set i n1,S.2),-1,c,Nat.zero_le _,rfl,by simpa using hRB,hE',by simpa using hil,hNB',by simp only[List.drop_zero];omega,rfl⟩;simp only[U8,hmap];simp[go_sem,TMk]
       clear hRB;rintro nn st ⟨b,S2,after,c2,hbk,rfl,hinv2,hE2,hil2,hNB2,hb2,rfl⟩;by_cases hbl:b<x.branches.length
       ·have hbn:=YV hbl;have hdb:decide ((b:Int)<(x.branches.length:Int))=true:=sO;have hVb:=hV _ (Vk hbl);rw[Vq hbl,XQ,JAp]at hb2;rw[Vq hbl,YX,JGk]at hinv2;generalize x.branches[b]=br at*;have hc3:=call37 p br.steps z v s0 S2.2 (S2.1.map owN) es ek ev;have hcF:=(p68 br.steps).call trivial;generalize hw2:bgn es ek br.steps z=w2 at*;obtain⟨n2,hn2⟩:∃n,n=S2.1[i]:=⟨_,rfl⟩;have q0:nth (S2.1.map owN) i=owN n2:=by rw[hn2];exact JU owN hil2
        have q1:(S2.1.map owN).getD i .opq=owN n2:=q0;have q2:∀y,nth ((S2.1.map owN).set i y) i=y:=fun y=>by rw[XW (sX hil2)];simp
        have q3:∀y,((S2.1.map owN).set i y).getD i .opq=y:=q2;rw[XH n2]at q0 q1;have hNB3:=JCS hNB2 i w2;have hE3:∀k,∃j:Nat,lkI es k=j∧j<(addN S2 i w2).1.length:=by simpa only[X0]using hE2
        have hV3:=call38 hVb (addN S2 i w2) now z (c2+1) hE3 hNB3 oM;have hU1:=ZY (p:=p) (es:=es) (ek:=ek) br.steps now z (addN S2 i w2) (c2+1) hNB3;have hU2:=YY (p:=p) (es:=es) (ek:=ek) br.steps now z (addN S2 i w2);rw[X0]at hU2;have ha1:(addN S2 i w2).1.map owN=(S2.1.map owN).set i (owN (n2.nxt (n2.next++[w2]))):=by
         unfold addN;rw[JAv hil2,←hn2,U8]
        have ha2:(addN S2 i w2).2=if n2.next=[]then S2.2+1 else S2.2+2:=by
         unfold addN;rw[Vl hil2,←hn2]
        rw[ha1,ha2]at hV3;have hfin:∀(U:Int×NS),U=Xa p es ek br.steps now z (addN S2 i w2)→True:=fun _ _=>trivial
        clear ha1 ha2;rw[XH]at hV3;generalize hUU:Xa p es ek br.steps now z (addN S2 i w2)=U at*;obtain⟨u1,U2⟩:=U;simp only[Rn.nxt]at hV3 hinv2 hU1 hU2;cases hnx:n2.next with
        |nil=>
         simp only[hnx,List.nil_append,nxD,if_true,Va,Vb]at hV3 q0 q1;simp only[go_sem,TMk,hdb,hbn,hn0,q0,q1,q2,q3,List.length_set,List.set_set,List.set_cons_succ,List.set_cons_zero,List.any_cons,List.any_nil,Jx,Bool.or_false,Vu,Vv,Vc,Vv,Vc,Nat.reduceAdd,Nat.reduceEqDiff,Nat.reduceBEq,Nat.reduceLeDiff,reduceCtorEq,↓reduceIte];refine⟨⟨oM,oM⟩,⟨hil2,dC⟩,?_⟩;refine JI rfl hc3 ⟨rfl,rfl,rfl,rfl,rfl,trivial⟩ ?_;simp only[go_sem,hn0,q0,q1,q2,q3,List.length_set,List.set_set,List.set_cons_succ,List.set_cons_zero,List.any_cons,List.any_nil,Jx,Bool.or_false,Vu,Vv,Vc,Vv,Vc,Nat.reduceAdd,Nat.reduceEqDiff,Nat.reduceBEq,Nat.reduceLeDiff,reduceCtorEq,↓reduceIte];refine⟨sP,⟨dC,sP⟩,hil2,dC,?_⟩;refine JT rfl hV3 ⟨rfl,rfl,rfl,rfl,rfl,trivial⟩ ?_;simp only[go_sem,Vu,Vv,Vc,Nat.reduceAdd,Nat.reduceEqDiff,Nat.reduceBEq,Nat.reduceLeDiff,reduceCtorEq,↓reduceIte];refine sq (!Uk br.steps) ?_ ?_
         ·simp only[go_sem,Vv,Vc,Nat.reduceAdd,Nat.reduceEqDiff,Nat.reduceBEq,Nat.reduceLeDiff,reduceCtorEq,↓reduceIte];refine wn hcF ?_;simp only[go_sem,Vv,Vc,Nat.reduceAdd,Nat.reduceEqDiff,Nat.reduceBEq,Nat.reduceLeDiff,reduceCtorEq,↓reduceIte]
         have hE4:∀k,∃j:Nat,lkI es k=j∧j<U2.1.length:=by simpa only[hU2]using hE2
         cases hq:(decide (after<0)&& !Uk br.steps)
         ·simp only[hq,Vu,if_false]at hinv2;simp only[go_sem,hq,Vu,Vv,Vc,Nat.reduceAdd,Nat.reduceEqDiff,Nat.reduceBEq,Nat.reduceLeDiff,reduceCtorEq,↓reduceIte];refine⟨x.branches.length-(b+1),_,oM,Wk.less ?_,b+1,U2,after,_,oM,rfl,hinv2,hE4,oM,hU1,oM,rfl⟩;simp only[JF b oM];simp[go_sem,TMk]
         ·simp only[hq,if_true]at hinv2;simp only[go_sem,hq,Vu,Vv,Vc,Nat.reduceAdd,Nat.reduceEqDiff,Nat.reduceBEq,Nat.reduceLeDiff,reduceCtorEq,↓reduceIte];refine⟨x.branches.length-(b+1),_,oM,Wk.less ?_,b+1,U2,u1,_,oM,rfl,hinv2,hE4,oM,hU1,oM,rfl⟩;simp only[JF b oM];simp[go_sem,TMk]
        |cons o os=>
         have hin:=JCT hil2 n2 (by rw[hnx];simp);rw[show S2.1.set i n2=S2.1 from by rw[hn2];exact List.set_getElem_self _]at hin;have hfl:=Zt n2.next;have hnl:=(hNB2 n2 (by rw[hn2];exact Vk _)).2;simp only[hnx,Vf]at hnl;simp only[hnx,List.cons_append,nxD,reduceCtorEq,if_false,Va,Vw,Vb]at hV3 q0 q1 hin hfl;simp only[go_sem,TMk,hdb,hbn,hn0,q0,q1,q2,q3,List.length_set,List.set_set,List.set_cons_succ,List.set_cons_zero,List.any_cons,List.any_nil,Jx,Bool.or_false,Vu,Vv,Vc,Vv,Vc,Nat.reduceAdd,Nat.reduceEqDiff,Nat.reduceBEq,Nat.reduceLeDiff,reduceCtorEq,↓reduceIte];refine⟨⟨oM,oM⟩,⟨hil2,dC⟩,?_⟩;refine JI rfl hc3 ⟨rfl,rfl,rfl,rfl,rfl,trivial⟩ ?_;simp only[go_sem,JAR,hin,hfl,hn0,q0,q1,q2,q3,List.length_set,List.set_set,List.set_cons_succ,List.set_cons_zero,List.any_cons,List.any_nil,Jx,Bool.or_false,Vu,Vv,Vc,Vv,Vc,Nat.reduceAdd,Nat.reduceEqDiff,Nat.reduceBEq,Nat.reduceLeDiff,reduceCtorEq,↓reduceIte];refine⟨sP,⟨dC,oM,sP⟩,hil2,dC,?_⟩;refine JT rfl hV3 ⟨rfl,rfl,rfl,rfl,rfl,trivial⟩ ?_;simp only[go_sem,Vu,Vv,Vc,Nat.reduceAdd,Nat.reduceEqDiff,Nat.reduceBEq,Nat.reduceLeDiff,reduceCtorEq,↓reduceIte];refine sq (!Uk br.steps) ?_ ?_
         ·simp only[go_sem,Vv,Vc,Nat.reduceAdd,Nat.reduceEqDiff,Nat.reduceBEq,Nat.reduceLeDiff,reduceCtorEq,↓reduceIte];refine wn hcF ?_;simp only[go_sem,Vv,Vc,Nat.reduceAdd,Nat.reduceEqDiff,Nat.reduceBEq,Nat.reduceLeDiff,reduceCtorEq,↓reduceIte]
         have hE4:∀k,∃j:Nat,lkI es k=j∧j<U2.1.length:=by simpa only[hU2]using hE2
         cases hq:(decide (after<0)&& !Uk br.steps)
         ·simp only[hq,Vu,if_false]at hinv2;simp only[go_sem,hq,Vu,Vv,Vc,Nat.reduceAdd,Nat.reduceEqDiff,Nat.reduceBEq,Nat.reduceLeDiff,reduceCtorEq,↓reduceIte];refine⟨x.branches.length-(b+1),_,oM,Wk.less ?_,b+1,U2,after,_,oM,rfl,hinv2,hE4,oM,hU1,oM,rfl⟩;simp only[JF b oM];simp[go_sem,TMk]
         ·simp only[hq,if_true]at hinv2;simp only[go_sem,hq,Vu,Vv,Vc,Nat.reduceAdd,Nat.reduceEqDiff,Nat.reduceBEq,Nat.reduceLeDiff,reduceCtorEq,↓reduceIte];refine⟨x.branches.length-(b+1),_,oM,Wk.less ?_,b+1,U2,u1,_,oM,rfl,hinv2,hE4,oM,hU1,oM,rfl⟩;simp only[JF b oM];simp[go_sem,TMk]
       ·have hdb:decide ((b:Int)<(x.branches.length:Int))=false:=sO;obtain rfl:b=x.branches.length:=oM;rw[List.drop_length,YX]at hinv2;subst hinv2;cases hge:decide (after≥0)
        ·simp only[hge,Vu,if_false]at hinv;simp only[go_sem,TMk,hdb,hge,Vu,Vv,Vc,Nat.reduceAdd,Nat.reduceEqDiff,Nat.reduceBEq,Nat.reduceLeDiff,reduceCtorEq,↓reduceIte];refine⟨l.length-(k+1),_,oM,Wk.less ?_,k+1,S2,now,c2,oM,rfl,hinv,hE2,hNB2,oM,rfl⟩;simp only[JF k oM];simp[go_sem,TMk]
        ·simp only[hge,if_true]at hinv;simp only[go_sem,TMk,hdb,hge,Vu,Vv,Vc,Nat.reduceAdd,Nat.reduceEqDiff,Nat.reduceBEq,Nat.reduceLeDiff,reduceCtorEq,↓reduceIte];refine⟨l.length-(k+1),_,oM,Wk.less ?_,k+1,S2,after,c2,oM,rfl,hinv,hE2,hNB2,oM,rfl⟩;simp only[JF k oM];simp[go_sem,TMk]
     ·simp only[h11,Bool.true_or,if_true]at hinv;generalize hRB:YX p es ek x.branches i z now (-1) (S.1.set i n1,S.2)=RB at hinv;simp only[go_sem,hs,Vr,Vs,h14,h11,hn0,g0,g1,g2,g3,List.length_set,List.set_set,List.set_cons_succ,List.set_cons_zero,List.any_cons,List.any_nil,Jx,Bool.or_false,Vu,Vv,Vc,Vv,Vc,Nat.reduceAdd,Nat.reduceEqDiff,Nat.reduceBEq,Nat.reduceLeDiff,reduceCtorEq,↓reduceIte];refine JK (fun nn st=>∃(b:Nat) (S2:NS) (after:Int) (c2:Nat),b≤x.branches.length∧nn=x.branches.length-b∧YX p es ek (x.branches.drop b) i z now after S2=RB∧(∀k,∃i:Nat,lkI es k=i∧i<S2.1.length)∧i<S2.1.length∧NB S2.1 c2∧c2+XQ (x.branches.drop b)+J6 (l.drop (k+1))≤10000000000∧
       st=⟨[(0,.ref 1001 0),(1,.d (.list 11 (l.map JH))),(2,.d (.int .i64 now)),(3,.d (.int .i64 behind)),(9,.d (.int .i64 k)),(10,.ref 10 0),(11,.d (.int .i64 z)),(12,.tr 1002 ⟨v,S.2,[],some (i,0)⟩),(13,.d (.int .i64 after)),(14,.d (.int .i64 b))],
        (10,.box [.d (.str x.name),.d (.int .i64 x.kind),.d (.int .i64 x.number),.d (.int .i64 x.time),.d (.int .i64 x.limit),.d (.str x.text),.d (.str x.schema),.d (.list 5 (x.exprs.map Jf)),.d (.list 6 (x.rules.map UT)),.d (.list 2 (x.calls.map Je)),.d (.list 2 (x.branches.map J1))])::TMk p v s0 S2.2 (S2.1.map owN) (mpI es) (mpI ek) (mpI ev)⟩) ?_ ?_
      ·refine⟨_,_,Wk.less ?_,0,(S.1.set i n1,S.2),-1,c,Nat.zero_le _,rfl,by simpa using hRB,hE',by simpa using hil,hNB',by simp only[List.drop_zero];omega,rfl⟩;simp only[U8,hmap];simp[go_sem,TMk]
      clear hRB;rintro nn st ⟨b,S2,after,c2,hbk,rfl,hinv2,hE2,hil2,hNB2,hb2,rfl⟩;by_cases hbl:b<x.branches.length
      ·have hbn:=YV hbl;have hdb:decide ((b:Int)<(x.branches.length:Int))=true:=sO;have hVb:=hV _ (Vk hbl);rw[Vq hbl,XQ,JAp]at hb2;rw[Vq hbl,YX,JGk]at hinv2;generalize x.branches[b]=br at*;have hc3:=call37 p br.steps z v s0 S2.2 (S2.1.map owN) es ek ev;have hcF:=(p68 br.steps).call trivial;generalize hw2:bgn es ek br.steps z=w2 at*;obtain⟨n2,hn2⟩:∃n,n=S2.1[i]:=⟨_,rfl⟩;have q0:nth (S2.1.map owN) i=owN n2:=by rw[hn2];exact JU owN hil2
       have q1:(S2.1.map owN).getD i .opq=owN n2:=q0;have q2:∀y,nth ((S2.1.map owN).set i y) i=y:=fun y=>by rw[XW (sX hil2)];simp
       have q3:∀y,((S2.1.map owN).set i y).getD i .opq=y:=q2;rw[XH n2]at q0 q1;have hNB3:=JCS hNB2 i w2;have hE3:∀k,∃j:Nat,lkI es k=j∧j<(addN S2 i w2).1.length:=by simpa only[X0]using hE2
       have hV3:=call38 hVb (addN S2 i w2) now z (c2+1) hE3 hNB3 oM;have hU1:=ZY (p:=p) (es:=es) (ek:=ek) br.steps now z (addN S2 i w2) (c2+1) hNB3;have hU2:=YY (p:=p) (es:=es) (ek:=ek) br.steps now z (addN S2 i w2);rw[X0]at hU2;have ha1:(addN S2 i w2).1.map owN=(S2.1.map owN).set i (owN (n2.nxt (n2.next++[w2]))):=by
        unfold addN;rw[JAv hil2,←hn2,U8]
       have ha2:(addN S2 i w2).2=if n2.next=[]then S2.2+1 else S2.2+2:=by
        unfold addN;rw[Vl hil2,←hn2]
       rw[ha1,ha2]at hV3;have hfin:∀(U:Int×NS),U=Xa p es ek br.steps now z (addN S2 i w2)→True:=fun _ _=>trivial
       clear ha1 ha2;rw[XH]at hV3;generalize hUU:Xa p es ek br.steps now z (addN S2 i w2)=U at*;obtain⟨u1,U2⟩:=U;simp only[Rn.nxt]at hV3 hinv2 hU1 hU2;cases hnx:n2.next with
       |nil=>
        simp only[hnx,List.nil_append,nxD,if_true,Va,Vb]at hV3 q0 q1;simp only[go_sem,TMk,hdb,hbn,hn0,q0,q1,q2,q3,List.length_set,List.set_set,List.set_cons_succ,List.set_cons_zero,List.any_cons,List.any_nil,Jx,Bool.or_false,Vu,Vv,Vc,Vv,Vc,Nat.reduceAdd,Nat.reduceEqDiff,Nat.reduceBEq,Nat.reduceLeDiff,reduceCtorEq,↓reduceIte];refine⟨⟨oM,oM⟩,⟨hil2,dC⟩,?_⟩;refine JI rfl hc3 ⟨rfl,rfl,rfl,rfl,rfl,trivial⟩ ?_;simp only[go_sem,hn0,q0,q1,q2,q3,List.length_set,List.set_set,List.set_cons_succ,List.set_cons_zero,List.any_cons,List.any_nil,Jx,Bool.or_false,Vu,Vv,Vc,Vv,Vc,Nat.reduceAdd,Nat.reduceEqDiff,Nat.reduceBEq,Nat.reduceLeDiff,reduceCtorEq,↓reduceIte];refine⟨sP,⟨dC,sP⟩,hil2,dC,?_⟩;refine JT rfl hV3 ⟨rfl,rfl,rfl,rfl,rfl,trivial⟩ ?_;simp only[go_sem,Vu,Vv,Vc,Nat.reduceAdd,Nat.reduceEqDiff,Nat.reduceBEq,Nat.reduceLeDiff,reduceCtorEq,↓reduceIte];refine sq (!Uk br.steps) ?_ ?_
        ·simp only[go_sem,Vv,Vc,Nat.reduceAdd,Nat.reduceEqDiff,Nat.reduceBEq,Nat.reduceLeDiff,reduceCtorEq,↓reduceIte];refine wn hcF ?_;simp only[go_sem,Vv,Vc,Nat.reduceAdd,Nat.reduceEqDiff,Nat.reduceBEq,Nat.reduceLeDiff,reduceCtorEq,↓reduceIte]
        have hE4:∀k,∃j:Nat,lkI es k=j∧j<U2.1.length:=by simpa only[hU2]using hE2
        cases hq:(decide (after<0)&& !Uk br.steps)
        ·simp only[hq,Vu,if_false]at hinv2;simp only[go_sem,hq,Vu,Vv,Vc,Nat.reduceAdd,Nat.reduceEqDiff,Nat.reduceBEq,Nat.reduceLeDiff,reduceCtorEq,↓reduceIte];refine⟨x.branches.length-(b+1),_,oM,Wk.less ?_,b+1,U2,after,_,oM,rfl,hinv2,hE4,oM,hU1,oM,rfl⟩;simp only[JF b oM];simp[go_sem,TMk]
        ·simp only[hq,if_true]at hinv2;simp only[go_sem,hq,Vu,Vv,Vc,Nat.reduceAdd,Nat.reduceEqDiff,Nat.reduceBEq,Nat.reduceLeDiff,reduceCtorEq,↓reduceIte];refine⟨x.branches.length-(b+1),_,oM,Wk.less ?_,b+1,U2,u1,_,oM,rfl,hinv2,hE4,oM,hU1,oM,rfl⟩;simp only[JF b oM];simp[go_sem,TMk]
       |cons o os=>
        have hin:=JCT hil2 n2 (by rw[hnx];simp);rw[show S2.1.set i n2=S2.1 from by rw[hn2];exact List.set_getElem_self _]at hin;have hfl:=Zt n2.next;have hnl:=(hNB2 n2 (by rw[hn2];exact Vk _)).2;simp only[hnx,Vf]at hnl;simp only[hnx,List.cons_append,nxD,reduceCtorEq,if_false,Va,Vw,Vb]at hV3 q0 q1 hin hfl;simp only[go_sem,TMk,hdb,hbn,hn0,q0,q1,q2,q3,List.length_set,List.set_set,List.set_cons_succ,List.set_cons_zero,List.any_cons,List.any_nil,Jx,Bool.or_false,Vu,Vv,Vc,Vv,Vc,Nat.reduceAdd,Nat.reduceEqDiff,Nat.reduceBEq,Nat.reduceLeDiff,reduceCtorEq,↓reduceIte];refine⟨⟨oM,oM⟩,⟨hil2,dC⟩,?_⟩;refine JI rfl hc3 ⟨rfl,rfl,rfl,rfl,rfl,trivial⟩ ?_;simp only[go_sem,JAR,hin,hfl,hn0,q0,q1,q2,q3,List.length_set,List.set_set,List.set_cons_succ,List.set_cons_zero,List.any_cons,List.any_nil,Jx,Bool.or_false,Vu,Vv,Vc,Vv,Vc,Nat.reduceAdd,Nat.reduceEqDiff,Nat.reduceBEq,Nat.reduceLeDiff,reduceCtorEq,↓reduceIte];refine⟨sP,⟨dC,oM,sP⟩,hil2,dC,?_⟩;refine JT rfl hV3 ⟨rfl,rfl,rfl,rfl,rfl,trivial⟩ ?_;simp only[go_sem,Vu,Vv,Vc,Nat.reduceAdd,Nat.reduceEqDiff,Nat.reduceBEq,Nat.reduceLeDiff,reduceCtorEq,↓reduceIte];refine sq (!Uk br.steps) ?_ ?_
        ·simp only[go_sem,Vv,Vc,Nat.reduceAdd,Nat.reduceEqDiff,Nat.reduceBEq,Nat.reduceLeDiff,reduceCtorEq,↓reduceIte];refine wn hcF ?_;simp only[go_sem,Vv,Vc,Nat.reduceAdd,Nat.reduceEqDiff,Nat.reduceBEq,Nat.reduceLeDiff,reduceCtorEq,↓reduceIte]
        have hE4:∀k,∃j:Nat,lkI es k=j∧j<U2.1.length:=by simpa only[hU2]using hE2
        cases hq:(decide (after<0)&& !Uk br.steps)
        ·simp only[hq,Vu,if_false]at hinv2;simp only[go_sem,hq,Vu,Vv,Vc,Nat.reduceAdd,Nat.reduceEqDiff,Nat.reduceBEq,Nat.reduceLeDiff,reduceCtorEq,↓reduceIte];refine⟨x.branches.length-(b+1),_,oM,Wk.less ?_,b+1,U2,after,_,oM,rfl,hinv2,hE4,oM,hU1,oM,rfl⟩;simp only[JF b oM];simp[go_sem,TMk]
        ·simp only[hq,if_true]at hinv2;simp only[go_sem,hq,Vu,Vv,Vc,Nat.reduceAdd,Nat.reduceEqDiff,Nat.reduceBEq,Nat.reduceLeDiff,reduceCtorEq,↓reduceIte];refine⟨x.branches.length-(b+1),_,oM,Wk.less ?_,b+1,U2,u1,_,oM,rfl,hinv2,hE4,oM,hU1,oM,rfl⟩;simp only[JF b oM];simp[go_sem,TMk]
      ·have hdb:decide ((b:Int)<(x.branches.length:Int))=false:=sO;obtain rfl:b=x.branches.length:=oM;rw[List.drop_length,YX]at hinv2;subst hinv2;cases hge:decide (after≥0)
       ·simp only[hge,Vu,if_false]at hinv;simp only[go_sem,TMk,hdb,hge,Vu,Vv,Vc,Nat.reduceAdd,Nat.reduceEqDiff,Nat.reduceBEq,Nat.reduceLeDiff,reduceCtorEq,↓reduceIte];refine⟨l.length-(k+1),_,oM,Wk.less ?_,k+1,S2,now,c2,oM,rfl,hinv,hE2,hNB2,oM,rfl⟩;simp only[JF k oM];simp[go_sem,TMk]
       ·simp only[hge,if_true]at hinv;simp only[go_sem,TMk,hdb,hge,Vu,Vv,Vc,Nat.reduceAdd,Nat.reduceEqDiff,Nat.reduceBEq,Nat.reduceLeDiff,reduceCtorEq,↓reduceIte];refine⟨l.length-(k+1),_,oM,Wk.less ?_,k+1,S2,after,c2,oM,rfl,hinv,hE2,hNB2,oM,rfl⟩;simp only[JF k oM];simp[go_sem,TMk]
    ·simp only[hT,h14,if_true]at hinv;simp only[go_sem,hs,Vr,Vs,h14,hn0,g0,g1,g2,g3,List.length_set,List.set_set,List.set_cons_succ,List.set_cons_zero,List.any_cons,List.any_nil,Jx,Bool.or_false,Vu,Vv,Vc,Vv,Vc,Nat.reduceAdd,Nat.reduceEqDiff,Nat.reduceBEq,Nat.reduceLeDiff,reduceCtorEq,↓reduceIte];refine⟨l.length-(k+1),_,oM,Wk.less ?_,k+1,(_,_),_,c,oM,rfl,hinv,hE',hNB',oM,rfl⟩;simp only[U8,hmap,JF k oM];simp[go_sem,TMk]
  ·rw[h13,if_pos rfl]at hinv;simp only[go_sem,TMk,hdk,hn,hw,hsl,Vv,Vc,Nat.reduceAdd,Nat.reduceEqDiff,Nat.reduceBEq,Nat.reduceLeDiff,reduceCtorEq,↓reduceIte];refine⟨⟨oM,oM⟩,⟨oM,oM,oM⟩,?_⟩;refine JT rfl hc ⟨rfl,rfl,rfl,rfl,rfl,trivial⟩ ?_;simp only[go_sem,h13,Vv,Vc,Nat.reduceAdd,Nat.reduceEqDiff,Nat.reduceBEq,Nat.reduceLeDiff,reduceCtorEq,↓reduceIte];refine⟨l.length-(k+1),_,oM,Wk.less ?_,k+1,S,now,c,oM,rfl,hinv,hE,hNB,oM,rfl⟩;simp only[JF k oM];simp[go_sem,TMk]
 ·have hdk:decide ((k:Int)<(l.length:Int))=false:=sO;obtain rfl:k=l.length:=oM;rw[List.drop_length,Xa]at hinv;subst hinv;simp only[go_sem,TMk,hdk,Vv,Vc,Nat.reduceAdd,Nat.reduceEqDiff,Nat.reduceBEq,Nat.reduceLeDiff,reduceCtorEq,↓reduceIte]
mutual
theorem v74s{p:Prg}(hP:PB p){es ek ev:List (Str×Int)}{v s0:Nat}:∀(l:List Ste),∀x∈l,∀b∈x.branches,V74 p es ek ev v s0 b.steps
 |[],x,h,_,_=>by cases h
 |y::q,x,h,b,hb=>by
  by_cases e:x=y
  ·rw[e]at hb;exact v74S hP y b hb
  ·exact v74s hP q x ((VA.1 h).resolve_left e) b hb
theorem v74S{p:Prg}(hP:PB p){es ek ev:List (Str×Int)}{v s0:Nat}:∀(x:Ste),∀b∈x.branches,V74 p es ek ev v s0 b.steps
 |.mk n k u t l x c e ru a bs=>JRv hP bs
theorem JRv{p:Prg}(hP:PB p){es ek ev:List (Str×Int)}{v s0:Nat}:∀(l:List Brn),∀b∈l,V74 p es ek ev v s0 b.steps
 |[],b,h=>by cases h
 |y::q,b,h=>by
  by_cases e:b=y
  ·rw[e];exact v74B hP y
  ·exact JRv hP q b ((VA.1 h).resolve_left e)
theorem v74B{p:Prg}(hP:PB p){es ek ev:List (Str×Int)}{v s0:Nat}:∀(b:Brn),V74 p es ek ev v s0 b.steps
 |.mk w s=>JOy hP s (v74s hP s)
end
theorem w74{p:Prg}(hP:PB p){es ek ev:List (Str×Int)}{v s0:Nat}(l:List Ste):V74 p es ek ev v s0 l:=JOy hP l (v74s hP l)
end Go.Proofs
namespace Go.Proofs
open Go Av
variable {p:Prg}{n:Nat}{es:List (Str×Int)}
def JDV(p:Prg)(s:Ste):Rn:=⟨s.name,s.kind,0,0,nuO s,s.time,s.limit,s.text,0,0,0,0,.nil 1,.nil 7,.nil 11,.list 7 (tyO p s.calls),exO s,.list 6 (s.rules.map UT),.list 2 (s.calls.map Je),[]⟩
theorem JOz(p:Prg)(s:Ste):owN (JDV p s)=JLc p s:=rfl
def rnE(n:Str)(kd s r:Int):Rn:=⟨n,kd,s,r,0,0,0,n,0,0,0,0,.nil 1,.nil 7,.nil 11,.nil 7,.nil 5,.nil 6,.nil 2,[]⟩
theorem JGl(n:Str)(kd s r:Int):okR (rnE n kd s r):=⟨rfl,rfl,rfl,⟨[],rfl⟩,⟨[],rfl⟩,⟨[],rfl⟩,⟨[],rfl,dC⟩,⟨[],rfl,dC⟩,⟨[],rfl⟩,⟨[],rfl,dC⟩⟩
def JRw:Exp:=.mk 1 0 [] [.mk 1 1 0 [] [] []] []
def exE(b:Brn):Exp:=match b.cond with|[]=>JRw|e::_=>e
theorem JLd(b:Brn):(exB b).canon=Jf (exE b):=by
 unfold exB exE;cases b.cond with
 |nil=>simp[JDm,JRw,JW,JX,Dat.canon,JG]
 |cons e r=>exact JBb e
theorem JJC(l:List Brn):JG (l.map exB)=(l.map exE).map Jf:=by
 rw[Jw,List.map_map,List.map_map];exact List.map_congr_left fun b _=>JLd b
theorem JJD(l:List Exp):(Yn l).dat.canon=.list 5 (l.map Jf):=by
 cases l with
 |nil=>rfl
 |cons a r=>simp only[Yn,Dat.dat,Dat.canon,UH]
theorem JIC(hP:PB p):∀l:List Kal,∃ts:List Typ,tyO p l=ts.map UX
 |[]=>⟨[],rfl⟩
 |c::r=>by
  obtain⟨ts,h⟩:=JIC hP r;obtain⟨si,x,-,-,-,-,h1⟩:=JGh hP c;obtain⟨_,_,a,-,-,-,-,h2⟩:=JAH hP x.request;obtain⟨_,_,b,-,-,-,-,h3⟩:=JAH hP x.reply;refine⟨a.type::b.type::ts,?_⟩;unfold tyO at h⊢;rw[List.flatMap_cons,h,h1,h2,h3];rfl
theorem JO0(hP:PB p)(s:Ste)(hs:stQ s):okR (JDV p s):=by
 refine⟨rfl,rfl,rfl,⟨[],rfl⟩,⟨[],rfl⟩,⟨[],rfl⟩,?_,?_,⟨s.rules,?_⟩,⟨s.calls,?_,by have:=hs.ca;omega⟩⟩
 ·obtain⟨ts,h⟩:=JIC hP s.calls;refine⟨ts,by simp only[JDV,h,Dat.dat,Dat.canon,YU],?_⟩;have h1:=congrArg List.length h;rw[JCQ hP,Vc]at h1;have:=hs.ca;omega
 ·simp only[JDV,exO];split
  ·exact⟨s.branches.map exE,by simp only[Dat.dat,Dat.canon,JJC],by rw[Vc];have:=hs.br;omega⟩
  ·exact⟨s.exprs,JJD _,by have:=hs.el;omega⟩
 ·simp only[JDV,Dat.dat,Dat.canon,Uf]
 ·simp only[JDV,Dat.dat,Dat.canon,Xp]
def scI(p:Prg)(n:Str)(v:Int):Nat:=fdQ (fun x:Sch=>x.name==n&&x.version==v) p.schemas
def epI(p:Prg)(n:Str):Nat:=fdQ (fun x:Epd=>x.name==n) p.endpoints
def p1R(p:Prg)(r:Rou):Rn:=match p.endpoints[epI p r.src]? with
 |some x=>rnE x.name 21 (scI p x.schema x.version:Nat) (scI p x.schema x.version:Nat)
 |none=>rnE [] 0 0 0
def ph1(p:Prg)(l:List Rou):List Rn:=l.map (p1R p)
structure P2 where
 N:List Rn
 es:List (Str×Int)
 us:List Str
 cs:List Str
def JGm(cs:List Str)(l:List Kal):List Str:=l.foldl (fun c k=>JLb c k.service) cs
def p2S(p:Prg)(S:P2)(s:Ste):P2:=if s.kind==13 then⟨S.N,S.es,JLb S.us s.text,JGm S.cs s.calls⟩else⟨S.N++[JDV p s],puS S.es s.name (S.N.length:Nat),S.us,JGm S.cs s.calls⟩
def ph2(p:Prg)(l:List Wlk)(S:P2):P2:=l.foldl (fun S w=>p2S p S w.step) S
def p3S(p:Prg)(us:List Str)(S:List Rn×List (Str×Int))(x:Epd):List Rn×List (Str×Int):=
 if us.contains x.name then(S.1++[rnE x.name 22 (scI p x.schema x.version:Nat) (-1)],puS S.2 x.name (S.1.length:Nat))else S
def ph3(p:Prg)(us:List Str)(l:List Epd)(S:List Rn×List (Str×Int)):List Rn×List (Str×Int):=l.foldl (p3S p us) S
def p4S(p:Prg)(cs:List Str)(N:List Rn)(x:Svc):List Rn:=if cs.contains x.name then N++[rnE x.name 23 ((JCP p.schemas x.request).1:Nat) ((JCP p.schemas x.reply).1:Nat)]else N
def ph4(p:Prg)(cs:List Str)(l:List Svc)(N:List Rn):List Rn:=l.foldl (p4S p cs) N
def p5A(es ek:List (Str×Int))(l:List Ste)(S:NS)(i:Nat):NS:=(upN S.1 i (·.nxt [bgn es ek l (-1)]),S.2+1)
def p5S(p:Prg)(es ek:List (Str×Int))(S:NS)(i:Nat):NS:=match p.routes[i]? with
 |some r=>(Xa p es ek r.steps (((p5A es ek r.steps S i).1[i]?.map Rn.schema).getD 0) (-1) (p5A es ek r.steps S i)).2
 |none=>S
def ph5(p:Prg)(es ek:List (Str×Int))(k:Nat)(S:NS):NS:=(List.range k).foldl (p5S p es ek) S
theorem JID(p:Prg)(es ek:List (Str×Int))(k:Nat)(S:NS):ph5 p es ek (k+1) S=p5S p es ek (ph5 p es ek k S) k:=by
 unfold ph5;rw[List.range_succ,List.foldl_append];rfl
def plA(p:Prg):P2:=ph2 p (wkN p.routes p.routes.length) ⟨ph1 p p.routes,[],[],[]⟩
def plK(p:Prg):List Rn×List (Str×Int):=ph3 p (plA p).us p.endpoints ((plA p).N,[])
def plN(p:Prg):List Rn:=ph4 p (plA p).cs p.services (plK p).1
def plE(p:Prg):NS:=ph5 p (plA p).es (plK p).2 p.routes.length (plN p,0)
def plD(p:Prg):Dat:=.agg [.int .i64 p.version,.list 9 (p.schemas.map UB),.list 7 (p.endpoints.map Jo),.list 4 (p.services.map Uy),.list 20 (JG (Dat.dat.datL ((plE p).1.map owN)))]
theorem JQm(l:List (Str×Int))(k:Str)(v:Int)(j:Str):lkI (puS l k v) j=if j==k then v else lkI l j:=by
 unfold lkI
 induction l with
 |nil=>simp only[puS,lkS];split<;>rfl
 |cons e r ih=>
  simp only[puS];by_cases h1:k==e.1
  ·have h1':k=e.1:=sX h1;simp only[h1,if_true,lkS];by_cases h2:j==k
   ·simp[h2]
   ·have h2':¬j=k:=sX h2;have:(j==e.1)=false:=by simp;rw[←h1'];exact h2'
    simp[h2,this]
  ·have h1':¬k=e.1:=sX h1;simp only[h1,if_false,lkS,Vu];by_cases h3:j==e.1
   ·have h3':j=e.1:=sX h3;have:(j==k)=false:=by simp;rw[h3'];exact fun e=>h1' e.symm
    simp[h3,this]
   ·simp only[h3,Vu,if_false];exact ih
def ME(es:List (Str×Int))(n:Nat):Prop:=∀k,∃i:Nat,lkI es k=i∧i<n
theorem ME.nil(h:0<n):ME [] n:=fun k=>⟨0,rfl,h⟩
theorem ME.put(h:ME es n)(k:Str)(i m:Nat)(hi:i<m)(hm:n≤m):ME (puS es k i) m:=by
 intro j;rw[JQm];split
 ·exact⟨i,rfl,hi⟩
 ·obtain⟨a,h1,h2⟩:=h j;exact⟨a,h1,oM⟩
theorem ME.le{m:Nat}(h:ME es n)(hm:n≤m):ME es m:=fun k=>by obtain⟨a,h1,h2⟩:=h k;exact⟨a,h1,oM⟩
abbrev TMp(p:Prg)(v s0 s:Nat)(X:List Dat)(es ek ev:List (Dat×Dat)):List (Nat×Av.Obj):=[(33,.box [.d (.int .i64 p.version),.d (.list 9 (p.schemas.map UB)),.d (.list 7 (p.endpoints.map Jo)),.d (.list 4 (p.services.map Uy)),.d (.list 3 (p.routes.map Ui)),.tr 1002 ⟨v,s0,[],none⟩,.mp 29,.mp 30,.mp 31]),
 (1002,.tre v s 20 X),(29,.mapo es),(30,.mapo ek),(31,.mapo ev)]
abbrev rp(i:Nat):Nat:=if i=1001 then 33 else if i=1003 then 29 else if i=1004 then 30 else if i=1005 then 31 else i
theorem JJE{i j:Nat}(hi:i=1001∨i=1002∨i=1003∨i=1004∨i=1005)(hj:j=1001∨j=1002∨j=1003∨j=1004∨j=1005)(h:rp i=rp j):i=j:=by
 rcases hi with rfl|rfl|rfl|rfl|rfl<;>rcases hj with rfl|rfl|rfl|rfl|rfl<;>first|rfl|(revert h;decide)
theorem JCU{v s0 s:Nat}{X:List Dat}{es ek ev:List (Dat×Dat)}{i:Nat}(h:(JC (Av.get (TMk p v s0 s X es ek ev)) [] i).isSome=true):i=1001∨i=1002∨i=1003∨i=1004∨i=1005:=by
 refine Decidable.byContradiction fun hn=>?_
 simp only[not_or]at hn;obtain⟨a1,a2,a3,a4,a5⟩:=hn;simp[TMk,JC,Av.get,Ne.symm a1,Ne.symm a2,Ne.symm a3,Ne.symm a4,Ne.symm a5]at h
theorem cp74{ek ev:List (Str×Int)}{v s0:Nat}{l:List Ste}(h:V74 p es ek ev v s0 l)(S:NS)(now behind:Int)(b:Nat)(h1:∀k,∃i:Nat,lkI es k=i∧i<S.1.length)(h2:NB S.1 b)(h3:b+J6 l≤10000000000):
  CT (.fn 38) [.ref 33 0,.d (.list 11 (l.map JH)),.d (.int .i64 now),.d (.int .i64 behind)] ((TMp p v s0 S.2 (S.1.map owN) (mpI es) (mpI ek) (mpI ev)).map fun x=>(x.1,some x.2)) (.d (.int .i64 (Xa p es ek l now behind S).1)) [(1002,.tre v (Xa p es ek l now behind S).2.2 20 ((Xa p es ek l now behind S).2.1.map owN))]:=by
 have:=(h S now behind b h1 h2 h3).call rp (fun i hi=>by
   simp only[TMk,Av.get]at hi
   repeat' split at hi
   all_goals first|(cases hi;done)|omega) (fun i j hi hj h=>JJE (JKH hi) (JKH hj) h) (by simp[JR,Av.get]) (Jy (by simp[Jd,J5,JS,JR,Ue,Av.get])) [] (by simp[Av.get]) (JEx _ _ _ _ _ _ _ _ _ _) trivial
 simp only[TMk,Va,Vb,Obj.ren,Av.ren,UQ,YC,List.append_nil,rp,Nat.reduceEqDiff,↓reduceIte]at this⊢;exact this
theorem cp73(p:Prg)(l:List Ste)(behind:Int)(v s0 sv:Nat)(X:List Dat)(es ek ev:List (Str×Int)):
  CT (.fn 37) [.ref 33 0,.d (.list 11 (l.map JH)),.d (.int .i64 behind)] ((TMp p v s0 sv X (mpI es) (mpI ek) (mpI ev)).map fun x=>(x.1,some x.2)) (.d (.int .i64 (bgn es ek l behind))) []:=by
 have:=(JRu p l behind v s0 sv X es ek ev).call rp (fun i hi=>by
   simp only[TMk,Av.get]at hi
   repeat' split at hi
   all_goals first|(cases hi;done)|omega) (fun i j hi hj h=>JJE (JCU hi) (JCU hj) h) (by simp[JR,Av.get]) (Jy (by simp[Jd,J5,JS,JR,Ue,Av.get])) [] (by simp[Av.get]) (Zs _ _ _ _ _ _ _ _) trivial
 simp only[TMk,Va,Vb,Obj.ren,Av.ren,UQ,YC,List.append_nil,rp,Nat.reduceEqDiff,↓reduceIte]at this⊢;exact this
theorem cp71(p:Prg)(hP:PB p)(s:Ste)(hs:stQ s)(v s0 sv:Nat)(X:List Dat)(es ek ev:List (Str×Int)):
  CT (.fn 35) [.ref 33 0,.d (JEo s)] ((TMp p v s0 sv X (mpI es) (mpI ek) (mpI ev)).map fun x=>(x.1,some x.2)) (.d (JLc p s)) []:=by
 have:=(con35 p hP s hs v s0 sv X (mpI es) (mpI ek) (mpI ev)).call rp (fun i hi=>by
   simp only[TMk,Av.get]at hi
   repeat' split at hi
   all_goals first|(cases hi;done)|omega) (fun i j hi hj h=>JJE (JCU hi) (JCU hj) h) (by simp[JR,Av.get]) (Jy (by simp[Jd,J5,JS,JR,Ue,Av.get])) [] (by simp[Av.get]) (Zs _ _ _ _ _ _ _ _) trivial
 simp only[TMk,Va,Vb,Obj.ren,Av.ren,UQ,YC,List.append_nil,rp,Nat.reduceEqDiff,↓reduceIte]at this⊢;exact this
end Go.Proofs
namespace Go.Proofs
open Go Av
variable {b i:Nat}{p:Prg}{es ek:List (Str×Int)}{S:NS}
theorem JO1(p:Prg)(l:List Rou):NB (ph1 p l) 0:=by
 intro n hn;obtain⟨r,-,rfl⟩:=VC.1 hn;unfold p1R;split<;>exact⟨JGl _ _ _ _,Nat.le_refl _⟩
theorem NB.app{N:List Rn}(h:NB N b){n:Rn}(hn:okR n)(hl:n.next.length≤b):NB (N++[n]) b:=by
 intro m hm;rcases List.mem_append.1 hm with hm|hm
 ·exact h m hm
 ·rw[List.mem_singleton.1 hm];exact⟨hn,hl⟩
theorem p2S_ok(hP:PB p)(S:P2)(s:Ste)(hs:stQ s)(h1:NB S.N 0)(h2:ME S.es S.N.length):NB (p2S p S s).N 0∧ME (p2S p S s).es (p2S p S s).N.length∧S.N.length≤(p2S p S s).N.length:=by
 unfold p2S;split
 ·exact⟨h1,h2,Nat.le_refl _⟩
 ·have hl:(S.N++[JDV p s]).length=S.N.length+1:=sP;refine⟨h1.app (JO0 hP _ hs) (Nat.le_refl _),h2.put _ S.N.length _ ?_ ?_,?_⟩
  ·show S.N.length<(S.N++[JDV p s]).length;omega
  ·show S.N.length≤(S.N++[JDV p s]).length;omega
  ·show S.N.length≤(S.N++[JDV p s]).length;omega
theorem JJF(hP:PB p):∀(l:List Wlk) (S:P2),(∀w∈l,stQ w.step)→NB S.N 0→ME S.es S.N.length→NB (ph2 p l S).N 0∧ME (ph2 p l S).es (ph2 p l S).N.length∧S.N.length≤(ph2 p l S).N.length
 |[],S,_,h1,h2=>⟨h1,h2,Nat.le_refl _⟩
 |w::r,S,hq,h1,h2=>by
  obtain⟨a,b,c⟩:=p2S_ok hP S w.step (hq w Vh) h1 h2;obtain⟨d,e,f⟩:=JJF hP r _ (fun x hx=>hq x (Vn _ hx)) a b;exact⟨d,e,Nat.le_trans c f⟩
theorem p3S_ok(p:Prg)(us:List Str)(S:List Rn×List (Str×Int))(x:Epd)(h1:NB S.1 0):NB (p3S p us S x).1 0∧S.1.length≤(p3S p us S x).1.length:=by
 unfold p3S;split
 ·exact⟨h1.app (JGl _ _ _ _) (Nat.le_refl _),sP⟩
 ·exact⟨h1,Nat.le_refl _⟩
theorem JJG(p:Prg)(us:List Str):∀(l:List Epd) (S:List Rn×List (Str×Int)),NB S.1 0→NB (ph3 p us l S).1 0∧S.1.length≤(ph3 p us l S).1.length
 |[],S,h1=>⟨h1,Nat.le_refl _⟩
 |x::r,S,h1=>by
  obtain⟨a,c⟩:=p3S_ok p us S x h1;obtain⟨d,f⟩:=JJG p us r _ a;exact⟨d,Nat.le_trans c f⟩
theorem p4S_ok(p:Prg)(cs:List Str)(N:List Rn)(x:Svc)(h1:NB N 0):NB (p4S p cs N x) 0∧N.length≤(p4S p cs N x).length:=by
 unfold p4S;split
 ·exact⟨h1.app (JGl _ _ _ _) (Nat.le_refl _),sP⟩
 ·exact⟨h1,Nat.le_refl _⟩
theorem JJH(p:Prg)(cs:List Str):∀(l:List Svc) (N:List Rn),NB N 0→NB (ph4 p cs l N) 0∧N.length≤(ph4 p cs l N).length
 |[],N,h1=>⟨h1,Nat.le_refl _⟩
 |x::r,N,h1=>by
  obtain⟨a,c⟩:=p4S_ok p cs N x h1;obtain⟨d,f⟩:=JJH p cs r _ a;exact⟨d,Nat.le_trans c f⟩
theorem JO2(hi:i<p.routes.length)(hil:i<S.1.length):
  p5S p es ek S i=(Xa p es ek p.routes[i].steps S.1[i].schema (-1) (S.1.set i (S.1[i].nxt [bgn es ek p.routes[i].steps (-1)]),S.2+1)).2:=by
 unfold p5S;rw[Vl hi];have e:p5A es ek p.routes[i].steps S i=(S.1.set i (S.1[i].nxt [bgn es ek p.routes[i].steps (-1)]),S.2+1):=by
  unfold p5A;rw[JAv hil]
 show(Xa p es ek p.routes[i].steps (((p5A es ek p.routes[i].steps S i).1[i]?.map Rn.schema).getD 0) (-1) (p5A es ek p.routes[i].steps S i)).2=_;rw[e];simp only[List.getElem?_set_self hil,Vj,Vp,Rn.nxt]
theorem NB.set{N:List Rn}(h:NB N b){n:Rn}(hn:okR n)(hl:n.next.length≤b):NB (N.set i n) b:=by
 intro m hm;rcases List.mem_or_eq_of_mem_set hm with hm|hm
 ·exact h m hm
 ·rw[hm];exact⟨hn,hl⟩
theorem JLe{l:List Rou}{k:Nat}(h:k<l.length):XN (l.drop k)=J6 l[k].steps+XN (l.drop (k+1)):=by
 rw[Vq h];rfl
theorem p5S_ok(hi:i<p.routes.length)(hil:i<S.1.length)(h:NB S.1 b):NB (p5S p es ek S i).1 (b+1+J6 p.routes[i].steps)∧(p5S p es ek S i).1.length=S.1.length:=by
 rw[JO2 hi hil];refine⟨ZY _ _ _ _ _ ((h.le (Nat.le_succ b)).set ((h _ (Vk hil)).1.nxt _) (by simp[Rn.nxt])),?_⟩;rw[YY];simp
theorem JFu{l:List Rou}{k:Nat}(h:k<l.length):XN (l.take (k+1))=XN (l.take k)+J6 l[k].steps:=by
 have h3:∀(a b:List Rou),XN (a++b)=XN a+XN b:=by
  intro a b
  induction a with
  |nil=>simp[XN]
  |cons x r ih=>simp only[List.cons_append,XN,ih];omega
 rw[List.take_succ_eq_append_getElem h,h3];rfl
theorem JJI(hl:p.routes.length≤S.1.length)(h:NB S.1 b):∀k:Nat,k≤p.routes.length→NB (ph5 p es ek k S).1 (b+k+XN (p.routes.take k))∧(ph5 p es ek k S).1.length=S.1.length
 |0,_=>⟨by simpa[XN,ph5]using h,rfl⟩
 |k+1,hk=>by
  obtain⟨h1,h2⟩:=JJI hl h k oM;rw[JID];have:=p5S_ok (p:=p) (es:=es) (ek:=ek) (i:=k) oM (by rw[h2];omega) h1;refine⟨this.1.le ?_,this.2.trans h2⟩;rw[JFu oM];omega
end Go.Proofs
namespace Av
open Go
variable [Glb][Rls]
section
variable {β:JO}{A:Nat→Prop}{w:World}{H:Heap}{D:Nat→Prop}
theorem JN.borrow{P:Program}{f:Nat}{ds:List Dat}{r:Dat}(h:J3 P f ds (.d r))(hr:scalar r=true)(cs:List Av)(T:List (Nat×Option Obj))
  (hds:∀H:Heap,(∀e∈T,H e.1=e.2)→∃p ups,Jl H cs=some (p,ds,ups)∧p):JN P f cs T (.d r) []:=by
 intro β A w H vs hT hc hvs;obtain⟨p,ups,hd,hp⟩:=hds H hT;obtain⟨A1,s1,l1,r1,m1⟩:=XA hc hd hp (us:=vs.toList) (sX hvs.1) (fun k c u h1 h2=>hvs.2 k c u h1 (sX h2));have hc0:Core β A1 w (get []):=⟨(by intro i o hi;cases hi),(by intro i j o o' b hi;cases hi),(by intro i o b hi;cases hi),s1.core.old,s1.core.glob⟩;refine .inl ⟨h.1,(h.2 β A1 w vs hc0 ⟨by simpa using l1,?_⟩).mono ?_⟩
 ·intro k c v h1 h2;rw[Vo]at h1;cases e:ds[k]? with
  |none=>simp[e]at h1
  |some x=>
   simp only[e,Vj,Vd]at h1;subst h1;exact .d _ _ (r1 k x v e (sX h2))
 ·rintro e w' ⟨v,β1,A2,rfl,hsince,hc1,hv⟩;obtain⟨s1,s2,s3,s4,s5,sl,s6,s7,s8⟩:=hsince;dsimp only at s1 s2 s3 s4 s5 sl;have hsame:∀b,b<w.heap.size→w'.heap[b]? =w.heap[b]? :=fun b hb=>s5 b hb (by intro i o hi;cases hi)
  have hst:Stp β A w H β A w' H:=Stp.new hc s1 s2 s3 s4 hsame (fun _ h=>h) (fun _ h=>.inl h) (fun b hb=>by have:=hc.old b hb;omega);exact⟨v,rfl,β,A,hst,.d _ _ (hv.Ja.scalar hr)⟩
theorem Stp.JJR(hc:Core β A w H){k sz:Nat}(hk:H k=none)(hsz:0<sz):Stp β A w H (upd β k (none:Option Nat)) A w (upd H k (some (.tre 0 0 sz []))):=by
 refine Stp.many hc (fun t=>t=k) (fun t ht=>JQ _ _ ht) (fun t ht=>JQ _ _ ht) rfl rfl rfl (Nat.le_refl _) (fun _ _ _=>rfl) (fun _ h=>h) (fun _ h=>.inl h) hc.old ?_ (fun t t' _ _ _ ht ht' _ _ _ _ _ _=>ht.trans ht'.symm) ?_ ?_ ?_
 ·rintro t o b rfl _ _ hb;rw[JE]at hb;cases hb
 ·rintro t c u rfl hh hvr;exact Xg (v:=0) (s:=0) (sz:=sz) (xs:=[]) (.inr hk) (JE _ _ _) (Nat.le_refl _) (Nat.le_refl _) hh hvr (fun h=>by rw[hk]at h;cases h)
 ·rintro _ t o rfl ho;rw[JE]at ho;cases ho;refine⟨.slice none 0 0,?_,?_,?_,?_⟩
  ·rw[JE];exact .nil sz none hsz
  ·rw[JE];exact List.Pairwise.nil
  ·exact .inl ⟨by rw[JE],rfl,none,rfl⟩
  ·rw[JE];rfl
 ·rintro b r _ ⟨t,o,rfl,ho,_,_⟩;rw[hk]at ho;cases ho
theorem VRep.JJR{k sz:Nat}{u:Value}(hr:Rep A w (.nil sz) u):VRep (upd β k (none:Option Nat)) A w (upd H k (some (.tre 0 0 sz []))) (.tr k ⟨0,0,[],none⟩) u:=by
 cases hr with
 |nil _ ad=>
  refine .tr _ _ _ rfl sU (fun h=>by cases h) ?_;intro v3 s3 sz3 xs3 h3;simp only[upd,if_true,Vd,Obj.tre.injEq]at h3;obtain⟨rfl,rfl,rfl,rfl⟩:=h3;exact⟨Nat.le_refl _,Nat.le_refl _,fun _ _=>⟨_,_,.inl ⟨by rw[JE],rfl,ad,rfl⟩,rfl,rfl⟩⟩
theorem Wk.nilTB{st:St}(b j k sz:Nat)(cs:List Av)(hb:get st.hp b=some (.box cs))(hj:cs[j]? =some (.d (.nil sz)))(hk:get st.hp k=none)(hsz:0<sz):
  Wk D st ⟨st.tm,put (put st.hp k (.tre 0 0 sz [])) b (.box (cs.set j (.tr k ⟨0,0,[],none⟩)))⟩:=by
 refine Wk.JBh ?_;intro β A w a hc htr;have hne:b≠k:=fun e=>by subst e;rw[hk]at hb;cases hb
 have hst:=Stp.JJR (β:=β) hc hk hsz;have hb1:upd (get st.hp) k (some (.tre 0 0 sz [])) b=some (.box cs):=by rw[JQ _ _ hne];exact hb
 obtain⟨bb,C,T,e1,e2,e3,e4,e5⟩:=hst.core.objs b _ hb1;have hset:w.setRow bb C=w:=Xn e2;have hst2:=Stp.JCx (cs':=cs.set j (.tr k ⟨0,0,[],none⟩)) (C':=C) hst.core hb1 e1 e2 (sX e3) e4 (fun hall i c v hc' hv'=>by
  rw[List.getElem?_set]at hc';split at hc'
  ·rename_i e;subst e;split at hc'
   ·cases hc';obtain⟨bb0,C0,T0,q1,q2,q3,q4,q5⟩:=hc.objs b _ hb;have hbb:bb0=bb:=by
     rw[JQ _ _ hne]at e1;rw[q1]at e1;exact Option.some.inj (BK.mk.inj e1).1
    subst hbb;rw[e2]at q2;cases q2;have hr:=(q5 j _ v hj hv').Ja;exact hall _ _ (VRep.JJR hr)
   ·cases hc'
  ·exact hall _ _ (e5 i c v hc' hv'))
 rw[hset]at hst2;have hh:get (put (put st.hp k (.tre 0 0 sz [])) b (.box (cs.set j (.tr k ⟨0,0,[],none⟩))))=upd (upd (get st.hp) k (some (.tre 0 0 sz []))) b (some (.box (cs.set j (.tr k ⟨0,0,[],none⟩)))):=funext fun i=>by
  rw[UC,UC];rfl
 rw[hh];refine⟨_,A,hst.trans hst2,?_⟩;intro t v hv;obtain⟨u,q1,q2⟩:=htr t v hv;exact⟨u,q1,(hst.trans hst2).vals _ _ q2⟩
end
end Av
namespace Go.Proofs
open Go Av
theorem ep_ex{p:Prg}(hP:PB p)(n:Str):∃(i:Nat) (x:Epd),fdQ (fun x:Epd=>x.name==n) p.endpoints=i∧i<p.endpoints.length∧p.endpoints[i]? =some x∧nth (p.endpoints.map Jo) i=Jo x:=by
 have h:=JJA (fun x:Epd=>x.name==n) hP.ep0;exact⟨_,_,rfl,h,Vl h,JU Jo h⟩
section
@[instance_reducible] def JQn:Rls:={rl:=fun n=>n==1,tr:=fun n=>n==20}
attribute [local instance 2000] JQn
theorem YF(n:Nat): @Rls.rl JQn n=(n==1):=rfl
theorem YZ(n:Nat): @Rls.tr JQn n=(n==20):=rfl
theorem Jr(sz n:Nat): @Y0 JQn sz n=(sz==1&&n==1):=by unfold Y0;rw[YF];show((sz==1&&n==1)||(false&&_))=_;rw[Bool.false_and,Bool.or_false]
set_option maxHeartbeats 4000000 in
theorem walk15(p0:Prg)(hne:p0.routes≠[])(hsz:nmP p0)(hw:XN (UJ p0).routes≤1000000000)(hq:∀w∈wkN (UJ p0).routes (UJ p0).routes.length,stQ w.step)(h1:p0.schemas≠[])(h2:p0.endpoints≠[])(h3:p0.services≠[])(h4:p0.routes.length≤1000000000)(h5:p0.endpoints.length≤1000000000)(h6:p0.services.length≤1000000000):
  PT 15 [UD p0] (.d (plD (UJ p0))):=by
 refine J3.Jk ok15.has fun hfit=>?_
 have hlen:=hfit _ (Vh);simp only[UD,fits,Un,Vc]at hlen;have hP:PB (UJ p0):=⟨by simp only[UJ];omega,by simp only[UJ];omega,by simp only[UJ];omega,h1,h2,h3⟩;have hrl:(UJ p0).routes.length≤1000000000:=by simp only[UJ,ZJ];omega
 have hel:(UJ p0).endpoints.length≤1000000000:=h5;have hsl:(UJ p0).services.length≤1000000000:=h6;have hrn:(UJ p0).routes≠[]:=by
  intro e;have:=congrArg List.length e;simp only[UJ,ZJ,Vm]at this;exact hne (List.eq_nil_of_length_eq_zero this)
 clear hlen hfit;refine ok15.pc ?_;have c31:=(JOs p0 hne hsz).call trivial;have c34:=(JS8 (UJ p0) hw).call trivial;generalize UJ p0=p at*;have hv:p.version=p.version:=rfl;simp only[UD,Va,Vb]at c31 c34;simp only[go_sem,ir15,UD,YF,YZ,Jr,Bool.false_and,Vu,nodeAt,Vv,Vc,Nat.reduceAdd,Nat.reduceEqDiff,Nat.reduceBEq,Nat.reduceLeDiff,reduceCtorEq,↓reduceIte];refine wn c31 ?_;simp only[go_sem,YF,YZ,Jr,Bool.false_and,Vu,nodeAt,Vv,Vc,Nat.reduceAdd,Nat.reduceEqDiff,Nat.reduceBEq,Nat.reduceLeDiff,reduceCtorEq,↓reduceIte];refine JK (fun n st=>∃k:Nat,k≤p.routes.length∧n=p.routes.length-k∧
  st=⟨[(1,.ref 1 0),(2,.ref 2 0),(3,.ref 33 0),(4,.d (.int .i64 k))],
   (1,.box [.d (.int .i64 p.version),.d (.list 9 (p.schemas.map UB)),.d (.list 7 (p.endpoints.map Jo)),.d (.list 4 (p.services.map Uy)),.d (.list 3 (p.routes.map Ui))])::
   (2,.box [.d (.int .i64 0),.d (.nil 9),.d (.nil 7),.d (.nil 4),.d (.nil 20)])::
   TMp p k 0 0 ((ph1 p (p.routes.take k)).map owN) (mpI []) (mpI []) (mpI [])⟩) ?_ ?_
 ·refine⟨_,_,(Wk.nilTB 33 5 1002 20 _ rfl rfl rfl dC).trans (Wk.less ?_),0,Nat.zero_le _,rfl,rfl⟩;simp[go_sem,TMp,mpI,ph1]
 ·rintro n st ⟨k,hk,rfl,rfl⟩;by_cases hlt:k<p.routes.length
  ·have hd:=dT hlt;have hx:=JU Ui hlt;have hpk:ph1 p (p.routes.take (k+1))=ph1 p (p.routes.take k)++[p1R p p.routes[k]]:=by
    unfold ph1;rw[List.take_succ_eq_append_getElem hlt,Vw];rfl
   have hpl:(ph1 p (p.routes.take k)).length=k:=by unfold ph1;rw[Vc,List.length_take];omega
   generalize p.routes[k]=r at*;have c32:=(walk32 p r.src hP.ep).call (by simp[Ug]);obtain⟨ei,x,e1,he,he2,hex⟩:=ep_ex hP r.src;rw[e1]at c32;have hp1:p1R p r=rnE x.name 21 (scI p x.schema x.version:Nat) (scI p x.schema x.version:Nat):=by unfold p1R epI;rw[e1,he2]
   have c33:=(JOw p x.schema x.version hP.sc).call (by simp[Ug]);simp only[UD,Va,Vb]at c32 c33;simp only[Jo]at hex;simp only[Ui]at hx;simp only[scI]at hp1;generalize fdQ (fun c:Sch=>c.name==x.schema&&c.version==x.version) p.schemas=si at*;simp only[go_sem,TMp,hd,hx,YF,YZ,Jr,Bool.false_and,Vu,nodeAt,Vv,Vc,Nat.reduceAdd,Nat.reduceEqDiff,Nat.reduceBEq,Nat.reduceLeDiff,reduceCtorEq,↓reduceIte];refine⟨⟨oM,oM⟩,dC,?_⟩;refine wn c32 ?_;simp only[go_sem,hex,YF,YZ,Jr,Bool.false_and,Vu,nodeAt,Vv,Vc,Nat.reduceAdd,Nat.reduceEqDiff,Nat.reduceBEq,Nat.reduceLeDiff,reduceCtorEq,↓reduceIte];refine⟨⟨oM,oM⟩,?_⟩;refine wn c33 ?_;simp only[go_sem,hex,JAR,YF,YZ,Jr,Bool.false_and,Vu,nodeAt,Vv,Vc,Nat.reduceAdd,Nat.reduceEqDiff,Nat.reduceBEq,Nat.reduceLeDiff,reduceCtorEq,↓reduceIte];refine⟨sP,⟨dC,oM,sP⟩,dC,p.routes.length-(k+1),_,oM,Wk.less ?_,k+1,oM,rfl,rfl⟩;rw[hpk,hp1,Vw,Va,Vb,XH];simp only[rnE,nxD,JF k oM];simp[go_sem,TMp]
  ·have hd:=dF hlt;obtain rfl:k=p.routes.length:=oM;rw[List.take_length];simp only[go_sem,TMp,hd,YF,YZ,Jr,Bool.false_and,Vu,nodeAt,Vv,Vc,Nat.reduceAdd,Nat.reduceEqDiff,Nat.reduceBEq,Nat.reduceLeDiff,reduceCtorEq,↓reduceIte];have hwl:(wkN p.routes p.routes.length).length≤1000000000:=by
    have e1:=JDi p.routes p.routes.length (Nat.le_refl _);have e2:=Zr p.routes p.routes.length;omega
   have hpl:(ph1 p p.routes).length=p.routes.length:=by unfold ph1;rw[Vc]
   have hN1:=JO1 p p.routes;have hN0:0<(ph1 p p.routes).length:=by rw[hpl];exact List.length_pos_iff.2 hrn
   unfold plD plE plN plK plA;generalize wkN p.routes p.routes.length=W at*;generalize ph1 p p.routes=N1 at*;rw[←hpl];refine wn c34 ?_;simp only[go_sem,YF,YZ,Jr,Bool.false_and,Vu,nodeAt,Vv,Vc,Nat.reduceAdd,Nat.reduceEqDiff,Nat.reduceBEq,Nat.reduceLeDiff,reduceCtorEq,↓reduceIte];refine JK (fun n st=>∃(k:Nat) (S:P2),k≤W.length∧n=W.length-k∧S=ph2 p (W.take k) ⟨N1,[],[],[]⟩∧S.N.length≤N1.length+k∧
    st=⟨[(1,.ref 1 0),(2,.ref 2 0),(3,.ref 33 0),(10,.mp 86),(11,.mp 87),(12,.d (.list 13 (W.map XZ))),(13,.d (.int .i64 k))],
     (1,.box [.d (.int .i64 p.version),.d (.list 9 (p.schemas.map UB)),.d (.list 7 (p.endpoints.map Jo)),.d (.list 4 (p.services.map Uy)),.d (.list 3 (p.routes.map Ui))])::
     (2,.box [.d (.int .i64 0),.d (.nil 9),.d (.nil 7),.d (.nil 4),.d (.nil 20)])::
     (86,.mapo (mpS S.us))::(87,.mapo (mpS S.cs))::TMp p S.N.length 0 0 (S.N.map owN) (mpI S.es) (mpI []) (mpI [])⟩) ?_ ?_
   ·refine⟨_,_,Wk.less ?_,0,_,Nat.zero_le _,rfl,rfl,Nat.le_refl _,rfl⟩;simp[go_sem,TMp,mpI,mpS,ph2]
   ·rintro n st ⟨k,S,hk2,rfl,hS,hSN,rfl⟩;by_cases hlt2:k<W.length
    ·have hd2:decide ((k:Int)<(W.length:Int))=true:=sO;have hx:=JU XZ hlt2;have hS2:ph2 p (W.take (k+1)) ⟨N1,[],[],[]⟩=p2S p S W[k].step:=by
      rw[hS,List.take_succ_eq_append_getElem hlt2];unfold ph2;rw[List.foldl_append];rfl
     have hQ:=hq _ (Vk hlt2);generalize W[k]=w at*;obtain⟨rt,pl,s⟩:=w;simp only[XZ]at hx;simp only at hS2 hQ;have hcell:Dat.cells (Yn s.exprs)=[Yn s.exprs]∧Av.cells (.d (Yn s.exprs))=some [.d (Yn s.exprs)]:=by cases s.exprs<;>exact⟨rfl,rfl⟩
     obtain⟨g1,g2⟩:=hcell;simp only[Dat.cells]at g1;simp only[Av.cells]at g2;have hca:=hQ.ca;have c35:=cp71 p hP s hQ S.N.length 0 0 (S.N.map owN) (puS S.es s.name (S.N.length:Nat)) [] [];simp only[JEo,JLc]at c35;unfold p2S at hS2;generalize Yn s.exprs=E at*;generalize hcs:s.calls=cs at*;simp only[go_sem,TMp,hd2,hx,g1,g2,YF,YZ,Jr,Bool.false_and,Vu,nodeAt,Vv,Vc,Nat.reduceAdd,Nat.reduceEqDiff,Nat.reduceBEq,Nat.reduceLeDiff,reduceCtorEq,↓reduceIte];refine⟨⟨oM,oM⟩,?_⟩;refine JK (fun n st=>∃j:Nat,j≤cs.length∧n=cs.length-j∧
      st=⟨[(1,.ref 1 0),(2,.ref 2 0),(3,.ref 33 0),(10,.mp 86),(11,.mp 87),(12,.d (.list 13 (W.map XZ))),(13,.d (.int .i64 k)),(14,.ref 14 0),(15,.d (.int .i64 j))],
       (1,.box [.d (.int .i64 p.version),.d (.list 9 (p.schemas.map UB)),.d (.list 7 (p.endpoints.map Jo)),.d (.list 4 (p.services.map Uy)),.d (.list 3 (p.routes.map Ui))])::
       (2,.box [.d (.int .i64 0),.d (.nil 9),.d (.nil 7),.d (.nil 4),.d (.nil 20)])::
       (14,.box [.d (.str s.name),.d (.int .i64 s.kind),.d (.int .i64 s.number),.d (.int .i64 s.time),.d (.int .i64 s.limit),.d (.str s.text),.d (.str s.schema),.d E,.d (.list 6 (s.rules.map UT)),.d (.list 2 (cs.map Je)),.d (.list 2 (s.branches.map J1))])::
       (86,.mapo (mpS S.us))::(87,.mapo (mpS (JGm S.cs (cs.take j))))::TMp p S.N.length 0 0 (S.N.map owN) (mpI S.es) (mpI []) (mpI [])⟩) ?_ ?_
     ·refine⟨_,_,Wk.less ?_,0,Nat.zero_le _,rfl,rfl⟩;simp[go_sem,TMp,JGm]
     ·rintro n st ⟨j,hj,rfl,rfl⟩;by_cases hjl:j<cs.length
      ·have hdj:decide ((j:Int)<(cs.length:Int))=true:=sO;have hxj:=JU Je hjl;have hcj:JGm S.cs (cs.take (j+1))=JLb (JGm S.cs (cs.take j)) cs[j].service:=by
        unfold JGm;rw[List.take_succ_eq_append_getElem hjl,List.foldl_append];rfl
       generalize cs[j]=c at*;simp only[Je]at hxj;simp only[go_sem,TMp,hdj,hxj,YD,JEw,YF,YZ,Jr,Bool.false_and,Vu,nodeAt,Vv,Vc,Nat.reduceAdd,Nat.reduceEqDiff,Nat.reduceBEq,Nat.reduceLeDiff,reduceCtorEq,↓reduceIte];refine⟨⟨oM,oM⟩,dC,cs.length-(j+1),_,oM,Wk.less ?_,j+1,oM,rfl,rfl⟩;rw[hcj];simp only[JF j oM];simp[go_sem,TMp]
      ·have hdj:decide ((j:Int)<(cs.length:Int))=false:=sO;obtain rfl:j=cs.length:=oM;rw[List.take_length];cases h13:s.kind==13
       ·rw[h13,if_neg Bool.false_ne_true]at hS2;simp only[go_sem,TMp,hdj,h13,YE,JCR,g1,g2,YF,YZ,Jr,Bool.false_and,Vu,nodeAt,Vv,Vc,Nat.reduceAdd,Nat.reduceEqDiff,Nat.reduceBEq,Nat.reduceLeDiff,reduceCtorEq,↓reduceIte];refine JI rfl c35 ⟨rfl,rfl,rfl,rfl,rfl,trivial⟩ ?_;simp only[go_sem,JAR,YF,YZ,Jr,Bool.false_and,Vu,nodeAt,Vv,Vc,Nat.reduceAdd,Nat.reduceEqDiff,Nat.reduceBEq,Nat.reduceLeDiff,reduceCtorEq,↓reduceIte];refine⟨sP,⟨dC,oM,sP⟩,dC,W.length-(k+1),_,oM,Wk.less ?_,k+1,⟨S.N++[JDV p s],puS S.es s.name (S.N.length:Nat),S.us,JGm S.cs cs⟩,oM,rfl,hS2.symm,by simp only[Vg,Vf,Vm];omega,rfl⟩;rw[Vw,Va,Vb,JOz,JLc];simp only[JF k oM,hcs,Vg,Vf,Vm];simp[go_sem,TMp]
       ·rw[h13,if_pos rfl]at hS2;simp only[go_sem,TMp,hdj,h13,YD,JEw,YF,YZ,Jr,Bool.false_and,Vu,nodeAt,Vv,Vc,Nat.reduceAdd,Nat.reduceEqDiff,Nat.reduceBEq,Nat.reduceLeDiff,reduceCtorEq,↓reduceIte];refine⟨W.length-(k+1),_,oM,Wk.less ?_,k+1,⟨S.N,S.es,JLb S.us s.text,JGm S.cs cs⟩,oM,rfl,hS2.symm,by show S.N.length≤_;omega,rfl⟩;simp only[JF k oM];simp[go_sem,TMp]
    ·have hd2:decide ((k:Int)<(W.length:Int))=false:=sO;obtain rfl:k=W.length:=oM;rw[List.take_length]at hS;rw[←hS];simp only[go_sem,TMp,hd2,YF,YZ,Jr,Bool.false_and,Vu,nodeAt,Vv,Vc,Nat.reduceAdd,Nat.reduceEqDiff,Nat.reduceBEq,Nat.reduceLeDiff,reduceCtorEq,↓reduceIte];have hSN2:S.N.length≤2000000000:=oM;obtain⟨k1,k2,k3⟩:NB S.N 0∧ME S.es S.N.length∧N1.length≤S.N.length:=by rw[hS];exact JJF hP W ⟨N1,[],[],[]⟩ hq hN1 (ME.nil hN0)
     clear hS hSN hlt2 hk2 hq hlt hk hd;refine JK (fun n st=>∃(k:Nat) (T:List Rn×List (Str×Int)),k≤p.endpoints.length∧n=p.endpoints.length-k∧T=ph3 p S.us (p.endpoints.take k) (S.N,[])∧T.1.length≤S.N.length+k∧
      st=⟨[(1,.ref 1 0),(2,.ref 2 0),(3,.ref 33 0),(10,.mp 86),(11,.mp 87),(16,.d (.int .i64 k))],
       (1,.box [.d (.int .i64 p.version),.d (.list 9 (p.schemas.map UB)),.d (.list 7 (p.endpoints.map Jo)),.d (.list 4 (p.services.map Uy)),.d (.list 3 (p.routes.map Ui))])::
       (2,.box [.d (.int .i64 0),.d (.nil 9),.d (.nil 7),.d (.nil 4),.d (.nil 20)])::
       (86,.mapo (mpS S.us))::(87,.mapo (mpS S.cs))::TMp p T.1.length 0 0 (T.1.map owN) (mpI S.es) (mpI T.2) (mpI [])⟩) ?_ ?_
     ·refine⟨_,_,Wk.less ?_,0,(S.N,[]),Nat.zero_le _,rfl,rfl,Nat.le_refl _,rfl⟩;simp[go_sem,TMp]
     ·rintro n st ⟨k,T,hk,rfl,hT,hTN,rfl⟩;by_cases hlt:k<p.endpoints.length
      ·have hd:=dT hlt;have hx:=JU Jo hlt;have hT2:ph3 p S.us (p.endpoints.take (k+1)) (S.N,[])=p3S p S.us T p.endpoints[k]:=by
        rw[hT,List.take_succ_eq_append_getElem hlt];unfold ph3;rw[List.foldl_append];rfl
       generalize p.endpoints[k]=x at*;unfold p3S scI at hT2;have c33:=(JOw p x.schema x.version hP.sc).call (by simp[Ug]);simp only[UD,Va,Vb]at c33;simp only[Jo]at hx;generalize fdQ (fun c:Sch=>c.name==x.schema&&c.version==x.version) p.schemas=si at*;cases hc:S.us.contains x.name
       ·rw[hc,if_neg Bool.false_ne_true]at hT2;simp only[go_sem,TMp,hd,hx,YD,JDl,hc,YF,YZ,Jr,Bool.false_and,Vu,nodeAt,Vv,Vc,Nat.reduceAdd,Nat.reduceEqDiff,Nat.reduceBEq,Nat.reduceLeDiff,reduceCtorEq,↓reduceIte];refine⟨⟨oM,oM⟩,p.endpoints.length-(k+1),_,oM,Wk.less ?_,k+1,T,oM,rfl,hT2.symm,oM,rfl⟩;simp only[JF k oM];simp[go_sem,TMp]
       ·rw[hc,if_pos rfl]at hT2;simp only[go_sem,TMp,hd,hx,YD,JDl,hc,YF,YZ,Jr,Bool.false_and,Vu,nodeAt,Vv,Vc,Nat.reduceAdd,Nat.reduceEqDiff,Nat.reduceBEq,Nat.reduceLeDiff,reduceCtorEq,↓reduceIte];refine⟨⟨oM,oM⟩,?_⟩;refine wn c33 ?_;simp only[go_sem,YE,JCR,JAR,YF,YZ,Jr,Bool.false_and,Vu,nodeAt,Vv,Vc,Nat.reduceAdd,Nat.reduceEqDiff,Nat.reduceBEq,Nat.reduceLeDiff,reduceCtorEq,↓reduceIte];refine⟨sP,⟨dC,oM,sP⟩,dC,p.endpoints.length-(k+1),_,oM,Wk.less ?_,k+1,(T.1++[rnE x.name 22 (si:Nat) (-1)],puS T.2 x.name (T.1.length:Nat)),oM,rfl,hT2.symm,by simp only[Vg,Vf,Vm];omega,rfl⟩;simp only[Vw,Va,Vb,XH,rnE,nxD,JF k oM,Vg,Vf,Vm];simp[go_sem,TMp]
      ·have hd:=dF hlt;obtain rfl:k=p.endpoints.length:=oM;rw[List.take_length]at hT;rw[←hT];simp only[go_sem,TMp,hd,YF,YZ,Jr,Bool.false_and,Vu,nodeAt,Vv,Vc,Nat.reduceAdd,Nat.reduceEqDiff,Nat.reduceBEq,Nat.reduceLeDiff,reduceCtorEq,↓reduceIte];have hTN2:T.1.length≤3000000000:=oM;obtain⟨k4,k5⟩:NB T.1 0∧S.N.length≤T.1.length:=by rw[hT];exact JJG p S.us p.endpoints (S.N,[]) k1
       clear hlt hd hTN hSN2;refine JK (fun n st=>∃(k:Nat) (M:List Rn),k≤p.services.length∧n=p.services.length-k∧M=ph4 p S.cs (p.services.take k) T.1∧M.length≤T.1.length+k∧
        st=⟨[(1,.ref 1 0),(2,.ref 2 0),(3,.ref 33 0),(11,.mp 87),(20,.d (.int .i64 k))],
         (1,.box [.d (.int .i64 p.version),.d (.list 9 (p.schemas.map UB)),.d (.list 7 (p.endpoints.map Jo)),.d (.list 4 (p.services.map Uy)),.d (.list 3 (p.routes.map Ui))])::
         (2,.box [.d (.int .i64 0),.d (.nil 9),.d (.nil 7),.d (.nil 4),.d (.nil 20)])::
         (87,.mapo (mpS S.cs))::TMp p M.length 0 0 (M.map owN) (mpI S.es) (mpI T.2) (mpI [])⟩) ?_ ?_
       ·refine⟨_,_,Wk.less ?_,0,T.1,Nat.zero_le _,rfl,rfl,Nat.le_refl _,rfl⟩;simp[go_sem,TMp]
       ·rintro n st ⟨k,M,hk,rfl,hM,hMN,rfl⟩;by_cases hlt:k<p.services.length
        ·have hd:=dT hlt;have hx:=JU Uy hlt;have hM2:ph4 p S.cs (p.services.take (k+1)) T.1=p4S p S.cs M p.services[k]:=by
          rw[hM,List.take_succ_eq_append_getElem hlt];unfold ph4;rw[List.foldl_append];rfl
         generalize p.services[k]=x at*;unfold p4S at hM2;have c36a:=(JAG p x.request hP.sc).call (by simp[Ug]);have c36b:=(JAG p x.reply hP.sc).call (by simp[Ug]);simp only[UD,Va,Vb]at c36a c36b;simp only[Uy]at hx;generalize JCP p.schemas x.request=la at*;generalize JCP p.schemas x.reply=lb at*;cases hc:S.cs.contains x.name
         ·rw[hc,if_neg Bool.false_ne_true]at hM2;simp only[go_sem,TMp,hd,hx,YD,JDl,hc,YF,YZ,Jr,Bool.false_and,Vu,nodeAt,Vv,Vc,Nat.reduceAdd,Nat.reduceEqDiff,Nat.reduceBEq,Nat.reduceLeDiff,reduceCtorEq,↓reduceIte];refine⟨⟨oM,oM⟩,p.services.length-(k+1),_,oM,Wk.less ?_,k+1,M,oM,rfl,hM2.symm,oM,rfl⟩;simp only[JF k oM];simp[go_sem,TMp]
         ·rw[hc,if_pos rfl]at hM2;simp only[go_sem,TMp,hd,hx,YD,JDl,hc,YF,YZ,Jr,Bool.false_and,Vu,nodeAt,Vv,Vc,Nat.reduceAdd,Nat.reduceEqDiff,Nat.reduceBEq,Nat.reduceLeDiff,reduceCtorEq,↓reduceIte];refine⟨⟨oM,oM⟩,?_⟩;refine wn c36a ?_;simp only[go_sem,YF,YZ,Jr,Bool.false_and,Vu,nodeAt,Vv,Vc,Nat.reduceAdd,Nat.reduceEqDiff,Nat.reduceBEq,Nat.reduceLeDiff,reduceCtorEq,↓reduceIte];refine wn c36b ?_;simp only[go_sem,YE,JCR,JAR,YF,YZ,Jr,Bool.false_and,Vu,nodeAt,Vv,Vc,Nat.reduceAdd,Nat.reduceEqDiff,Nat.reduceBEq,Nat.reduceLeDiff,reduceCtorEq,↓reduceIte];refine⟨sP,⟨dC,oM,sP⟩,dC,p.services.length-(k+1),_,oM,Wk.less ?_,k+1,M++[rnE x.name 23 (la.1:Nat) (lb.1:Nat)],oM,rfl,hM2.symm,by simp only[Vg,Vf,Vm];omega,rfl⟩;simp only[Vw,Va,Vb,XH,rnE,nxD,JF k oM,Vg,Vf,Vm];simp[go_sem,TMp]
        ·have hd:=dF hlt;obtain rfl:k=p.services.length:=oM;rw[List.take_length]at hM;rw[←hM];simp only[go_sem,TMp,hd,YF,YZ,Jr,Bool.false_and,Vu,nodeAt,Vv,Vc,Nat.reduceAdd,Nat.reduceEqDiff,Nat.reduceBEq,Nat.reduceLeDiff,reduceCtorEq,↓reduceIte];obtain⟨k6,k7⟩:NB M 0∧T.1.length≤M.length:=by rw[hM];exact JJH p S.cs p.services T.1 k4
         have hRM:p.routes.length≤M.length:=oM;have hME:ME S.es M.length:=k2.le oM;have h5ok:=JJI (p:=p) (es:=S.es) (ek:=T.2) (S:=(M,0)) hRM k6;clear hlt hd hMN hM hT;refine JK (fun n st=>∃(k:Nat) (U:NS),k≤p.routes.length∧n=p.routes.length-k∧U=ph5 p S.es T.2 k (M,0)∧
          st=⟨[(1,.ref 1 0),(2,.ref 2 0),(3,.ref 33 0),(26,.d (.int .i64 k))],
           (1,.box [.d (.int .i64 p.version),.d (.list 9 (p.schemas.map UB)),.d (.list 7 (p.endpoints.map Jo)),.d (.list 4 (p.services.map Uy)),.d (.list 3 (p.routes.map Ui))])::
           (2,.box [.d (.int .i64 0),.d (.nil 9),.d (.nil 7),.d (.nil 4),.d (.nil 20)])::
           TMp p M.length 0 U.2 (U.1.map owN) (mpI S.es) (mpI T.2) (mpI [])⟩) ?_ ?_
         ·refine⟨_,_,Wk.less ?_,0,(M,0),Nat.zero_le _,rfl,rfl,rfl⟩;simp[go_sem,TMp]
         ·rintro n st ⟨k,U,hk,rfl,hU,rfl⟩;by_cases hlt:k<p.routes.length
          ·have hd:=dT hlt;have hx:=JU Ui hlt;obtain⟨hNB,hUl⟩:=h5ok k oM;have hRs:=JLe hlt;have hszs:=JFu hlt;have hszt:=Zr p.routes (k+1);rw[←hU]at hNB hUl;have hil:k<U.1.length:=by rw[hUl];show k<M.length;omega
           have hU2:=JID p S.es T.2 k (M,0);rw[←hU,JO2 hlt hil]at hU2;generalize p.routes[k]=r at*;have c37:=cp73 p r.steps (-1) M.length 0 U.2 (U.1.map owN) S.es T.2 [];generalize bgn S.es T.2 r.steps (-1)=z at*;obtain⟨n,hnn⟩:∃n,n=U.1[k]:=⟨_,rfl⟩;rw[←hnn]at hU2;have hn0:∀Y:List Dat,nodeAt (.own 20 Y) []=some (.own 20 Y):=fun _=>rfl
           have g0:nth (U.1.map owN) k=owN n:=by rw[hnn];exact JU owN hil
           have g1:(U.1.map owN).getD k .opq=owN n:=g0;have g2:∀y,nth ((U.1.map owN).set k y) k=y:=fun y=>by rw[XW (sX hil)];simp
           have g3:∀y,((U.1.map owN).set k y).getD k .opq=y:=g2;have hNB2:NB (U.1.set k (n.nxt [z])) (0+k+XN (p.routes.take k)+1):=(hNB.le (Nat.le_succ _)).set ((hNB n (by rw[hnn];exact Vk _)).1.nxt _) (by simp[Rn.nxt]);have c38:=cp74 (w74 hP r.steps) (es:=S.es) (ek:=T.2) (ev:=[]) (v:=M.length) (s0:=0) (U.1.set k (n.nxt [z]),U.2+1) n.schema (-1) _ (fun j=>by obtain⟨a,b1,b2⟩:=hME j;exact⟨a,b1,by show a<(U.1.set k _).length;rw[List.length_set,hUl];exact b2⟩) hNB2 oM;simp only at c38;rw[U8,XH]at c38;rw[XH n]at g0 g1;simp only[Rn.nxt,nxD,Va,Vb]at c38 hU2;simp only[Ui]at hx;simp only[go_sem,TMp,hd,hx,YF,YZ,Jr,Bool.false_and,Vu,nodeAt,hn0,g0,g1,g2,g3,List.length_set,List.set_set,List.set_cons_succ,List.set_cons_zero,List.any_cons,List.any_nil,Jx,Bool.or_false,Vt,Bool.true_or,Bool.or_true,decide_true,beq_self_eq_true,Vv,Vc,Nat.reduceAdd,Nat.reduceEqDiff,Nat.reduceBEq,Nat.reduceLeDiff,reduceCtorEq,↓reduceIte];refine⟨⟨oM,oM⟩,dC,?_⟩;refine JI rfl c37 ⟨rfl,rfl,rfl,rfl,rfl,trivial⟩ ?_;simp only[go_sem,hx,YF,YZ,Jr,Bool.false_and,Vu,nodeAt,hn0,g0,g1,g2,g3,List.length_set,List.set_set,List.set_cons_succ,List.set_cons_zero,List.any_cons,List.any_nil,Jx,Bool.or_false,Vt,Bool.true_or,Bool.or_true,decide_true,beq_self_eq_true,Vv,Vc,Nat.reduceAdd,Nat.reduceEqDiff,Nat.reduceBEq,Nat.reduceLeDiff,reduceCtorEq,↓reduceIte];refine⟨sP,⟨oM,oM⟩,hil,dC,⟨oM,oM⟩,dC,⟨oM,oM⟩,⟨hil,dC⟩,?_⟩;refine JT rfl c38 ⟨rfl,rfl,rfl,rfl,rfl,trivial⟩ ?_;simp only[go_sem,YF,YZ,Jr,Bool.false_and,Vu,nodeAt,Vv,Vc,Nat.reduceAdd,Nat.reduceEqDiff,Nat.reduceBEq,Nat.reduceLeDiff,reduceCtorEq,↓reduceIte];refine⟨p.routes.length-(k+1),_,oM,Wk.less ?_,k+1,_,oM,rfl,hU2.symm,rfl⟩;simp only[JF k oM];simp[go_sem,TMp]
          ·have hd:=dF hlt;obtain rfl:k=p.routes.length:=oM;simp only[go_sem,TMp,hd,YF,YZ,Jr,Bool.false_and,Vu,nodeAt,Vv,Vc,Nat.reduceAdd,Nat.reduceEqDiff,Nat.reduceBEq,Nat.reduceLeDiff,reduceCtorEq,↓reduceIte];rw[hU,hpl]
end
end Go.Proofs
namespace Go.Proofs
open Go Av
structure Pn where
 version:Int
 schemas:List Sch
 endpoints:List Epd
 services:List Svc
 nodes:List Nd
def J8(q:Pn):Dat:=.agg [.int .i64 q.version,.list 9 (q.schemas.map UB),.list 7 (q.endpoints.map Jo),.list 4 (q.services.map Uy),.list 20 (q.nodes.map XO)]
theorem JQo(l:List Int):(nxD l).dat.canon=.list 1 (l.map (.int .i64)):=by
 cases l with
 |nil=>rfl
 |cons a r=>
  simp only[nxD,Dat.dat,Dat.canon];have:∀l:List Int,JG (Dat.dat.datL (l.map (.int .i64)))=l.map (.int .i64):=by
   intro l
   induction l with
   |nil=>rfl
   |cons a r ih=>rw[Va,JBA,JG,ih];rfl
  rw[this]
structure BN(n:Nd):Prop where
 ts:n.types.length≤4000000000
 ex:n.exprs.length≤4000000000
 ca:n.calls.length≤4000000000
 nx:n.next.length≤4000000000
theorem okR.nd{n:Rn}(h:okR n)(hl:n.next.length≤4000000000):∃m:Nd,(owN n).dat.canon=XO m∧BN m:=by
 obtain⟨w,h1⟩:=h.tw;obtain⟨e,h2⟩:=h.te;obtain⟨f,h3⟩:=h.tf;obtain⟨ts,h4,l4⟩:=h.ts;obtain⟨ex,h5,l5⟩:=h.ex;obtain⟨ru,h6⟩:=h.ru;obtain⟨ca,h7,l7⟩:=h.ca;refine⟨⟨n.name,n.kind,n.schema,n.result,n.number,n.time,n.limit,n.text,.mk n.tk n.tn n.tm n.tc w e f,ts,ex,ru,ca,n.next⟩,?_,⟨l4,l5,l7,hl⟩⟩;simp only[owN,XO,Dat.dat,Dat.dat.datL,Dat.canon,JG,h1,h2,h3,h4,h5,h6,h7,JQo];rfl
theorem JO3:∀N:List Rn,NB N 4000000000→∃l:List Nd,JG (Dat.dat.datL (N.map owN))=l.map XO∧l.length=N.length∧∀n∈l,BN n
 |[],_=>⟨[],rfl,rfl,fun _ h=>by cases h⟩
 |n::r,h=>by
  obtain⟨m,hm,hb⟩:=(h n Vh).1.nd (h n Vh).2;obtain⟨l,hl,hn,hbs⟩:=JO3 r fun x hx=>h x (Vn _ hx)
  refine⟨m::l,by rw[Va,JBA,JG,hm,hl];rfl,by simp[hn],fun x hx=>?_⟩;rcases VA.1 hx with rfl|hx
  ·exact hb
  ·exact hbs x hx
theorem JKI(p:Prg):∀(l:List Wlk) (S:P2),(ph2 p l S).N.length≤S.N.length+l.length
 |[],S=>Nat.le_refl _
 |w::r,S=>by
  have h:=JKI p r (p2S p S w.step);have h2:(p2S p S w.step).N.length≤S.N.length+1:=by unfold p2S;split<;>simp
  show(ph2 p r (p2S p S w.step)).N.length≤_;simp only[Vf];omega
theorem JKJ(p:Prg)(us:List Str):∀(l:List Epd) (S:List Rn×List (Str×Int)),(ph3 p us l S).1.length≤S.1.length+l.length
 |[],S=>Nat.le_refl _
 |x::r,S=>by
  have h:=JKJ p us r (p3S p us S x);have h2:(p3S p us S x).1.length≤S.1.length+1:=by unfold p3S;split<;>simp
  show(ph3 p us r (p3S p us S x)).1.length≤_;simp only[Vf];omega
theorem JKK(p:Prg)(cs:List Str):∀(l:List Svc) (N:List Rn),(ph4 p cs l N).length≤N.length+l.length
 |[],N=>Nat.le_refl _
 |x::r,N=>by
  have h:=JKK p cs r (p4S p cs N x);have h2:(p4S p cs N x).length≤N.length+1:=by unfold p4S;split<;>simp
  show(ph4 p cs r (p4S p cs N x)).length≤_;simp only[Vf];omega
structure PnB(q:Pn):Prop where
 n0:q.nodes.length≤4000000000
 n1:q.nodes≠[]
 nd:∀n∈q.nodes,BN n
theorem JQp{p:Prg}(hP:PB p)(hrn:p.routes≠[])(hw:XN p.routes≤1000000000)(hq:∀w∈wkN p.routes p.routes.length,stQ w.step)(h4:p.routes.length≤1000000000)(h5:p.endpoints.length≤1000000000)(h6:p.services.length≤1000000000):∃q:Pn,plD p=J8 q∧PnB q∧q.endpoints=p.endpoints:=by
 have hN1:=JO1 p p.routes;have hpl:(ph1 p p.routes).length=p.routes.length:=by unfold ph1;rw[Vc]
 have hN0:0<(ph1 p p.routes).length:=by rw[hpl];exact List.length_pos_iff.2 hrn
 obtain⟨k1,k2,k3⟩:=JJF hP (wkN p.routes p.routes.length) ⟨ph1 p p.routes,[],[],[]⟩ hq hN1 (ME.nil hN0);obtain⟨k4,k5⟩:=JJG p (plA p).us p.endpoints ((plA p).N,[]) k1;obtain⟨k6,k7⟩:=JJH p (plA p).cs p.services (plK p).1 k4;have e1:(ph1 p p.routes).length≤(plA p).N.length:=k3;have e2:(plA p).N.length≤(plK p).1.length:=k5;have hle:p.routes.length≤(plN p).length:=by
  show _≤(ph4 p (plA p).cs p.services (plK p).1).length;omega
 have hwl:(wkN p.routes p.routes.length).length≤1000000000:=by
  have e1:=JDi p.routes p.routes.length (Nat.le_refl _);have e2:=Zr p.routes p.routes.length;omega
 have l2:(plA p).N.length≤(ph1 p p.routes).length+(wkN p.routes p.routes.length).length:=JKI p _ _;have l3:(plK p).1.length≤(plA p).N.length+p.endpoints.length:=JKJ p _ _ _;have l4:(plN p).length≤(plK p).1.length+p.services.length:=JKK p _ _ _;have h5:=JJI (p:=p) (es:=(plA p).es) (ek:=(plK p).2) (S:=(plN p,0)) hle k6 p.routes.length (Nat.le_refl _);rw[List.take_length]at h5;obtain⟨l,hl,hn,hb⟩:=JO3 (plE p).1 (h5.1.le oM);have hn2:l.length=(plN p).length:=hn.trans h5.2;have hl0:l≠[]:=by
  intro e;have e2:l.length=0:=by rw[e];rfl
  omega
 exact⟨⟨p.version,p.schemas,p.endpoints,p.services,l⟩,by unfold plD J8;rw[hl],⟨by show l.length≤_;omega,hl0,hb⟩,rfl⟩
end Go.Proofs
namespace Go.Proofs
open Go Av
open Av.Y
def ir17:Ic:=q (.reg (oN 0 yT<|N))<|q (R (oo 1 (.bls 1 [.k (.str [97]),.k (.str [98]),.k (.str [99])])<|oo 2 (.bld yT [(0,1,i 4),(4,1,t 1)])<|oS 7 0 2<|N) [1,2])<|.ret
theorem ok17:FT 17 3 ir17 [.cell 0 (some 7)]:=.o Tryz.func17
def ir40:Ic:=q (R (oz 4 0<|N) [4])<|q (q (R (om 6 0<|oh 7 6<|oz 8 0<|N) [6])<|D (.block 0<|.loop (q (.reg (ot 9 .lss 8 7<|N))<|q (D (I 9 S (E 0)) [9])<|q (D (.block 1<|q (R (om 10 8<|om 5 10<|N) [10])<|q (R (om 11 1<|om 12 0<|om 13 5<|oa true 14 20 12 13<|oL 15 20 14<|.call (some 16) (.dyn (t 11)) [t 15] N) [11,12,13,14,15])<|D (I 16 (q (R (om 17 5<|om 4 17<|N) [0,1,7,8,5,16,17])<|.ret) S) [5,16]) [])<|R (oi 18 .add 8 1<|om 8 18<|N) [18])) [0,1,7,8,9,10,5,11])<|q (.reg (oz 4 (-1)<|N))<|.ret
theorem ok40:FT 40 19 ir40 [.tmp 4]:=.o Tryz.func40
end Go.Proofs
namespace Av
open Go
variable [Glb][Rls]
theorem JN.JQ3{P:Program}{f:Nat}{ds cs cs':List Dat}{r1 r2:Dat}(h:J3 P f (ds++[.ptr cs,.ptr cs']) (.tup [.d r1,.d r2]))(hr1:scalar r1=true)(hr2:scalar r2=true)(i j:Nat)(hij:i≠j):
  JN P f (ds.map .d++[.ref i 0,.ref j 0]) [(i,some (.box (cs.map .d))),(j,some (.box (cs'.map .d)))] (.tup [.d r1,.d r2]) []:=by
 intro β A w H vs hT hc hvs;have hi:H i=some (.box (cs.map .d)):=hT _ (Vh);have hj:H j=some (.box (cs'.map .d)):=hT _ (Vn _ Vh);have st1:=Stp.XT hc hi (ZE cs);have hj1:upd H i (some (.fbox cs)) j=some (.box (cs'.map .d)):=by simp[upd,Ne.symm hij,hj]
 have st2:=Stp.XT st1.core hj1 (ZE cs');have hc0:Core β (fun k=>(A k∨β i=some k)∨β j=some k) w (get []):=⟨(by intro i o hi;cases hi),(by intro i j o o' b hi;cases hi),(by intro i o b hi;cases hi),st2.core.old,st2.core.glob⟩;refine .inl ⟨h.1,(h.2 β (fun k=>(A k∨β i=some k)∨β j=some k) w vs hc0 ⟨by have:=hvs.1;simp at this⊢;omega,?_⟩).mono ?_⟩
 ·intro k c v h1 h2;rw[Vo]at h1;cases e:(ds++[Dat.ptr cs,.ptr cs'])[k]? with
  |none=>simp[e]at h1
  |some x=>
   simp only[e,Vj,Vd]at h1;subst h1;refine .d _ _ ?_;by_cases hk:k<ds.length
   ·rw[Vz hk]at e;have:=hvs.2 k (.d x) v (by rw[Vz (sX hk),Vo,e];rfl) h2;exact(st2.vals _ _ (st1.vals _ _ this)).Ja
   ·rw[Vy oM]at e;have hlen:(ds.map Av.d).length=ds.length:=sP;have hk0:k-ds.length=0∨k-ds.length=1:=by
     rcases Nat.lt_or_ge (k-ds.length) 2 with h|h
     ·omega
     ·rw[List.getElem?_eq_none sO]at e;cases e
    rcases hk0 with hk0|hk0
    ·rw[hk0]at e;cases e;have:=hvs.2 k (.ref i 0) v (by rw[Vy sO,hlen,hk0];rfl) h2;have h3:=st2.vals _ _ (st1.vals _ _ this);cases h3 with
     |ref _ _ _ _ _ hu g0 g1 g2=>
      have:=g2 cs (by simp[upd,hij]);simpa using this
    ·rw[hk0]at e;cases e;have:=hvs.2 k (.ref j 0) v (by rw[Vy sO,hlen,hk0];rfl) h2;have h3:=st2.vals _ _ (st1.vals _ _ this);cases h3 with
     |ref _ _ _ _ _ hu g0 g1 g2=>
      have:=g2 cs' sU;simpa using this
 ·rintro e w' ⟨v,β1,A1,rfl,hsince,hc1,hv⟩;obtain⟨s1,s2,s3,s4,s5,sl,s6,s7,s8⟩:=hsince;dsimp only at s1 s2 s3 s4 s5 sl;have hsame:∀b,b<w.heap.size→w'.heap[b]? =w.heap[b]? :=fun b hb=>s5 b hb (by intro i o hi;cases hi)
  have hst:Stp β A w H β A w' H:=Stp.new hc s1 s2 s3 s4 hsame (fun _ h=>h) (fun _ h=>.inl h) (fun b hb=>by have:=hc.old b hb;omega);cases hv with
  |tup _ arr hl hvv=>
   refine⟨_,rfl,β,A,hst,.tup _ arr hl ?_⟩;intro k c u hk hu
   match k,hk with
   |0,hk=>cases hk;exact .d _ _ ((hvv 0 _ u rfl hu).Ja.scalar hr1)
   |1,hk=>cases hk;exact .d _ _ ((hvv 1 _ u rfl hu).Ja.scalar hr2)
   |k+2,hk=>cases hk
theorem JN.JKX{P:Program}{f g:Nat}{ds cs:List Dat}{r1 r2:Dat}(h:J3 P f (ds++[JLW g cs]) (.tup [.d r1,.d r2]))(hr1:scalar r1=true)(hr2:scalar r2=true)(i:Nat):
  JN P f (ds.map .d++[.clo (.func g) [] [.ref i 0]]) [(i,some (.box (cs.map .d)))] (.tup [.d r1,.d r2]) []:=by
 intro β A w H vs hT hc hvs;have hi:H i=some (.box (cs.map .d)):=hT _ (List.mem_singleton.2 rfl);have st:=Stp.XT hc hi (ZE cs);have hc0:Core β (fun k=>A k∨β i=some k) w (get []):=⟨(by intro i o hi;cases hi),(by intro i j o o' b hi;cases hi),(by intro i o b hi;cases hi),st.core.old,st.core.glob⟩;refine .inl ⟨h.1,(h.2 β (fun k=>A k∨β i=some k) w vs hc0 ⟨by have:=hvs.1;simp at this⊢;omega,?_⟩).mono ?_⟩
 ·intro k c v h1 h2;rw[Vo]at h1;cases e:(ds++[JLW g cs])[k]? with
  |none=>simp[e]at h1
  |some x=>
   simp only[e,Vj,Vd]at h1;subst h1;refine .d _ _ ?_;by_cases hk:k<ds.length
   ·rw[Vz hk]at e;have:=hvs.2 k (.d x) v (by rw[Vz (sX hk),Vo,e];rfl) h2;exact(st.vals _ _ this).Ja
   ·rw[Vy oM]at e;have hk0:k-ds.length=0:=by
     rcases Nat.eq_zero_or_pos (k-ds.length)with h|h
     ·exact h
     ·rw[List.getElem?_eq_none sO]at e;cases e
    rw[hk0]at e;cases e;have hlen:(ds.map Av.d).length=ds.length:=sP;have:=hvs.2 k (.clo (.func g) [] [.ref i 0]) v (by rw[Vy sO,hlen,hk0];rfl) h2;have h3:=st.vals _ _ this;cases h3 with
    |clo _ _ _ a1 a2 l1 l2 hf hvv=>
     refine .fn _ _ _ a1 a2 l1 (sX l2) (by intro j c v hj;cases hj) ?_;intro j c v hj hjv
     match j,hj with
     |0,hj=>
      cases hj;have hrf:=hvv 0 _ v rfl hjv;cases hrf with
      |ref _ _ _ _ _ hu g0 g1 g2=>
       have:=g2 cs sU;simpa using this
     |j+1,hj=>cases hj
 ·rintro e w' ⟨v,β1,A1,rfl,hsince,hc1,hv⟩;obtain⟨s1,s2,s3,s4,s5,sl,s6,s7,s8⟩:=hsince;dsimp only at s1 s2 s3 s4 s5 sl;have hsame:∀b,b<w.heap.size→w'.heap[b]? =w.heap[b]? :=fun b hb=>s5 b hb (by intro i o hi;cases hi)
  have hst:Stp β A w H β A w' H:=Stp.new hc s1 s2 s3 s4 hsame (fun _ h=>h) (fun _ h=>.inl h) (fun b hb=>by have:=hc.old b hb;omega);cases hv with
  |tup _ arr hl hvv=>
   refine⟨_,rfl,β,A,hst,.tup _ arr hl ?_⟩;intro k c u hk hu
   match k,hk with
   |0,hk=>cases hk;exact .d _ _ ((hvv 0 _ u rfl hu).Ja.scalar hr1)
   |1,hk=>cases hk;exact .d _ _ ((hvv 1 _ u rfl hu).Ja.scalar hr2)
   |k+2,hk=>cases hk
end Av
namespace Go.Proofs
open Go Av
open Av.Y
def ir3:Ic:=q (R (ox 3 0<|ox 5 2<|ow 6 false<|N) [0,2,6])<|q (R (oL 32 3 3<|om 33 1<|cl 34 4 [t 32,t 33]<|oN 7 [.int .i64 0,.nil 9,.nil 7,.nil 4,.nil 20]<|oS 5 7 34<|N) [1,3,32,33,34])<|q (R (of 35 5 3<|ol 36 35<|of 37 5 3<|ol 38 37<|oj 39 38<|oo 40 (.mn (t 39) (i 40))<|oo 41 (.sls (t 36) none (some (t 40)))<|oN 8 [.str []]<|os 8 41<|N) [35,36,37,38,39,40,41])<|q (R (oo 42 (.fnv (.func 5) [] [t 7,t 8])<|om 9 42<|N) [42])<|q (R (oL 44 5 7<|ol 45 8<|cl 46 6 [t 44,t 45]<|om 43 46<|oe 47 43 0<|oe 48 43 1<|om 10 47<|om 11 48<|N) [44,45,46,43,47,48])<|q (R (oL 50 5 7<|ol 51 8<|cl 52 7 [t 50,t 51]<|om 49 52<|oe 53 49 0<|oe 54 49 1<|om 12 53<|om 13 54<|N) [50,51,52,49,53,54])<|q (R (oL 56 5 7<|ol 57 8<|cl 58 8 [t 56,t 57]<|om 55 58<|oe 59 55 0<|oe 60 55 1<|om 14 59<|om 15 60<|N) [56,57,58,55,59,60])<|q (R (oL 62 5 7<|ol 63 8<|cl 64 9 [t 62,t 63]<|om 61 64<|oe 65 61 0<|oe 66 61 1<|om 16 65<|om 17 66<|N) [8,62,63,64,61,65,66])<|q (R (om 68 9<|.call (some 69) (.dyn (t 68)) [i 0] (om 67 69<|oe 70 67 0<|oe 71 67 1<|om 18 70<|om 19 71<|N)) [68,69,67,70,71])<|q (R (om 73 9<|.call (some 74) (.dyn (t 73)) [i 21] (om 72 74<|oe 75 72 0<|oe 76 72 1<|om 20 75<|om 21 76<|N)) [73,74,72,75,76])<|q (R (om 78 9<|.call (some 79) (.dyn (t 78)) [i 22] (om 77 79<|oe 80 77 0<|oe 81 77 1<|om 22 80<|om 23 81<|N)) [78,79,77,80,81])<|q (R (om 83 9<|.call (some 84) (.dyn (t 83)) [i 23] (om 82 84<|oe 85 82 0<|oe 86 82 1<|om 24 85<|om 25 86<|N)) [9,83,84,82,85,86])<|q (q (R (cl 87 10 []<|og 88 87<|om 89 88<|.sc 89 false (om 90 10<|om 91 18<|ot 92 .neq 90 91<|N) (t 92) 93 (om 94 93<|.sc 94 false (om 95 11<|om 96 19<|ot 97 .bne 95 96<|N) (t 97) 98 (om 99 98<|.sc 99 false (om 100 12<|om 101 20<|ot 102 .neq 100 101<|N) (t 102) 103 (om 104 103<|.sc 104 false (om 105 13<|om 106 21<|ot 107 .bne 105 106<|N) (t 107) 108 (om 109 108<|.sc 109 false (om 110 14<|om 111 22<|ot 112 .neq 110 111<|N) (t 112) 113 (om 114 113<|.sc 114 false (om 115 15<|om 116 23<|ot 117 .bne 115 116<|N) (t 117) 118 (om 119 118<|.sc 119 false (om 120 16<|om 121 24<|ot 122 .neq 120 121<|N) (t 122) 123 (om 124 123<|.sc 124 false (om 125 17<|om 126 25<|ot 127 .bne 125 126<|N) (t 127) 128 N)))))))) [10,11,12,13,14,15,16,17,18,19,20,21,22,23,24,25,87,88,89,93,94,98,99,103,104,108,109,113,114,118,119,123,124])<|D (I 128 (q (R (ow 6 false<|N) [5,7,128])<|.ret) S) [128])<|q (R (oL 130 5 7<|of 131 5 2<|ol 132 131<|cl 133 11 [t 130,t 132]<|om 129 133<|oe 134 129 0<|oe 135 129 1<|oN 26 [.str [],.int .i64 0,.str [],.int .i64 0,.int .i64 0,.int .i64 0,.nil 1]<|oS 7 26 134<|om 27 135<|N) [130,131,132,133,129,134,135])<|q (R (oL 137 5 7<|of 138 5 2<|ol 139 138<|cl 140 12 [t 137,t 139]<|om 136 140<|oe 141 136 0<|oe 142 136 1<|oN 28 [.str [],.int .i64 0,.int .i64 0,.int .i64 0,.int .i64 0,.int .i64 0,.nil 1,.nil 7,.nil 11]<|oS 9 28 141<|om 29 142<|N) [137,138,139,140,136,141,142])<|q (q (R (of 143 5 2<|ol 144 143<|oi 145 .lss 144 0<|om 146 145<|.sc 146 false (of 147 5 2<|ol 148 147<|of 149 7 4<|ol 150 149<|oh 151 150<|ot 152 .geq 148 151<|N) (t 152) 153 N) [143,144,145,146])<|D (I 153 (q (R (om 154 27<|og 155 154<|om 156 155<|.sc 156 true (om 157 29<|og 158 157<|N) (t 158) 159 (om 160 159<|.sc 160 true (of 161 26 0<|ol 162 161<|ob 163 .seq (t 162) (.k (.str []))<|N) (t 163) 164 (om 165 164<|.sc 165 true (of 166 28 0<|ol 167 166<|ob 168 .seq (t 167) (.k (.str []))<|N) (t 168) 169 (om 6 169<|N)))) [5,7,26,27,28,29,153,154,155,156,159,160,164,165,169])<|.ret) S) [153])<|q (R (of 170 7 4<|ol 171 170<|of 172 5 2<|ol 173 172<|oa true 174 20 171 173<|oL 175 20 174<|oN 30 [.str [],.int .i64 0,.int .i64 0,.int .i64 0,.int .i64 0,.int .i64 0,.int .i64 0,.str [],.int .i64 0,.int .i64 0,.int .i64 0,.int .i64 0,.nil 1,.nil 7,.nil 11,.nil 7,.nil 5,.nil 6,.nil 2,.nil 1]<|oS 20 30 175<|N) [5,170,171,172,173,174,175])<|q (R (oL 176 5 7<|of 177 30 7<|ol 178 177<|cl 179 13 [t 176,t 178]<|oN 31 [.str [],.int .i64 0,.str [],.int .i64 0,.int .i64 0,.int .i64 0,.nil 1]<|oS 7 31 179<|N) [176,177,178,179])<|q (q (R (of 180 30 1<|ol 181 180<|oi 182 .neq 181 21<|om 183 182<|.sc 183 true (of 184 30 1<|ol 185 184<|oi 186 .neq 185 22<|N) (t 186) 187 N) [180,181,182,183])<|D (I 187 (R (oo 188 (.bld [.str [],.int .i64 0,.str [],.int .i64 0,.int .i64 0,.int .i64 0,.nil 1] [])<|oS 7 31 188<|N) [187,188]) S) [187])<|q (q (R (om 189 27<|of 190 31 0<|ol 191 190<|ob 192 .sne (t 191) (.k (.str []))<|ot 193 .bne 189 192<|om 194 193<|.sc 194 false (of 195 26 0<|ol 196 195<|of 197 31 0<|ol 198 197<|ot 199 .sne 196 198<|N) (t 199) 200 (om 201 200<|.sc 201 false (of 202 26 1<|ol 203 202<|of 204 31 1<|ol 205 204<|ot 206 .neq 203 205<|N) (t 206) 207 (om 208 207<|.sc 208 false (of 209 26 3<|ol 210 209<|of 211 31 3<|ol 212 211<|ot 213 .neq 210 212<|N) (t 213) 214 N))) [26,27,31,189,190,191,192,193,194,200,201,207,208])<|D (I 214 (q (R (ow 6 false<|N) [7,28,29,30,214])<|.ret) S) [214])<|q (q (R (of 215 30 2<|ol 216 215<|oi 217 .lss 216 0<|om 218 217<|.sc 218 false (of 219 30 2<|ol 220 219<|of 221 7 1<|ol 222 221<|oh 223 222<|ot 224 .geq 220 223<|N) (t 224) 225 N) [215,216,217,218])<|D (I 225 (q (R (om 226 29<|og 227 226<|om 228 227<|.sc 228 true (of 229 28 0<|ol 230 229<|ob 231 .seq (t 230) (.k (.str []))<|N) (t 231) 232 (om 6 232<|N)) [7,28,29,30,225,226,227,228,232])<|.ret) S) [225])<|q (R (om 233 29<|om 234 233<|.sc 234 true (of 235 28 0<|ol 236 235<|of 237 7 1<|ol 238 237<|of 239 30 2<|ol 240 239<|oa true 241 9 238 240<|of 242 241 0<|ol 243 242<|ot 244 .seq 236 243<|N) (t 244) 245 (om 246 245<|.sc 246 true (of 247 28 1<|ol 248 247<|of 249 7 1<|ol 250 249<|of 251 30 2<|ol 252 251<|oa true 253 9 250 252<|of 254 253 1<|ol 255 254<|ot 256 .eql 248 255<|N) (t 256) 257 (om 6 257<|N))) [7,28,29,30,233,234,245,246,257])<|.ret
theorem ok3:FT 3 258 ir3 [.tmp 6]:=.o Tryz.func3
def ir5:Ic:=q (R (oz 4 0<|ow 5 false<|N) [4,5])<|q (q (.reg (oz 6 0<|N))<|D (.block 0<|.loop (q (q (R (om 7 6<|of 8 1 4<|ol 9 8<|oh 10 9<|ot 11 .lss 7 10<|N) [7,8,9,10])<|D (I 11 S (E 0)) [11])<|q (D (.block 1<|q (R (of 14 1 4<|ol 15 14<|om 16 6<|oa true 17 20 15 16<|of 18 17 0<|ol 19 18<|ol 20 2<|ot 21 .seq 19 20<|om 22 21<|.sc 22 true (om 23 0<|oi 24 .eql 23 0<|om 25 24<|.sc 25 false (of 26 1 4<|ol 27 26<|om 28 6<|oa true 29 20 27 28<|of 30 29 1<|ol 31 30<|om 32 0<|ot 33 .eql 31 32<|N) (t 33) 34 N) (t 34) 35 N) [14,15,16,17,18,19,20,21,22])<|D (I 35 (q (R (om 36 6<|om 4 36<|ow 5 true<|N) [0,6,35,36])<|.ret) S) [35]) [])<|R (om 12 6<|oi 13 .add 12 1<|om 6 13<|N) [12,13])) [0,6,11])<|q (.reg (oz 4 0<|ow 5 false<|N))<|.ret
theorem ok5:FT 5 37 ir5 [.tmp 4,.tmp 5]:=.o Tryz.func5
def ir6:Ic:=q (R (ox 2 0<|ox 3 1<|oz 4 0<|ow 5 false<|N) [0,1,4,5])<|q (R (oL 6 5 2<|oo 7 (.fnv (.func 19) [] [t 3])<|cl 8 18 [t 6,t 7]<|oe 9 8 0<|oe 10 8 1<|om 4 9<|om 5 10<|N) [2,3,6,7,8,9,10])<|.ret
theorem ok6:FT 6 11 ir6 [.tmp 4,.tmp 5]:=.o Tryz.func6
def ir7:Ic:=q (R (ox 2 0<|ox 3 1<|oz 4 0<|ow 5 false<|N) [0,1,4,5])<|q (R (oL 6 5 2<|oo 7 (.fnv (.func 20) [] [t 3])<|cl 8 18 [t 6,t 7]<|oe 9 8 0<|oe 10 8 1<|om 4 9<|om 5 10<|N) [2,3,6,7,8,9,10])<|.ret
theorem ok7:FT 7 11 ir7 [.tmp 4,.tmp 5]:=.o Tryz.func7
def ir8:Ic:=q (R (ox 2 0<|ox 3 1<|oz 4 0<|ow 5 false<|N) [0,1,4,5])<|q (R (oL 6 5 2<|oo 7 (.fnv (.func 21) [] [t 3])<|cl 8 18 [t 6,t 7]<|oe 9 8 0<|oe 10 8 1<|om 4 9<|om 5 10<|N) [2,3,6,7,8,9,10])<|.ret
theorem ok8:FT 8 11 ir8 [.tmp 4,.tmp 5]:=.o Tryz.func8
def ir9:Ic:=q (R (ox 2 0<|ox 3 1<|oz 4 0<|ow 5 false<|N) [0,1,4,5])<|q (R (oL 6 5 2<|oo 7 (.fnv (.func 22) [] [t 3])<|cl 8 18 [t 6,t 7]<|oe 9 8 0<|oe 10 8 1<|om 4 9<|om 5 10<|N) [2,3,6,7,8,9,10])<|.ret
theorem ok9:FT 9 11 ir9 [.tmp 4,.tmp 5]:=.o Tryz.func9
def ir11:Ic:=q (R (ox 2 0<|oN 4 [.str [],.int .i64 0,.str [],.int .i64 0,.int .i64 0,.int .i64 0,.nil 1]<|ow 5 false<|N) [0,5])<|q (q (R (om 9 1<|oi 10 .lss 9 0<|om 11 10<|.sc 11 false (om 12 1<|of 13 2 4<|ol 14 13<|oh 15 14<|ot 16 .geq 12 15<|N) (t 16) 17 N) [9,10,11])<|D (I 17 (q (R (oo 18 (.bld [.str [],.int .i64 0,.str [],.int .i64 0,.int .i64 0,.int .i64 0,.nil 1] [])<|oS 7 4 18<|ow 5 false<|N) [1,2,17,18])<|.ret) S) [17])<|q (R (of 19 2 4<|ol 20 19<|om 21 1<|oa true 22 20 20 21<|oL 23 20 22<|oN 6 [.str [],.int .i64 0,.int .i64 0,.int .i64 0,.int .i64 0,.int .i64 0,.int .i64 0,.str [],.int .i64 0,.int .i64 0,.int .i64 0,.int .i64 0,.nil 1,.nil 7,.nil 11,.nil 7,.nil 5,.nil 6,.nil 2,.nil 1]<|oS 20 6 23<|N) [1,19,20,21,22,23])<|q (q (R (of 24 6 1<|ol 25 24<|oi 26 .neq 25 21<|om 27 26<|.sc 27 true (of 28 6 1<|ol 29 28<|oi 30 .neq 29 22<|N) (t 30) 31 N) [24,25,26,27])<|D (I 31 (q (R (oo 32 (.bld [.str [],.int .i64 0,.str [],.int .i64 0,.int .i64 0,.int .i64 0,.nil 1] [])<|oS 7 4 32<|ow 5 false<|N) [2,6,31,32])<|.ret) S) [31])<|q (R (of 33 2 2<|ol 34 33<|oo 35 (.fnv (.func 27) [] [t 6])<|cl 36 26 [t 34,t 35]<|om 7 36<|N) [6,33,34,35,36])<|q (q (R (om 37 7<|oi 38 .lss 37 0<|N) [37])<|D (I 38 (q (R (oo 39 (.bld [.str [],.int .i64 0,.str [],.int .i64 0,.int .i64 0,.int .i64 0,.nil 1] [])<|oS 7 4 39<|ow 5 false<|N) [2,7,38,39])<|.ret) S) [38])<|q (R (of 40 2 2<|ol 41 40<|om 42 7<|oa true 43 7 41 42<|oL 44 7 43<|oN 8 [.str [],.int .i64 0,.str [],.int .i64 0,.int .i64 0,.int .i64 0,.nil 1]<|oS 7 8 44<|N) [2,7,40,41,42,43,44])<|q (R (of 45 8 4<|of 46 45 2<|ol 47 46<|cl 48 28 [t 47]<|of 49 8 4<|of 50 49 2<|os 50 48<|N) [45,46,47,48,49,50])<|q (R (oL 51 7 8<|oS 7 4 51<|ow 5 true<|N) [8,51])<|.ret
theorem ok11:FT 11 52 ir11 [.cell 4 (some 7),.tmp 5]:=.o Tryz.func11
def ir12:Ic:=q (R (ox 2 0<|oN 4 [.str [],.int .i64 0,.int .i64 0,.int .i64 0,.int .i64 0,.int .i64 0,.nil 1,.nil 7,.nil 11]<|ow 5 false<|N) [0,5])<|q (q (R (om 7 1<|oi 8 .lss 7 0<|om 9 8<|.sc 9 false (om 10 1<|of 11 2 4<|ol 12 11<|oh 13 12<|ot 14 .geq 10 13<|N) (t 14) 15 (om 16 15<|.sc 16 false (of 17 2 4<|ol 18 17<|om 19 1<|oa true 20 20 18 19<|of 21 20 2<|ol 22 21<|oi 23 .lss 22 0<|N) (t 23) 24 (om 25 24<|.sc 25 false (of 26 2 4<|ol 27 26<|om 28 1<|oa true 29 20 27 28<|of 30 29 2<|ol 31 30<|of 32 2 1<|ol 33 32<|oh 34 33<|ot 35 .geq 31 34<|N) (t 35) 36 N))) [7,8,9,15,16,24,25])<|D (I 36 (q (R (oo 37 (.bld [.str [],.int .i64 0,.int .i64 0,.int .i64 0,.int .i64 0,.int .i64 0,.nil 1,.nil 7,.nil 11] [])<|oS 9 4 37<|ow 5 false<|N) [1,2,36,37])<|.ret) S) [36])<|q (D (.regd [(1,10),(3,10),(5,10),(7,10),(8,10),(9,10)] (of 38 2 1<|ol 39 38<|of 40 2 4<|ol 41 40<|om 42 1<|oa true 43 20 41 42<|of 44 43 2<|ol 45 44<|oa true 46 9 39 45<|oL 47 9 46<|oN 6 [.str [],.int .i64 0,.int .i64 0,.int .i64 0,.int .i64 0,.int .i64 0,.nil 1,.nil 7,.nil 11]<|oS 9 6 47<|N)) [1,2,38,39,40,41,42,43,44,45,46,47])<|q (R (of 48 6 2<|oL 49 7 48<|cl 50 29 [t 49]<|of 51 6 2<|oS 7 51 50<|N) [48,49,50,51])<|q (R (oL 52 9 6<|oS 9 4 52<|ow 5 true<|N) [6,52])<|.ret
theorem ok12:FT 12 53 ir12 [.cell 4 (some 9),.tmp 5]:=.o Tryz.func12
def ir13:Ic:=q (R (ox 2 0<|oN 4 [.str [],.int .i64 0,.str [],.int .i64 0,.int .i64 0,.int .i64 0,.nil 1]<|N) [0])<|q (q (.reg (oz 5 0<|N))<|D (.block 0<|.loop (q (q (R (om 6 5<|of 7 2 2<|ol 8 7<|oh 9 8<|ot 10 .lss 6 9<|N) [6,7,8,9])<|D (I 10 S (E 0)) [10])<|q (D (.block 1<|q (R (of 13 2 2<|ol 14 13<|om 15 5<|oa true 16 7 14 15<|of 17 16 0<|ol 18 17<|om 19 1<|ot 20 .seq 18 19<|N) [13,14,15,16,17,18,19])<|D (I 20 (q (R (of 21 2 2<|ol 22 21<|om 23 5<|oa true 24 7 22 23<|oL 25 7 24<|oS 7 4 25<|N) [1,2,5,20,21,22,23,24,25])<|.ret) S) [20]) [])<|R (om 11 5<|oi 12 .add 11 1<|om 5 12<|N) [11,12])) [1,2,5,10,11])<|q (R (oo 26 (.bld [.str [],.int .i64 0,.str [],.int .i64 0,.int .i64 0,.int .i64 0,.nil 1] [])<|oS 7 4 26<|N) [26])<|.ret
theorem ok13:FT 13 27 ir13 [.cell 4 (some 7)]:=.o Tryz.func13
def ir18:Ic:=q (R (ox 2 0<|oz 4 0<|ow 5 false<|N) [0,4,5])<|q (R (of 7 2 4<|ol 8 7<|om 9 1<|cl 10 40 [t 8,t 9]<|om 6 10<|N) [1,2,7,8,9,10])<|q (R (om 11 6<|oo 12 (.mx (t 11) (i 0))<|om 13 6<|oi 14 .geq 13 0<|om 4 12<|om 5 14<|N) [6,11,12,13,14])<|.ret
theorem ok18:FT 18 15 ir18 [.tmp 4,.tmp 5]:=.o Tryz.func18
def ir19:Ic:=q (R (ox 2 0<|ow 3 false<|N) [0,3])<|q (R (of 4 2 0<|ol 5 4<|ol 6 1<|ot 7 .seq 5 6<|om 3 7<|N) [2,4,5,6,7])<|.ret
theorem ok19:FT 19 8 ir19 [.tmp 3]:=.o Tryz.func19
def ir20:Ic:=q (R (ox 2 0<|ow 3 false<|N) [0,3])<|q (R (of 4 2 0<|ol 5 4<|ol 6 1<|ot 7 .seq 5 6<|om 8 7<|.sc 8 true (of 9 2 1<|ol 10 9<|oi 11 .eql 10 21<|N) (t 11) 12 (om 3 12<|N)) [2,4,5,6,7,8,12])<|.ret
theorem ok20:FT 20 13 ir20 [.tmp 3]:=.o Tryz.func20
def ir21:Ic:=q (R (ox 2 0<|ow 3 false<|N) [0,3])<|q (R (of 4 2 0<|ol 5 4<|ol 6 1<|ot 7 .seq 5 6<|om 8 7<|.sc 8 true (of 9 2 1<|ol 10 9<|oi 11 .eql 10 22<|N) (t 11) 12 (om 3 12<|N)) [2,4,5,6,7,8,12])<|.ret
theorem ok21:FT 21 13 ir21 [.tmp 3]:=.o Tryz.func21
def ir22:Ic:=q (R (ox 2 0<|ow 3 false<|N) [0,3])<|q (R (of 4 2 0<|ol 5 4<|ol 6 1<|ot 7 .seq 5 6<|om 8 7<|.sc 8 true (of 9 2 1<|ol 10 9<|oi 11 .eql 10 23<|N) (t 11) 12 (om 3 12<|N)) [2,4,5,6,7,8,12])<|.ret
theorem ok22:FT 22 13 ir22 [.tmp 3]:=.o Tryz.func22
def ir27:Ic:=q (R (ox 2 0<|ow 3 false<|N) [0,3])<|q (R (of 4 2 0<|ol 5 4<|of 6 1 7<|ol 7 6<|ot 8 .seq 5 7<|om 3 8<|N) [2,4,5,6,7,8])<|.ret
theorem ok27:FT 27 9 ir27 [.tmp 3]:=.o Tryz.func27
end Go.Proofs
namespace Go.Proofs
open Go Av
theorem JJL{q:Pn}(h:fits (J8 q)):q.schemas.length≤68719476736∧q.endpoints.length≤68719476736∧q.services.length≤68719476736∧q.nodes.length≤68719476736:=by
 simp only[J8,fits,Un,Vc,and_true]at h;omega
theorem ix40{g:Nat}{cs:List Dat}{q:Nd→Bool}(l:List Nd)(hq:∀x∈l,PT g (XO x::cs) (.d (.bool (q x))))(hl:l.length≤68719476736):
  PT 40 [.list 20 (l.map XO),.fn (.func g) [] cs] (.d (.int .i64 (ixQ q l))):=by
 refine ok40.pc ?_;simp only[go_sem,ir40,Vv,Vc,simprocAttr];refine JK (fun n s=>∃k:Nat,k≤l.length∧n=l.length-k∧(∀(j:Nat) (h1:j<l.length),j<k→q l[j]=false)∧
  s=⟨[(0,.d (.list 20 (l.map XO))),(1,.d (.fn (.func g) [] cs)),(7,.d (.int .i64 l.length)),(8,.d (.int .i64 k))],[]⟩) ?_ ?_
 ·exact⟨_,_,Wk.refl _,0,Nat.zero_le _,rfl,sP,rfl⟩
 ·rintro n s ⟨k,hk,rfl,hinv,rfl⟩;by_cases hlt:k<l.length
  ·have hx:=JU XO hlt;have hd:=dT hlt;have hc:=(hq l[k] (Vk _)).call trivial;simp only[XO,Va]at hc hx;refine zz6 ?_;refine⟨oM,wn hc ?_⟩;simp only[go_sem,Vv,Vc,simprocAttr];apply ik<;>intro hf
   ·rw[Zp hlt hf hinv]
   ·refine⟨l.length-(k+1),_,oM,Wk.less ?_,k+1,oM,rfl,fun j h1 hj=>?_,rfl⟩
    ·simp only[go_sem,JF k oM,Vv,Vc,simprocAttr]
    ·by_cases e:j=k
     ·subst e;exact hf
     ·exact hinv j h1 oM
  ·have hd:=dF hlt;simp only[go_sem,hd,Vv,Vc,simprocAttr];rw[Zq (fun j h=>hinv j h oM)]
theorem JGn{g:Nat}{cs:List Dat}{f:Nd→Bool}(q:Pn)(hq:∀x∈q.nodes,PT g (XO x::cs) (.d (.bool (f x)))):
  PT 18 [J8 q,.fn (.func g) [] cs] (.tup [.d (.int .i64 (fdQ f q.nodes)),.d (.bool (q.nodes.any f))]):=by
 refine J3.Jk ok18.has fun hfit=>?_
 have hl:=(JJL (hfit _ (Vh))).2.2.2;clear hfit;refine ok18.pc ?_;have c:=(ix40 q.nodes hq hl).call trivial;simp only[go_sem,ir18,J8,Vv,Vc,simprocAttr];refine wn c ?_;simp only[go_sem,JCw,JAB,Vv,Vc,simprocAttr]
def pF(name:Str)(kind:Int)(n:Nd):Bool:=n.name==name&&(kind==0||n.kind==kind)
theorem walk19(n:Nd)(name:Str):PT 19 [XO n,.ptr [.str name]] (.d (.bool (pF name 0 n))):=by
 refine ok19.pc ?_;unfold pF;simp only[go_sem,ir19,XO,beq_self_eq_true,Bool.true_or,Bool.and_true,Vv,Vc,Nat.reduceAdd,Nat.reduceEqDiff,Nat.reduceBEq,Nat.reduceLeDiff,reduceCtorEq,↓reduceIte];decide
theorem walk20(n:Nd)(name:Str):PT 20 [XO n,.ptr [.str name]] (.d (.bool (pF name 21 n))):=by
 refine ok20.pc ?_;unfold pF;simp only[go_sem,ir20,XO,Int.reduceBEq,Bool.false_or,Vv,Vc,simprocAttr]
 first|(refine⟨dC,?_⟩;refine sq (n.kind==21) (fun _=>?_) ?_)|refine Xc (n.kind==21) ?_ ?_
 ·simp only[go_sem,Vv,Vc,simprocAttr]
 simp only[go_sem,Vv,Vc,simprocAttr]
theorem walk21(n:Nd)(name:Str):PT 21 [XO n,.ptr [.str name]] (.d (.bool (pF name 22 n))):=by
 refine ok21.pc ?_;unfold pF;simp only[go_sem,ir21,XO,Int.reduceBEq,Bool.false_or,Vv,Vc,simprocAttr]
 first|(refine⟨dC,?_⟩;refine sq (n.kind==22) (fun _=>?_) ?_)|refine Xc (n.kind==22) ?_ ?_
 ·simp only[go_sem,Vv,Vc,simprocAttr]
 simp only[go_sem,Vv,Vc,simprocAttr]
theorem walk22(n:Nd)(name:Str):PT 22 [XO n,.ptr [.str name]] (.d (.bool (pF name 23 n))):=by
 refine ok22.pc ?_;unfold pF;simp only[go_sem,ir22,XO,Int.reduceBEq,Bool.false_or,Vv,Vc,simprocAttr]
 first|(refine⟨dC,?_⟩;refine sq (n.kind==23) (fun _=>?_) ?_)|refine Xc (n.kind==23) ?_ ?_
 ·simp only[go_sem,Vv,Vc,simprocAttr]
 simp only[go_sem,Vv,Vc,simprocAttr]
theorem walk6(q:Pn)(name:Str):PT 6 [J8 q,.str name] (.tup [.d (.int .i64 (fdQ (pF name 0) q.nodes)),.d (.bool (q.nodes.any (pF name 0)))]):=by
 refine ok6.pc ?_;have c:=JN.JKX (ds:=[J8 q]) (JGn (g:=19) (cs:=[.ptr [.str name]]) q (fun x _=>walk19 x name)) rfl rfl 3;simp only[J8,Va,Vb,List.cons_append,List.nil_append]at c;simp only[go_sem,ir6,J8,Vv,Vc,simprocAttr];refine wn c ?_;simp only[go_sem,Vv,Vc,simprocAttr]
theorem walk7(q:Pn)(name:Str):PT 7 [J8 q,.str name] (.tup [.d (.int .i64 (fdQ (pF name 21) q.nodes)),.d (.bool (q.nodes.any (pF name 21)))]):=by
 refine ok7.pc ?_;have c:=JN.JKX (ds:=[J8 q]) (JGn (g:=20) (cs:=[.ptr [.str name]]) q (fun x _=>walk20 x name)) rfl rfl 3;simp only[J8,Va,Vb,List.cons_append,List.nil_append]at c;simp only[go_sem,ir7,J8,Vv,Vc,simprocAttr];refine wn c ?_;simp only[go_sem,Vv,Vc,simprocAttr]
theorem walk8(q:Pn)(name:Str):PT 8 [J8 q,.str name] (.tup [.d (.int .i64 (fdQ (pF name 22) q.nodes)),.d (.bool (q.nodes.any (pF name 22)))]):=by
 refine ok8.pc ?_;have c:=JN.JKX (ds:=[J8 q]) (JGn (g:=21) (cs:=[.ptr [.str name]]) q (fun x _=>walk21 x name)) rfl rfl 3;simp only[J8,Va,Vb,List.cons_append,List.nil_append]at c;simp only[go_sem,ir8,J8,Vv,Vc,simprocAttr];refine wn c ?_;simp only[go_sem,Vv,Vc,simprocAttr]
theorem walk9(q:Pn)(name:Str):PT 9 [J8 q,.str name] (.tup [.d (.int .i64 (fdQ (pF name 23) q.nodes)),.d (.bool (q.nodes.any (pF name 23)))]):=by
 refine ok9.pc ?_;have c:=JN.JKX (ds:=[J8 q]) (JGn (g:=22) (cs:=[.ptr [.str name]]) q (fun x _=>walk22 x name)) rfl rfl 3;simp only[J8,Va,Vb,List.cons_append,List.nil_append]at c;simp only[go_sem,ir9,J8,Vv,Vc,simprocAttr];refine wn c ?_;simp only[go_sem,Vv,Vc,simprocAttr]
theorem JQs{α:Type}{q:α→Bool}{l:List α}{k:Nat}(h:k<l.length)(hk:q l[k]=true)(hj:∀(j:Nat) (h1:j<l.length),j<k→q l[j]=false):fdQ q l=k∧l.any q=true:=by
 have e:=Zp h hk hj;have e2:=JCw q l;have e3:=JAB q l;rw[e]at e2 e3;refine⟨?_,?_⟩
 ·rw[if_neg oM]at e2;omega
 ·rw[←e3];simp
theorem JQt{α:Type}{q:α→Bool}{l:List α}(hj:∀(j:Nat) (h1:j<l.length),q l[j]=false):fdQ q l=0∧l.any q=false:=by
 have e:=Zq hj;have e2:=JCw q l;have e3:=JAB q l;rw[e]at e2 e3;refine⟨?_,?_⟩
 ·rw[if_pos oM]at e2;omega
 ·rw[←e3];simp
theorem JKM(q:Pn)(name:Str)(kind:Int):PT 5 [.int .i64 kind,.ptr (J8 q).cells,.ptr [.str name]] (.tup [.d (.int .i64 (fdQ (pF name kind) q.nodes)),.d (.bool (q.nodes.any (pF name kind)))]):=by
 refine J3.Jk ok5.has fun hfit=>?_
 have hl:q.nodes.length≤68719476736:=by
  have h:=hfit _ (Vn _ (Vh));simp only[J8,Dat.cells,fits,Un,Vc,and_true]at h;omega
 clear hfit;refine ok5.pc ?_;simp only[go_sem,ir5,J8,Dat.cells,Vv,Vc,simprocAttr];refine JK (fun n s=>∃k:Nat,k≤q.nodes.length∧n=q.nodes.length-k∧(∀(j:Nat) (h1:j<q.nodes.length),j<k→pF name kind q.nodes[j]=false)∧
  s=⟨[(0,.d (.int .i64 kind)),(1,.d (.ptr [.int .i64 q.version,.list 9 (q.schemas.map UB),.list 7 (q.endpoints.map Jo),.list 4 (q.services.map Uy),.list 20 (q.nodes.map XO)])),(2,.d (.ptr [.str name])),(6,.d (.int .i64 k))],[]⟩) ?_ ?_
 ·exact⟨_,_,Wk.refl _,0,Nat.zero_le _,rfl,sP,rfl⟩
 ·rintro n s ⟨k,hk,rfl,hinv,rfl⟩;by_cases hlt:k<q.nodes.length
  ·have hx:=JU XO hlt;have hd:=dT hlt;have hQ:pF name kind q.nodes[k]=(q.nodes[k].name==name&&(kind==0||q.nodes[k].kind==kind)):=rfl;simp only[XO]at hx;refine zz6 ?_;refine⟨dC,dC,⟨oM,oM⟩,dC,dC,?_⟩;refine sq (kind==0||q.nodes[k].kind==kind) ?_ ?_
   ·simp only[go_sem,Vv,Vc,simprocAttr];refine sq (q.nodes[k].kind==kind) ?_ ?_
    ·refine JPv ?_;exact⟨dC,⟨oM,oM⟩,dC⟩
    simp only[go_sem,Vv,Vc,simprocAttr]
   simp only[go_sem,Vv,Vc,simprocAttr];apply ik<;>intro hf
   ·obtain⟨e1,e2⟩:=JQs (q:=pF name kind) hlt (by rw[hQ];exact hf) hinv;rw[e1,e2]
   ·refine⟨q.nodes.length-(k+1),_,oM,Wk.less ?_,k+1,oM,rfl,fun j h1 hj=>?_,rfl⟩
    ·simp only[go_sem,JF k oM,Vv,Vc,simprocAttr]
    ·by_cases e:j=k
     ·subst e;rw[hQ];exact hf
     ·exact hinv j h1 oM
  ·have hd:=dF hlt;simp only[go_sem,hd,Vv,Vc,simprocAttr];obtain⟨e1,e2⟩:=JQt (q:=pF name kind) (l:=q.nodes) (fun j h=>hinv j h oM);rw[e1,e2]
   first|rfl|exact⟨dC,rfl⟩
theorem walk27(e:Epd)(n:Nd):PT 27 [Jo e,.ptr (XO n).cells] (.d (.bool (e.name==n.text))):=by
 refine ok27.pc ?_;simp only[go_sem,ir27,Jo,XO,Dat.cells,Vv,Vc,Nat.reduceAdd,Nat.reduceEqDiff,Nat.reduceBEq,Nat.reduceLeDiff,reduceCtorEq,↓reduceIte];decide
def zEp:Epd:=⟨[],0,[],0,0,0,[]⟩
def epL(t:Str):List Epd→Option Epd
 |[]=>none
 |e::r=>if e.name==t then some e else epL t r
theorem JJM{t:Str}:∀{l:List Epd} {k:Nat} (h:k<l.length),(l[k].name==t)=true→(∀(j:Nat) (h1:j<l.length),j<k→(l[j].name==t)=false)→epL t l=some l[k]
 |e::r,0,_,hk,_=>by simp only[List.getElem_cons_zero]at hk;simp only[epL,hk,if_true,List.getElem_cons_zero]
 |e::r,k+1,h,hk,hj=>by
  have h0:=hj 0 sP oM;simp only[List.getElem_cons_zero]at h0;simp only[epL,h0,Vu,if_false,List.getElem_cons_succ];refine JJM (sX h) (sX hk) fun j h1 hjk=>?_
  have:=hj (j+1) (sX h1) oM;simpa using this
theorem JEz{t:Str}:∀{l:List Epd},(∀(j:Nat) (h1:j<l.length),(l[j].name==t)=false)→epL t l=none
 |[],_=>rfl
 |e::r,hj=>by
  have h0:=hj 0 sP;simp only[List.getElem_cons_zero]at h0;simp only[epL,h0,Vu,if_false];exact JEz fun j h1=>by
   have:=hj (j+1) (sX h1);simpa using this
theorem JPA{α:Type}(q:α→Bool)(l:List α):(ixQ q l= -1∧∀(j:Nat) (h1:j<l.length),q l[j]=false)∨∃(k:Nat) (h:k<l.length),ixQ q l=k∧q l[k]=true∧∀(j:Nat) (h1:j<l.length),j<k→q l[j]=false:=by
 unfold ixQ;cases e:l.findIdx? q with
 |none=>
  left;refine⟨rfl,fun j h1=>?_⟩
  rw[List.findIdx?_eq_none_iff]at e;exact e _ (Vk h1)
 |some k=>
  right;rw[List.findIdx?_eq_some_iff_getElem]at e
  obtain⟨h,h1,h2⟩:=e;exact⟨k,h,rfl,h1,fun j hj hjk=>by simpa using h2 j hjk⟩
theorem JQu(l:List Int)(hl:l.length≤68719476736):∃d:Dat,((d=.nil 1∧l=[])∨d=.list 1 (l.map (.int .i64)))∧CT (.fn 28) [.d (.list 1 (l.map (.int .i64)))] [] (.d d) []:=by
 cases l with
 |nil=>exact⟨.nil 1,.inl ⟨rfl,rfl⟩,JHg JS4.has (fun a c w=>JSW a c w) 1 (.inr rfl)⟩
 |cons a p=>
  refine⟨.list 1 ((a::p).map (.int .i64)),.inr rfl,?_⟩;have:PT 28 [.list 1 ((a::p).map (.int .i64))] (.d (.list 1 ((a::p).map (.int .i64)))):=by
   refine JS4.pc ?_;simp only[go_sem,JS3,Va,Vv,Vc,Nat.reduceAdd,Nat.reduceEqDiff,Nat.reduceBEq,Nat.reduceLeDiff,reduceCtorEq,↓reduceIte]
   trace_state
   refine⟨sP,dC,by simp at hl;omega,?_⟩;intro y hy;have:y∈(a::p).map (Dat.int .i64):=sX hy;obtain⟨n,_,rfl⟩:=VC.1 this;rfl
  exact this.call trivial
def epR(q:Pn)(k:Int):Option Epd:=if decide (k<0)||decide (k≥(q.nodes.length:Int))then none else match q.nodes[k.toNat]? with
 |some n=>if n.kind !=21&&n.kind !=22 then none else epL n.text q.endpoints
 |none=>none
theorem walk13(q:Pn)(t:Str):PT 13 [J8 q,.str t] (.d (Jo ((epL t q.endpoints).getD zEp))):=by
 refine J3.Jk ok13.has fun hfit=>?_
 have hl:=(JJL (hfit _ (Vh))).2.1;clear hfit;refine ok13.pc ?_;simp only[go_sem,ir13,J8,Vv,Vc,simprocAttr];refine JK (fun n s=>∃k:Nat,k≤q.endpoints.length∧n=q.endpoints.length-k∧(∀(j:Nat) (h1:j<q.endpoints.length),j<k→(q.endpoints[j].name==t)=false)∧
  s=⟨[(1,.d (.str t)),(2,.ref 2 0),(4,.ref 4 0),(5,.d (.int .i64 k))],[(2,.box [.d (.int .i64 q.version),.d (.list 9 (q.schemas.map UB)),.d (.list 7 (q.endpoints.map Jo)),.d (.list 4 (q.services.map Uy)),.d (.list 20 (q.nodes.map XO))]),(4,.box [.d (.str []),.d (.int .i64 0),.d (.str []),.d (.int .i64 0),.d (.int .i64 0),.d (.int .i64 0),.d (.nil 1)])]⟩) ?_ ?_
 ·exact⟨_,_,Wk.refl _,0,Nat.zero_le _,rfl,sP,rfl⟩
 ·rintro n s ⟨k,hk,rfl,hinv,rfl⟩;by_cases hlt:k<q.endpoints.length
  ·have hx:=JU Jo hlt;have hd:=dT hlt;simp only[Jo]at hx;refine zz6 ?_;refine⟨⟨oM,oM⟩,dC,?_⟩;apply ik<;>intro hf
   ·rw[JJM hlt hf hinv];refine JPv ?_;refine⟨⟨oM,oM⟩,?_⟩;simp[Jo,Dat.canon,JG]
   ·refine⟨q.endpoints.length-(k+1),_,oM,Wk.less ?_,k+1,oM,rfl,fun j h1 hj=>?_,rfl⟩
    ·simp only[go_sem,JF k oM,Vv,Vc,simprocAttr]
    ·by_cases e:j=k
     ·subst e;exact hf
     ·exact hinv j h1 oM
  ·have hd:=dF hlt;simp only[go_sem,hd,Vv,Vc,simprocAttr];rw[JEz (fun j h=>hinv j h oM)];rfl
theorem walk11(q:Pn)(k:Int):PT 11 [J8 q,.int .i64 k] (.tup [.d (Jo ((epR q k).getD zEp)),.d (.bool (epR q k).isSome)]):=by
 refine J3.Jk ok11.has fun hfit=>?_
 obtain⟨l1,l2,l3,l4⟩:=JJL (hfit _ (Vh));have l5:∀x∈q.endpoints,x.widths.length≤68719476736:=by
  intro x hx;have h1:=hfit _ (Vh);simp only[J8,fits,Un,and_true]at h1;have:=UG.1 h1.2.2.1.2 _ (VC.2 ⟨x,hx,rfl⟩);simp only[Jo,fits,Un,Vc,and_true]at this;omega
 clear hfit;refine ok11.pc ?_;unfold epR;simp only[go_sem,ir11,J8,Vv,Vc,Nat.reduceAdd,Nat.reduceEqDiff,Nat.reduceBEq,Nat.reduceLeDiff,reduceCtorEq,↓reduceIte];refine sq (decide (k≥(q.nodes.length:Int))) ?_ ?_
 ·simp only[go_sem,Vv,Vc,Nat.reduceAdd,Nat.reduceEqDiff,Nat.reduceBEq,Nat.reduceLeDiff,reduceCtorEq,↓reduceIte]
 cases hc:(decide (k<0)||decide (k≥(q.nodes.length:Int)))
 ·simp only[Bool.or_eq_false_iff,decide_eq_false_iff_not]at hc;obtain⟨m,rfl⟩:∃m:Nat,k=(m:Int):=⟨k.toNat,oM⟩;have hm:m<q.nodes.length:=oM;have hc2:(decide ((m:Int)<0)||decide ((m:Int)≥(q.nodes.length:Int)))=false:=sO;have hx:=JU XO hm;rw[Vv,Vl hm];generalize q.nodes[m]=tn at*;have cE:=JN.clo (ds:=[.list 7 (q.endpoints.map Jo)]) (JRt q.endpoints (fun x _=>walk27 x tn) l2) rfl 6;simp only[XO,Dat.cells,Va,Vb,List.cons_append,List.nil_append]at hx cE;simp only[Vu,if_false];simp only[go_sem,hc2,hx,Vu,Vv,Vc,Nat.reduceAdd,Nat.reduceEqDiff,Nat.reduceBEq,Nat.reduceLeDiff,reduceCtorEq,↓reduceIte];refine⟨⟨oM,oM⟩,?_⟩;refine sq (tn.kind !=22) ?_ ?_
  ·simp only[go_sem,Vv,Vc,Nat.reduceAdd,Nat.reduceEqDiff,Nat.reduceBEq,Nat.reduceLeDiff,reduceCtorEq,↓reduceIte]
  cases hk:(tn.kind !=21&&tn.kind !=22)
  ·simp only[Vu,if_false];rcases JPA (fun e:Epd=>e.name==tn.text) q.endpoints with⟨e,hn⟩|⟨i,hi,e,hp,hj⟩
   ·rw[e]at cE;rw[JEz hn];have hd:decide ((-1:Int)<0)=true:=rfl;simp only[go_sem,hk,Vu,Vv,Vc,Nat.reduceAdd,Nat.reduceEqDiff,Nat.reduceBEq,Nat.reduceLeDiff,reduceCtorEq,↓reduceIte];refine wn cE ?_;simp only[go_sem,hd,Vv,Vc,Nat.reduceAdd,Nat.reduceEqDiff,Nat.reduceBEq,Nat.reduceLeDiff,reduceCtorEq,↓reduceIte];simp[Jo,zEp,Dat.canon,JG]
   ·rw[e]at cE;rw[JJM hi hp hj];have hd:decide ((i:Int)<0)=false:=sP;have hxe:=JU Jo hi;obtain⟨d,hdc,c28⟩:=JQu q.endpoints[i].widths (l5 _ (Vk hi));generalize q.endpoints[i]=ed at*;simp only[Jo]at hxe;rcases hdc with⟨rfl,hw⟩|rfl
    ·simp only[go_sem,hk,Vu,Vv,Vc,Nat.reduceAdd,Nat.reduceEqDiff,Nat.reduceBEq,Nat.reduceLeDiff,reduceCtorEq,↓reduceIte];refine wn cE ?_;simp only[go_sem,hd,hxe,Vu,Vv,Vc,Nat.reduceAdd,Nat.reduceEqDiff,Nat.reduceBEq,Nat.reduceLeDiff,reduceCtorEq,↓reduceIte];refine⟨⟨oM,oM⟩,?_⟩;refine wn c28 ?_;simp only[go_sem,Vv,Vc,Nat.reduceAdd,Nat.reduceEqDiff,Nat.reduceBEq,Nat.reduceLeDiff,reduceCtorEq,↓reduceIte];simp[Jo,Dat.canon,JG,hw]
    ·simp only[go_sem,hk,Vu,Vv,Vc,Nat.reduceAdd,Nat.reduceEqDiff,Nat.reduceBEq,Nat.reduceLeDiff,reduceCtorEq,↓reduceIte];refine wn cE ?_;simp only[go_sem,hd,hxe,Vu,Vv,Vc,Nat.reduceAdd,Nat.reduceEqDiff,Nat.reduceBEq,Nat.reduceLeDiff,reduceCtorEq,↓reduceIte];refine⟨⟨oM,oM⟩,?_⟩;refine wn c28 ?_;simp only[go_sem,Vv,Vc,Nat.reduceAdd,Nat.reduceEqDiff,Nat.reduceBEq,Nat.reduceLeDiff,reduceCtorEq,↓reduceIte];simp[Jo,Dat.canon,JG,XB]
  ·simp only[go_sem,hk,Vv,Vc,Nat.reduceAdd,Nat.reduceEqDiff,Nat.reduceBEq,Nat.reduceLeDiff,reduceCtorEq,↓reduceIte];simp[Jo,zEp,Dat.canon,JG]
 ·simp only[go_sem,hc,Vv,Vc,Nat.reduceAdd,Nat.reduceEqDiff,Nat.reduceBEq,Nat.reduceLeDiff,reduceCtorEq,↓reduceIte];simp[Jo,zEp,Dat.canon,JG]
def zC:Sch:=⟨[],0,.mk 0 0 0 0 [] [] []⟩
def scR(q:Pn)(k:Int):Option Sch:=if decide (k<0)||decide (k≥(q.nodes.length:Int))then none else match q.nodes[k.toNat]? with
 |some n=>if decide (n.schema<0)||decide (n.schema≥(q.schemas.length:Int))then none else q.schemas[n.schema.toNat]?
 |none=>none
theorem walk12(q:Pn)(k:Int):PT 12 [J8 q,.int .i64 k] (.tup [.d (UB ((scR q k).getD zC)),.d (.bool (scR q k).isSome)]):=by
 refine ok12.pc ?_;unfold scR;simp only[go_sem,ir12,J8,Vv,Vc,Nat.reduceAdd,Nat.reduceEqDiff,Nat.reduceBEq,Nat.reduceLeDiff,reduceCtorEq,↓reduceIte];refine sq (decide (k≥(q.nodes.length:Int))) ?_ ?_
 ·simp only[go_sem,Vv,Vc,Nat.reduceAdd,Nat.reduceEqDiff,Nat.reduceBEq,Nat.reduceLeDiff,reduceCtorEq,↓reduceIte]
 cases hc:(decide (k<0)||decide (k≥(q.nodes.length:Int)))
 ·simp only[Bool.or_eq_false_iff,decide_eq_false_iff_not]at hc;obtain⟨m,rfl⟩:∃m:Nat,k=(m:Int):=⟨k.toNat,oM⟩;have hm:m<q.nodes.length:=oM;have hc2:(decide ((m:Int)<0)||decide ((m:Int)≥(q.nodes.length:Int)))=false:=sO;have hx:=JU XO hm;rw[Vv,Vl hm];generalize q.nodes[m]=tn at*;simp only[XO]at hx;simp only[Vu,if_false];simp only[go_sem,hc2,hx,Vu,Vv,Vc,Nat.reduceAdd,Nat.reduceEqDiff,Nat.reduceBEq,Nat.reduceLeDiff,reduceCtorEq,↓reduceIte];refine⟨⟨oM,oM⟩,dC,?_⟩;cases hs:(decide (tn.schema<0)||decide (tn.schema≥(q.schemas.length:Int)))
  ·simp only[Bool.or_eq_false_iff,decide_eq_false_iff_not]at hs;have hs0:decide (tn.schema<0)=false:=sO;have hs1:decide (tn.schema≥(q.schemas.length:Int))=false:=sO;have hsl:tn.schema.toNat<q.schemas.length:=oM;have hy:=JU UB hsl;rw[Vl hsl];have c29:=(p29 q.schemas[tn.schema.toNat].type).call trivial;generalize q.schemas[tn.schema.toNat]=sc at*;simp only[UB]at hy;rw[Us]at c29;simp only[go_sem,hs0,hs1,hx,hy,Vu,Vv,Vc,Nat.reduceAdd,Nat.reduceEqDiff,Nat.reduceBEq,Nat.reduceLeDiff,reduceCtorEq,↓reduceIte];refine⟨⟨oM,oM⟩,dC,⟨oM,oM⟩,dC,⟨oM,oM⟩,dC,?_⟩;refine wn c29 ?_;simp only[go_sem,Vv,Vc,Nat.reduceAdd,Nat.reduceEqDiff,Nat.reduceBEq,Nat.reduceLeDiff,reduceCtorEq,↓reduceIte];simp[UB,Dat.canon,JG]
  ·refine sq (decide (tn.schema≥(q.schemas.length:Int))) ?_ ?_
   ·refine JPv ?_;exact⟨⟨oM,oM⟩,dC⟩
   simp only[go_sem,hs,Vv,Vc,Nat.reduceAdd,Nat.reduceEqDiff,Nat.reduceBEq,Nat.reduceLeDiff,reduceCtorEq,↓reduceIte];simp[UB,zC,Dat.canon,JG,Typ.kind,Typ.min,Typ.max,Typ.scale,Typ.words,Typ.elem,Typ.fields]
 ·simp only[go_sem,hc,Vv,Vc,Nat.reduceAdd,Nat.reduceEqDiff,Nat.reduceBEq,Nat.reduceLeDiff,reduceCtorEq,↓reduceIte];simp[UB,zC,Dat.canon,JG,Typ.kind,Typ.min,Typ.max,Typ.scale,Typ.words,Typ.elem,Typ.fields]
end Go.Proofs
