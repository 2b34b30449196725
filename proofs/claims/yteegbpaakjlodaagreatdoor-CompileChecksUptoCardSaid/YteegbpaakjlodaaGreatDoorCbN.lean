/- Part N of a proof. -/
import Derived.Test.YteegbpaakjlodaaGreatDoorCbM
import Derived.Test.YteegbpaakjlodaaGreatDoorCbC
import Derived.Test.YteegbpaakjlodaaGreatDoorCbA
import Derived.Test.YteegbpaakjlodaaGreatDoorCbF
import Derived.Test.YteegbpaakjlodaaGreatDoorProg
import Derived.ChangeAt
import Derived.RowKit
import Derived.Test.YteegbpaakjlodaaGreatDoorCbD
import Derived.OpenShut
import Derived.Carry
import Derived.LaidMore
import Derived.Deep.DeepWitnessRowRef
set_option linter.unusedVariables false
set_option linter.unusedSimpArgs false
set_option linter.unusedSectionVars false
set_option linter.constructorNameAsVariable false
set_option linter.unnecessarySimpa false
set_option maxRecDepth 10000
namespace Go.Proofs
open Go Av
def _root_.Av.Ste.ren(s:Ste)(n:Str):Ste:=.mk n s.kind s.number s.time s.limit s.text s.schema s.exprs s.rules s.calls s.branches
def _root_.Av.Ste.Yn(s:Ste)(b:List Brn):Ste:=.mk s.name s.kind s.number s.time s.limit s.text s.schema s.exprs s.rules s.calls b
def _root_.Av.Brn.JKN(b:Brn)(s:List Ste):Brn:=.mk b.cond s
theorem ZH{α:Type}{A B:List α}{x d:α}:(A++x::B).getD A.length d=x:=by simp[List.getD]
theorem JA9{α:Type}{A B:List α}{x:α}:(A++x::B)[A.length]? =some x:=sP
theorem JDe{α:Type}{A B:List α}{x y:α}:(A++x::B).set A.length y=A++y::B:=by
 rw[List.set_append_right _ _ (Nat.le_refl _),Nat.sub_self];rfl
theorem XP{α:Type}(f:α→Dat)(A B:List α)(x:α):(A++x::B).map f=A.map f++f x::B.map f:=sP
theorem Yl{α:Type}(f:α→Dat)(A:List α):A.length=(A.map f).length:=sP
theorem JGQ(f:Ste→Dat)(A B:List Ste)(x:Ste):nth ((A++x::B).map f) A.length=f x:=by
 rw[XP,Yl f A];exact ZH
theorem JOX(A B:List Ste)(x:Ste)(n:Str):setAt (.own 11 ((A++x::B).map owS)) [] A.length 0 (.str n)=.own 11 ((A++x.ren n::B).map owS):=by
 rw[XP,XP,Yl owS A];simp only[setAt,ZH,JDe];rw[Xd x,Xd (x.ren n)];rfl
theorem JAC{bs:List Brn}(h:bs≠[]):JOW bs=.own 2 (bs.map owB):=by cases bs with|nil=>exact absurd rfl h|cons a b=>rfl
theorem JBA{ss:List Ste}(h:ss≠[]):JDR ss=.own 11 (ss.map owS):=by cases ss with|nil=>exact absurd rfl h|cons a b=>rfl
theorem JSp(A B:List Ste)(x:Ste)(C D:List Brn)(br:Brn)(ss:List Ste):setAt (.own 11 ((A++x.Yn (C++br::D)::B).map owS)) [(A.length,10)] C.length 1 (JDR ss)=.own 11 ((A++x.Yn (C++br.JKN ss::D)::B).map owS):=by
 rw[XP,XP,Yl owS A];simp only[setAt,ZH,JDe];rw[Xd (x.Yn _),Xd (x.Yn _)];simp only[Ste.Yn,Ste.branches,JAC (List.append_ne_nil_of_right_ne_nil C (List.cons_ne_nil _ _)),Dat.cells,List.getD_cons_succ,List.getD_cons_zero,setAt,Uu];rw[XP,XP,Yl owB C];simp only[ZH,JDe,Uu,JAB br,JAB (br.JKN ss)];rfl
theorem JJ4(A B:List Ste)(x:Ste)(bs:List Brn)(h:bs≠[]):nodeAt (.own 11 ((A++x.Yn bs::B).map owS)) [(A.length,10)]=some (.own 2 (bs.map owB)):=by
 rw[XP,Yl owS A];simp only[nodeAt,cellAt,JA9,Option.bind_some];rw[Xd (x.Yn _)];simp only[Ste.Yn,Ste.branches,JAC h,Dat.cells,List.getElem?_cons_succ,List.getElem?_cons_zero,nodeAt]
theorem JQJ(A B:List Ste)(x:Ste)(C D:List Brn)(br:Brn)(h:br.steps≠[]):nodeAt (.own 11 ((A++x.Yn (C++br::D)::B).map owS)) [(A.length,10),(C.length,1)]=some (.own 11 (br.steps.map owS)):=by
 rw[XP,Yl owS A];simp only[nodeAt,cellAt,JA9,Option.bind_some];rw[Xd (x.Yn _)];simp only[Ste.Yn,Ste.branches,JAC (List.append_ne_nil_of_right_ne_nil C (List.cons_ne_nil _ _)),Dat.cells,List.getElem?_cons_succ,List.getElem?_cons_zero];rw[XP,Yl owB C];simp only[nodeAt,cellAt,JA9,Option.bind_some,JAB br,Dat.cells,List.getElem?_cons_succ,List.getElem?_cons_zero,JBA h]
theorem JSq(A B:List Ste)(x:Ste)(C D:List Brn)(br:Brn):Pos (.own 11 ((A++x.Yn (C++br::D)::B).map owS)) [(A.length,10)] C.length 1:=by
 rw[XP,Yl owS A];refine⟨_,_,by rw[JA9,Xd (x.Yn _)],rfl,?_⟩;simp only[Ste.Yn,Ste.branches,JAC (List.append_ne_nil_of_right_ne_nil C (List.cons_ne_nil _ _))];refine⟨[.list 5 (br.cond.map Jf),JDR br.steps],?_,sP⟩;rw[XP,Yl owB C,JA9,JAB]
theorem JAr(r:Int)(pl:List Int):∀(l:List Ste) (i:Int),(Yk r pl i l).length=l.length
 |[],_=>rfl
 |x::q,i=>by simp[Yk,JAr r pl q]
theorem JAs(r:Int)(pl:List Int):∀(l:List Brn) (i:Int),(JCM r pl i l).length=l.length
 |[],_=>rfl
 |x::q,i=>by simp[JCM,JAs r pl q]
theorem JHt(r:Int)(pl:List Int):∀(l:List Ste) (i:Int) (k:Nat) (h:k<l.length),(Yk r pl i l)[k]'(by rw[JAr];exact h)=nmS r (pl++[i+k]) l[k]
 |x::q,i,0,_=>by simp[Yk]
 |x::q,i,k+1,h=>by
  simp only[Yk,List.getElem_cons_succ];rw[JHt r pl q (i+1) k (sX h)];congr 3;omega
theorem JHu(r:Int)(pl:List Int):∀(l:List Brn) (i:Int) (k:Nat) (h:k<l.length),(JCM r pl i l)[k]'(by rw[JAs];exact h)=nmB r (pl++[i+k]) l[k]
 |x::q,i,0,_=>by simp[JCM]
 |x::q,i,k+1,h=>by
  simp only[JCM,List.getElem_cons_succ];rw[JHu r pl q (i+1) k (sX h)];congr 3;omega
theorem JOY(r:Int)(pl:List Int)(x:Ste):nmS r pl x=(x.ren (orS x.name (JCL r pl))).Yn (JCM r pl 0 x.branches):=by
 cases x;rfl
theorem JOZ(r:Int)(pl:List Int)(b:Brn):nmB r pl b=b.JKN (Yk r pl 0 b.steps):=by
 cases b;rfl
theorem JFj(x:Ste):x.Yn x.branches=x:=by cases x;rfl
theorem JIy(b:Brn):b.JKN b.steps=b:=by cases b;rfl
theorem JGR(x:Ste)(n:Str):(x.ren n).branches=x.branches:=rfl
abbrev TVn(r:Int)(c:Av)(v:Nat)(xs:List Int)(tv ts:Nat)(X:List Dat):List (Nat×Av.Obj):=[(1001,.box [c]),(1002,.box [.clo (.func 66) [] [.ref 1005 0]]),(1003,.box [.clo (.func 118) [] [.ref 1001 0,.ref 1002 0,.ref 1003 0]]),
 (1005,.box [.d (.int .i64 r)]),(1006,.row v 1 (xs.map (.int .i64))),(1008,.tre tv ts 3 X)]
theorem JDf(r:Int)(v v':Nat)(xs xs':List Int)(tv ts:Nat)(X X':List Dat)(c:Av)(n:Nat)(hc:c=.ms 1006 n∨∃k,c=.sub 1006 n 0 k):closed (JC (get (TVn r (.ms 1006 v) v xs tv ts X)) (TVn r c v' xs' tv ts X')):=by
 refine Jm ?_;rcases hc with rfl|⟨k,rfl⟩<;>simp[TVn,Ux,put,Je,J2,JS,JR,Ub,Av.get]
theorem JJ5{r:Int}{c:Av}{v:Nat}{xs:List Int}{tv ts:Nat}{X:List Dat}{i:Nat}(h:(get (TVn r c v xs tv ts X) i).isSome=true):1000≤i:=by
 simp only[TVn,Av.get]at h
 repeat' split at h
 all_goals first|(cases h;done)|omega
theorem conE(r:Int)(v:Nat)(xs:List Int)(tv ts:Nat)(X:List Dat):KT 118 [.d (.nil 11),.ref 1001 0,.ref 1002 0,.ref 1003 0] (TVn r (.ms 1006 v) v xs tv ts X) (.tup []) (TVn r (.sub 1006 v 0 xs.length) v xs tv ts X):=by
 refine JHl.con (k:=some false) (Nat.le_of_ble_eq_true rfl) (JDf r v v xs xs tv ts X X _ v (.inr ⟨_,rfl⟩)) trivial ?_;simp only[go_sem,TVn,JJy,Vv,Vc,simprocAttr];refine JK (fun n st=>st=⟨[(0,.d (.nil 11)),(1,.ref 1001 0),(2,.ref 1002 0),(3,.ref 1003 0),(8,.d (.int .i64 0)),(9,.d (.int .i64 0))],TVn r (.sub 1006 v 0 xs.length) v xs tv ts X⟩) ?_ ?_
 ·refine⟨0,_,(Wk.JLc 1001 0 1006 v 1 (xs.map (.int .i64)) [.ms 1006 v] rfl rfl rfl).trans (Wk.less ?_),rfl⟩;simp[go_sem,TVn]
 ·rintro n st rfl;simp only[go_sem,TVn,Int.lt_irrefl,decide_false,Vu,Vv,Vc,simprocAttr]
def JEo(r:Int)(l:List Ste):Prop:=∀(v:Nat) (xs:List Int) (o:List Wlk) (tv ts:Nat) (X X':List Dat) (p:List (Nat×Nat)) (k c:Nat),xs.length+2*J3 l≤400000000→Pos (.own 3 X) p k c→
 nodeAt (.own 3 X) (p++[(k,c)])=some (.own 11 (l.map owS))→.own 3 X'=setAt (.own 3 X) p k c (.own 11 ((Yk r xs 0 l).map owS))→
 KT 118 [.tr 1008 ⟨tv,ts,p++[(k,c)],none⟩,.ref 1001 0,.ref 1002 0,.ref 1003 0] (TVn r (.ms 1006 v) v xs tv ts X) (.tup [])
  (TVn r (.sub 1006 (UX r l 0 xs.length (v,xs,o)).1 0 xs.length) (UX r l 0 xs.length (v,xs,o)).1 (UX r l 0 xs.length (v,xs,o)).2.1 tv ts X')
theorem JRP{r:Int}{a:Av}{v:Nat}{xs:List Int}{tv ts:Nat}{X:List Dat}{v':Nat}{xs':List Int}{X':List Dat}{n:Nat}(ha:JR (get (TVn r (.ms 1006 v) v xs tv ts X)) a)(hr:a.ren (fun i=>i)=a)
  (h:KT 118 [a,.ref 1001 0,.ref 1002 0,.ref 1003 0] (TVn r (.ms 1006 v) v xs tv ts X) (.tup []) (TVn r (.sub 1006 v' 0 n) v' xs' tv ts X')):
  CT (.fn 118) [a,.ref 1001 0,.ref 1002 0,.ref 1003 0] ((TVn r (.ms 1006 v) v xs tv ts X).map fun x=>(x.1,some x.2)) (.tup []) (TVn r (.sub 1006 v' 0 n) v' xs' tv ts X'):=by
 have:=h.call (fun i=>i) (fun i hi=>JJ5 hi) (fun i j _ _ h=>h) (by
   intro c hc;simp only[VA,List.not_mem_nil,or_false]at hc;rcases hc with rfl|rfl|rfl|rfl
   ·exact ha
   all_goals simp[JR,Av.get]) (Jx (by simp[Je,J2,JS,JR,Ub,Av.get])) [] (by simp[Av.get]) (JDf r v v' xs xs' tv ts X X' _ v' (.inr ⟨_,rfl⟩)) trivial
 simp only[TVn,Va,Vb,Obj.ren,Av.ren,UN,YA,List.append_nil,hr]at this⊢;exact this
set_option maxHeartbeats 4000000 in
theorem JRQ(r:Int)(l:List Ste)(hne:l≠[])(h:∀x∈l,∀b∈x.branches,b.steps≠[]→JEo r b.steps):JEo r l:=by
 intro v xs o tv ts X X' p k c hx hpos hnX hX';refine Con.Ju JHl.has fun hfit=>?_
 generalize hR:UX r l 0 xs.length (v,xs,o)=R;clear hfit;have hl:l.length≤400000000:=by
  have:∀l:List Ste,l.length≤J3 l:=by
   intro l
   induction l with
   |nil=>simp[J3]
   |cons x q ih=>simp only[Vf,J3,JEZ];omega
  have:=this l;omega
 refine JHl.con (k:=some false) (Nat.le_of_ble_eq_true rfl) (JDf r v _ xs _ tv ts X X' _ _ (.inr ⟨_,rfl⟩)) trivial ?_;generalize hd:xs.length=d at*;generalize hN:Yk r xs 0 l=N at*;have hNl:N.length=l.length:=by rw[←hN,JAr]
 simp only[go_sem,TVn,JJy,hnX,Vv,Vc,Nat.reduceAdd,Nat.reduceEqDiff,Nat.reduceBEq,Nat.reduceLeDiff,reduceCtorEq,↓reduceIte];refine JK (fun n st=>∃(i:Nat) (S:PO) (Y:List Dat),i≤l.length∧n=l.length-i∧UX r (l.drop i) i d S=R∧d≤S.2.1.length∧S.2.1.take d=xs∧ .own 3 Y=setAt (.own 3 X) p k c (.own 11 ((N.take i++l.drop i).map owS))∧
  st=⟨[(0,.tr 1008 ⟨tv,ts,p++[(k,c)],none⟩),(1,.ref 1001 0),(2,.ref 1002 0),(3,.ref 1003 0),(8,.d (.int .i64 l.length)),(9,.d (.int .i64 i))],TVn r (.sub 1006 S.1 0 d) S.1 S.2.1 tv ts Y⟩) ?_ ?_
 ·refine⟨_,_,(Wk.JLc 1001 0 1006 v 1 (xs.map (.int .i64)) [.ms 1006 v] rfl rfl rfl).trans (Wk.less ?_),0,(v,xs,o),X,Nat.zero_le _,rfl,by simpa using hR,by simp[hd],List.take_of_length_le (by simp[hd]),?_,rfl⟩
  ·simp[go_sem,TVn,hd]
  ·rw[List.take_zero,List.drop_zero,List.nil_append,JEi hpos hnX]
 ·rintro n st ⟨i,S,Y,hi,rfl,hinv,hS,hSt,hY,rfl⟩;by_cases hlt:i<l.length
  ·have hdk:decide ((i:Int)<(l.length:Int))=true:=sO;have hV:=h _ (Vk hlt);have hszd:szS l[i]≤J3 l:=JEa (Vk hlt);have hNi:N[i]'oM=nmS r (xs++[(i:Int)]) l[i]:=by
    have:=JHt r xs l 0 i hlt;simp only[hN,Int.zero_add]at this;exact this
   have hA:(N.take i).length=i:=by rw[List.length_take];omega
   rw[JEZ]at hszd;rw[Vq hlt]at hY;rw[Vq hlt,UX,JJz,hSt]at hinv;have hNt:N.take (i+1)=N.take i++[nmS r (xs++[(i:Int)]) l[i]]:=by rw[List.take_succ_eq_append_getElem oM,hNi]
   generalize hxx:l[i]=x at*;generalize hAA:N.take i=A at*;generalize hBB:l.drop (i+1)=B at*;have hnode:nodeAt (.own 3 Y) (p++[(k,c)])=some (.own 11 ((A++x::B).map owS)):=by
    rw[hY];exact Xc hpos _ []
   have hnth:nth ((A++x::B).map owS) i=owS x:=by rw[←hA];exact JGQ owS A B x
   have hlenL:((A++x::B).map owS).length=l.length:=by
    have:=congrArg List.length hBB;simp only[List.length_drop]at this;simp only[Vc,Vg,Vf,hA];omega
   generalize hnm:orS x.name (JCL r (xs++[(i:Int)]))=nm at*;obtain⟨Y1,hY1⟩:∃Y1,setAt (.own 3 Y) (p++[(k,c)]) i 0 (.str nm)=.own 3 Y1:=⟨_,(JHk _ _ _ _ _ _).symm⟩;have hY1': .own 3 Y1=setAt (.own 3 X) p k c (.own 11 ((A++x.ren nm::B).map owS)):=by
    rw[←hY1,hY,JCu hpos,←JOX,hA]
   have hnode1:nodeAt (.own 3 Y1) (p++[(k,c)])=some (.own 11 ((A++x.ren nm::B).map owS)):=by
    rw[hY1'];exact Xc hpos _ []
   have hc:=call66 (S.1+1) tv ts (p++[(k,c)]) i r (xs++[(i:Int)]) Y Y1 _ x (by simp[hd];omega) sP hnode (by rw[hlenL];exact hlt) hnth (by rw[hnm];exact hY1);rw[Vw]at hc;simp only[Va,Vb]at hc;have hS2:List.take d (List.map (Dat.int .i64) S.2.1)=xs.map (.int .i64):=by rw[←List.map_take,hSt]
   have hnth1:nth ((A++x.ren nm::B).map owS) i=owS (x.ren nm):=by rw[←hA];exact JGQ owS A B (x.ren nm)
   have hlenL1:((A++x.ren nm::B).map owS).length=l.length:=by
    have:=congrArg List.length hBB;simp only[List.length_drop]at this;simp only[Vc,Vg,Vf,hA];omega
   simp only[go_sem,TVn,hdk,hnode,hS2,hlenL,Vv,Vc,Nat.reduceAdd,Nat.reduceEqDiff,Nat.reduceBEq,Nat.reduceLeDiff,reduceCtorEq,↓reduceIte];refine⟨sP,⟨oM,oM⟩,⟨oM,oM⟩,JT rfl hc ⟨rfl,rfl,rfl,trivial⟩ ?_⟩;by_cases hbn:x.branches=[]
   ·have hrow:owS (x.ren nm)=.agg [.str nm,.int .i64 x.kind,.int .i64 x.number,.int .i64 x.time,.int .i64 x.limit,.str x.text,.str x.schema,.list 5 (x.exprs.map Jf),.list 6 (x.rules.map UR),.list 2 (x.calls.map JW),.nil 2]:=by
     rw[Xd,JGR,hbn];rfl
    rw[hrow]at hnth1;simp only[go_sem,hnode1,hnth1,hlenL1,Vv,Vc,Nat.reduceAdd,Nat.reduceEqDiff,Nat.reduceBEq,Nat.reduceLeDiff,reduceCtorEq,↓reduceIte];refine⟨⟨oM,oM⟩,⟨oM,dC⟩,?_⟩;rw[hbn,Xw]at hinv;refine JK (fun n st=>st=⟨[(0,.tr 1008 ⟨tv,ts,p++[(k,c)],none⟩),(1,.ref 1001 0),(2,.ref 1002 0),(3,.ref 1003 0),(8,.d (.int .i64 l.length)),(9,.d (.int .i64 i)),(5,.d (.int .i64 i)),(27,.d (.int .i64 0)),(28,.d (.int .i64 0))],TVn r (.sub 1006 (S.1+1) 0 (d+1)) (S.1+1) (xs++[(i:Int)]) tv ts Y1⟩) ?_ ?_
    ·refine⟨0,_,(Wk.JLc 1001 0 1006 (S.1+1) 1 _ [.ms 1006 (S.1+1)] rfl rfl rfl).trans (Wk.less ?_),rfl⟩;simp[go_sem,TVn,hd]
    ·rintro n st rfl;have e3:IntKind.i64.wrap (((d+1:Nat):Int)-1)=((d:Nat):Int):=XO (d+1) oM oM;have e4:((d:Int)-0).toNat=d:=oM;have e5:Int.toNat 0=0:=rfl;have e6:min (d+1) (xs++[(i:Int)]).length=d+1:=by simp[hd]
     simp only[go_sem,TVn,Int.lt_irrefl,decide_false,Vu,List.length_take,List.drop_zero,e3,e6,Vv,Vc,Nat.reduceAdd,Nat.reduceEqDiff,Nat.reduceBEq,Nat.reduceLeDiff,reduceCtorEq,↓reduceIte];refine⟨⟨oM,oM,oM⟩,l.length-(i+1),_,oM,Wk.less ?_,i+1,(S.1+1,xs++[(i:Int)],S.2.2++[Wlk.mk r (xs++[(i:Int)]) x]),Y1,oM,rfl,by rw[hBB];simpa using hinv,by simp[hd],by simp[←hd],?_,rfl⟩
     ·simp only[go_sem,TVn,e4,e5,JE i oM,Vv,Vc,Nat.reduceAdd,Nat.reduceEqDiff,Nat.reduceBEq,Nat.reduceLeDiff,reduceCtorEq,↓reduceIte]
     ·rw[hNt,hBB,List.append_assoc,hY1',JOY,hnm,hbn,JCM];have:=JFj (x.ren nm);rw[JGR,hbn]at this;rw[this];rfl
   ·have hrow:owS (x.ren nm)=.agg [.str nm,.int .i64 x.kind,.int .i64 x.number,.int .i64 x.time,.int .i64 x.limit,.str x.text,.str x.schema,.list 5 (x.exprs.map Jf),.list 6 (x.rules.map UR),.list 2 (x.calls.map JW),.own 2 (x.branches.map owB)]:=by
     rw[Xd,JGR,JAC hbn];rfl
    rw[hrow]at hnth1;have hnodeb:nodeAt (.own 3 Y1) (p++[(k,c)]++[(i,10)])=some (.own 2 (x.branches.map owB)):=by
     rw[hY1',List.append_assoc];have:=JJ4 A B (x.ren nm) x.branches hbn;rw[show(x.ren nm).Yn x.branches=x.ren nm from rfl,hA]at this;exact(Xc hpos _ [(i,10)]).trans this
    simp only[go_sem,hnode1,hnth1,hlenL1,hnodeb,Vv,Vc,Nat.reduceAdd,Nat.reduceEqDiff,Nat.reduceBEq,Nat.reduceLeDiff,reduceCtorEq,↓reduceIte];refine⟨⟨oM,oM⟩,⟨oM,dC⟩,?_⟩;generalize hbs:x.branches=bs at*;generalize hRB:Xw r bs 0 (d+1) _=RB at hinv;generalize hNB:JCM r (xs++[(i:Int)]) 0 bs=NB at*;refine JK (fun n st=>∃(b:Nat) (T:PO) (Z:List Dat),b≤bs.length∧n=bs.length-b∧Xw r (bs.drop b) b (d+1) T=RB∧d+1≤T.2.1.length∧T.2.1.take (d+1)=xs++[(i:Int)]∧
     .own 3 Z=setAt (.own 3 X) p k c (.own 11 ((A++(x.ren nm).Yn (NB.take b++bs.drop b)::B).map owS))∧
     st=⟨[(0,.tr 1008 ⟨tv,ts,p++[(k,c)],none⟩),(1,.ref 1001 0),(2,.ref 1002 0),(3,.ref 1003 0),(8,.d (.int .i64 l.length)),(9,.d (.int .i64 i)),(5,.d (.int .i64 i)),(27,.d (.int .i64 bs.length)),(28,.d (.int .i64 b))],TVn r (.sub 1006 T.1 0 (d+1)) T.1 T.2.1 tv ts Z⟩) ?_ ?_
    ·refine⟨_,_,(Wk.JLc 1001 0 1006 (S.1+1) 1 _ [.ms 1006 (S.1+1)] rfl rfl rfl).trans (Wk.less ?_),0,(S.1+1,xs++[(i:Int)],S.2.2++[Wlk.mk r (xs++[(i:Int)]) x]),Y1,Nat.zero_le _,rfl,by simpa using hRB,by simp[hd],List.take_of_length_le (by simp[hd]),?_,rfl⟩
     ·simp[go_sem,TVn,hd]
     ·have:=JFj (x.ren nm);rw[JGR,hbs]at this;rw[hY1',List.take_zero,List.drop_zero,List.nil_append,this]
    ·have hbsl:bs.length≤400000000:=by
      have:∀l:List Brn,l.length≤XN l:=by
       intro l
       induction l with
       |nil=>simp[XN]
       |cons x q ih=>simp only[Vf,XN,JAm];omega
      have:=this bs;omega
     rintro n st ⟨b,T,Z,hbk,rfl,hinv2,hT,hTt,hZ,rfl⟩;by_cases hbl:b<bs.length
     ·have hdb:decide ((b:Int)<(bs.length:Int))=true:=sO;have hszb:szB bs[b]≤XN bs:=JEb (Vk hbl);have hVb:=hV _ (Vk hbl);have hNBl:NB.length=bs.length:=by rw[←hNB,JAs]
      have hNBb:NB[b]'oM=nmB r (xs++[(i:Int)]++[(b:Int)]) bs[b]:=by
       have:=JHu r (xs++[(i:Int)]) bs 0 b hbl;simp only[hNB,Int.zero_add]at this;exact this
      have hNBt:NB.take (b+1)=NB.take b++[nmB r (xs++[(i:Int)]++[(b:Int)]) bs[b]]:=by rw[List.take_succ_eq_append_getElem oM,hNBb]
      have hC:(NB.take b).length=b:=by rw[List.length_take];omega
      rw[Vq hbl]at hZ;rw[Vq hbl,Xw,JJ0,hTt]at hinv2;rw[JAm]at hszb;generalize bs[b]=br at*;generalize hCC:NB.take b=C at*;generalize hDD:bs.drop (b+1)=D at*;have hDl:C.length+(br::D).length=bs.length:=by
       have:=congrArg List.length hDD;simp only[List.length_drop]at this;simp only[Vf];omega
      have hnodeZ:nodeAt (.own 3 Z) (p++[(k,c)])=some (.own 11 ((A++(x.ren nm).Yn (C++br::D)::B).map owS)):=by
       rw[hZ];exact Xc hpos _ []
      have hlenZ:((A++(x.ren nm).Yn (C++br::D)::B).map owS).length=l.length:=by
       have:=congrArg List.length hBB;simp only[List.length_drop]at this;simp only[Vc,Vg,Vf,hA];omega
      have hnthZ:nth ((A++(x.ren nm).Yn (C++br::D)::B).map owS) i=.agg [.str nm,.int .i64 x.kind,.int .i64 x.number,.int .i64 x.time,.int .i64 x.limit,.str x.text,.str x.schema,.list 5 (x.exprs.map Jf),.list 6 (x.rules.map UR),.list 2 (x.calls.map JW),.own 2 ((C++br::D).map owB)]:=by
       have:=JGQ owS A B ((x.ren nm).Yn (C++br::D));rw[hA]at this;rw[this,Xd,←JAC (List.append_ne_nil_of_right_ne_nil C (List.cons_ne_nil br D))];rfl
      have hnodeZb:nodeAt (.own 3 Z) (p++[(k,c)]++[(i,10)])=some (.own 2 ((C++br::D).map owB)):=by
       rw[hZ,List.append_assoc];have:=JJ4 A B (x.ren nm) (C++br::D) (List.append_ne_nil_of_right_ne_nil C (List.cons_ne_nil br D));rw[hA]at this;exact(Xc hpos _ [(i,10)]).trans this
      have hlenb:((C++br::D).map owB).length=bs.length:=by simp only[Vc,Vg];exact hDl
      have hnthb:nth ((C++br::D).map owB) b=.agg [.list 5 (br.cond.map Jf),JDR br.steps]:=by
       rw[XP,←JAB];have:(C.map owB).length=b:=by rw[Vc,hC]
       rw[←this];exact ZH
      have hS3:List.take (d+1) (List.map (Dat.int .i64) T.2.1)=(xs++[(i:Int)]).map (.int .i64):=by rw[←List.map_take,hTt]
      by_cases hsn:br.steps=[]
      ·rw[hsn,show JDR []=.nil 11 from rfl]at hnthb;have hc2:=JRP (by simp[JR]) rfl (conE r (T.1+1) (xs++[(i:Int)]++[(b:Int)]) tv ts Z);rw[hsn,UX]at hinv2;simp only[TVn,Vw,Va,Vb,Vg,Vf,Vm,hd,Nat.zero_add]at hc2;simp only[Vw,Va,Vb]at hS3;simp only[go_sem,TVn,hdb,hnodeZ,hnthZ,hnodeZb,hnthb,hlenZ,hlenb,hS3,Vv,Vc,Nat.reduceAdd,Nat.reduceEqDiff,Nat.reduceBEq,Nat.reduceLeDiff,reduceCtorEq,↓reduceIte];refine⟨sP,⟨oM,oM⟩,⟨oM,oM⟩,⟨oM,dC⟩,⟨oM,oM⟩,⟨oM,dC⟩,JT rfl hc2 ⟨rfl,rfl,rfl,rfl,rfl,rfl,trivial⟩ ?_⟩;obtain⟨U,hU0⟩:∃U:PO,U=(T.1+1,xs++[(i:Int)]++[(b:Int)],T.2.2):=⟨_,rfl⟩;have hUinv:Xw r D (b+1) (d+1) U=RB:=by rw[hU0];exact hinv2
       have hU:d+1+1≤U.2.1.length:=by rw[hU0];simp[hd]
       have hUt1:U.2.1.take (d+1)=xs++[(i:Int)]:=by
        rw[hU0];show List.take _ (xs++[(i:Int)]++[(b:Int)])=_;rw[List.take_append_of_le_length (by simp[hd]),List.take_of_length_le (by simp[hd])]
       obtain⟨Z',hZ0⟩:∃Z':List Dat,Z'=Z:=⟨_,rfl⟩;have hZ': .own 3 Z'=setAt (.own 3 X) p k c (.own 11 ((A++(x.ren nm).Yn (C++nmB r (xs++[(i:Int)]++[(b:Int)]) br::D)::B).map owS)):=by
        rw[hZ0,hZ,JOZ,hsn,Yk,←hsn,JIy]
       rw[show(T.1+1)=U.1 by rw[hU0],show List.map (Dat.int .i64) xs++[Dat.int .i64 (i:Int)]++[Dat.int .i64 (b:Int)]=U.2.1.map (.int .i64) by rw[hU0];simp,←hZ0];have e2:min (d+1+1) U.2.1.length=d+1+1:=oM;have e3:IntKind.i64.wrap (((d+1+1:Nat):Int)-1)=((d+1:Nat):Int):=XO (d+2) oM oM;have e4:(((d+1:Nat):Int)-0).toNat=d+1:=oM;have e5:Int.toNat 0=0:=rfl;simp only[go_sem,List.length_take,List.drop_zero,e2,e3,Vv,Vc,Nat.reduceAdd,Nat.reduceEqDiff,Nat.reduceBEq,Nat.reduceLeDiff,reduceCtorEq,↓reduceIte];refine⟨⟨oM,oM,oM⟩,bs.length-(b+1),_,oM,Wk.less ?_,b+1,U,Z',oM,rfl,by rw[hDD];simpa using hUinv,oM,hUt1,?_,rfl⟩
       ·simp only[go_sem,TVn,e4,e5,JE b oM,Vv,Vc,Nat.reduceAdd,Nat.reduceEqDiff,Nat.reduceBEq,Nat.reduceLeDiff,reduceCtorEq,↓reduceIte]
       ·rw[hZ',hNBt,hDD,List.append_assoc C];rfl
      ·have hnodeZs:nodeAt (.own 3 Z) (p++[(k,c)]++[(i,10)]++[(b,1)])=some (.own 11 (br.steps.map owS)):=by
        rw[hZ,List.append_assoc,List.append_assoc];have:=JQJ A B (x.ren nm) C D br hsn;rw[hA,hC]at this;exact(Xc hpos _ [(i,10),(b,1)]).trans this
       have hposZ:Pos (.own 3 Z) (p++[(k,c)]++[(i,10)]) b 1:=by
        rw[hZ,List.append_assoc];have:=JSq A B (x.ren nm) C D br;rw[hA,hC]at this;exact JJx hpos _ [(i,10)] b 1 this
       rw[JBA hsn]at hnthb;have hlen2:(xs++[(i:Int)]++[(b:Int)]).length=d+1+1:=by simp[hd]
       obtain⟨Z',hZ0⟩:∃Z',.own 3 Z'=setAt (.own 3 Z) (p++[(k,c)]++[(i,10)]) b 1 (.own 11 ((Yk r (xs++[(i:Int)]++[(b:Int)]) 0 br.steps).map owS)):=⟨_,JHk _ _ _ _ _ _⟩;have hZ': .own 3 Z'=setAt (.own 3 X) p k c (.own 11 ((A++(x.ren nm).Yn (C++nmB r (xs++[(i:Int)]++[(b:Int)]) br::D)::B).map owS)):=by
        have hne2:Yk r (xs++[(i:Int)]++[(b:Int)]) 0 br.steps≠[]:=by
         intro e;have:=congrArg List.length e;rw[JAr]at this;exact hsn (List.eq_nil_of_length_eq_zero this)
        have h1:=JSp A B (x.ren nm) C D br (Yk r (xs++[(i:Int)]++[(b:Int)]) 0 br.steps);rw[hA,hC,JBA hne2]at h1;rw[hZ0,hZ,List.append_assoc];exact(JCu hpos _ [(i,10)] b 1 _).trans (by rw[h1,JOZ])
       have hc2:=JRP (by simp[JR,Av.get]) rfl (hVb hsn (T.1+1) (xs++[(i:Int)]++[(b:Int)]) T.2.2 tv ts Z Z' (p++[(k,c)]++[(i,10)]) b 1 (by rw[hlen2];omega) hposZ hnodeZs hZ0);rw[hlen2]at hc2;have hkeep:=JAA r br.steps 0 (d+1+1) (T.1+1,xs++[(i:Int)]++[(b:Int)],T.2.2) (by show _≤List.length _;rw[hlen2];omega);have hUinv:Xw r D (b+1) (d+1) (UX r br.steps 0 (d+1+1) (T.1+1,xs++[(i:Int)]++[(b:Int)],T.2.2))=RB:=hinv2;generalize hU0:UX r br.steps 0 (d+1+1) (T.1+1,xs++[(i:Int)]++[(b:Int)],T.2.2)=U at*;have hU:d+1+1≤U.2.1.length:=hkeep.1;have hUt1:U.2.1.take (d+1)=xs++[(i:Int)]:=by
        have:=congrArg (List.take (d+1)) hkeep.2;rw[List.take_take,show min (d+1) (d+1+1)=d+1 by omega]at this;rw[this];show List.take _ (List.take _ (xs++[(i:Int)]++[(b:Int)]))=_;rw[List.take_take,show min (d+1) (d+1+1)=d+1 by omega,List.take_append_of_le_length (by simp[hd]),List.take_of_length_le (by simp[hd])]
       simp only[TVn,Vw,Va,Vb]at hc2;simp only[Vw,Va,Vb]at hS3;simp only[go_sem,TVn,hdb,hnodeZ,hnthZ,hnodeZb,hnthb,hlenZ,hlenb,hS3,Vv,Vc,Nat.reduceAdd,Nat.reduceEqDiff,Nat.reduceBEq,Nat.reduceLeDiff,reduceCtorEq,↓reduceIte];refine⟨sP,⟨oM,oM⟩,⟨oM,oM⟩,⟨oM,dC⟩,⟨oM,oM⟩,⟨oM,dC⟩,JT rfl hc2 ⟨rfl,rfl,rfl,rfl,rfl,rfl,trivial⟩ ?_⟩;have e2:min (d+1+1) U.2.1.length=d+1+1:=oM;have e3:IntKind.i64.wrap (((d+1+1:Nat):Int)-1)=((d+1:Nat):Int):=XO (d+2) oM oM;have e4:(((d+1:Nat):Int)-0).toNat=d+1:=oM;have e5:Int.toNat 0=0:=rfl;simp only[go_sem,List.length_take,List.drop_zero,e2,e3,Vv,Vc,Nat.reduceAdd,Nat.reduceEqDiff,Nat.reduceBEq,Nat.reduceLeDiff,reduceCtorEq,↓reduceIte];refine⟨⟨oM,oM,oM⟩,bs.length-(b+1),_,oM,Wk.less ?_,b+1,U,Z',oM,rfl,by rw[hDD];simpa using hUinv,oM,hUt1,?_,rfl⟩
       ·simp only[go_sem,TVn,e4,e5,JE b oM,Vv,Vc,Nat.reduceAdd,Nat.reduceEqDiff,Nat.reduceBEq,Nat.reduceLeDiff,reduceCtorEq,↓reduceIte]
       ·rw[hZ',hNBt,hDD,List.append_assoc C];rfl
     ·have hdb:decide ((b:Int)<(bs.length:Int))=false:=sO;obtain rfl:b=bs.length:=oM;rw[List.drop_length,Xw]at hinv2;subst hinv2;have hNBl:NB.length=bs.length:=by rw[←hNB,JAs]
      have e2:min (d+1) T.2.1.length=d+1:=oM;have e3:IntKind.i64.wrap (((d+1:Nat):Int)-1)=((d:Nat):Int):=XO (d+1) oM oM;have e4:((d:Int)-0).toNat=d:=oM;have e5:Int.toNat 0=0:=rfl;simp only[go_sem,TVn,hdb,List.length_take,List.drop_zero,e2,e3,Vv,Vc,Nat.reduceAdd,Nat.reduceEqDiff,Nat.reduceBEq,Nat.reduceLeDiff,reduceCtorEq,↓reduceIte];refine⟨⟨oM,oM,oM⟩,l.length-(i+1),_,oM,Wk.less ?_,i+1,T,Z,oM,rfl,by rw[hBB];simpa using hinv,oM,?_,?_,rfl⟩
      ·simp only[go_sem,TVn,e4,e5,JE i oM,Vv,Vc,Nat.reduceAdd,Nat.reduceEqDiff,Nat.reduceBEq,Nat.reduceLeDiff,reduceCtorEq,↓reduceIte]
      ·have:=congrArg (List.take d) hTt;rw[List.take_take,show min d (d+1)=d by omega]at this;rw[this];simp[←hd]
      ·rw[hZ,hNt,hBB,List.append_assoc A,JOY,hnm,hbs,hNB,List.drop_length,List.append_nil,←hNBl,List.take_length];rfl
  ·have hdk:decide ((i:Int)<(l.length:Int))=false:=sO;obtain rfl:i=l.length:=oM;rw[List.drop_length,UX]at hinv;subst hinv;rw[List.drop_length,List.append_nil,←hNl,List.take_length,←hX']at hY;obtain rfl:Y=X':=by injection hY
   simp only[go_sem,TVn,hdk,Vv,Vc,Nat.reduceAdd,Nat.reduceEqDiff,Nat.reduceBEq,Nat.reduceLeDiff,reduceCtorEq,↓reduceIte]
mutual
theorem vNs(r:Int):∀(l:List Ste),∀x∈l,∀b∈x.branches,b.steps≠[]→JEo r b.steps
 |[],x,h,_,_,_=>by cases h
 |v::q,x,h,b,hb,hn=>by
  by_cases e:x=v
  ·rw[e]at hb;exact vNS r v b hb hn
  ·exact vNs r q x ((VA.1 h).resolve_left e) b hb hn
theorem vNS(r:Int):∀(x:Ste),∀b∈x.branches,b.steps≠[]→JEo r b.steps
 |.mk n k u t l x c e ru a bs=>vNbs r bs
theorem vNbs(r:Int):∀(l:List Brn),∀b∈l,b.steps≠[]→JEo r b.steps
 |[],b,h,_=>by cases h
 |v::q,b,h,hn=>by
  by_cases e:b=v
  ·rw[e]at hn⊢;exact vNB r v hn
  ·exact vNbs r q b ((VA.1 h).resolve_left e) hn
theorem vNB(r:Int):∀(b:Brn),b.steps≠[]→JEo r b.steps
 |.mk w s,hn=>JRQ r s hn (vNs r s)
end
theorem wN(r:Int)(l:List Ste)(hne:l≠[]):JEo r l:=JRQ r l hne (vNs r l)
theorem JHv{r:Int}{c:Av}{v:Nat}{xs:List Int}{tv ts:Nat}{X:List Dat}{c':Av}{v':Nat}{xs':List Int}{X':List Dat}{i:Nat}(h:(JC (get (TVn r c v xs tv ts X)) (TVn r c' v' xs' tv ts X') i).isSome=true):i=1001∨i=1002∨i=1003∨i=1005∨i=1006∨i=1008:=by
 refine Decidable.byContradiction fun hn=>?_
 simp only[not_or]at hn;obtain⟨a1,a2,a3,a5,a6,a7⟩:=hn;simp[TVn,JC,upd,Av.get,a1,a2,a3,a5,a6,a7,Ne.symm a1,Ne.symm a2,Ne.symm a3,Ne.symm a5,Ne.symm a6,Ne.symm a7]at h
theorem JLQ{i j:Nat}(hi:i=1001∨i=1002∨i=1003∨i=1005∨i=1006∨i=1008)(hj:j=1001∨j=1002∨j=1003∨j=1005∨j=1006∨j=1008)(h:JE6 i=JE6 j):i=j:=by
 rcases hi with rfl|rfl|rfl|rfl|rfl|rfl<;>rcases hj with rfl|rfl|rfl|rfl|rfl|rfl<;>first|rfl|(revert h;decide)
theorem JSr{r:Int}{a:Av}{tv ts:Nat}{X X':List Dat}{v':Nat}{xs':List Int}(ha:JR (get (TVn r (.ms 1006 0) 0 [] tv ts X)) a)(hr:a.ren JE6=a)
  (hw:KT 118 [a,.ref 1001 0,.ref 1002 0,.ref 1003 0] (TVn r (.ms 1006 0) 0 [] tv ts X) (.tup []) (TVn r (.sub 1006 v' 0 0) v' xs' tv ts X')):
  CT (.fn 118) [a,.ref 4 0,.ref 3 0,.ref 5 0]
   [(4,some (.box [.d (.nil 1)])),(6,none),(3,some (.box [.clo (.func 66) [] [.ref 1005 0]])),(5,some (.box [.clo (.func 118) [] [.ref 4 0,.ref 3 0,.ref 5 0]])),(1005,some (.box [.d (.int .i64 r)])),(1008,some (.tre tv ts 3 X))] (.tup [])
   [(4,.box [.sub 6 v' 0 0]),(3,.box [.clo (.func 66) [] [.ref 1005 0]]),(5,.box [.clo (.func 118) [] [.ref 4 0,.ref 3 0,.ref 5 0]]),(1005,.box [.d (.int .i64 r)]),(6,.row v' 1 (xs'.map (.int .i64))),(1008,.tre tv ts 3 X')]:=by
 have h:=hw.call JE6 (fun i hi=>JJ5 hi) (fun i j hi hj=>JLQ (JHv hi) (JHv hj)) (by
   intro c hc;simp only[VA,List.not_mem_nil,or_false]at hc;rcases hc with rfl|rfl|rfl|rfl
   ·exact ha
   all_goals simp[JR,Av.get]) (Jx (by simp[Je,J2,JS,JR,Ub,Av.get])) [] (by simp[Av.get]) (JDf r 0 v' [] xs' tv ts X X' _ v' (.inr ⟨_,rfl⟩)) trivial
 simp only[TVn,Va,Vb,Vm,Obj.ren,Av.ren,UN,JE6,YA,List.append_nil,Nat.reduceEqDiff,↓reduceIte]at h;rw[show a.ren (fun i=>if i=1001 then 4 else if i=1002 then 3 else if i=1003 then 5 else if i=1006 then 6 else i)=a from hr]at h;refine JQ.JLb (JQ.JJH (j:=0) (JQ.JLb h ?_) ?_ dC rfl dC rfl rfl) (fun e he=>he)
 ·simp
 ·simp
abbrev TW(r:Int)(tv ts:Nat)(X:List Dat):List (Nat×Av.Obj):=[(1005,.box [.d (.int .i64 r)]),(1008,.tre tv ts 3 X)]
theorem JOa(r:Int)(a:Av)(tv ts:Nat)(X X':List Dat)(v':Nat)(xs':List Int)(ha:JR (get (TW r tv ts X)) a)(ha2:JR (get (TVn r (.ms 1006 0) 0 [] tv ts X)) a)(hr:a.ren JE6=a)
  (hw:KT 118 [a,.ref 1001 0,.ref 1002 0,.ref 1003 0] (TVn r (.ms 1006 0) 0 [] tv ts X) (.tup []) (TVn r (.sub 1006 v' 0 0) v' xs' tv ts X')):
  KT 65 [a,.clo (.func 66) [] [.ref 1005 0]] (TW r tv ts X) (.tup []) (TW r tv ts X'):=by
 refine ok65.con (k:=some false) (Nat.le_of_ble_eq_true rfl) (Jm (by simp[TW,Ux,put,Je,J2,JS,JR,Av.get])) trivial ?_;have hc:=JSr ha2 hr hw;simp only[go_sem,TW,JSe,Vv,Vc,simprocAttr];refine JT rfl hc ⟨rfl,rfl,rfl,rfl,rfl,rfl,trivial⟩ ?_;simp only[go_sem,Vv,Vc,simprocAttr]
theorem visN(r:Int)(l:List Ste)(hl:J3 l≤100000000)(tv ts:Nat)(X X':List Dat)(p:List (Nat×Nat))(k c:Nat)(hne:l≠[])(hpos:Pos (.own 3 X) p k c)
  (hn:nodeAt (.own 3 X) (p++[(k,c)])=some (.own 11 (l.map owS)))(hX: .own 3 X'=setAt (.own 3 X) p k c (.own 11 ((Yk r [] 0 l).map owS))):
  KT 65 [.tr 1008 ⟨tv,ts,p++[(k,c)],none⟩,.clo (.func 66) [] [.ref 1005 0]] (TW r tv ts X) (.tup []) (TW r tv ts X'):=
 JOa r _ tv ts X X' _ _ (by simp[JR,Av.get]) (by simp[JR,Av.get]) rfl (wN r l hne 0 [] [] tv ts X X' p k c sO hpos hn hX)
theorem visE(r:Int)(tv ts:Nat)(X:List Dat):KT 65 [.d (.nil 11),.clo (.func 66) [] [.ref 1005 0]] (TW r tv ts X) (.tup []) (TW r tv ts X):=
 JOa r _ tv ts X X _ _ (by simp[JR]) (by simp[JR]) rfl (conE r 0 [] tv ts X)
end Go.Proofs
namespace Go.Proofs
open Go Av
@[instance_reducible] def JQK:Rls:={rl:=fun n=>n==1,tr:=fun n=>n==11||n==2}
attribute [local instance 2000] JQK
theorem JGS(n:Nat): @Rls.rl JQK n=(n==1):=rfl
theorem JHw(n:Nat): @Rls.tr JQK n=(n==11||n==2):=rfl
theorem YT(sz n:Nat): @Yx JQK sz n=(sz==1&&n==1):=by unfold Yx;rw[JGS];show((sz==1&&n==1)||(false&&_))=_;rw[Bool.false_and,Bool.or_false]
def stA(s:Ste)(i:Nat):Av:=.agg [.d (.str s.name),.d (.int .i64 s.kind),.d (.int .i64 s.number),.d (.int .i64 s.time),.d (.int .i64 s.limit),.d (.str s.text),.d (.str s.schema),.d (.list 5 (s.exprs.map Jf)),.d (.list 6 (s.rules.map UR)),.d (.list 2 (s.calls.map JW)),.tr i ⟨s.branches.length-1,0,[],none⟩]
def brA(b:Brn)(i:Nat):Av:=.agg [.d (.list 5 (b.cond.map Jf)),.tr i ⟨b.steps.length-1,0,[],none⟩]
def JOb(s:Ste):Prop:=(s.branches=[]→CT 64 [.d (JI s)] [] (.d (owS s)) [])∧(s.branches≠[]→∀i,CT 64 [.d (JI s)] [(i,none)] (stA s i) [(i,.tre (s.branches.length-1) 0 2 (s.branches.map owB))])
def JOc(b:Brn):Prop:=(b.steps=[]→CT 117 [.d (Jz b)] [] (.d (owB b)) [])∧(b.steps≠[]→∀i,CT 117 [.d (Jz b)] [(i,none)] (brA b i) [(i,.tre (b.steps.length-1) 0 11 (b.steps.map owS))])
def C164(l:List Brn):Prop:=(l=[]→CT 116 [.d (.list 2 []),.d (.fn (.func 117) [] [])] [] (.d (.nil 2)) [])∧(l≠[]→∀i,CT 116 [.d (.list 2 (l.map Jz)),.d (.fn (.func 117) [] [])] [(i,none)] (.tr i ⟨l.length-1,0,[],none⟩) [(i,.tre (l.length-1) 0 2 (l.map owB))])
def JSs(l:List Ste):Prop:=(l=[]→CT 63 [.d (.list 11 []),.d (.fn (.func 64) [] [])] [] (.d (.nil 11)) [])∧(l≠[]→∀i,CT 63 [.d (.list 11 (l.map JI)),.d (.fn (.func 64) [] [])] [(i,none)] (.tr i ⟨l.length-1,0,[],none⟩) [(i,.tre (l.length-1) 0 11 (l.map owS))])
theorem JSt:CT 63 [.d (.list 11 []),.d (.fn (.func 64) [] [])] [] (.d (.nil 11)) []:=by
 refine Con.JKM (ds:=[.list 11 [],.fn (.func 64) [] []]) ?_;refine JN3.con (k:=some true) (Nat.le_of_ble_eq_true rfl) (by intro i o h;cases h) trivial ?_;simp only[go_sem,JPp,Vm,Vv,Vc,simprocAttr];refine JK (fun n s=>s=⟨[(1,.d (.fn (.func 64) [] [])),(5,.d (.nil 11)),(8,.d (.list 11 [])),(9,.d (.int .i64 0)),(10,.d (.int .i64 0))],[]⟩) ?_ ?_
 ·exact⟨0,_,Wk.refl _,rfl⟩
 ·rintro n s rfl;simp only[go_sem,Int.lt_irrefl,decide_false,Vu,Vv,Vc,simprocAttr]
theorem con63(l:List Ste)(hne:l≠[])(h:∀x∈l,JOb x):KT 63 [.d (.list 11 (l.map JI)),.d (.fn (.func 64) [] [])] [] (.tr 19 ⟨l.length-1,0,[],none⟩) [(19,.tre (l.length-1) 0 11 (l.map owS))]:=by
 refine Con.Ju JN3.has fun hfit=>?_
 have hl:l.length≤68719476736:=by have:=(hfit (.list 11 (l.map JI)) sP).1;simpa using this
 clear hfit;refine JN3.con (k:=some true) (Nat.le_of_ble_eq_true rfl) (Jm (by simp[Ux,put,Je,J2])) (by simp[JC,upd,inT,JR,JS]) ?_;simp only[go_sem,JPp,Vv,Vc,Nat.reduceAdd,Nat.reduceEqDiff,Nat.reduceBEq,Nat.reduceLeDiff,reduceCtorEq,↓reduceIte];refine JK (fun n s=>∃k:Nat,k≤l.length∧n=l.length-k∧
  s=⟨[(1,.d (.fn (.func 64) [] [])),(5,match k with|0=>.d (.nil 11)|j+1=>.tr 19 ⟨j,0,[],none⟩),(8,.d (.list 11 (l.map JI))),(9,.d (.int .i64 l.length)),(10,.d (.int .i64 k))],match k with|0=>[]|j+1=>[(19,.tre j 0 11 ((l.take k).map owS))]⟩) ?_ ?_
 ·exact⟨_,_,Wk.refl _,0,Nat.zero_le _,rfl,rfl⟩
 ·rintro n s ⟨k,hk,rfl,rfl⟩;by_cases hlt:k<l.length
  ·have hx:=Zk hlt;have hd:=dT hlt;have hc:=h _ (Vk hlt);have htk:=List.take_succ_eq_append_getElem hlt;generalize l[k]=x at*;by_cases hb:x.branches=[]
   ·have hc1:=hc.1 hb;rw[JV,Xd,hb,show JOW []=.nil 2 from rfl,Vb]at hc1;have how:owS x=.agg [.str x.name,.int .i64 x.kind,.int .i64 x.number,.int .i64 x.time,.int .i64 x.limit,.str x.text,.str x.schema,.list 5 (x.exprs.map Jf),.list 6 (x.rules.map UR),.list 2 (x.calls.map JW),.nil 2]:=by rw[Xd,hb];rfl
    rw[hb,Vb]at hx;cases k with
    |zero=>
     refine zz6 ?_;refine⟨oM,wn hc1 ?_⟩;simp only[go_sem,JGS,JHw,YT,Bool.false_and,Nat.reduceEqDiff,Bool.or_false,Bool.false_or,Bool.or_true,Bool.true_or,Vv,Vc,Nat.reduceAdd,Nat.reduceEqDiff,Nat.reduceBEq,Nat.reduceLeDiff,reduceCtorEq,↓reduceIte];refine⟨sP,⟨dC,dC,sP⟩,l.length-1,_,oM,Wk.less ?_,1,oM,rfl,rfl⟩;rw[htk,List.take_zero,List.nil_append];simp only[go_sem,Va,Vb,how,Vv,Vc,Nat.reduceAdd,Nat.reduceEqDiff,Nat.reduceBEq,Nat.reduceLeDiff,reduceCtorEq,↓reduceIte]
     try rfl
    |succ j=>
     refine zz6 ?_;refine⟨oM,wn hc1 ?_⟩;simp only[go_sem,JGS,JHw,YT,Bool.false_and,Nat.reduceEqDiff,Bool.or_false,Bool.false_or,Bool.or_true,Bool.true_or,JAP,Vv,Vc,Nat.reduceAdd,Nat.reduceEqDiff,Nat.reduceBEq,Nat.reduceLeDiff,reduceCtorEq,↓reduceIte];refine⟨sP,⟨dC,sO,sP⟩,l.length-(j+1+1),_,oM,Wk.less ?_,j+1+1,oM,rfl,rfl⟩;rw[htk,Vw];simp only[go_sem,Va,Vb,how,JE (j+1) oM,Vv,Vc,Nat.reduceAdd,Nat.reduceEqDiff,Nat.reduceBEq,Nat.reduceLeDiff,reduceCtorEq,↓reduceIte]
   ·have hc2:=hc.2 hb 17;rw[JV,stA]at hc2;have how:owS x=.agg [.str x.name,.int .i64 x.kind,.int .i64 x.number,.int .i64 x.time,.int .i64 x.limit,.str x.text,.str x.schema,.list 5 (x.exprs.map Jf),.list 6 (x.rules.map UR),.list 2 (x.calls.map JW),.own 2 (x.branches.map owB)]:=by rw[Xd,JAC hb]
    cases k with
    |zero=>
     refine zz6 ?_;refine⟨oM,wn hc2 ?_⟩;simp only[go_sem,JGS,JHw,YT,Bool.false_and,Nat.reduceEqDiff,Bool.or_false,Bool.false_or,Bool.or_true,Bool.true_or,Vv,Vc,Nat.reduceAdd,Nat.reduceEqDiff,Nat.reduceBEq,Nat.reduceLeDiff,reduceCtorEq,↓reduceIte];refine⟨sP,l.length-1,_,oM,Wk.less ?_,1,oM,rfl,rfl⟩;rw[htk,List.take_zero,List.nil_append];simp only[go_sem,Va,Vb,how,Vv,Vc,Nat.reduceAdd,Nat.reduceEqDiff,Nat.reduceBEq,Nat.reduceLeDiff,reduceCtorEq,↓reduceIte]
     try rfl
    |succ j=>
     refine zz6 ?_;refine⟨oM,wn hc2 ?_⟩;simp only[go_sem,JGS,JHw,YT,Bool.false_and,Nat.reduceEqDiff,Bool.or_false,Bool.false_or,Bool.or_true,Bool.true_or,Vv,Vc,Nat.reduceAdd,Nat.reduceEqDiff,Nat.reduceBEq,Nat.reduceLeDiff,reduceCtorEq,↓reduceIte];refine⟨⟨oM,sO⟩,l.length-(j+1+1),_,oM,Wk.less ?_,j+1+1,oM,rfl,rfl⟩;rw[htk,Vw];simp only[go_sem,Va,Vb,how,JE (j+1) oM,Vv,Vc,Nat.reduceAdd,Nat.reduceEqDiff,Nat.reduceBEq,Nat.reduceLeDiff,reduceCtorEq,↓reduceIte]
  ·have hd:=dF hlt;obtain rfl:k=l.length:=oM;obtain⟨j,hj⟩:∃j,l.length=j+1:=⟨l.length-1,by have:=List.length_pos_iff.2 hne;omega⟩;simp only[go_sem,hd,hj,List.take_length,Int.lt_irrefl,decide_false,Vu,Vv,Vc,Nat.reduceAdd,Nat.reduceEqDiff,Nat.reduceBEq,Nat.reduceLeDiff,reduceCtorEq,↓reduceIte];rw[show List.take (j+1) l=l by rw[←hj,List.take_length]];exact⟨rfl,rfl⟩
theorem JSu:CT 116 [.d (.list 2 []),.d (.fn (.func 117) [] [])] [] (.d (.nil 2)) []:=by
 refine Con.JKM (ds:=[.list 2 [],.fn (.func 117) [] []]) ?_;refine JHd.con (k:=some true) (Nat.le_of_ble_eq_true rfl) (by intro i o h;cases h) trivial ?_;simp only[go_sem,JHc,Vm,Vv,Vc,simprocAttr];refine JK (fun n s=>s=⟨[(1,.d (.fn (.func 117) [] [])),(5,.d (.nil 2)),(8,.d (.list 2 [])),(9,.d (.int .i64 0)),(10,.d (.int .i64 0))],[]⟩) ?_ ?_
 ·exact⟨0,_,Wk.refl _,rfl⟩
 ·rintro n s rfl;simp only[go_sem,Int.lt_irrefl,decide_false,Vu,Vv,Vc,simprocAttr]
theorem JSv(l:List Brn)(hne:l≠[])(h:∀x∈l,JOc x):KT 116 [.d (.list 2 (l.map Jz)),.d (.fn (.func 117) [] [])] [] (.tr 19 ⟨l.length-1,0,[],none⟩) [(19,.tre (l.length-1) 0 2 (l.map owB))]:=by
 refine Con.Ju JHd.has fun hfit=>?_
 have hl:l.length≤68719476736:=by have:=(hfit (.list 2 (l.map Jz)) sP).1;simpa using this
 clear hfit;refine JHd.con (k:=some true) (Nat.le_of_ble_eq_true rfl) (Jm (by simp[Ux,put,Je,J2])) (by simp[JC,upd,inT,JR,JS]) ?_;simp only[go_sem,JHc,Vv,Vc,Nat.reduceAdd,Nat.reduceEqDiff,Nat.reduceBEq,Nat.reduceLeDiff,reduceCtorEq,↓reduceIte];refine JK (fun n s=>∃k:Nat,k≤l.length∧n=l.length-k∧
  s=⟨[(1,.d (.fn (.func 117) [] [])),(5,match k with|0=>.d (.nil 2)|j+1=>.tr 19 ⟨j,0,[],none⟩),(8,.d (.list 2 (l.map Jz))),(9,.d (.int .i64 l.length)),(10,.d (.int .i64 k))],match k with|0=>[]|j+1=>[(19,.tre j 0 2 ((l.take k).map owB))]⟩) ?_ ?_
 ·exact⟨_,_,Wk.refl _,0,Nat.zero_le _,rfl,rfl⟩
 ·rintro n s ⟨k,hk,rfl,rfl⟩;by_cases hlt:k<l.length
  ·have hx:=YS hlt;have hd:=dT hlt;have hc:=h _ (Vk hlt);have htk:=List.take_succ_eq_append_getElem hlt;generalize l[k]=x at*;by_cases hb:x.steps=[]
   ·have hc1:=hc.1 hb;rw[Xv,JAB,hb,show JDR []=.nil 11 from rfl,Vb]at hc1;have how:owB x=.agg [.list 5 (x.cond.map Jf),.nil 11]:=by rw[JAB,hb];rfl
    rw[hb,Vb]at hx;cases k with
    |zero=>
     refine zz6 ?_;refine⟨oM,wn hc1 ?_⟩;simp only[go_sem,JGS,JHw,YT,Bool.false_and,Nat.reduceEqDiff,Bool.or_false,Bool.false_or,Bool.or_true,Bool.true_or,Vv,Vc,Nat.reduceAdd,Nat.reduceEqDiff,Nat.reduceBEq,Nat.reduceLeDiff,reduceCtorEq,↓reduceIte];refine⟨sP,⟨dC,dC,sP⟩,l.length-1,_,oM,Wk.less ?_,1,oM,rfl,rfl⟩;rw[htk,List.take_zero,List.nil_append];simp only[go_sem,Va,Vb,how,Vv,Vc,Nat.reduceAdd,Nat.reduceEqDiff,Nat.reduceBEq,Nat.reduceLeDiff,reduceCtorEq,↓reduceIte]
     try rfl
    |succ j=>
     refine zz6 ?_;refine⟨oM,wn hc1 ?_⟩;simp only[go_sem,JGS,JHw,YT,Bool.false_and,Nat.reduceEqDiff,Bool.or_false,Bool.false_or,Bool.or_true,Bool.true_or,JAP,Vv,Vc,Nat.reduceAdd,Nat.reduceEqDiff,Nat.reduceBEq,Nat.reduceLeDiff,reduceCtorEq,↓reduceIte];refine⟨sP,⟨dC,sO,sP⟩,l.length-(j+1+1),_,oM,Wk.less ?_,j+1+1,oM,rfl,rfl⟩;rw[htk,Vw];simp only[go_sem,Va,Vb,how,JE (j+1) oM,Vv,Vc,Nat.reduceAdd,Nat.reduceEqDiff,Nat.reduceBEq,Nat.reduceLeDiff,reduceCtorEq,↓reduceIte]
   ·have hc2:=hc.2 hb 17;rw[Xv,brA]at hc2;have how:owB x=.agg [.list 5 (x.cond.map Jf),.own 11 (x.steps.map owS)]:=by rw[JAB,JBA hb]
    cases k with
    |zero=>
     refine zz6 ?_;refine⟨oM,wn hc2 ?_⟩;simp only[go_sem,JGS,JHw,YT,Bool.false_and,Nat.reduceEqDiff,Bool.or_false,Bool.false_or,Bool.or_true,Bool.true_or,Vv,Vc,Nat.reduceAdd,Nat.reduceEqDiff,Nat.reduceBEq,Nat.reduceLeDiff,reduceCtorEq,↓reduceIte];refine⟨sP,l.length-1,_,oM,Wk.less ?_,1,oM,rfl,rfl⟩;rw[htk,List.take_zero,List.nil_append];simp only[go_sem,Va,Vb,how,Vv,Vc,Nat.reduceAdd,Nat.reduceEqDiff,Nat.reduceBEq,Nat.reduceLeDiff,reduceCtorEq,↓reduceIte]
     try rfl
    |succ j=>
     refine zz6 ?_;refine⟨oM,wn hc2 ?_⟩;simp only[go_sem,JGS,JHw,YT,Bool.false_and,Nat.reduceEqDiff,Bool.or_false,Bool.false_or,Bool.or_true,Bool.true_or,Vv,Vc,Nat.reduceAdd,Nat.reduceEqDiff,Nat.reduceBEq,Nat.reduceLeDiff,reduceCtorEq,↓reduceIte];refine⟨⟨oM,sO⟩,l.length-(j+1+1),_,oM,Wk.less ?_,j+1+1,oM,rfl,rfl⟩;rw[htk,Vw];simp only[go_sem,Va,Vb,how,JE (j+1) oM,Vv,Vc,Nat.reduceAdd,Nat.reduceEqDiff,Nat.reduceBEq,Nat.reduceLeDiff,reduceCtorEq,↓reduceIte]
  ·have hd:=dF hlt;obtain rfl:k=l.length:=oM;obtain⟨j,hj⟩:∃j,l.length=j+1:=⟨l.length-1,by have:=List.length_pos_iff.2 hne;omega⟩;simp only[go_sem,hd,hj,List.take_length,Int.lt_irrefl,decide_false,Vu,Vv,Vc,Nat.reduceAdd,Nat.reduceEqDiff,Nat.reduceBEq,Nat.reduceLeDiff,reduceCtorEq,↓reduceIte];rw[show List.take (j+1) l=l by rw[←hj,List.take_length]];exact⟨rfl,rfl⟩
theorem c116(l:List Brn)(h:∀x∈l,JOc x):C164 l:=⟨fun _=>JSu,fun hne i=>Con.JO9 (ds:=[.list 2 (l.map Jz),.fn (.func 117) [] []]) (JSv l hne h) (by simp[JC,upd,inT,JR,JS]) i⟩
theorem c63(l:List Ste)(h:∀x∈l,JOb x):JSs l:=⟨fun _=>JSt,fun hne i=>Con.JO9 (ds:=[.list 11 (l.map JI),.fn (.func 64) [] []]) (con63 l hne h) (by simp[JC,upd,inT,JR,JS]) i⟩
theorem c117(b:Brn)(h:JSs b.steps):JOc b:=by
 have h1:=(JDc b.cond fun x _=>p90 x).call trivial;refine⟨fun hb=>?_,fun hb i=>?_⟩
 ·refine Con.JKM (ds:=[Jz b]) ?_;refine JN2.con (k:=some true) (Nat.le_of_ble_eq_true rfl) (by intro i o h;cases h) trivial ?_;have hc:=h.1 hb;rw[Xv,JAB,hb,show JDR []=.nil 11 from rfl];simp only[go_sem,JJs,Vv,Vc,simprocAttr];refine JG rfl h1 trivial ?_;simp only[go_sem,Vv,Vc,simprocAttr];refine JG rfl hc trivial ?_;simp only[go_sem,Vv,Vc,simprocAttr];rfl
 ·have:KT 117 [.d (Jz b)] [] (brA b 8) [(8,.tre (b.steps.length-1) 0 11 (b.steps.map owS))]:=by
   refine JN2.con (k:=some true) (Nat.le_of_ble_eq_true rfl) (Jm (by simp[Ux,put,Je,J2])) (by simp[brA,JC,upd,inT,JR,JS]) ?_;have hc:=h.2 hb 8;rw[Xv,brA];simp only[go_sem,JJs,Vv,Vc,simprocAttr];refine JG rfl h1 trivial ?_;simp only[go_sem,Vv,Vc,simprocAttr];refine JG rfl hc ⟨rfl,trivial⟩ ?_;simp only[go_sem,Vv,Vc,simprocAttr];rfl
  exact Con.JO9 (ds:=[Jz b]) this (by simp[brA,JC,upd,inT,JR,JS]) i
theorem c64(s:Ste)(h:C164 s.branches):JOb s:=by
 have h1:=(JDc s.exprs fun x _=>p90 x).call trivial;have h2:=(p91 s.rules).call trivial;have h3:=(JGH s.calls fun x _=>JSC x).call trivial;simp only[JD,Va,Vb]at h2;refine⟨fun hb=>?_,fun hb i=>?_⟩
 ·refine Con.JKM (ds:=[JI s]) ?_;refine JPq.con (k:=some true) (Nat.le_of_ble_eq_true rfl) (by intro i o h;cases h) trivial ?_;have hc:=h.1 hb;rw[JV,Xd,hb,show JOW []=.nil 2 from rfl];simp only[go_sem,JN4,Vv,Vc,simprocAttr];refine wn h1 ?_;simp only[go_sem,Vv,Vc,simprocAttr];refine wn h2 ?_;simp only[go_sem,Vv,Vc,simprocAttr];refine wn h3 ?_;simp only[go_sem,Vv,Vc,simprocAttr];refine wn hc ?_;simp only[go_sem,Vv,Vc,simprocAttr]
 ·have:KT 64 [.d (JI s)] [] (stA s 17) [(17,.tre (s.branches.length-1) 0 2 (s.branches.map owB))]:=by
   refine JPq.con (k:=some true) (Nat.le_of_ble_eq_true rfl) (Jm (by simp[Ux,put,Je,J2])) (by simp[stA,JC,upd,inT,JR,JS]) ?_;have hc:=h.2 hb 17;rw[JV,stA];simp only[go_sem,JN4,Vv,Vc,simprocAttr];refine wn h1 ?_;simp only[go_sem,Vv,Vc,simprocAttr];refine wn h2 ?_;simp only[go_sem,Vv,Vc,simprocAttr];refine wn h3 ?_;simp only[go_sem,Vv,Vc,simprocAttr];refine wn hc ?_;simp only[go_sem,Vv,Vc,simprocAttr]
  exact Con.JO9 (ds:=[JI s]) this (by simp[stA,JC,upd,inT,JR,JS]) i
mutual
theorem k106:∀(s:Ste),JOb s
 |.mk n k u t l x c e r a b=>c64 _ (c116 b (JRR b))
theorem JOd:∀(l:List Ste),∀x∈l,JOb x
 |[],x,h=>by cases h
 |v::r,x,h=>by
  by_cases e:x=v
  ·rw[e];exact k106 v
  ·exact JOd r x ((VA.1 h).resolve_left e)
theorem k165:∀(b:Brn),JOc b
 |.mk w s=>c117 _ (c63 s (JOd s))
theorem JRR:∀(l:List Brn),∀x∈l,JOc x
 |[],x,h=>by cases h
 |v::r,x,h=>by
  by_cases e:x=v
  ·rw[e];exact k165 v
  ·exact JRR r x ((VA.1 h).resolve_left e)
end
theorem k105(l:List Ste):JSs l:=c63 l (JOd l)
end Go.Proofs
namespace Go.Proofs
open Go Av
section
@[instance_reducible] def JQL:Rls:={rl:=fun n=>n==1,tr:=fun n=>n==3}
attribute [local instance 2000] JQL
theorem rl_3(n:Nat): @Rls.rl JQL n=(n==1):=rfl
theorem tr_3(n:Nat): @Rls.tr JQL n=(n==3):=rfl
theorem JOe(sz n:Nat): @Yx JQL sz n=(sz==1&&n==1):=by unfold Yx;rw[rl_3];show((sz==1&&n==1)||(false&&_))=_;rw[Bool.false_and,Bool.or_false]
theorem call62(l:List Rou)(hne:l≠[])(i:Nat):CT 62 [.d (.list 3 (l.map Ue))] [(i,none)] (.tr i ⟨0,0,[],none⟩) [(i,.tre 0 0 3 (l.map Ue))]:=by
 have:KT 62 [.d (.list 3 (l.map Ue))] [] (.tr 7 ⟨0,0,[],none⟩) [(7,.tre 0 0 3 (l.map Ue))]:=by
  refine Con.Ju ok62.has fun hfit=>?_
  have hl:l.length≤68719476736:=by have:=(hfit (.list 3 (l.map Ue)) sP).1;simpa using this
  clear hfit;refine ok62.con (k:=some true) (Nat.le_of_ble_eq_true rfl) (Jm (by simp[Ux,put,Je,J2])) (by simp[JC,upd,inT,JR,JS]) ?_;obtain⟨x,q,rfl⟩:∃x q,l=x::q:=by cases l with|nil=>exact absurd rfl hne|cons x q=>exact⟨x,q,rfl⟩
  have hcl:∀y∈Ue x::q.map Ue,y.cells.length=3:=by
   intro y hy;rw[←Va]at hy;obtain⟨z,_,rfl⟩:=VC.1 hy;rfl
  simp only[Dat.cells]at hcl;simp only[go_sem,ir62,rl_3,tr_3,JOe,Va,Vm,Vu,Bool.false_and,Vv,Vc,Nat.reduceAdd,Nat.reduceEqDiff,Nat.reduceBEq,Nat.reduceLeDiff,reduceCtorEq,↓reduceIte];exact⟨sP,dC,sP,by simpa using hl,hcl⟩
 exact Con.JO9 (ds:=[.list 3 (l.map Ue)]) this (by simp[JC,upd,inT,JR,JS]) i
end
theorem JRS{r:Int}{a:Av}{tv ts:Nat}{X X':List Dat}{a':Av}(ha:JR (get (TW r tv ts X)) a)(hr:a.ren (fun i=>if i=1005 then 3 else if i=1008 then 6 else i)=a')
  (h:KT 65 [a,.clo (.func 66) [] [.ref 1005 0]] (TW r tv ts X) (.tup []) (TW r tv ts X')):
  CT (.fn 65) [a',.clo (.func 66) [] [.ref 3 0]] [(3,some (.box [.d (.int .i64 r)])),(6,some (.tre tv ts 3 X))] (.tup []) [(3,.box [.d (.int .i64 r)]),(6,.tre tv ts 3 X')]:=by
 have hd:∀o i,(JC (get (TW r tv ts X)) (TW r tv ts o) i).isSome=true→i=1005∨i=1008:=by
  intro o i h;refine Decidable.byContradiction fun hn=>?_
  simp only[not_or]at hn;obtain⟨a1,a2⟩:=hn;simp[TW,JC,upd,Av.get,a1,a2,Ne.symm a1,Ne.symm a2]at h
 have h:=h.call (fun i=>if i=1005 then 3 else if i=1008 then 6 else i) (fun i hi=>by
   simp only[TW,Av.get]at hi
   repeat' split at hi
   all_goals first|(cases hi;done)|omega) (fun i j hi hj h=>by
   rcases hd _ i hi with rfl|rfl<;>rcases hd _ j hj with rfl|rfl<;>first|rfl|(revert h;decide)) (by
   intro c hc;simp only[VA,List.not_mem_nil,or_false]at hc;rcases hc with rfl|rfl
   ·exact ha
   ·simp[JR,JS,Av.get]) (Jx (by simp[Je,J2,JS,JR,Ub,Av.get])) [] (by simp[Av.get])
   (Jm (by simp[TW,Ux,put,Je,J2,JS,JR,Av.get])) trivial
 simp only[TW,Va,Vb,Vm,Obj.ren,Av.ren,UN,YA,List.append_nil,Nat.reduceEqDiff,↓reduceIte,hr]at h;exact h
def owO(x:Rou):Dat:=.agg [.str x.name,.str x.src,JDR x.steps]
def nmO(i:Int)(x:Rou):Rou:=⟨x.name,x.src,Yk i [] 0 x.steps⟩
def ZK:Int→List Rou→List Rou
 |_,[]=>[]
 |i,x::r=>nmO i x::ZK (i+1) r
theorem ZI:∀(l:List Rou) (i:Int),(ZK i l).length=l.length
 |[],_=>rfl
 |x::q,i=>by simp[ZK,ZI q]
theorem JHx:∀(l:List Rou) (i:Int) (k:Nat) (h:k<l.length),(ZK i l)[k]'(by rw[ZI];exact h)=nmO (i+k) l[k]
 |x::q,i,0,_=>by simp[ZK]
 |x::q,i,k+1,h=>by
  simp only[ZK,List.getElem_cons_succ];rw[JHx q (i+1) k (sX h)];congr 1;omega
theorem JOf(l:List Ste):(JDR l).dat.canon=.list 11 (l.map JI):=by
 have:=JEn l;rw[JEm,Z6]at this;cases l with
 |nil=>rfl
 |cons x r=>simp only[JDR,Dat.dat,Dat.canon];rw[this]
theorem JQM(x:Rou):(owO x).dat.canon=Ue x:=by
 have:=JOf x.steps;simp only[owO,Dat.dat,Dat.dat.datL,Dat.canon,JH,Ue,this]
def UG(p:Prg):Prg:=⟨p.version,p.schemas,p.endpoints,p.services,ZK 0 p.routes⟩
def nmP(p:Prg):Prop:=∀x∈p.routes,J3 x.steps≤100000000
theorem JOg(p:Prg)(hne:p.routes≠[])(hsz:nmP p):PT 36 [UA p] (.d (UA (UG p))):=by
 refine UD.Ju ok36.has fun hfit=>?_
 have hl:p.routes.length≤68719476736:=by
  have:=hfit _ (Vh);simp only[UA,fits,XW,Vc]at this;omega
 clear hfit;refine ok36.pc ?_;have c0:=call62 p.routes hne 6;unfold UG;unfold nmP at hsz;generalize hN:ZK 0 p.routes=N at*;have hNl:N.length=p.routes.length:=by rw[←hN,ZI]
 generalize hll:p.routes=l at*;obtain⟨p0,hp0⟩:∃p0:List (Nat×Nat),p0=[]:=⟨_,rfl⟩;rw[←hp0]at c0;have hn0:∀Y:List Dat,nodeAt (.own 3 Y) p0=some (.own 3 Y):=by intro Y;rw[hp0];rfl
 simp only[go_sem,ir36,UA,Vv,Vc,Nat.reduceAdd,Nat.reduceEqDiff,Nat.reduceBEq,Nat.reduceLeDiff,reduceCtorEq,↓reduceIte];rw[hll];refine wn c0 ?_;simp only[go_sem,hn0,Vv,Vc,Nat.reduceAdd,Nat.reduceEqDiff,Nat.reduceBEq,Nat.reduceLeDiff,reduceCtorEq,↓reduceIte];refine JK (fun n st=>∃(k sv:Nat) (X:List Dat),k≤l.length∧n=l.length-k∧X=(N.take k).map owO++(l.drop k).map Ue∧
  st=⟨[(1,.ref 1 0),(2,.ref 2 0),(10,.d (.int .i64 l.length)),(11,.d (.int .i64 k))],
   [(1,.box [.d (.int .i64 p.version),.d (.list 9 (p.schemas.map Uc)),.d (.list 7 (p.endpoints.map J8)),.d (.list 4 (p.services.map Uk)),.tr 6 ⟨0,0,p0,none⟩]),
    (2,.box [.d (.int .i64 0),.d (.nil 9),.d (.nil 7),.d (.nil 4),.d (.nil 3)]),(6,.tre 0 sv 3 X)]⟩) ?_ ?_
 ·refine⟨_,_,Wk.less ?_,0,0,l.map Ue,Nat.zero_le _,rfl,sP,rfl⟩;simp[go_sem]
 ·rintro n st ⟨k,sv,X,hk,rfl,hX,rfl⟩;by_cases hlt:k<l.length
  ·have hd:=dT hlt;have hszx:=hsz _ (Vk hlt);have hNk:N[k]'oM=nmO k l[k]:=by
    have:=JHx l 0 k hlt;simp only[hN,Int.zero_add]at this;exact this
   have hNt:N.take (k+1)=N.take k++[nmO k l[k]]:=by rw[List.take_succ_eq_append_getElem oM,hNk]
   have hA:(N.take k).length=k:=by rw[List.length_take];omega
   rw[Vq hlt,Va]at hX;have hXl:X.length=l.length:=by rw[hX];simp only[Vg,Vc,Vf,List.length_drop,hA];omega
   generalize hxx:l[k]=x at*;generalize hAA:N.take k=A at*;generalize hBB:l.drop (k+1)=B at*;have hA2:(A.map owO).length=k:=by rw[Vc,hA]
   have hmid:∀y:Dat,nth (A.map owO++y::B.map Ue) k=y:=by intro y;rw[←hA2];exact ZH
   have hsetm:∀(cs:List Dat) (c:Nat) (y:Dat),setAt (.own 3 (A.map owO++ .agg cs::B.map Ue)) p0 k c y=.own 3 (A.map owO++ .agg (cs.set c y)::B.map Ue):=by
    intro cs c y;rw[hp0,←hA2];simp only[setAt,ZH,JDe,Uu]
   have hnthX:nth X k=.agg [.str x.name,.str x.src,.list 11 (x.steps.map JI)]:=by rw[hX];exact hmid (Ue x)
   have hlen1:∀y:Dat,(A.map owO++y::B.map Ue).length=l.length:=by
    intro y;have:=congrArg List.length hBB;simp only[List.length_drop]at this;simp only[Vg,Vc,Vf,hA];omega
   by_cases hs:x.steps=[]
   ·have hc:=(k105 x.steps).1 hs;rw[hs,Vb]at hnthX;obtain⟨X1,hX1⟩:∃X1,X1=A.map owO++owO x::B.map Ue:=⟨_,rfl⟩;have hset:setAt (.own 3 X) p0 k 2 (.nil 11)=.own 3 X1:=by
     rw[hX,hX1];refine(hsetm [.str x.name,.str x.src,.list 11 (x.steps.map JI)] 2 (.nil 11)).trans ?_;rw[owO,hs];rfl
    have hnth1:nth X1 k=.agg [.str x.name,.str x.src,.nil 11]:=by rw[hX1,hmid,owO,hs];rfl
    have hl1:X1.length=l.length:=by rw[hX1];exact hlen1 _
    have hV:=JRS (a':=.d (.nil 11)) (by simp[JR]) rfl (visE (k:Int) 0 sv X1);simp only[go_sem,hd,hn0,hnthX,hXl,Vv,Vc,Nat.reduceAdd,Nat.reduceEqDiff,Nat.reduceBEq,Nat.reduceLeDiff,reduceCtorEq,↓reduceIte];refine⟨⟨.inl hp0,oM,oM⟩,⟨oM,dC⟩,?_⟩;refine JG rfl hc trivial ?_;simp only[go_sem,hn0,hnthX,hXl,hset,hnth1,hl1,List.any_cons,List.any_nil,Jw,Bool.or_false,Vu,Vv,Vc,Nat.reduceAdd,Nat.reduceEqDiff,Nat.reduceBEq,Nat.reduceLeDiff,reduceCtorEq,↓reduceIte];refine⟨⟨.inl hp0,oM,oM⟩,hlt,rfl,⟨.inl hp0,oM,oM⟩,⟨hlt,dC⟩,wn hV ?_⟩;simp only[go_sem,Vv,Vc,Nat.reduceAdd,Nat.reduceEqDiff,Nat.reduceBEq,Nat.reduceLeDiff,reduceCtorEq,↓reduceIte];refine⟨l.length-(k+1),_,oM,Wk.less ?_,k+1,sv,X1,oM,rfl,?_,rfl⟩
    ·simp only[go_sem,JE k oM,Vv,Vc,Nat.reduceAdd,Nat.reduceEqDiff,Nat.reduceBEq,Nat.reduceLeDiff,reduceCtorEq,↓reduceIte]
    ·rw[hX1,hNt,hBB,Vw,List.append_assoc];have:nmO (k:Int) x=x:=by
      unfold nmO;rw[hs,Yk,←hs]
     rw[this];rfl
   ·have hc:=(k105 x.steps).2 hs 23;obtain⟨X1,hX1⟩:∃X1,X1=A.map owO++owO x::B.map Ue:=⟨_,rfl⟩;have how:owO x=.agg [.str x.name,.str x.src,.own 11 (x.steps.map owS)]:=by rw[owO,JBA hs]
    have hset:setAt (.own 3 X) p0 k 2 (.own 11 (x.steps.map owS))=.own 3 X1:=by
     rw[hX,hX1,how];exact hsetm [.str x.name,.str x.src,.list 11 (x.steps.map JI)] 2 (.own 11 (x.steps.map owS))
    have hnth1:nth X1 k=.agg [.str x.name,.str x.src,.own 11 (x.steps.map owS)]:=by rw[hX1,hmid,how]
    have hl1:X1.length=l.length:=by rw[hX1];exact hlen1 _
    have hne2:Yk (k:Int) [] 0 x.steps≠[]:=by
     intro e;have:=congrArg List.length e;rw[JAr]at this;exact hs (List.eq_nil_of_length_eq_zero this)
    obtain⟨X2,hX2⟩:∃X2,X2=A.map owO++owO (nmO k x)::B.map Ue:=⟨_,rfl⟩;have hset2: .own 3 X2=setAt (.own 3 X1) p0 k 2 (.own 11 ((Yk (k:Int) [] 0 x.steps).map owS)):=by
     rw[hX2,hX1,how,hsetm];simp only[owO,nmO,JBA hne2,List.set_cons_succ,List.set_cons_zero]
    have hget1:X1[k]? =some (.agg [.str x.name,.str x.src,.own 11 (x.steps.map owS)]):=by
     rw[hX1,how,←hA2];exact JA9
    have hpos1:Pos (.own 3 X1) p0 k 2:=by
     rw[hp0];exact⟨_,hget1,sP⟩
    have hnode1:nodeAt (.own 3 X1) (p0++[(k,2)])=some (.own 11 (x.steps.map owS)):=by
     rw[hp0,List.nil_append];simp only[nodeAt,cellAt,hget1,Option.bind_some,Dat.cells,List.getElem?_cons_succ,List.getElem?_cons_zero]
    have hV:=JRS (a':=.tr 6 ⟨0,sv+1,p0++[(k,2)],none⟩) (by simp[JR,Av.get]) rfl (visN (k:Int) x.steps hszx 0 (sv+1) X1 X2 p0 k 2 hs hpos1 hnode1 hset2);simp only[go_sem,hd,hn0,hnthX,hXl,Vv,Vc,Nat.reduceAdd,Nat.reduceEqDiff,Nat.reduceBEq,Nat.reduceLeDiff,reduceCtorEq,↓reduceIte];refine⟨⟨.inl hp0,oM,oM⟩,⟨oM,dC⟩,?_⟩;refine JG rfl hc ⟨rfl,trivial⟩ ?_;simp only[go_sem,hn0,hnthX,hXl,hset,hnth1,hl1,hnode1,Vv,Vc,Nat.reduceAdd,Nat.reduceEqDiff,Nat.reduceBEq,Nat.reduceLeDiff,reduceCtorEq,↓reduceIte];refine⟨⟨.inl hp0,oM,oM⟩,hlt,rfl,⟨hp0,oM,oM⟩,⟨hlt,dC⟩,wn hV ?_⟩;simp only[go_sem,Vv,Vc,Nat.reduceAdd,Nat.reduceEqDiff,Nat.reduceBEq,Nat.reduceLeDiff,reduceCtorEq,↓reduceIte];refine⟨l.length-(k+1),_,oM,Wk.less ?_,k+1,sv+1,X2,oM,rfl,?_,rfl⟩
    ·simp only[go_sem,JE k oM,Vv,Vc,Nat.reduceAdd,Nat.reduceEqDiff,Nat.reduceBEq,Nat.reduceLeDiff,reduceCtorEq,↓reduceIte]
    ·rw[hX2,hNt,hBB,Vw,List.append_assoc];rfl
  ·have hd:=dF hlt;obtain rfl:k=l.length:=oM;simp only[go_sem,hd,hp0,Vv,Vc,Nat.reduceAdd,Nat.reduceEqDiff,Nat.reduceBEq,Nat.reduceLeDiff,reduceCtorEq,↓reduceIte];rw[hX,List.drop_length,Vb,List.append_nil,←hNl,List.take_length,XG,Jv,List.map_map,List.map_map];rw[List.map_congr_left (fun x _=>show((Dat.canon∘Dat.dat)∘owO) x=Ue x from JQM x)]
end Go.Proofs
namespace Go.Proofs
open Go Av
def sIn:Nat→Str:=fun i=>[[105,110,95,97],[105,110,95,98],[97,103,97,105,110]].getD i []
def JIz(i:Nat):Str:=[114,111,117,116,101,95]++(([97,98,99]:Str).drop i).take 1
def lsI(rs:List (List S3))(i:Nat):List S3:=(rs[i]?).getD []
def JHy(rs:List (List S3))(i:Nat):List Rou:=if((i:Int)==0)||decide (((lsI rs i).length:Int)>0)then[⟨JIz i,sIn i,rtR (lsI rs i) 0 [] ZE ⟨0,0,0⟩⟩]else[]
def XB(rs:List (List S3))(k:Nat):List Rou:=(List.range k).flatMap (JHy rs)
theorem Xm(rs:List (List S3))(k:Nat):XB rs (k+1)=XB rs k++JHy rs k:=by
 unfold XB;rw[List.range_succ,List.flatMap_append];simp
theorem JOh(rs:List (List S3))(i:Nat):(JHy rs i).length≤1:=by unfold JHy;split<;>simp
theorem JEp(rs:List (List S3)):∀k:Nat,(XB rs k).length≤k
 |0=>Nat.le_refl _
 |k+1=>by
  rw[Xm,Vg];have:=JEp rs k;have:=JOh rs k;omega
def JGT(rs:List (List S3)):Prop:=∀l∈rs,∀x∈l,JEh x
theorem JOi{rs:List (List S3)}(h:JGT rs)(i:Nat):∀x∈lsI rs i,JEh x:=by
 intro x hx;unfold lsI at hx;cases e:rs[i]? with
 |none=>rw[e]at hx;cases hx
 |some l=>rw[e]at hx;exact h l (List.mem_of_getElem? e) x hx
def ZJ(rs:List (List S3))(ch:Int)(ev:List Dat):Dat:=.agg [.list 1 (rs.map fun l=>.list 3 (l.map JAq)),.int .u8 ch,.list 6 ev]
theorem con35(rs:List (List S3))(h:JGT rs)(ch:Int)(ev:List Dat)(hsz:nmP (JEc (XB rs 3))):PT 35 [ZJ rs ch ev,.int .i64 1] (.d (UA (UG (JEc (XB rs 3))))):=by
 refine UD.Ju ok35.has fun hfit=>?_
 have hl:rs.length≤68719476736:=by
  have:=hfit _ (Vh);simp only[ZJ,fits,XW,Vc]at this;omega
 clear hfit;refine ok35.pc ?_;have c53:=JR9.call trivial;simp only[JIl,Va,Vb]at c53;simp only[go_sem,ir35,ZJ,Vv,Vc,Nat.reduceAdd,Nat.reduceEqDiff,Nat.reduceBEq,Nat.reduceLeDiff,reduceCtorEq,↓reduceIte];refine wn c53 ?_;simp only[go_sem,Vv,Vc,Nat.reduceAdd,Nat.reduceEqDiff,Nat.reduceBEq,Nat.reduceLeDiff,reduceCtorEq,↓reduceIte];refine⟨sP,JK (fun n st=>∃k:Nat,k≤3∧n=3-k∧
  st=⟨[(2,.ref 2 0),(4,.ref 4 0),(5,.ref 5 0),(6,.d (.list 1 [.str [105,110,95,97],.str [105,110,95,98],.str [97,103,97,105,110]])),(7,.d (.int .i64 k))],
   [(2,.box [.d (.list 1 (rs.map fun l=>.list 3 (l.map JAq))),.d (.int .u8 ch),.d (.list 6 ev)]),(4,.box [.d (.int .i64 0),.d (.nil 9),.d (.nil 7),.d (.nil 4),.d (.nil 3)]),
    (5,.box [.d (.int .i64 1),.d (.list 9 (JE2.map Uc)),.d (.list 7 (JCF.map JHZ)),.d (.list 4 (JDO.map Uk)),.ms 48 (XB rs k).length]),(48,.row (XB rs k).length 3 ((XB rs k).map Ue))]⟩) ?_ ?_⟩
 ·refine⟨_,_,(Wk.JCY 5 4 48 3 _ rfl rfl rfl dC).trans (Wk.less ?_),0,Nat.zero_le _,rfl,rfl⟩;simp[go_sem,XB]
 ·rintro n st ⟨k,hk,rfl,rfl⟩;by_cases hlt:k<3
  ·have hd:decide ((k:Int)<3)=true:=sO;have hw:IntKind.i64.wrap ((k:Int)+1)=((k+1:Nat):Int):=by rw[wrap64 oM oM];rfl
   have htk:(((k+1:Nat):Int)-(k:Int)).toNat=1:=oM;have hfr:nth [Dat.str [105,110,95,97],.str [105,110,95,98],.str [97,103,97,105,110]] k=.str (sIn k):=by
    match k,hlt with
    |0,_=>rfl
    |1,_=>rfl
    |2,_=>rfl
   have hrl:=JEp rs k;have hsc:=Xm rs k;have c61:=(JSd (lsI rs k) (JOi h k)).call trivial;simp only[Va,Vb]at c61;unfold JHy at hsc;by_cases hkr:k<rs.length
   ·have hdk:decide ((k:Int)<(rs.length:Int))=true:=sO;have hx:nth (rs.map fun l=>Dat.list 3 (l.map JAq)) k=.list 3 ((lsI rs k).map JAq):=by
     rw[JU _ hkr];unfold lsI;rw[Vl hkr];rfl
    generalize lsI rs k=l at*;simp only[go_sem,hd,hdk,hx,Vv,Vc,Nat.reduceAdd,Nat.reduceEqDiff,Nat.reduceBEq,Nat.reduceLeDiff,reduceCtorEq,↓reduceIte];refine⟨⟨oM,oM⟩,dC,?_⟩;refine sq (decide ((l.length:Int)>0)) ?_ ?_
    ·simp only[go_sem,Vv,Vc,Nat.reduceAdd,Nat.reduceEqDiff,Nat.reduceBEq,Nat.reduceLeDiff,reduceCtorEq,↓reduceIte]
    cases hq:(((k:Int)==0)||decide ((l.length:Int)>0))
    ·rw[hq,if_neg Bool.false_ne_true,List.append_nil]at hsc;simp only[go_sem,hq,Vu,Vv,Vc,Nat.reduceAdd,Nat.reduceEqDiff,Nat.reduceBEq,Nat.reduceLeDiff,reduceCtorEq,↓reduceIte];refine⟨3-(k+1),_,oM,Wk.less ?_,k+1,oM,rfl,rfl⟩;rw[hsc];simp only[JE k oM];simp[go_sem]
    ·rw[hq,if_pos rfl]at hsc;simp only[go_sem,hq,hw,htk,hfr,Vv,Vc,Nat.reduceAdd,Nat.reduceEqDiff,Nat.reduceBEq,Nat.reduceLeDiff,reduceCtorEq,↓reduceIte];refine⟨⟨oM,oM,oM⟩,by rw[List.length_take];omega,⟨oM,oM⟩,dC,?_⟩;refine JG rfl c61 trivial ?_;simp only[go_sem,Vv,Vc,Nat.reduceAdd,Nat.reduceEqDiff,Nat.reduceBEq,Nat.reduceLeDiff,reduceCtorEq,↓reduceIte];refine⟨sP,oM,dC,3-(k+1),_,oM,Wk.less ?_,k+1,oM,rfl,rfl⟩;rw[hsc,Vw,Va,Vb,Ue];simp only[JE k oM,JIz,Vg,Vf,Vm];simp[go_sem]
   ·have hdk:decide ((k:Int)<(rs.length:Int))=false:=sO;have hl0:lsI rs k=[]:=by unfold lsI;rw[List.getElem?_eq_none oM];rfl
    rw[hl0]at c61 hsc;have c61:=JEf (args:=[.d (.nil 3)]) c61 rfl;obtain⟨l,hl1⟩:∃l:List S3,l=[]:=⟨_,rfl⟩;rw[←hl1]at c61 hsc;simp only[go_sem,hd,hdk,Vu,Vv,Vc,Nat.reduceAdd,Nat.reduceEqDiff,Nat.reduceBEq,Nat.reduceLeDiff,reduceCtorEq,↓reduceIte];refine sq (decide ((l.length:Int)>0)) ?_ ?_
    ·simp only[go_sem,hl1,Vm,Vv,Vc,Nat.reduceAdd,Nat.reduceEqDiff,Nat.reduceBEq,Nat.reduceLeDiff,reduceCtorEq,↓reduceIte]
    cases hq:(((k:Int)==0)||decide ((l.length:Int)>0))
    ·rw[hq,if_neg Bool.false_ne_true,List.append_nil]at hsc;simp only[go_sem,hq,Vu,Vv,Vc,Nat.reduceAdd,Nat.reduceEqDiff,Nat.reduceBEq,Nat.reduceLeDiff,reduceCtorEq,↓reduceIte];refine⟨3-(k+1),_,oM,Wk.less ?_,k+1,oM,rfl,rfl⟩;rw[hsc];simp only[JE k oM];simp[go_sem]
    ·rw[hq,if_pos rfl]at hsc;simp only[go_sem,hq,hw,htk,hfr,Vv,Vc,Nat.reduceAdd,Nat.reduceEqDiff,Nat.reduceBEq,Nat.reduceLeDiff,reduceCtorEq,↓reduceIte];refine⟨⟨oM,oM,oM⟩,by rw[List.length_take];omega,⟨oM,oM⟩,dC,?_⟩;refine JG rfl c61 trivial ?_;simp only[go_sem,Vv,Vc,Nat.reduceAdd,Nat.reduceEqDiff,Nat.reduceBEq,Nat.reduceLeDiff,reduceCtorEq,↓reduceIte];refine⟨sP,oM,dC,3-(k+1),_,oM,Wk.less ?_,k+1,oM,rfl,rfl⟩;rw[hsc,Vw,Va,Vb,Ue];simp only[JE k oM,JIz,Vg,Vf,Vm];simp[go_sem]
  ·obtain rfl:k=3:=oM;have hne:(JEc (XB rs 3)).routes≠[]:=by
    show XB rs 3≠[];rw[Xm,Xm,Xm];simp[XB,JHy]
   have c36:=(JOg (JEc (XB rs 3)) hne hsz).call trivial;have hd:decide (((3:Nat):Int)<3)=false:=rfl;simp only[go_sem,hd,Vu,Vv,Vc,Nat.reduceAdd,Nat.reduceEqDiff,Nat.reduceBEq,Nat.reduceLeDiff,reduceCtorEq,↓reduceIte];have c36a:=JEf (args:=[.d (.agg [.int .i64 1,.list 9 (JE2.map Uc),.list 7 (JCF.map JHZ),.list 4 (JDO.map Uk),.list 3 ((XB rs 3).map Ue)])]) c36 (by
    simp only[Va,Vb,Av.canon,Dat.canon,JH,JAj,JAk,JAl,UA,JEc];rw[Jv,JHa])
   have c36b:=JQ.datA (hp:=[(48,.row (XB rs 3).length 3 ((XB rs 3).map Ue))]) (vs:=[.agg [.d (.int .i64 1),.d (.list 9 (JE2.map Uc)),.d (.list 7 (JCF.map JHZ)),.d (.list 4 (JDO.map Uk)),.ms 48 (XB rs 3).length]]) rfl sP c36a;generalize UG (JEc (XB rs 3))=q at*;simp only[UA]at c36b⊢;refine wn c36b ?_;simp only[go_sem,Vv,Vc,Nat.reduceAdd,Nat.reduceEqDiff,Nat.reduceBEq,Nat.reduceLeDiff,reduceCtorEq,↓reduceIte]
end Go.Proofs
namespace Go.Proofs
open Go Av
open Av.Y
def JRT:Ic:=q (R (oz 4 0<|N) [4])<|q (q (R (om 6 0<|oh 7 6<|oz 8 0<|N) [6])<|D (.block 0<|.loop (q (.reg (ot 9 .lss 8 7<|N))<|q (D (I 9 S (E 0)) [9])<|q (D (.block 1<|q (R (om 10 8<|om 5 10<|N) [10])<|q (R (om 11 1<|om 12 0<|om 13 5<|oa true 14 9 12 13<|oL 15 9 14<|.call (some 16) (.dyn (t 11)) [t 15] N) [11,12,13,14,15])<|D (I 16 (q (R (om 17 5<|om 4 17<|N) [0,1,7,8,5,16,17])<|.ret) S) [5,16]) [])<|R (oi 18 .add 8 1<|om 8 18<|N) [18])) [0,1,7,8,9,10,5,11])<|q (.reg (oz 4 (-1)<|N))<|.ret
theorem ok121:FT 121 19 JRT [.tmp 4]:=.o Tryz.func121
def JRU:Ic:=q (R (oz 4 0<|N) [4])<|q (q (R (om 6 0<|oh 7 6<|oz 8 0<|N) [6])<|D (.block 0<|.loop (q (.reg (ot 9 .lss 8 7<|N))<|q (D (I 9 S (E 0)) [9])<|q (D (.block 1<|q (R (om 10 8<|om 5 10<|N) [10])<|q (R (om 11 1<|om 12 0<|om 13 5<|oa true 14 7 12 13<|oL 15 7 14<|.call (some 16) (.dyn (t 11)) [t 15] N) [11,12,13,14,15])<|D (I 16 (q (R (om 17 5<|om 4 17<|N) [0,1,7,8,5,16,17])<|.ret) S) [5,16]) [])<|R (oi 18 .add 8 1<|om 8 18<|N) [18])) [0,1,7,8,9,10,5,11])<|q (.reg (oz 4 (-1)<|N))<|.ret
theorem ok120:FT 120 19 JRU [.tmp 4]:=.o Tryz.func120
def JRV:Ic:=q (R (oz 4 0<|N) [4])<|q (q (R (om 6 0<|oh 7 6<|oz 8 0<|N) [6])<|D (.block 0<|.loop (q (.reg (ot 9 .lss 8 7<|N))<|q (D (I 9 S (E 0)) [9])<|q (D (.block 1<|q (R (om 10 8<|om 5 10<|N) [10])<|q (R (om 11 1<|om 12 0<|om 13 5<|oa true 14 4 12 13<|oL 15 4 14<|.call (some 16) (.dyn (t 11)) [t 15] N) [11,12,13,14,15])<|D (I 16 (q (R (om 17 5<|om 4 17<|N) [0,1,7,8,5,16,17])<|.ret) S) [5,16]) [])<|R (oi 18 .add 8 1<|om 8 18<|N) [18])) [0,1,7,8,9,10,5,11])<|q (.reg (oz 4 (-1)<|N))<|.ret
theorem ok197:FT 197 19 JRV [.tmp 4]:=.o Tryz.func197
def ir71:Ic:=q (R (oz 4 0<|ow 5 false<|N) [4,5])<|q (R (om 7 0<|om 8 1<|cl 9 121 [t 7,t 8]<|om 6 9<|N) [0,1,7,8,9])<|q (R (om 10 6<|oo 11 (.mx (t 10) (i 0))<|om 12 6<|oi 13 .geq 12 0<|om 4 11<|om 5 13<|N) [6,10,11,12,13])<|.ret
theorem ok71:FT 71 14 ir71 [.tmp 4,.tmp 5]:=.o Tryz.func71
def ir69:Ic:=q (R (oz 4 0<|ow 5 false<|N) [4,5])<|q (R (om 7 0<|om 8 1<|cl 9 120 [t 7,t 8]<|om 6 9<|N) [0,1,7,8,9])<|q (R (om 10 6<|oo 11 (.mx (t 10) (i 0))<|om 12 6<|oi 13 .geq 12 0<|om 4 11<|om 5 13<|N) [6,10,11,12,13])<|.ret
theorem ok69:FT 69 14 ir69 [.tmp 4,.tmp 5]:=.o Tryz.func69
def JRW:Ic:=q (R (oz 4 0<|ow 5 false<|N) [4,5])<|q (R (om 7 0<|om 8 1<|cl 9 197 [t 7,t 8]<|om 6 9<|N) [0,1,7,8,9])<|q (R (om 10 6<|oo 11 (.mx (t 10) (i 0))<|om 12 6<|oi 13 .geq 12 0<|om 4 11<|om 5 13<|N) [6,10,11,12,13])<|.ret
theorem ok123:FT 123 14 JRW [.tmp 4,.tmp 5]:=.o Tryz.func123
def ir72:Ic:=q (R (ox 3 0<|ow 4 false<|N) [0,4])<|q (R (of 5 3 0<|ol 6 5<|ol 7 1<|ot 8 .seq 6 7<|om 9 8<|.sc 9 true (of 10 3 1<|ol 11 10<|ol 12 2<|ot 13 .eql 11 12<|N) (t 13) 14 (om 4 14<|N)) [3,5,6,7,8,9,14])<|.ret
theorem ok72:FT 72 15 ir72 [.tmp 4]:=.o Tryz.func72
def ir70:Ic:=q (R (ox 2 0<|ow 3 false<|N) [0,3])<|q (R (of 4 2 0<|ol 5 4<|ol 6 1<|ot 7 .seq 5 6<|om 3 7<|N) [2,4,5,6,7])<|.ret
theorem ok70:FT 70 8 ir70 [.tmp 3]:=.o Tryz.func70
def JRX:Ic:=q (R (ox 2 0<|ow 3 false<|N) [0,3])<|q (R (of 4 2 0<|ol 5 4<|ol 6 1<|ot 7 .seq 5 6<|om 3 7<|N) [2,4,5,6,7])<|.ret
theorem ok124:FT 124 8 JRX [.tmp 3]:=.o Tryz.func124
def ir38:Ic:=q (R (ox 3 0<|ox 4 1<|ox 5 2<|oz 6 0<|ow 7 false<|N) [0,1,2,6,7])<|q (R (of 8 3 1<|ol 9 8<|oo 10 (.fnv (.func 72) [] [t 4,t 5])<|cl 11 71 [t 9,t 10]<|oe 12 11 0<|oe 13 11 1<|om 6 12<|om 7 13<|N) [3,4,5,8,9,10,11,12,13])<|.ret
theorem ok38:FT 38 14 ir38 [.tmp 6,.tmp 7]:=.o Tryz.func38
def ir37:Ic:=q (R (ox 2 0<|ox 3 1<|oz 4 0<|ow 5 false<|N) [0,1,4,5])<|q (R (of 6 2 2<|ol 7 6<|oo 8 (.fnv (.func 70) [] [t 3])<|cl 9 69 [t 7,t 8]<|oe 10 9 0<|oe 11 9 1<|om 4 10<|om 5 11<|N) [2,3,6,7,8,9,10,11])<|.ret
theorem ok37:FT 37 12 ir37 [.tmp 4,.tmp 5]:=.o Tryz.func37
def ir74:Ic:=q (R (ox 2 0<|ox 3 1<|oz 4 0<|ow 5 false<|N) [0,1,4,5])<|q (R (of 6 2 3<|ol 7 6<|oo 8 (.fnv (.func 124) [] [t 3])<|cl 9 123 [t 7,t 8]<|oe 10 9 0<|oe 11 9 1<|om 4 10<|om 5 11<|N) [2,3,6,7,8,9,10,11])<|.ret
theorem ok74:FT 74 12 ir74 [.tmp 4,.tmp 5]:=.o Tryz.func74
def ir41:Ic:=q (R (ox 2 0<|oz 4 0<|ow 5 false<|N) [0,4,5])<|q (.reg (oz 6 0<|ow 7 false<|N))<|q (q (R (of 10 2 1<|ol 11 10<|oh 12 11<|oz 13 0<|N) [10])<|D (.block 0<|.loop (q (.reg (ot 14 .lss 13 12<|N))<|q (D (I 14 S (E 0)) [14])<|q (D (.block 1<|q (R (om 15 13<|oa true 16 9 11 13<|oL 17 9 16<|oN 9 [.str [],.int .i64 0,.int .i64 0,.int .i64 0,.int .i64 0,.int .i64 0,.nil 1,.nil 7,.nil 11]<|om 8 15<|oS 9 9 17<|N) [15,16,17])<|q (R (of 18 9 0<|ol 19 18<|om 20 1<|ot 21 .seq 19 20<|om 22 21<|.sc 22 true (om 23 7<|og 24 23<|om 25 24<|.sc 25 false (of 26 9 1<|ol 27 26<|of 28 2 1<|ol 29 28<|om 30 6<|oa true 31 9 29 30<|of 32 31 1<|ol 33 32<|ot 34 .gtr 27 33<|N) (t 34) 35 N) (t 35) 36 N) [9,18,19,20,21,22])<|D (I 36 (R (om 37 8<|om 6 37<|ow 7 true<|N) [8,36,37]) S) [8,36]) [])<|R (oi 38 .add 13 1<|om 13 38<|N) [38])) [1,2,11,12,13,14,9,8])<|q (R (om 39 6<|om 40 7<|om 4 39<|om 5 40<|N) [6,7,39,40])<|.ret
theorem ok41:FT 41 41 ir41 [.tmp 4,.tmp 5]:=.o Tryz.func41
end Go.Proofs
namespace Go.Proofs
open Go Av
variable {g:Nat}{cs:List Dat}
def fdQ{α:Type}(q:α→Bool)(l:List α):Nat:=(l.findIdx? q).getD 0
theorem JI0{α:Type}(q:α→Bool)(l:List α):(if(0:Int)>ixQ q l then 0 else ixQ q l)=(fdQ q l:Int):=by
 unfold ixQ fdQ;cases e:l.findIdx? q with
 |none=>rfl
 |some k=>simp only[Vp];split<;>omega
theorem ix180{q:Sch→Bool}(l:List Sch)(hq:∀x∈l,PT g (Uc x::cs) (.d (.bool (q x))))(hl:l.length≤68719476736):
  PT 121 [.list 9 (l.map Uc),.fn (.func g) [] cs] (.d (.int .i64 (ixQ q l))):=by
 refine ok121.pc ?_;simp only[go_sem,JRT,Vc,simprocAttr];refine JK (fun n s=>∃k:Nat,k≤l.length∧n=l.length-k∧(∀(j:Nat) (h1:j<l.length),j<k→q l[j]=false)∧
  s=⟨[(0,.d (.list 9 (l.map Uc))),(1,.d (.fn (.func g) [] cs)),(7,.d (.int .i64 l.length)),(8,.d (.int .i64 k))],[]⟩) ?_ ?_
 ·exact⟨_,_,Wk.refl _,0,Nat.zero_le _,rfl,sP,rfl⟩
 ·rintro n s ⟨k,hk,rfl,hinv,rfl⟩;by_cases hlt:k<l.length
  ·have hx:=JU Uc hlt;have hd:=dT hlt;have hc:=(hq l[k] (Vk _)).call trivial;simp only[Uc,Va]at hc hx;refine zz6 ?_;refine⟨oM,wn hc ?_⟩;refine zz ?_;apply ik<;>intro hf
   ·rw[ZC hlt hf hinv]
   ·refine⟨l.length-(k+1),_,oM,Wk.less ?_,k+1,oM,rfl,fun j h1 hj=>?_,rfl⟩
    ·exact zz7 trivial
    ·by_cases e:j=k
     ·subst e;exact hf
     ·exact hinv j h1 oM
  ·have hd:=dF hlt;refine zz5 ?_;rw[ZD (fun j h=>hinv j h oM)]
theorem ix208{q:Epd→Bool}(l:List Epd)(hq:∀x∈l,PT g (J8 x::cs) (.d (.bool (q x))))(hl:l.length≤68719476736):
  PT 120 [.list 7 (l.map J8),.fn (.func g) [] cs] (.d (.int .i64 (ixQ q l))):=by
 refine ok120.pc ?_;simp only[go_sem,JRU,Vc,simprocAttr];refine JK (fun n s=>∃k:Nat,k≤l.length∧n=l.length-k∧(∀(j:Nat) (h1:j<l.length),j<k→q l[j]=false)∧
  s=⟨[(0,.d (.list 7 (l.map J8))),(1,.d (.fn (.func g) [] cs)),(7,.d (.int .i64 l.length)),(8,.d (.int .i64 k))],[]⟩) ?_ ?_
 ·exact⟨_,_,Wk.refl _,0,Nat.zero_le _,rfl,sP,rfl⟩
 ·rintro n s ⟨k,hk,rfl,hinv,rfl⟩;by_cases hlt:k<l.length
  ·have hx:=JU J8 hlt;have hd:=dT hlt;have hc:=(hq l[k] (Vk _)).call trivial;simp only[J8,Va]at hc hx;refine zz6 ?_;refine⟨oM,wn hc ?_⟩;refine zz ?_;apply ik<;>intro hf
   ·rw[ZC hlt hf hinv]
   ·refine⟨l.length-(k+1),_,oM,Wk.less ?_,k+1,oM,rfl,fun j h1 hj=>?_,rfl⟩
    ·exact zz7 trivial
    ·by_cases e:j=k
     ·subst e;exact hf
     ·exact hinv j h1 oM
  ·have hd:=dF hlt;refine zz5 ?_;rw[ZD (fun j h=>hinv j h oM)]
theorem ix350{q:Svc→Bool}(l:List Svc)(hq:∀x∈l,PT g (Uk x::cs) (.d (.bool (q x))))(hl:l.length≤68719476736):
  PT 197 [.list 4 (l.map Uk),.fn (.func g) [] cs] (.d (.int .i64 (ixQ q l))):=by
 refine ok197.pc ?_;simp only[go_sem,JRV,Vc,simprocAttr];refine JK (fun n s=>∃k:Nat,k≤l.length∧n=l.length-k∧(∀(j:Nat) (h1:j<l.length),j<k→q l[j]=false)∧
  s=⟨[(0,.d (.list 4 (l.map Uk))),(1,.d (.fn (.func g) [] cs)),(7,.d (.int .i64 l.length)),(8,.d (.int .i64 k))],[]⟩) ?_ ?_
 ·exact⟨_,_,Wk.refl _,0,Nat.zero_le _,rfl,sP,rfl⟩
 ·rintro n s ⟨k,hk,rfl,hinv,rfl⟩;by_cases hlt:k<l.length
  ·have hx:=JU Uk hlt;have hd:=dT hlt;have hc:=(hq l[k] (Vk _)).call trivial;simp only[Uk,Va]at hc hx;refine zz6 ?_;refine⟨oM,wn hc ?_⟩;refine zz ?_;apply ik<;>intro hf
   ·rw[ZC hlt hf hinv]
   ·refine⟨l.length-(k+1),_,oM,Wk.less ?_,k+1,oM,rfl,fun j h1 hj=>?_,rfl⟩
    ·exact zz7 trivial
    ·by_cases e:j=k
     ·subst e;exact hf
     ·exact hinv j h1 oM
  ·have hd:=dF hlt;refine zz5 ?_;rw[ZD (fun j h=>hinv j h oM)]
theorem JSw{q:Sch→Bool}(l:List Sch)(hq:∀x∈l,PT g (Uc x::cs) (.d (.bool (q x))))(hl:l.length≤68719476736):
  PT 71 [.list 9 (l.map Uc),.fn (.func g) [] cs] (.tup [.d (.int .i64 (fdQ q l)),.d (.bool (l.any q))]):=by
 refine ok71.pc ?_;have c:=(ix180 l hq hl).call trivial;rw[←Z8,←JI0];simp only[go_sem,ir71,simprocAttr];refine wc c trivial
theorem JSx{q:Epd→Bool}(l:List Epd)(hq:∀x∈l,PT g (J8 x::cs) (.d (.bool (q x))))(hl:l.length≤68719476736):
  PT 69 [.list 7 (l.map J8),.fn (.func g) [] cs] (.tup [.d (.int .i64 (fdQ q l)),.d (.bool (l.any q))]):=by
 refine ok69.pc ?_;have c:=(ix208 l hq hl).call trivial;rw[←Z8,←JI0];simp only[go_sem,ir69,simprocAttr];refine wc c trivial
theorem JQN{q:Svc→Bool}(l:List Svc)(hq:∀x∈l,PT g (Uk x::cs) (.d (.bool (q x))))(hl:l.length≤68719476736):
  PT 123 [.list 4 (l.map Uk),.fn (.func g) [] cs] (.tup [.d (.int .i64 (fdQ q l)),.d (.bool (l.any q))]):=by
 refine ok123.pc ?_;have c:=(ix350 l hq hl).call trivial;rw[←Z8,←JI0];simp only[go_sem,JRW,simprocAttr];refine wc c trivial
theorem UD.JLd{P:Program}{f:Nat}{ds c1 c2:List Dat}{r:Av}(h:UD P f (ds++[.fn (.func g) [] [.ptr c1,.ptr c2]]) r)(hr:U6 r)(i j:Nat)(hij:i≠j):
  JQ P f (ds.map .d++[.clo (.func g) [] [.ref i 0,.ref j 0]]) [(i,some (.box (c1.map .d))),(j,some (.box (c2.map .d)))] r [(i,.fbox c1),(j,.fbox c2)]:=by
 intro β A w H vs hT hc hvs;have hi:H i=some (.box (c1.map .d)):=hT (i,_) sP;have hj:H j=some (.box (c2.map .d)):=hT (j,_) sP;have st1:=Stp.Yu hc hi (JAn c1);have hj1:upd H i (some (.fbox c1)) j=some (.box (c2.map .d)):=by rw[JP _ _ (Ne.symm hij)];exact hj
 have st2:=Stp.Yu st1.core hj1 (JAn c2);have st:=st1.trans st2;have hlen:(ds.map Av.d).length=ds.length:=sP;have hc':=h.call hr β _ w (upd (upd H i (some (.fbox c1))) j (some (.fbox c2))) vs sP st.core ⟨by have:=hvs.1;simp at this⊢;omega,fun k c v h1 h2=>by
  rw[Vo]at h1;cases e:(ds++[Dat.fn (.func g) [] [.ptr c1,.ptr c2]])[k]? with
  |none=>simp[e]at h1
  |some x=>
   simp only[e,Vj,Vd]at h1;subst h1;by_cases hk:k<ds.length
   ·rw[Vz hk]at e;have:=hvs.2 k (.d x) v (by rw[Vz (sX hk),Vo,e];rfl) h2;exact st.vals _ _ this
   ·rw[Vy oM]at e;have hk0:k-ds.length=0:=by
     rcases Nat.eq_zero_or_pos (k-ds.length)with h|h
     ·exact h
     ·rw[List.getElem?_eq_none sO]at e;cases e
    rw[hk0]at e;cases e;have:=hvs.2 k (.clo (.func g) [] [.ref i 0,.ref j 0]) v (by rw[Vy sO,hlen,hk0];rfl) h2;have h3:=st.vals _ _ this;cases h3 with
    |clo _ _ _ a1 a2 l1 l2 hf hvv=>
     refine .d _ _ (.fn _ _ _ a1 a2 l1 (sX l2) (by intro j c v hj;cases hj) ?_);intro k c v hk hkv
     match k,hk with
     |0,hk=>
      cases hk;have hrf:=hvv 0 _ v rfl hkv;cases hrf with
      |ref _ _ _ _ _ hu g0 g1 g2=>
       have:=g2 c1 (by rw[JP _ _ hij,JF]);simpa using this
     |1,hk=>
      cases hk;have hrf:=hvv 1 _ v rfl hkv;cases hrf with
      |ref _ _ _ _ _ hu g0 g1 g2=>
       have:=g2 c2 (JF _ _ _);simpa using this
     |k+2,hk=>cases hk⟩
 rcases hc' with⟨a1,a2⟩|⟨u,w',a1,β',A',a2,a3⟩
 ·refine .inl ⟨a1,a2.mono ?_⟩;rintro e w' ⟨u,rfl,β',A',b1,b2⟩;exact⟨u,rfl,β',A',st.trans b1,b2⟩
 ·exact .inr ⟨u,w',a1,β',A',st.trans a2,a3⟩
theorem JSy(x:Sch)(n:Str)(v:Int):PT 72 [Uc x,.ptr [.str n],.ptr [.int .i64 v]] (.d (.bool (x.name==n&&x.version==v))):=by
 refine ok72.pc ?_;simp only[go_sem,ir72,Uc,Nat.reduceAdd,Nat.reduceEqDiff,Nat.reduceBEq,Nat.reduceLeDiff,reduceCtorEq,↓reduceIte];refine⟨dC,Y4 (x.version==v) (fun _=>?_) ?_⟩
 ·refine zz ?_;simp
 ·exact zz trivial
theorem JSz(x:Epd)(n:Str):PT 70 [J8 x,.ptr [.str n]] (.d (.bool (x.name==n))):=by
 refine ok70.pc ?_;simp only[go_sem,ir70,J8,Nat.reduceAdd,Nat.reduceEqDiff,Nat.reduceBEq,Nat.reduceLeDiff,reduceCtorEq,↓reduceIte];decide
theorem JQO(x:Svc)(n:Str):PT 124 [Uk x,.ptr [.str n]] (.d (.bool (x.name==n))):=by
 refine ok124.pc ?_;simp only[go_sem,JRX,Uk,Nat.reduceAdd,Nat.reduceEqDiff,Nat.reduceBEq,Nat.reduceLeDiff,reduceCtorEq,↓reduceIte];decide
theorem JOj(p:Prg)(n:Str)(v:Int)(hl:p.schemas.length≤68719476736):PT 38 [UA p,.str n,.int .i64 v] (.tup [.d (.int .i64 (fdQ (fun x:Sch=>x.name==n&&x.version==v) p.schemas)),.d (.bool (p.schemas.any fun x=>x.name==n&&x.version==v))]):=by
 refine ok38.pc ?_;have c:=UD.JLd (ds:=[.list 9 (p.schemas.map Uc)]) (JSw p.schemas (fun x _=>JSy x n v) hl) (by simp[U6]) 4 5 dC;simp only[go_sem,ir38,UA,simprocAttr];refine wc c trivial
theorem JS0(p:Prg)(n:Str)(hl:p.endpoints.length≤68719476736):PT 37 [UA p,.str n] (.tup [.d (.int .i64 (fdQ (fun x:Epd=>x.name==n) p.endpoints)),.d (.bool (p.endpoints.any fun x=>x.name==n))]):=by
 refine ok37.pc ?_;have c:=UD.JKL (JSx p.endpoints (fun x _=>JSz x n) hl) (by simp[U6]) 3;simp only[go_sem,ir37,UA,simprocAttr];refine wc c trivial
theorem JI1(p:Prg)(n:Str)(hl:p.services.length≤68719476736):PT 74 [UA p,.str n] (.tup [.d (.int .i64 (fdQ (fun x:Svc=>x.name==n) p.services)),.d (.bool (p.services.any fun x=>x.name==n))]):=by
 refine ok74.pc ?_;have c:=UD.JKL (JQN p.services (fun x _=>JQO x n) hl) (by simp[U6]) 3;simp only[go_sem,ir74,UA,simprocAttr];refine wc c trivial
def ltS(l:List Sch)(n:Str)(s:Nat×Bool)(i:Nat):Nat×Bool:=match l[i]? with
 |some x=>if x.name==n&&((!s.2)||decide ((l[s.1]?.map Sch.version).getD 0<x.version))then(i,true)else s
 |none=>s
def ltR(l:List Sch)(n:Str)(k:Nat):Nat×Bool:=(List.range k).foldl (ltS l n) (0,false)
theorem JHz(l:List Sch)(n:Str)(k:Nat):ltR l n (k+1)=ltS l n (ltR l n k) k:=by
 unfold ltR;rw[List.range_succ,List.foldl_append];rfl
theorem JGU(l:List Sch)(n:Str):∀k:Nat,(ltR l n k).1=0∨(ltR l n k).1<l.length
 |0=>.inl rfl
 |k+1=>by
  rw[JHz];unfold ltS;split
  ·rename_i x h;split
   ·exact .inr (VB.1 h).1
   ·exact JGU l n k
  ·exact JGU l n k
theorem JS1(l:List Sch)(n:Str)(k:Nat)(hk:k<l.length):(ltR l n k).1<l.length:=by
 rcases JGU l n k with h|h<;>omega
def JCN(l:List Sch)(n:Str):Nat×Bool:=ltR l n l.length
theorem JAD(p:Prg)(n:Str)(hl:p.schemas.length≤68719476736):PT 41 [UA p,.str n] (.tup [.d (.int .i64 (JCN p.schemas n).1),.d (.bool (JCN p.schemas n).2)]):=by
 refine ok41.pc ?_;simp only[go_sem,ir41,UA,Vc,Nat.reduceAdd,Nat.reduceEqDiff,Nat.reduceBEq,Nat.reduceLeDiff,reduceCtorEq,↓reduceIte];generalize hL:p.schemas=l at*;refine JK (fun r s=>∃k:Nat,k≤l.length∧r=l.length-k∧
  s=⟨[(1,.d (.str n)),(2,.ref 2 0),(6,.d (.int .i64 (ltR l n k).1)),(7,.d (.bool (ltR l n k).2)),(11,.d (.list 9 (l.map Uc))),(12,.d (.int .i64 l.length)),(13,.d (.int .i64 k))],
   [(2,.box [.d (.int .i64 p.version),.d (.list 9 (l.map Uc)),.d (.list 7 (p.endpoints.map J8)),.d (.list 4 (p.services.map Uk)),.d (.list 3 (p.routes.map Ue))])]⟩) ?_ ?_
 ·refine⟨_,_,Wk.less ?_,0,Nat.zero_le _,rfl,rfl⟩;simp[go_sem,ltR]
 ·rintro r s ⟨k,hk,rfl,rfl⟩;by_cases hlt:k<l.length
  ·have hx:=JU Uc hlt;have hd:=dT hlt;have hb:=JS1 l n k hlt;have hy:=JU Uc hb;have hs:=JHz l n k;have hg:l[k]? =some l[k]:=Vl hlt;have hg2:l[(ltR l n k).1]? =some l[(ltR l n k).1]:=Vl hb;simp only[ltS,hg,hg2,Vj,Vp]at hs;generalize hR:ltR l n k=R at*;simp only[Uc]at hx hy;refine zz6 ?_;refine⟨oM,?_⟩;refine sq ((!R.2)||(decide (l[R.1].version<l[k].version))) ?_ ?_
   ·refine zz ?_;refine sq (decide (l[R.1].version<l[k].version)) ?_ ?_
    ·simp only[go_sem,hy,Vv,Vc,Nat.reduceAdd,Nat.reduceEqDiff,Nat.reduceBEq,Nat.reduceLeDiff,reduceCtorEq,↓reduceIte];exact⟨⟨oM,oM⟩,dC⟩
    ·exact zz trivial
   refine zz ?_;generalize hc:(l[k].name==n&&((!R.2)||decide (l[R.1].version<l[k].version)))=c at*;cases c with
   |true=>
    refine zz ?_;refine⟨l.length-(k+1),_,oM,Wk.less ?_,k+1,oM,rfl,rfl⟩;simp only[Vu,if_true,if_false]at hs;simp only[go_sem,hs,JE k oM,Nat.reduceAdd,Nat.reduceEqDiff,Nat.reduceBEq,Nat.reduceLeDiff,reduceCtorEq,↓reduceIte]
   |false=>
    refine zz ?_;refine⟨l.length-(k+1),_,oM,Wk.less ?_,k+1,oM,rfl,rfl⟩;simp only[Vu,if_true,if_false]at hs;simp only[go_sem,hs,JE k oM,Nat.reduceAdd,Nat.reduceEqDiff,Nat.reduceBEq,Nat.reduceLeDiff,reduceCtorEq,↓reduceIte]
  ·have hd:=dF hlt;obtain rfl:k=l.length:=oM;refine zz5 ?_;rfl
def mpS(ns:List Str):List (Dat×Dat):=ns.map fun s=>(.str s,.bool true)
def JLR(ns:List Str)(k:Str):List Str:=if ns.contains k then ns else ns++[k]
theorem YB(k:Str):∀ns:List Str,YG .s (mpS ns) (.str k)=some (if ns.contains k then some (.bool true)else none)
 |[]=>rfl
 |a::r=>by
  have ih:=YB k r;simp only[mpS,Va,YG,UQ]at ih⊢;rw[ih,List.contains_cons];cases k==a<;>simp
theorem JEq(k:Str):∀ns:List Str,Zu .s (mpS ns) (.str k) (.bool true)=mpS (JLR ns k)
 |[]=>rfl
 |a::r=>by
  have ih:=JEq k r;simp only[mpS,Va,Zu,UQ,JLR]at ih⊢;rw[ih,List.contains_cons];by_cases h:(k==a)=true
  ·have e:k=a:=sX h;subst e;simp
  ·simp only[Bool.not_eq_true]at h;simp only[h,Bool.false_or];split<;>rfl
theorem JDg(c:Bool):(if c=true then some (Dat.bool true)else none).getD (.bool false)=.bool c:=by cases c<;>rfl
end Go.Proofs
namespace Av
open Go
variable [Glb][Rls]
theorem Wk.frzB{D:Nat→Prop}{st:St}(b j i v sz:Nat)(xs:List Dat)(cs:List Av)(hb:get st.hp b=some (.box cs))(hj:cs[j]? =some (.ms i v))(hi:get st.hp i=some (.row v sz xs)):
  Wk D st ⟨st.tm,put (put st.hp i (.frz v sz xs)) b (.box (cs.set j (.d (.list sz xs))))⟩:=by
 refine Wk.JBe ?_;intro β A w a hc htr;have hne:b≠i:=fun e=>by subst e;rw[hi]at hb;cases hb
 have hst:=Stp.freeze hc hi;have hb1:upd (get st.hp) i (some (.frz v sz xs)) b=some (.box cs):=by rw[JP _ _ hne];exact hb
 obtain⟨bb,C,T,e1,e2,e3,e4,e5⟩:=hst.core.objs b _ hb1;have hset:w.setRow bb C=w:=Xh e2;have hst2:=Stp.JCv (cs':=cs.set j (.d (.list sz xs))) (C':=C) hst.core hb1 e1 e2 (sX e3) e4 (fun hall k c u hc' hv'=>by
  rw[List.getElem?_set]at hc';split at hc'
  ·rename_i e;subst e;split at hc'
   ·cases hc';refine hall _ _ ?_;cases e5 j _ u hj hv' with|ms _ _ _ hu h0 g1 g2=>exact .d _ _ (g2 _ _ (JF _ _ _))
   ·cases hc'
  ·exact hall _ _ (e5 k c u hc' hv'))
 rw[hset]at hst2;have hh:get (put (put st.hp i (.frz v sz xs)) b (.box (cs.set j (.d (.list sz xs)))))=upd (upd (get st.hp) i (some (.frz v sz xs))) b (some (.box (cs.set j (.d (.list sz xs))))):=funext fun k=>by
  rw[J9,J9];rfl
 rw[hh];refine⟨_,_,hst.trans hst2,?_⟩;intro t x hx;obtain⟨u,q1,q2⟩:=htr t x hx;exact⟨u,q1,(hst.trans hst2).vals _ _ q2⟩
end Av
namespace Go.Proofs
open Go Av
variable {p:Prg}
abbrev TMk(p:Prg)(v s0 s:Nat)(X:List Dat)(es ek ev:List (Dat×Dat)):List (Nat×Av.Obj):=[(1001,.box [.d (.int .i64 p.version),.d (.list 9 (p.schemas.map Uc)),.d (.list 7 (p.endpoints.map J8)),.d (.list 4 (p.services.map Uk)),.d (.list 3 (p.routes.map Ue)),.tr 1002 ⟨v,s0,[],none⟩,.mp 1003,.mp 1004,.mp 1005]),
 (1002,.tre v s 20 X),(1003,.mapo es),(1004,.mapo ek),(1005,.mapo ev)]
theorem JEr(p:Prg)(v s0 s:Nat)(X X':List Dat)(es ek ev:List (Dat×Dat))(s':Nat):closed (JC (get (TMk p v s0 s X es ek ev)) [(1002,.tre v s' 20 X')]):=Jm (by simp[TMk,Ux,put,Je,J2,JS,JR,Ub,Av.get])
theorem Zm(p:Prg)(v s0 s:Nat)(X:List Dat)(es ek ev:List (Dat×Dat)):closed (JC (get (TMk p v s0 s X es ek ev)) []):=Jx (by simp[TMk,Ux,put,Je,J2,JS,JR,Ub,Av.get])
def JDh:Dat:=.agg [.int .i64 1,.int .i64 0,.str [],.list 6 [.agg [.int .i64 1,.int .i64 1,.int .i64 0,.str [],.nil 6,.nil 7]],.nil 5]
def exB(b:Brn):Dat:=match b.cond with|[]=>JDh|e::_=>Jf e
def exO(s:Ste):Dat:=if s.kind=11 then .list 5 (s.branches.map exB)else Yj s.exprs
def JGV(p:Prg)(n:Str):Dat:=((p.schemas[(JCN p.schemas n).1]?).map fun c=>Xp c.type).getD .opq
def JQP(p:Prg)(n:Str):Nat:=fdQ (fun x:Svc=>x.name==n) p.services
def tyC(p:Prg)(c:Kal):List Dat:=match p.services[JQP p c.service]? with|some x=>[JGV p x.request,JGV p x.reply]|none=>[]
def tyO(p:Prg)(l:List Kal):List Dat:=l.flatMap (tyC p)
def nuO(s:Ste):Int:=if s.kind=12 then s.branches.length else s.number
def JLS(p:Prg)(s:Ste):Dat:=.agg [.str s.name,.int .i64 s.kind,.int .i64 0,.int .i64 0,.int .i64 (nuO s),.int .i64 s.time,.int .i64 s.limit,.str s.text,.int .i64 0,.int .i64 0,.int .i64 0,.int .i64 0,.nil 1,.nil 7,.nil 11,
 .list 7 (tyO p s.calls),exO s,.list 6 (s.rules.map UR),.list 2 (s.calls.map JW),.nil 1]
structure stQ(s:Ste):Prop where
 ex:s.kind=11→s.exprs=[]
 ca:s.calls.length≤1000000000
 br:s.branches.length≤1000000000
 el:s.exprs.length≤1000000000
structure PB(p:Prg):Prop where
 sc:p.schemas.length≤68719476736
 ep:p.endpoints.length≤68719476736
 sv:p.services.length≤68719476736
 sc0:p.schemas≠[]
 ep0:p.endpoints≠[]
 sv0:p.services≠[]
theorem JGW{l:List Sch}(n:Str)(h:l≠[]):(JCN l n).1<l.length:=by
 have:=List.length_pos_iff.2 h;rcases JGU l n l.length with e|e
 ·unfold JCN;omega
 ·exact e
theorem JI2{α:Type}(q:α→Bool){l:List α}(h:l≠[]):fdQ q l<l.length:=by
 have:=List.length_pos_iff.2 h;unfold fdQ;cases e:l.findIdx? q with
 |none=>exact this
 |some k=>have:=(List.findIdx?_eq_some_iff_findIdx_eq.1 e).1;simpa using this
theorem JQQ(n:Str)(h:p.schemas≠[]):JGV p n=Xp (p.schemas[(JCN p.schemas n).1]'(JGW n h)).type:=by
 unfold JGV;rw[Vl (JGW n h)];rfl
theorem JGX(n:Str)(h:p.services≠[]):JQP p n<p.services.length:=JI2 _ h
theorem JOk(c:Kal)(h:p.services≠[]):tyC p c=[JGV p (p.services[JQP p c.service]'(JGX _ h)).request,JGV p (p.services[JQP p c.service]'(JGX _ h)).reply]:=by
 unfold tyC;rw[Vl (JGX _ h)]
theorem JCO(hP:PB p):∀l:List Kal,(tyO p l).length=2*l.length
 |[]=>rfl
 |c::r=>by
  have:=JCO hP r;unfold tyO at this⊢;rw[List.flatMap_cons,Vg,this,JOk c hP.sv0];simp only[Vf,Vm];omega
theorem JAE(hP:PB p)(n:Str):∃(i:Nat) (b:Bool) (a:Sch),JCN p.schemas n=(i,b)∧i<p.schemas.length∧p.schemas[i]? =some a∧nth (p.schemas.map Uc) i=Uc a∧JGV p n=Xp a.type:=by
 have h:=JGW n hP.sc0;refine⟨_,_,_,rfl,h,Vl h,JU Uc h,JQQ n hP.sc0⟩
theorem JGY(hP:PB p)(c:Kal):∃(si:Nat) (x:Svc),fdQ (fun x:Svc=>x.name==c.service) p.services=si∧si<p.services.length∧p.services[si]? =some x∧nth (p.services.map Uk) si=Uk x∧tyC p c=[JGV p x.request,JGV p x.reply]:=by
 have h:=JI2 (fun x:Svc=>x.name==c.service) hP.sv0;refine⟨_,_,rfl,h,Vl h,JU Uk h,JOk c hP.sv0⟩
set_option maxHeartbeats 1000000 in
theorem con40(p:Prg)(hP:PB p)(s:Ste)(hs:stQ s)(v s0 sv:Nat)(X:List Dat)(es ek ev:List (Dat×Dat)):
    Con Tryz.prog 40 [.ref 1001 0,.d (JEj s)] (TMk p v s0 sv X es ek ev) (.d (JLS p s)) []:=by
  refine ok40.con (k:=none) (Nat.le_of_ble_eq_true rfl) (Zm _ _ _ _ _ _ _ _) trivial ?_
  have hcell:Dat.cells (Yj s.exprs)=[Yj s.exprs]∧Av.cells (.d (Yj s.exprs))=some [.d (Yj s.exprs)]:=by cases s.exprs<;>exact⟨rfl,rfl⟩
  obtain⟨g1,g2⟩:=hcell
  simp only[Dat.cells]at g1
  simp only[Av.cells]at g2
  unfold JEj JLS exO nuO
  have hcl:=hs.ca
  have hbl:=hs.br
  have hex:=hs.ex
  generalize hcs:s.calls=calls at*
  by_cases hk:s.kind=11
  · have hk1:(s.kind==11)=true:=by simpa using hk
    have hk2:¬s.kind=12:=by omega
    have hk3:(s.kind==12)=false:=by simpa using hk2
    rw[hex hk]at g1 g2⊢
    simp only[hk2,if_false,Yj]
    rw[if_pos hk]
    simp only[go_sem,JPn,TMk,hk3,Vu,Vv,Vc,Nat.reduceAdd,Nat.reduceEqDiff,Nat.reduceBEq,Nat.reduceLeDiff,reduceCtorEq,↓reduceIte]
    refine JK (fun n st=>∃k:Nat,k≤s.branches.length∧n=s.branches.length-k∧
      st=⟨[(0,.ref 1001 0),(3,.ref 3 0),(4,.ref 4 0),(5,.ref 5 0),(6,.d (.int .i64 k))],
        (3,.box [.d (.str s.name),.d (.int .i64 s.kind),.d (.int .i64 s.number),.d (.int .i64 s.time),.d (.int .i64 s.limit),.d (.str s.text),.d (.str s.schema),.d (.nil 5),.d (.list 6 (s.rules.map UR)),.d (.list 2 (calls.map JW)),.d (.list 2 (s.branches.map Jz))])::
        (4,.box [.d (.str []),.d (.int .i64 0),.d (.int .i64 0),.d (.int .i64 0),.d (.int .i64 0),.d (.int .i64 0),.d (.int .i64 0),.d (.str []),.d (.int .i64 0),.d (.int .i64 0),.d (.int .i64 0),.d (.int .i64 0),.d (.nil 1),.d (.nil 7),.d (.nil 11),.d (.nil 7),.d (.nil 5),.d (.nil 6),.d (.nil 2),.d (.nil 1)])::
        (5,.box [.d (.str s.name),.d (.int .i64 s.kind),.d (.int .i64 0),.d (.int .i64 0),.d (.int .i64 s.number),.d (.int .i64 s.time),.d (.int .i64 s.limit),.d (.str s.text),.d (.int .i64 0),.d (.int .i64 0),.d (.int .i64 0),.d (.int .i64 0),.d (.nil 1),.d (.nil 7),.d (.nil 11),.d (.nil 7),.ms 76 k,.d (.list 6 (s.rules.map UR)),.d (.list 2 (calls.map JW)),.d (.nil 1)])::
        (76,.row k 5 ((s.branches.take k).map exB))::TMk p v s0 sv X es ek ev⟩) ?_ ?_
    · refine⟨_,_,(Wk.JCY 5 16 76 5 _ rfl rfl rfl (by decide)).trans (Wk.less ?_),0,Nat.zero_le _,rfl,rfl⟩
      simp[go_sem,TMk]
    rintro n st ⟨k,hkl,rfl,rfl⟩
    by_cases hlt:k<s.branches.length
    · have hd:decide ((k:Int)<(s.branches.length:Int))=true:=by simp;omega
      have hx:=YS hlt
      simp only[go_sem,TMk,hd,hk1,hx,Vv,Vc,Nat.reduceAdd,Nat.reduceEqDiff,Nat.reduceBEq,Nat.reduceLeDiff,reduceCtorEq,↓reduceIte]
      cases hcond:s.branches[k].cond with
      |nil=>
        have h0:decide (((0:Nat):Int)>0)=false:=rfl
        have hex1:exB s.branches[k]=JDh:=by unfold exB;rw[hcond]
        simp only[go_sem,hcond,Vb,Vm,TMk,h0,Vu,Vv,Vc,Nat.reduceAdd,Nat.reduceEqDiff,Nat.reduceBEq,Nat.reduceLeDiff,reduceCtorEq,↓reduceIte]
        refine⟨by simp,⟨by omega,by omega⟩,by decide,by simp,by simp;omega,s.branches.length-(k+1),_,by omega,Wk.less ?_,k+1,by omega,rfl,rfl⟩
        rw[List.take_succ_eq_append_getElem hlt,Vw,Va,Vb,hex1]
        simp only[go_sem,TMk,JE k (by omega),JDh,Vv,Vc,Nat.reduceAdd,Nat.reduceEqDiff,Nat.reduceBEq,Nat.reduceLeDiff,reduceCtorEq,↓reduceIte]
      |cons e r=>
        have h0:decide (((r.length+1:Nat):Int)>0)=true:=by simp
        have hex1:exB s.branches[k]=Jf e:=by unfold exB;rw[hcond]
        have hn:nth (Jf e::r.map Jf) (Int.toNat 0)=Jf e:=rfl
        rw[Jy]at hex1 hn
        simp only[go_sem,hcond,Va,Vf,TMk,h0,Jy,hn,Vv,Vc,Nat.reduceAdd,Nat.reduceEqDiff,Nat.reduceBEq,Nat.reduceLeDiff,reduceCtorEq,↓reduceIte]
        refine⟨by simp,⟨by omega,by omega⟩,by decide,⟨by omega,by omega⟩,by decide,⟨by decide,by omega⟩,by simp,by simp;omega,s.branches.length-(k+1),_,by omega,Wk.less ?_,k+1,by omega,rfl,rfl⟩
        rw[List.take_succ_eq_append_getElem hlt,Vw,Va,Vb,hex1]
        simp only[go_sem,TMk,JE k (by omega),Vv,Vc,Nat.reduceAdd,Nat.reduceEqDiff,Nat.reduceBEq,Nat.reduceLeDiff,reduceCtorEq,↓reduceIte]
    · have hd:decide ((k:Int)<(s.branches.length:Int))=false:=by simp;omega
      obtain rfl:k=s.branches.length:=by omega
      simp only[go_sem,TMk,hd,Vu,Vv,Vc,Nat.reduceAdd,Nat.reduceEqDiff,Nat.reduceBEq,Nat.reduceLeDiff,reduceCtorEq,↓reduceIte]
      refine JK (fun n st=>∃k:Nat,k≤calls.length∧n=calls.length-k∧
        st=⟨[(0,.ref 1001 0),(3,.ref 3 0),(4,.ref 4 0),(5,.ref 5 0),(8,.d (.int .i64 k))],
          (3,.box [.d (.str s.name),.d (.int .i64 s.kind),.d (.int .i64 s.number),.d (.int .i64 s.time),.d (.int .i64 s.limit),.d (.str s.text),.d (.str s.schema),.d (.nil 5),.d (.list 6 (s.rules.map UR)),.d (.list 2 (calls.map JW)),.d (.list 2 (s.branches.map Jz))])::
          (4,.box [.d (.str []),.d (.int .i64 0),.d (.int .i64 0),.d (.int .i64 0),.d (.int .i64 0),.d (.int .i64 0),.d (.int .i64 0),.d (.str []),.d (.int .i64 0),.d (.int .i64 0),.d (.int .i64 0),.d (.int .i64 0),.d (.nil 1),.d (.nil 7),.d (.nil 11),.d (.nil 7),.d (.nil 5),.d (.nil 6),.d (.nil 2),.d (.nil 1)])::
          (5,.box [.d (.str s.name),.d (.int .i64 s.kind),.d (.int .i64 0),.d (.int .i64 0),.d (.int .i64 s.number),.d (.int .i64 s.time),.d (.int .i64 s.limit),.d (.str s.text),.d (.int .i64 0),.d (.int .i64 0),.d (.int .i64 0),.d (.int .i64 0),.d (.nil 1),.d (.nil 7),.d (.nil 11),.ms 154 k,.d (.list 5 (s.branches.map exB)),.d (.list 6 (s.rules.map UR)),.d (.list 2 (calls.map JW)),.d (.nil 1)])::
          (154,.row k 7 (tyO p (calls.take k)))::TMk p v s0 sv X es ek ev⟩) ?_ ?_
      · refine⟨_,_,(Wk.frzB 5 16 76 s.branches.length 5 ((s.branches.take s.branches.length).map exB) _ rfl rfl rfl).trans ((Wk.JCY 5 15 154 7 _ rfl rfl rfl (by decide)).trans (Wk.less ?_)),0,Nat.zero_le _,rfl,rfl⟩
        simp[go_sem,TMk,tyO]
      rintro n st ⟨k,hk,rfl,rfl⟩
      by_cases hlt:k<calls.length
      · have hd:decide ((k:Int)<(calls.length:Int))=true:=by simp;omega
        have hx:=JU JW hlt
        have htk:tyO p (calls.take (k+1))=tyO p (calls.take k)++tyC p calls[k]:=by unfold tyO;rw[List.take_succ_eq_append_getElem hlt,List.flatMap_append];simp
        have htl:=JCO hP (calls.take k)
        rw[List.length_take]at htl
        have c1:=(JI1 p calls[k].service hP.sv).call (by simp[U6])
        obtain⟨si,x,e1,hsi,-,hsx,hty⟩:=JGY hP calls[k]
        obtain⟨ia,ba,ta,e2,hia,-,hax,hta⟩:=JAE hP x.request
        obtain⟨ib,bb,tb,e3,hib,-,hbx,htb⟩:=JAE hP x.reply
        have c2:=(JAD p x.request hP.sc).call (by simp[U6])
        have c3:=(JAD p x.reply hP.sc).call (by simp[U6])
        rw[e1]at c1
        rw[e2]at c2
        rw[e3]at c3
        rw[hty,hta,htb,Yi,Yi]at htk
        simp only[Uk,JW]at hsx hx
        simp only[Uc]at hax hbx
        simp only[UA,Va,Vb]at c1 c2 c3
        simp only[go_sem,TMk,hd,hx,Vv,Vc,Nat.reduceAdd,Nat.reduceEqDiff,Nat.reduceBEq,Nat.reduceLeDiff,reduceCtorEq,↓reduceIte]
        refine⟨by omega,by decide,?_⟩
        refine JT rfl c1 trivial ?_
        simp only[go_sem,TMk,hsx,Vv,Vc,Nat.reduceAdd,Nat.reduceEqDiff,Nat.reduceBEq,Nat.reduceLeDiff,reduceCtorEq,↓reduceIte]
        refine⟨⟨by omega,by omega⟩,by decide,?_⟩
        refine JT rfl c2 trivial ?_
        simp only[go_sem,TMk,hsx,Vv,Vc,Nat.reduceAdd,Nat.reduceEqDiff,Nat.reduceBEq,Nat.reduceLeDiff,reduceCtorEq,↓reduceIte]
        refine⟨⟨by omega,by omega⟩,by decide,?_⟩
        refine JT rfl c3 trivial ?_
        simp only[go_sem,TMk,hax,hbx,Vv,Vc,Nat.reduceAdd,Nat.reduceEqDiff,Nat.reduceBEq,Nat.reduceLeDiff,reduceCtorEq,↓reduceIte]
        refine⟨⟨by omega,by omega⟩,⟨by omega,by omega⟩,by simp,by omega,rfl,calls.length-(k+1),_,by omega,Wk.less ?_,k+1,by omega,rfl,rfl⟩
        simp only[go_sem,TMk,JE k (by omega),htk,Vv,Vc,Nat.reduceAdd,Nat.reduceEqDiff,Nat.reduceBEq,Nat.reduceLeDiff,reduceCtorEq,↓reduceIte]
      · have hd:decide ((k:Int)<(calls.length:Int))=false:=by simp;omega
        obtain rfl:k=calls.length:=by omega
        simp only[go_sem,TMk,hd,Vv,Vc,Nat.reduceAdd,Nat.reduceEqDiff,Nat.reduceBEq,Nat.reduceLeDiff,reduceCtorEq,↓reduceIte]
        rw[List.take_length]
  · have hk1:(s.kind==11)=false:=by simpa using hk
    simp only[hk,if_false]
    obtain⟨EX,hEX⟩:∃E,E=Yj s.exprs:=⟨_,rfl⟩
    rw[←hEX]at g1 g2⊢
    by_cases hk2:s.kind=12
    · have hk3:(s.kind==12)=true:=by simpa using hk2
      rw[if_pos hk2]
      simp only[go_sem,JPn,TMk,g1,g2,hk3,Vv,Vc,Nat.reduceAdd,Nat.reduceEqDiff,Nat.reduceBEq,Nat.reduceLeDiff,reduceCtorEq,↓reduceIte]
      refine JK (fun n st=>st=⟨[(0,.ref 1001 0),(3,.ref 3 0),(4,.ref 4 0),(5,.ref 5 0),(6,.d (.int .i64 0))],
        (3,.box [.d (.str s.name),.d (.int .i64 s.kind),.d (.int .i64 s.number),.d (.int .i64 s.time),.d (.int .i64 s.limit),.d (.str s.text),.d (.str s.schema),.d EX,.d (.list 6 (s.rules.map UR)),.d (.list 2 (calls.map JW)),.d (.list 2 (s.branches.map Jz))])::
        (4,.box [.d (.str []),.d (.int .i64 0),.d (.int .i64 0),.d (.int .i64 0),.d (.int .i64 0),.d (.int .i64 0),.d (.int .i64 0),.d (.str []),.d (.int .i64 0),.d (.int .i64 0),.d (.int .i64 0),.d (.int .i64 0),.d (.nil 1),.d (.nil 7),.d (.nil 11),.d (.nil 7),.d (.nil 5),.d (.nil 6),.d (.nil 2),.d (.nil 1)])::
        (5,.box [.d (.str s.name),.d (.int .i64 s.kind),.d (.int .i64 0),.d (.int .i64 0),.d (.int .i64 s.branches.length),.d (.int .i64 s.time),.d (.int .i64 s.limit),.d (.str s.text),.d (.int .i64 0),.d (.int .i64 0),.d (.int .i64 0),.d (.int .i64 0),.d (.nil 1),.d (.nil 7),.d (.nil 11),.d (.nil 7),.d EX,.d (.list 6 (s.rules.map UR)),.d (.list 2 (calls.map JW)),.d (.nil 1)])::
        TMk p v s0 sv X es ek ev⟩) ?_ ?_
      · refine⟨0,_,Wk.less ?_,rfl⟩
        simp[go_sem,TMk]
      rintro n st rfl
      simp only[go_sem,TMk,g1,g2,Vv,Vc,Nat.reduceAdd,Nat.reduceEqDiff,Nat.reduceBEq,Nat.reduceLeDiff,reduceCtorEq,↓reduceIte]
      refine Y4 false (fun _=>?_) ?_
      · simp only[go_sem,TMk,g1,g2,hk1,Vv,Vc,Nat.reduceAdd,Nat.reduceEqDiff,Nat.reduceBEq,Nat.reduceLeDiff,reduceCtorEq,↓reduceIte]
      simp only[go_sem,TMk,g1,g2,Bool.and_false,Vu,Vv,Vc,Nat.reduceAdd,Nat.reduceEqDiff,Nat.reduceBEq,Nat.reduceLeDiff,reduceCtorEq,↓reduceIte]
      refine JK (fun n st=>∃k:Nat,k≤calls.length∧n=calls.length-k∧
        st=⟨[(0,.ref 1001 0),(3,.ref 3 0),(4,.ref 4 0),(5,.ref 5 0),(8,.d (.int .i64 k))],
          (3,.box [.d (.str s.name),.d (.int .i64 s.kind),.d (.int .i64 s.number),.d (.int .i64 s.time),.d (.int .i64 s.limit),.d (.str s.text),.d (.str s.schema),.d EX,.d (.list 6 (s.rules.map UR)),.d (.list 2 (calls.map JW)),.d (.list 2 (s.branches.map Jz))])::
          (4,.box [.d (.str []),.d (.int .i64 0),.d (.int .i64 0),.d (.int .i64 0),.d (.int .i64 0),.d (.int .i64 0),.d (.int .i64 0),.d (.str []),.d (.int .i64 0),.d (.int .i64 0),.d (.int .i64 0),.d (.int .i64 0),.d (.nil 1),.d (.nil 7),.d (.nil 11),.d (.nil 7),.d (.nil 5),.d (.nil 6),.d (.nil 2),.d (.nil 1)])::
          (5,.box [.d (.str s.name),.d (.int .i64 s.kind),.d (.int .i64 0),.d (.int .i64 0),.d (.int .i64 s.branches.length),.d (.int .i64 s.time),.d (.int .i64 s.limit),.d (.str s.text),.d (.int .i64 0),.d (.int .i64 0),.d (.int .i64 0),.d (.int .i64 0),.d (.nil 1),.d (.nil 7),.d (.nil 11),.ms 154 k,.d EX,.d (.list 6 (s.rules.map UR)),.d (.list 2 (calls.map JW)),.d (.nil 1)])::
          (154,.row k 7 (tyO p (calls.take k)))::TMk p v s0 sv X es ek ev⟩) ?_ ?_
      · refine⟨_,_,(Wk.JCY 5 15 154 7 _ rfl rfl rfl (by decide)).trans (Wk.less ?_),0,Nat.zero_le _,rfl,rfl⟩
        simp[go_sem,TMk,tyO]
      rintro n st ⟨k,hk,rfl,rfl⟩
      by_cases hlt:k<calls.length
      · have hd:decide ((k:Int)<(calls.length:Int))=true:=by simp;omega
        have hx:=JU JW hlt
        have htk:tyO p (calls.take (k+1))=tyO p (calls.take k)++tyC p calls[k]:=by unfold tyO;rw[List.take_succ_eq_append_getElem hlt,List.flatMap_append];simp
        have htl:=JCO hP (calls.take k)
        rw[List.length_take]at htl
        have c1:=(JI1 p calls[k].service hP.sv).call (by simp[U6])
        obtain⟨si,x,e1,hsi,-,hsx,hty⟩:=JGY hP calls[k]
        obtain⟨ia,ba,ta,e2,hia,-,hax,hta⟩:=JAE hP x.request
        obtain⟨ib,bb,tb,e3,hib,-,hbx,htb⟩:=JAE hP x.reply
        have c2:=(JAD p x.request hP.sc).call (by simp[U6])
        have c3:=(JAD p x.reply hP.sc).call (by simp[U6])
        rw[e1]at c1
        rw[e2]at c2
        rw[e3]at c3
        rw[hty,hta,htb,Yi,Yi]at htk
        simp only[Uk,JW]at hsx hx
        simp only[Uc]at hax hbx
        simp only[UA,Va,Vb]at c1 c2 c3
        simp only[go_sem,TMk,hd,hx,Vv,Vc,Nat.reduceAdd,Nat.reduceEqDiff,Nat.reduceBEq,Nat.reduceLeDiff,reduceCtorEq,↓reduceIte]
        refine⟨by omega,by decide,?_⟩
        refine JT rfl c1 trivial ?_
        simp only[go_sem,TMk,hsx,Vv,Vc,Nat.reduceAdd,Nat.reduceEqDiff,Nat.reduceBEq,Nat.reduceLeDiff,reduceCtorEq,↓reduceIte]
        refine⟨⟨by omega,by omega⟩,by decide,?_⟩
        refine JT rfl c2 trivial ?_
        simp only[go_sem,TMk,hsx,Vv,Vc,Nat.reduceAdd,Nat.reduceEqDiff,Nat.reduceBEq,Nat.reduceLeDiff,reduceCtorEq,↓reduceIte]
        refine⟨⟨by omega,by omega⟩,by decide,?_⟩
        refine JT rfl c3 trivial ?_
        simp only[go_sem,TMk,hax,hbx,Vv,Vc,Nat.reduceAdd,Nat.reduceEqDiff,Nat.reduceBEq,Nat.reduceLeDiff,reduceCtorEq,↓reduceIte]
        refine⟨⟨by omega,by omega⟩,⟨by omega,by omega⟩,by simp,by omega,rfl,calls.length-(k+1),_,by omega,Wk.less ?_,k+1,by omega,rfl,rfl⟩
        simp only[go_sem,TMk,JE k (by omega),htk,Vv,Vc,Nat.reduceAdd,Nat.reduceEqDiff,Nat.reduceBEq,Nat.reduceLeDiff,reduceCtorEq,↓reduceIte]
      · have hd:decide ((k:Int)<(calls.length:Int))=false:=by simp;omega
        obtain rfl:k=calls.length:=by omega
        simp only[go_sem,TMk,hd,Vv,Vc,Nat.reduceAdd,Nat.reduceEqDiff,Nat.reduceBEq,Nat.reduceLeDiff,reduceCtorEq,↓reduceIte]
        rw[List.take_length]
    · have hk3:(s.kind==12)=false:=by simpa using hk2
      simp only[hk2,if_false]
      simp only[go_sem,JPn,TMk,g1,g2,hk3,Vu,Vv,Vc,Nat.reduceAdd,Nat.reduceEqDiff,Nat.reduceBEq,Nat.reduceLeDiff,reduceCtorEq,↓reduceIte]
      refine JK (fun n st=>st=⟨[(0,.ref 1001 0),(3,.ref 3 0),(4,.ref 4 0),(5,.ref 5 0),(6,.d (.int .i64 0))],
        (3,.box [.d (.str s.name),.d (.int .i64 s.kind),.d (.int .i64 s.number),.d (.int .i64 s.time),.d (.int .i64 s.limit),.d (.str s.text),.d (.str s.schema),.d EX,.d (.list 6 (s.rules.map UR)),.d (.list 2 (calls.map JW)),.d (.list 2 (s.branches.map Jz))])::
        (4,.box [.d (.str []),.d (.int .i64 0),.d (.int .i64 0),.d (.int .i64 0),.d (.int .i64 0),.d (.int .i64 0),.d (.int .i64 0),.d (.str []),.d (.int .i64 0),.d (.int .i64 0),.d (.int .i64 0),.d (.int .i64 0),.d (.nil 1),.d (.nil 7),.d (.nil 11),.d (.nil 7),.d (.nil 5),.d (.nil 6),.d (.nil 2),.d (.nil 1)])::
        (5,.box [.d (.str s.name),.d (.int .i64 s.kind),.d (.int .i64 0),.d (.int .i64 0),.d (.int .i64 s.number),.d (.int .i64 s.time),.d (.int .i64 s.limit),.d (.str s.text),.d (.int .i64 0),.d (.int .i64 0),.d (.int .i64 0),.d (.int .i64 0),.d (.nil 1),.d (.nil 7),.d (.nil 11),.d (.nil 7),.d EX,.d (.list 6 (s.rules.map UR)),.d (.list 2 (calls.map JW)),.d (.nil 1)])::
        TMk p v s0 sv X es ek ev⟩) ?_ ?_
      · refine⟨0,_,Wk.less ?_,rfl⟩
        simp[go_sem,TMk]
      rintro n st rfl
      simp only[go_sem,TMk,g1,g2,Vv,Vc,Nat.reduceAdd,Nat.reduceEqDiff,Nat.reduceBEq,Nat.reduceLeDiff,reduceCtorEq,↓reduceIte]
      refine Y4 false (fun _=>?_) ?_
      · simp only[go_sem,TMk,g1,g2,hk1,Vv,Vc,Nat.reduceAdd,Nat.reduceEqDiff,Nat.reduceBEq,Nat.reduceLeDiff,reduceCtorEq,↓reduceIte]
      simp only[go_sem,TMk,g1,g2,Bool.and_false,Vu,Vv,Vc,Nat.reduceAdd,Nat.reduceEqDiff,Nat.reduceBEq,Nat.reduceLeDiff,reduceCtorEq,↓reduceIte]
      refine JK (fun n st=>∃k:Nat,k≤calls.length∧n=calls.length-k∧
        st=⟨[(0,.ref 1001 0),(3,.ref 3 0),(4,.ref 4 0),(5,.ref 5 0),(8,.d (.int .i64 k))],
          (3,.box [.d (.str s.name),.d (.int .i64 s.kind),.d (.int .i64 s.number),.d (.int .i64 s.time),.d (.int .i64 s.limit),.d (.str s.text),.d (.str s.schema),.d EX,.d (.list 6 (s.rules.map UR)),.d (.list 2 (calls.map JW)),.d (.list 2 (s.branches.map Jz))])::
          (4,.box [.d (.str []),.d (.int .i64 0),.d (.int .i64 0),.d (.int .i64 0),.d (.int .i64 0),.d (.int .i64 0),.d (.int .i64 0),.d (.str []),.d (.int .i64 0),.d (.int .i64 0),.d (.int .i64 0),.d (.int .i64 0),.d (.nil 1),.d (.nil 7),.d (.nil 11),.d (.nil 7),.d (.nil 5),.d (.nil 6),.d (.nil 2),.d (.nil 1)])::
          (5,.box [.d (.str s.name),.d (.int .i64 s.kind),.d (.int .i64 0),.d (.int .i64 0),.d (.int .i64 s.number),.d (.int .i64 s.time),.d (.int .i64 s.limit),.d (.str s.text),.d (.int .i64 0),.d (.int .i64 0),.d (.int .i64 0),.d (.int .i64 0),.d (.nil 1),.d (.nil 7),.d (.nil 11),.ms 154 k,.d EX,.d (.list 6 (s.rules.map UR)),.d (.list 2 (calls.map JW)),.d (.nil 1)])::
          (154,.row k 7 (tyO p (calls.take k)))::TMk p v s0 sv X es ek ev⟩) ?_ ?_
      · refine⟨_,_,(Wk.JCY 5 15 154 7 _ rfl rfl rfl (by decide)).trans (Wk.less ?_),0,Nat.zero_le _,rfl,rfl⟩
        simp[go_sem,TMk,tyO]
      rintro n st ⟨k,hk,rfl,rfl⟩
      by_cases hlt:k<calls.length
      · have hd:decide ((k:Int)<(calls.length:Int))=true:=by simp;omega
        have hx:=JU JW hlt
        have htk:tyO p (calls.take (k+1))=tyO p (calls.take k)++tyC p calls[k]:=by unfold tyO;rw[List.take_succ_eq_append_getElem hlt,List.flatMap_append];simp
        have htl:=JCO hP (calls.take k)
        rw[List.length_take]at htl
        have c1:=(JI1 p calls[k].service hP.sv).call (by simp[U6])
        obtain⟨si,x,e1,hsi,-,hsx,hty⟩:=JGY hP calls[k]
        obtain⟨ia,ba,ta,e2,hia,-,hax,hta⟩:=JAE hP x.request
        obtain⟨ib,bb,tb,e3,hib,-,hbx,htb⟩:=JAE hP x.reply
        have c2:=(JAD p x.request hP.sc).call (by simp[U6])
        have c3:=(JAD p x.reply hP.sc).call (by simp[U6])
        rw[e1]at c1
        rw[e2]at c2
        rw[e3]at c3
        rw[hty,hta,htb,Yi,Yi]at htk
        simp only[Uk,JW]at hsx hx
        simp only[Uc]at hax hbx
        simp only[UA,Va,Vb]at c1 c2 c3
        simp only[go_sem,TMk,hd,hx,Vv,Vc,Nat.reduceAdd,Nat.reduceEqDiff,Nat.reduceBEq,Nat.reduceLeDiff,reduceCtorEq,↓reduceIte]
        refine⟨by omega,by decide,?_⟩
        refine JT rfl c1 trivial ?_
        simp only[go_sem,TMk,hsx,Vv,Vc,Nat.reduceAdd,Nat.reduceEqDiff,Nat.reduceBEq,Nat.reduceLeDiff,reduceCtorEq,↓reduceIte]
        refine⟨⟨by omega,by omega⟩,by decide,?_⟩
        refine JT rfl c2 trivial ?_
        simp only[go_sem,TMk,hsx,Vv,Vc,Nat.reduceAdd,Nat.reduceEqDiff,Nat.reduceBEq,Nat.reduceLeDiff,reduceCtorEq,↓reduceIte]
        refine⟨⟨by omega,by omega⟩,by decide,?_⟩
        refine JT rfl c3 trivial ?_
        simp only[go_sem,TMk,hax,hbx,Vv,Vc,Nat.reduceAdd,Nat.reduceEqDiff,Nat.reduceBEq,Nat.reduceLeDiff,reduceCtorEq,↓reduceIte]
        refine⟨⟨by omega,by omega⟩,⟨by omega,by omega⟩,by simp,by omega,rfl,calls.length-(k+1),_,by omega,Wk.less ?_,k+1,by omega,rfl,rfl⟩
        simp only[go_sem,TMk,JE k (by omega),htk,Vv,Vc,Nat.reduceAdd,Nat.reduceEqDiff,Nat.reduceBEq,Nat.reduceLeDiff,reduceCtorEq,↓reduceIte]
      · have hd:decide ((k:Int)<(calls.length:Int))=false:=by simp;omega
        obtain rfl:k=calls.length:=by omega
        simp only[go_sem,TMk,hd,Vv,Vc,Nat.reduceAdd,Nat.reduceEqDiff,Nat.reduceBEq,Nat.reduceLeDiff,reduceCtorEq,↓reduceIte]
        rw[List.take_length]
end Go.Proofs
namespace Go.Proofs
open Go Av
def mpI(l:List (Str×Int)):List (Dat×Dat):=l.map fun e=>(.str e.1,.int .i64 e.2)
def lkS:List (Str×Int)→Str→Option Int
 |[],_=>none
 |e::r,k=>if k==e.1 then some e.2 else lkS r k
def lkI(l:List (Str×Int))(k:Str):Int:=(lkS l k).getD 0
def puS:List (Str×Int)→Str→Int→List (Str×Int)
 |[],k,v=>[(k,v)]
 |e::r,k,v=>if k==e.1 then(k,v)::r else e::puS r k v
theorem YC(k:Str):∀l:List (Str×Int),YG .s (mpI l) (.str k)=some ((lkS l k).map fun n=>Dat.int .i64 n)
 |[]=>rfl
 |e::r=>by
  have ih:=YC k r;simp only[mpI,Va,YG,UQ]at ih⊢;cases h:k==e.1
  ·simp only[lkS,h,Vu,if_false];exact ih
  ·simp only[lkS,h,if_true];rfl
theorem JCP(k:Str)(v:Int):∀l:List (Str×Int),Zu .s (mpI l) (.str k) (.int .i64 v)=mpI (puS l k v)
 |[]=>rfl
 |e::r=>by
  have ih:=JCP k v r;simp only[mpI,Va,Zu,UQ]at ih⊢;cases h:k==e.1
  ·simp only[puS,h,Vu,if_false,Va,ih]
  ·simp only[puS,h,if_true,Va]
theorem JEs(o:Option Int):(o.map fun n=>Dat.int .i64 n).getD (.int .i64 0)=.int .i64 (o.getD 0):=by cases o<;>rfl
def bgn(es ek:List (Str×Int))(l:List Ste)(behind:Int):Int:=match l with
 |[]=>behind
 |s::_=>if s.kind==13 then lkI ek s.text else lkI es s.name
theorem JRY(p:Prg)(l:List Ste)(behind:Int)(v s0 sv:Nat)(X:List Dat)(es ek ev:List (Str×Int)):
  KT 42 [.ref 1001 0,.d (.list 11 (l.map JI)),.d (.int .i64 behind)] (TMk p v s0 sv X (mpI es) (mpI ek) (mpI ev)) (.d (.int .i64 (bgn es ek l behind))) []:=by
 refine ok42.con (k:=some false) (Nat.le_of_ble_eq_true rfl) (Zm _ _ _ _ _ _ _ _) trivial ?_;cases l with
 |nil=>
  have h0:(((0:Nat):Int)==0)=true:=rfl;simp only[go_sem,JPo,TMk,Vb,Vm,h0,bgn,Vv,Vc,Nat.reduceAdd,Nat.reduceEqDiff,Nat.reduceBEq,Nat.reduceLeDiff,reduceCtorEq,↓reduceIte]
 |cons s r=>
  have h0:(((r.length+1:Nat):Int)==0)=false:=sO;have hn:nth (JI s::r.map JI) (Int.toNat 0)=JI s:=rfl;rw[JV]at hn;cases hk:s.kind==13
  ·simp only[go_sem,JPo,TMk,Va,Vf,h0,JV s,hn,hk,YC,JEs,Vu,bgn,Vv,Vc,Nat.reduceAdd,Nat.reduceEqDiff,Nat.reduceBEq,Nat.reduceLeDiff,reduceCtorEq,↓reduceIte];exact⟨⟨dC,oM⟩,dC,⟨dC,oM⟩,dC,rfl⟩
  ·simp only[go_sem,JPo,TMk,Va,Vf,h0,JV s,hn,hk,YC,JEs,Vu,bgn,Vv,Vc,Nat.reduceAdd,Nat.reduceEqDiff,Nat.reduceBEq,Nat.reduceLeDiff,reduceCtorEq,↓reduceIte];exact⟨⟨dC,oM⟩,dC,⟨dC,oM⟩,dC,rfl⟩
structure Rn where
 name:Str
 kind:Int
 schema:Int
 result:Int
 number:Int
 time:Int
 limit:Int
 text:Str
 tk:Int
 tn:Int
 tm:Int
 tc:Int
 tw:Dat
 te:Dat
 tf:Dat
 ts:Dat
 ex:Dat
 ru:Dat
 ca:Dat
 next:List Int
def nxD(l:List Int):Dat:=match l with|[]=>.nil 1|_=>.own 1 (l.map (.int .i64))
def owN(n:Rn):Dat:=.agg [.str n.name,.int .i64 n.kind,.int .i64 n.schema,.int .i64 n.result,.int .i64 n.number,.int .i64 n.time,.int .i64 n.limit,.str n.text,.int .i64 n.tk,.int .i64 n.tn,.int .i64 n.tm,.int .i64 n.tc,n.tw,n.te,n.tf,n.ts,n.ex,n.ru,n.ca,nxD n.next]
structure Nd where
 name:Str
 kind:Int
 schema:Int
 result:Int
 number:Int
 time:Int
 limit:Int
 text:Str
 type:Typ
 types:List Typ
 exprs:List Exp
 rules:List Rule
 calls:List Kal
 next:List Int
def Uh(n:Nd):Dat:=.agg [.str n.name,.int .i64 n.kind,.int .i64 n.schema,.int .i64 n.result,.int .i64 n.number,.int .i64 n.time,.int .i64 n.limit,.str n.text,.int .i64 n.type.kind,.int .i64 n.type.min,.int .i64 n.type.max,.int .i64 n.type.scale,.list 1 (n.type.words.map .str),.list 7 (n.type.elem.map Xp),.list 11 (n.type.fields.map JCD),.list 7 (n.types.map Xp),.list 5 (n.exprs.map Jf),.list 6 (n.rules.map UR),.list 2 (n.calls.map JW),.list 1 (n.next.map (.int .i64))]
structure okR(n:Rn):Prop where
 w:Jw n.tw=false
 e:Jw n.te=false
 f:Jw n.tf=false
 tw:∃l:List Str,n.tw.dat.canon=.list 1 (l.map .str)
 te:∃l:List Typ,n.te.dat.canon=.list 7 (l.map Xp)
 tf:∃l:List TFl,n.tf.dat.canon=.list 11 (l.map JCD)
 ts:∃l:List Typ,n.ts.dat.canon=.list 7 (l.map Xp)∧l.length≤4000000000
 ex:∃l:List Exp,n.ex.dat.canon=.list 5 (l.map Jf)∧l.length≤4000000000
 ru:∃l:List Rule,n.ru.dat.canon=.list 6 (l.map UR)
 ca:∃l:List Kal,n.ca.dat.canon=.list 2 (l.map JW)∧l.length≤4000000000
def upN(N:List Rn)(i:Nat)(f:Rn→Rn):List Rn:=match N[i]? with
 |some n=>N.set i (f n)
 |none=>N
theorem JGZ(N:List Rn)(i:Nat)(f:Rn→Rn):(upN N i f).length=N.length:=by unfold upN;split<;>simp
theorem JAt{N:List Rn}{i:Nat}(h:i<N.length)(f:Rn→Rn):upN N i f=N.set i (f N[i]):=by unfold upN;rw[Vl h]
theorem JQR{N:List Rn}{i:Nat}{f:Rn→Rn}{x:Rn}(h:x∈upN N i f):x∈N∨∃n∈N,x=f n:=by
 unfold upN at h;split at h
 ·rename_i n e;rcases List.mem_or_eq_of_mem_set h with h|h
  ·exact .inl h
  ·exact .inr ⟨n,List.mem_of_getElem? e,h⟩
 ·exact .inl h
def Rn.sch(n:Rn)(s r:Int):Rn:={n with schema:=s,result:=r}
def Rn.typ(n:Rn)(t:Typ):Rn:={n with tk:=t.kind,tn:=t.min,tm:=t.max,tc:=t.scale,tw:=.list 1 (t.words.map .str),te:=.list 7 (t.elem.map Xp),tf:=.list 11 (t.fields.map JCD)}
def Rn.nxt(n:Rn)(l:List Int):Rn:={n with next:=l}
def JS2(p:Prg)(n:Str):Option Typ:=(p.schemas[(JCN p.schemas n).1]?).map Sch.type
abbrev NS:=List Rn×Nat
def plT(p:Prg)(es:List (Str×Int))(s:Ste)(now:Int)(S:NS):Int×NS:=
 if s.schema==[]then(now,upN S.1 (lkI es s.name).toNat (·.sch now (-1)),S.2)
 else(((JCN p.schemas s.schema).1:Nat),upN S.1 (lkI es s.name).toNat (fun n=>match JS2 p s.schema with|some t=>(n.sch now ((JCN p.schemas s.schema).1:Nat)).typ t|none=>n),S.2)
def addN(S:NS)(i:Nat)(k:Int):NS:=(upN S.1 i (fun n=>n.nxt (n.next++[k])),match S.1[i]? with|some n=>if n.next=[]then S.2+1 else S.2+2|none=>S.2)
mutual
def plS(p:Prg)(es ek:List (Str×Int)):Ste→Int→Int→NS→Int×NS
 |.mk n k u t l x c e ru a b,nxt,now,S=>
  let q:=plT p es (.mk n k u t l x c e ru a b) now S
  if k==14 then q
  else if k==11||k==12 then
   let r:=YU p es ek b (lkI es n).toNat nxt q.1 (-1) q.2
   (if decide (r.1≥0)then r.1 else q.1,r.2)
  else(q.1,upN q.2.1 (lkI es n).toNat (·.nxt [nxt]),q.2.2+1)
def XU(p:Prg)(es ek:List (Str×Int)):List Ste→Int→Int→NS→Int×NS
 |[],now,_,S=>(now,S)
 |s::r,now,behind,S=>if s.kind==13 then XU p es ek r now behind S
  else let q:=plS p es ek s (bgn es ek r behind) now S;XU p es ek r q.1 behind q.2
def plB(p:Prg)(es ek:List (Str×Int)):Brn→Nat→Int→Int→Int→NS→Int×NS
 |.mk w l,i,nxt,now,after,S=>
  let q:=XU p es ek l now nxt (addN S i (bgn es ek l nxt))
  (if decide (after<0)&& !Ug l then q.1 else after,q.2)
def YU(p:Prg)(es ek:List (Str×Int)):List Brn→Nat→Int→Int→Int→NS→Int×NS
 |[],_,_,_,after,S=>(after,S)
 |x::r,i,nxt,now,after,S=>let q:=plB p es ek x i nxt now after S;YU p es ek r i nxt now q.1 q.2
end
end Go.Proofs
namespace Go.Proofs
open Go Av
variable {b:Nat}{n:Rn}
def NB(N:List Rn)(b:Nat):Prop:=∀n∈N,okR n∧n.next.length≤b
theorem NB.le{N:List Rn}{a:Nat}(h:NB N a)(hab:a≤b):NB N b:=fun n hn=>⟨(h n hn).1,Nat.le_trans (h n hn).2 hab⟩
theorem NB.up{N:List Rn}{a:Nat}(h:NB N a)(hab:a≤b)(i:Nat){f:Rn→Rn}(hf:∀n∈N,okR (f n)∧(f n).next.length≤b):NB (upN N i f) b:=by
 intro n hn;rcases JQR hn with hn|⟨m,hm,rfl⟩
 ·exact(h.le hab) n hn
 ·exact hf m hm
theorem okR.sch(h:okR n)(s r:Int):okR (n.sch s r):=⟨h.w,h.e,h.f,h.tw,h.te,h.tf,h.ts,h.ex,h.ru,h.ca⟩
theorem okR.nxt(h:okR n)(l:List Int):okR (n.nxt l):=⟨h.w,h.e,h.f,h.tw,h.te,h.tf,h.ts,h.ex,h.ru,h.ca⟩
theorem okR.typ(h:okR n)(t:Typ):okR (n.typ t):=⟨rfl,rfl,rfl,⟨t.words,by simp only[Rn.typ,Dat.dat,Dat.canon,Xj]⟩,⟨t.elem,by simp only[Rn.typ,Dat.dat,Dat.canon,Xk]⟩,⟨t.fields,by simp only[Rn.typ,Dat.dat,Dat.canon,YR]⟩,h.ts,h.ex,h.ru,h.ca⟩
variable {p:Prg}{es ek:List (Str×Int)}
theorem JGa(s:Ste)(now:Int)(S:NS):(plT p es s now S).2.1.length=S.1.length:=by
 unfold plT;split<;>exact JGZ _ _ _
theorem JI3(s:Ste)(now:Int){S:NS}(h:NB S.1 b):NB (plT p es s now S).2.1 b:=by
 unfold plT;split
 ·exact h.up (Nat.le_refl _) _ fun n hn=>⟨(h n hn).1.sch _ _,(h n hn).2⟩
 ·refine h.up (Nat.le_refl _) _ fun n hn=>?_
  cases JS2 p s.schema with
  |none=>exact h n hn
  |some t=>exact⟨((h n hn).1.sch _ _).typ t,(h n hn).2⟩
theorem Xx(S:NS)(i:Nat)(k:Int):(addN S i k).1.length=S.1.length:=JGZ _ _ _
theorem JCQ{S:NS}(h:NB S.1 b)(i:Nat)(k:Int):NB (addN S i k).1 (b+1):=by
 refine h.up (Nat.le_succ _) _ fun n hn=>⟨(h n hn).1.nxt _,?_⟩
 have:=(h n hn).2;simp only[Rn.nxt,Vg,Vf,Vm];omega
theorem JS3(s:Ste)(nxt now:Int)(S:NS):plS p es ek s nxt now S=
  if s.kind==14 then plT p es s now S
  else if s.kind==11||s.kind==12 then
   (if decide ((YU p es ek s.branches (lkI es s.name).toNat nxt (plT p es s now S).1 (-1) (plT p es s now S).2).1≥0)then(YU p es ek s.branches (lkI es s.name).toNat nxt (plT p es s now S).1 (-1) (plT p es s now S).2).1 else(plT p es s now S).1,(YU p es ek s.branches (lkI es s.name).toNat nxt (plT p es s now S).1 (-1) (plT p es s now S).2).2)
  else((plT p es s now S).1,upN (plT p es s now S).2.1 (lkI es s.name).toNat (·.nxt [nxt]),(plT p es s now S).2.2+1):=by
 cases s;simp only[plS];rfl
theorem JGb(x:Brn)(i:Nat)(nxt now after:Int)(S:NS):plB p es ek x i nxt now after S=
  (if decide (after<0)&& !Ug x.steps then(XU p es ek x.steps now nxt (addN S i (bgn es ek x.steps nxt))).1 else after,(XU p es ek x.steps now nxt (addN S i (bgn es ek x.steps nxt))).2):=by
 cases x;simp only[plB];rfl
mutual
theorem JQS:∀(s:Ste) (nxt now:Int) (S:NS),(plS p es ek s nxt now S).2.1.length=S.1.length
 |.mk n k u t l x c e ru a b,nxt,now,S=>by
  simp only[plS];split
  ·exact JGa _ _ _
  ·split
   ·show(YU p es ek b _ _ _ _ _).2.1.length=_;rw[JH0 b];exact JGa _ _ _
   ·show(upN _ _ _).length=_;rw[JGZ];exact JGa _ _ _
theorem YV:∀(l:List Ste) (now behind:Int) (S:NS),(XU p es ek l now behind S).2.1.length=S.1.length
 |[],_,_,_=>rfl
 |s::r,now,behind,S=>by
  simp only[XU];split
  ·exact YV r _ _ _
  ·rw[YV r,JQS s]
theorem JQT:∀(x:Brn) (i:Nat) (nxt now after:Int) (S:NS),(plB p es ek x i nxt now after S).2.1.length=S.1.length
 |.mk w l,i,nxt,now,after,S=>by
  simp only[plB];rw[YV l,Xx]
theorem JH0:∀(l:List Brn) (i:Nat) (nxt now after:Int) (S:NS),(YU p es ek l i nxt now after S).2.1.length=S.1.length
 |[],_,_,_,_,_=>rfl
 |x::r,i,nxt,now,after,S=>by
  simp only[YU];rw[JH0 r,JQT x]
end
mutual
theorem JS4:∀(s:Ste) (nxt now:Int) (S:NS) (b:Nat),NB S.1 b→NB (plS p es ek s nxt now S).2.1 (b+szS s)
 |.mk n k u t l x c e ru a bs,nxt,now,S,b,h=>by
  have hT:=JI3 (p:=p) (es:=es) (.mk n k u t l x c e ru a bs) now h;simp only[plS,szS];split
  ·exact hT.le oM
  ·split
   ·exact(JJ6 bs _ _ _ _ _ b hT).le oM
   ·refine hT.up oM _ fun n hn=>⟨(hT n hn).1.nxt _,?_⟩
    show[nxt].length≤_;simp only[Vf,Vm];omega
theorem ZW:∀(l:List Ste) (now behind:Int) (S:NS) (b:Nat),NB S.1 b→NB (XU p es ek l now behind S).2.1 (b+J3 l)
 |[],_,_,_,b,h=>h
 |s::r,now,behind,S,b,h=>by
  simp only[XU,J3];split
  ·exact(ZW r _ _ _ b h).le oM
  ·exact(ZW r _ _ _ _ (JS4 s _ _ _ b h)).le oM
theorem JS5:∀(x:Brn) (i:Nat) (nxt now after:Int) (S:NS) (b:Nat),NB S.1 b→NB (plB p es ek x i nxt now after S).2.1 (b+szB x)
 |.mk w l,i,nxt,now,after,S,b,h=>by
  simp only[plB,szB];exact(ZW l _ _ _ _ (JCQ h i _)).le oM
theorem JJ6:∀(l:List Brn) (i:Nat) (nxt now after:Int) (S:NS) (b:Nat),NB S.1 b→NB (YU p es ek l i nxt now after S).2.1 (b+XN l)
 |[],_,_,_,_,_,b,h=>h
 |x::r,i,nxt,now,after,S,b,h=>by
  simp only[YU,XN];exact(JJ6 r _ _ _ _ _ _ (JS5 x _ _ _ _ _ b h)).le oM
end
end Go.Proofs
namespace Go.Proofs
open Go Av
variable {N:List Rn}{i:Nat}
theorem XE(n:Rn):owN n=.agg [.str n.name,.int .i64 n.kind,.int .i64 n.schema,.int .i64 n.result,.int .i64 n.number,.int .i64 n.time,.int .i64 n.limit,.str n.text,.int .i64 n.tk,.int .i64 n.tn,.int .i64 n.tm,.int .i64 n.tc,n.tw,n.te,n.tf,n.ts,n.ex,n.ru,n.ca,nxD n.next]:=rfl
theorem JQU(h:i<N.length)(n:Rn)(hl:n.next≠[]):nodeAt (.own 20 ((N.set i n).map owN)) [(i,19)]=some (.own 1 (n.next.map (.int .i64))):=by
 have e:((N.set i n).map owN)[i]? =some (owN n):=by simp[h]
 simp only[nodeAt,cellAt,e,Option.bind_some,owN,Dat.cells,List.getElem?_cons_succ,List.getElem?_cons_zero];unfold nxD;cases hn:n.next with
 |nil=>exact absurd hn hl
 |cons a r=>rfl
theorem JCR(h:i<N.length)(n:Rn)(hl:n.next≠[]):inner 20 ((N.set i n).map owN) [(i,19)]=some ([],i,19,1,n.next.map (.int .i64)):=by
 have:=JQU h n hl;simp only[inner,List.getLast?_singleton,this,List.dropLast_singleton]
theorem JJ7(h:i<N.length)(n:Rn)(f:Rn→Rn):upN (N.set i n) i f=N.set i (f n):=by
 rw[JAt (sX h)];simp
theorem U3(N:List Rn)(i:Nat)(m:Rn):(N.set i m).map owN=(N.map owN).set i (owN m):=List.map_set
theorem Zn:∀l:List Int,(flat (l.map (.int .i64))).any Jw=false
 |[]=>rfl
 |a::r=>by
  have:=Zn r;unfold flat at this⊢;rw[Va,List.flatMap_cons,List.any_append,this];rfl
def V74(p:Prg)(es ek ev:List (Str×Int))(v s0:Nat)(l:List Ste):Prop:=∀(S:NS) (now behind:Int) (b:Nat),(∀k,∃i:Nat,lkI es k=i∧i<S.1.length)→NB S.1 b→b+J3 l≤10000000000→
 KT 43 [.ref 1001 0,.d (.list 11 (l.map JI)),.d (.int .i64 now),.d (.int .i64 behind)] (TMk p v s0 S.2 (S.1.map owN) (mpI es) (mpI ek) (mpI ev)) (.d (.int .i64 (XU p es ek l now behind S).1)) [(1002,.tre v (XU p es ek l now behind S).2.2 20 ((XU p es ek l now behind S).2.1.map owN))]
theorem JJ8{p:Prg}{v s0 s s':Nat}{X X':List Dat}{es ek ev:List (Dat×Dat)}(h:(JC (Av.get (TMk p v s0 s X es ek ev)) [(1002,.tre v s' 20 X')] i).isSome=true):i=1001∨i=1002∨i=1003∨i=1004∨i=1005:=by
 refine Decidable.byContradiction fun hn=>?_
 simp only[not_or]at hn;obtain⟨a1,a2,a3,a4,a5⟩:=hn;simp[TMk,JC,upd,Av.get,a1,a2,a3,a4,a5,Ne.symm a1,Ne.symm a2,Ne.symm a3,Ne.symm a4,Ne.symm a5]at h
theorem call43{p:Prg}{es ek ev:List (Str×Int)}{v s0:Nat}{l:List Ste}(h:V74 p es ek ev v s0 l)(S:NS)(now behind:Int)(b:Nat)(h1:∀k,∃i:Nat,lkI es k=i∧i<S.1.length)(h2:NB S.1 b)(h3:b+J3 l≤10000000000):
  CT (.fn 43) [.ref 1001 0,.d (.list 11 (l.map JI)),.d (.int .i64 now),.d (.int .i64 behind)] ((TMk p v s0 S.2 (S.1.map owN) (mpI es) (mpI ek) (mpI ev)).map fun x=>(x.1,some x.2)) (.d (.int .i64 (XU p es ek l now behind S).1)) [(1002,.tre v (XU p es ek l now behind S).2.2 20 ((XU p es ek l now behind S).2.1.map owN))]:=by
 have:=(h S now behind b h1 h2 h3).call (fun i=>i) (fun i hi=>by
   simp only[TMk,Av.get]at hi
   repeat' split at hi
   all_goals first|(cases hi;done)|omega) (fun i j _ _ h=>h) (by simp[JR,Av.get]) (Jx (by simp[Je,J2,JS,JR,Ub,Av.get])) [] (by simp[Av.get]) (JEr _ _ _ _ _ _ _ _ _ _) trivial
 simp only[TMk,Va,Vb,Obj.ren,Av.ren,UN,YA,List.append_nil]at this⊢;exact this
theorem call42(p:Prg)(l:List Ste)(behind:Int)(v s0 sv:Nat)(X:List Dat)(es ek ev:List (Str×Int)):
  CT (.fn 42) [.ref 1001 0,.d (.list 11 (l.map JI)),.d (.int .i64 behind)] ((TMk p v s0 sv X (mpI es) (mpI ek) (mpI ev)).map fun x=>(x.1,some x.2)) (.d (.int .i64 (bgn es ek l behind))) []:=by
 have:=(JRY p l behind v s0 sv X es ek ev).call (fun i=>i) (fun i hi=>by
   simp only[TMk,Av.get]at hi
   repeat' split at hi
   all_goals first|(cases hi;done)|omega) (fun i j _ _ h=>h) (by simp[JR,Av.get]) (Jx (by simp[Je,J2,JS,JR,Ub,Av.get])) [] (by simp[Av.get]) (Zm _ _ _ _ _ _ _ _) trivial
 simp only[TMk,Va,Vb,Obj.ren,Av.ren,UN,YA,List.append_nil]at this⊢;exact this
end Go.Proofs
namespace Go.Proofs
open Go Av
set_option maxHeartbeats 4000000 in
theorem JOl{p:Prg}(hP:PB p){es ek ev:List (Str×Int)}{v s0:Nat}(l:List Ste)(h:∀x∈l,∀b∈x.branches,V74 p es ek ev v s0 b.steps):V74 p es ek ev v s0 l:=by
 intro S0 now0 behind b0 hE0 hNB0 hb0;refine Con.Ju ok43.has fun hfit=>?_
 have hl:l.length≤68719476736:=by have:=(hfit (.list 11 (l.map JI)) sP).1;simpa using this
 have hfs:∀x∈l,x.branches.length≤68719476736:=by
  intro x hxm;have:=Un.1 (hfit (.list 11 (l.map JI)) sP).2 _ (VC.2 ⟨x,hxm,rfl⟩);rw[JV]at this;simp only[fits,XW,Vc]at this;omega
 clear hfit;generalize hR:XU p es ek l now0 behind S0=R;refine ok43.con (k:=some false) (Nat.le_of_ble_eq_true rfl) (JEr _ _ _ _ _ _ _ _ _ _) trivial ?_;simp only[go_sem,ir43,TMk,Vv,Vc,Nat.reduceAdd,Nat.reduceEqDiff,Nat.reduceBEq,Nat.reduceLeDiff,reduceCtorEq,↓reduceIte];refine JK (fun n st=>∃(k:Nat) (S:NS) (now:Int) (c:Nat),k≤l.length∧n=l.length-k∧XU p es ek (l.drop k) now behind S=R∧(∀k,∃i:Nat,lkI es k=i∧i<S.1.length)∧NB S.1 c∧c+J3 (l.drop k)≤10000000000∧
  st=⟨[(0,.ref 1001 0),(1,.d (.list 11 (l.map JI))),(2,.d (.int .i64 now)),(3,.d (.int .i64 behind)),(9,.d (.int .i64 k))],TMk p v s0 S.2 (S.1.map owN) (mpI es) (mpI ek) (mpI ev)⟩) ?_ ?_
 ·refine⟨_,_,Wk.less ?_,0,S0,now0,b0,Nat.zero_le _,rfl,by simpa using hR,hE0,hNB0,by simpa using hb0,rfl⟩;simp[go_sem,TMk]
 clear hE0 hNB0 hb0 hR;rintro n st ⟨k,S,now,c,hk,rfl,hinv,hE,hNB,hb,rfl⟩;by_cases hlt:k<l.length
 ·have hn:=Zk hlt;have hdk:decide ((k:Int)<(l.length:Int))=true:=sO;have hw:IntKind.i64.wrap ((k:Int)+1)=((k+1:Nat):Int):=by rw[wrap64 oM oM];rfl
  have hbr:=hfs _ (Vk hlt);have hV:=h _ (Vk hlt);rw[Vq hlt,J3,JEZ]at hb;rw[Vq hlt,XU]at hinv;have hsl:(((l.map JI).drop (k+1)).take ((l.length:Int)-((k+1:Nat):Int)).toNat)=(l.drop (k+1)).map JI:=by
   rw[←List.map_drop,List.take_of_length_le sO]
  generalize hX:l[k]=x at*;have hc:=call42 p (l.drop (k+1)) behind v s0 S.2 (S.1.map owN) es ek ev;cases h13:x.kind==13
  ·rw[h13,if_neg Bool.false_ne_true,JS3]at hinv;obtain⟨i,hi,hil⟩:=hE x.name;generalize hz:bgn es ek (l.drop (k+1)) behind=z at*;have hi2:(lkS es x.name).getD 0=(i:Int):=hi;have hn0:∀Y:List Dat,nodeAt (.own 20 Y) []=some (.own 20 Y):=fun _=>rfl
   obtain⟨n,hnn⟩:∃n,n=S.1[i]:=⟨_,rfl⟩;have g0:nth (S.1.map owN) i=owN n:=by rw[hnn];exact JU owN hil
   have g1:(S.1.map owN).getD i .opq=owN n:=g0;have g2:∀y,nth ((S.1.map owN).set i y) i=y:=fun y=>by rw[Xr (sX hil)];simp
   have g3:∀y,((S.1.map owN).set i y).getD i .opq=y:=g2;rw[XE n]at g0 g1;simp only[go_sem,TMk,hdk,hn,hw,hsl,Vv,Vc,Nat.reduceAdd,Nat.reduceEqDiff,Nat.reduceBEq,Nat.reduceLeDiff,reduceCtorEq,↓reduceIte];refine⟨⟨oM,oM⟩,⟨oM,oM,oM⟩,?_⟩;refine JT rfl hc ⟨rfl,rfl,rfl,rfl,rfl,trivial⟩ ?_;simp only[go_sem,h13,Vu,YC,JEs,hi2,hn0,g0,g1,g2,g3,List.length_set,List.set_set,List.set_cons_succ,List.set_cons_zero,List.any_cons,List.any_nil,Jw,Bool.or_false,Vv,Vc,Nat.reduceAdd,Nat.reduceEqDiff,Nat.reduceBEq,Nat.reduceLeDiff,reduceCtorEq,↓reduceIte];refine⟨⟨oM,oM⟩,hil,hil,?_⟩;cases hs:x.schema==[]
   ·obtain⟨ia,ba,ta,e2,hia,hia2,hax,hta⟩:=JAE hP x.schema;have cL:=(JAD p x.schema hP.sc).call (by simp[U6]);rw[e2]at cL;simp only[UA,Va,Vb]at cL;simp only[Uc]at hax;have hT:plT p es x now S=(((ia:Nat):Int),S.1.set i ((n.sch now ia).typ ta.type),S.2):=by
     unfold plT JS2;rw[hs,if_neg Bool.false_ne_true,hi,Vv,JAt hil,←hnn,e2];simp only[hia2,Vj]
    obtain⟨n1,hn1⟩:∃n1,n1=(n.sch now ia).typ ta.type:=⟨_,rfl⟩;have hmap:owN n1=_:=(congrArg owN hn1).trans (XE _);simp only[Rn.sch,Rn.typ]at hmap;rw[←hn1]at hT;have hok:=(hNB n (by rw[hnn];exact Vk _)).1;have o1:=hok.w;have o2:=hok.e;have o3:=hok.f;simp only[Jw]at o1 o2 o3;simp only[go_sem,hs,Vs,hn0,g0,g1,g2,g3,List.length_set,List.set_set,List.set_cons_succ,List.set_cons_zero,List.any_cons,List.any_nil,Jw,Bool.or_false,Vu,Vv,Vc,Vv,Vc,Nat.reduceAdd,Nat.reduceEqDiff,Nat.reduceBEq,Nat.reduceLeDiff,reduceCtorEq,↓reduceIte];refine wn cL ?_;simp only[go_sem,hax,o1,o2,o3,hn0,g0,g1,g2,g3,List.length_set,List.set_set,List.set_cons_succ,List.set_cons_zero,List.any_cons,List.any_nil,Jw,Bool.or_false,Vu,Vv,Vc,Vv,Vc,Nat.reduceAdd,Nat.reduceEqDiff,Nat.reduceBEq,Nat.reduceLeDiff,reduceCtorEq,↓reduceIte];refine⟨hil,⟨hil,dC⟩,⟨oM,oM⟩,hil,⟨hil,dC⟩,?_⟩;rw[hi,Vv]at hinv;have hNB':NB (S.1.set i n1) c:=by have:=JI3 (p:=p) (es:=es) x now hNB;rw[hT]at this;exact this
    have hE':∀k,∃i_1:Nat,lkI es k=i_1∧i_1<(S.1.set i n1).length:=sX hE;cases h14:x.kind==14
    ·simp only[hT,h14,Vu,if_false]at hinv;cases h11:x.kind==11
     ·cases h12:x.kind==12
      ·simp only[h11,h12,Bool.or_false,Vu,if_false]at hinv;have hNB2:NB (upN (S.1.set i n1) i (·.nxt [z])) (c+1):=hNB'.up oM _ fun m hm=>⟨(hNB' m hm).1.nxt _,by simp[Rn.nxt]⟩
       rw[JJ7 hil]at hinv hNB2;have hmap2:=XE (n1.nxt [z]);rw[hn1]at hmap2;simp only[Rn.sch,Rn.typ,Rn.nxt,nxD,Va,Vb]at hmap2;simp only[hn1,Rn.sch,Rn.typ,Rn.nxt]at hinv hNB2;simp only[go_sem,hs,Vr,Vs,h14,h11,h12,hn0,g0,g1,g2,g3,List.length_set,List.set_set,List.set_cons_succ,List.set_cons_zero,List.any_cons,List.any_nil,Jw,Bool.or_false,Vu,Vv,Vc,Vv,Vc,Nat.reduceAdd,Nat.reduceEqDiff,Nat.reduceBEq,Nat.reduceLeDiff,reduceCtorEq,↓reduceIte];refine⟨sP,hil,l.length-(k+1),_,oM,Wk.less ?_,k+1,(_,_),_,c+1,oM,rfl,hinv,by simpa using hE,hNB2,oM,rfl⟩;simp only[U3,hmap2,JE k oM];simp[go_sem,TMk]
      ·simp only[h12,Bool.or_true,if_true]at hinv;generalize hRB:YU p es ek x.branches i z ((ia:Nat):Int) (-1) (S.1.set i n1,S.2)=RB at hinv;simp only[go_sem,hs,Vr,Vs,h14,h11,h12,hn0,g0,g1,g2,g3,List.length_set,List.set_set,List.set_cons_succ,List.set_cons_zero,List.any_cons,List.any_nil,Jw,Bool.or_false,Vu,Vv,Vc,Vv,Vc,Nat.reduceAdd,Nat.reduceEqDiff,Nat.reduceBEq,Nat.reduceLeDiff,reduceCtorEq,↓reduceIte];refine JK (fun nn st=>∃(b:Nat) (S2:NS) (after:Int) (c2:Nat),b≤x.branches.length∧nn=x.branches.length-b∧YU p es ek (x.branches.drop b) i z ((ia:Nat):Int) after S2=RB∧(∀k,∃i:Nat,lkI es k=i∧i<S2.1.length)∧i<S2.1.length∧NB S2.1 c2∧c2+XN (x.branches.drop b)+J3 (l.drop (k+1))≤10000000000∧
        st=⟨[(0,.ref 1001 0),(1,.d (.list 11 (l.map JI))),(2,.d (.int .i64 ((ia:Nat):Int))),(3,.d (.int .i64 behind)),(9,.d (.int .i64 k)),(10,.ref 10 0),(11,.d (.int .i64 z)),(12,.tr 1002 ⟨v,S.2,[],some (i,0)⟩),(13,.d (.int .i64 after)),(14,.d (.int .i64 b))],
         (10,.box [.d (.str x.name),.d (.int .i64 x.kind),.d (.int .i64 x.number),.d (.int .i64 x.time),.d (.int .i64 x.limit),.d (.str x.text),.d (.str x.schema),.d (.list 5 (x.exprs.map Jf)),.d (.list 6 (x.rules.map UR)),.d (.list 2 (x.calls.map JW)),.d (.list 2 (x.branches.map Jz))])::TMk p v s0 S2.2 (S2.1.map owN) (mpI es) (mpI ek) (mpI ev)⟩) ?_ ?_
       ·refine⟨_,_,Wk.less ?_,0,(S.1.set i n1,S.2),-1,c,Nat.zero_le _,rfl,by simpa using hRB,hE',by simpa using hil,hNB',by simp only[List.drop_zero];omega,rfl⟩;simp only[U3,hmap];simp[go_sem,TMk]
       clear hRB;rintro nn st ⟨b,S2,after,c2,hbk,rfl,hinv2,hE2,hil2,hNB2,hb2,rfl⟩;by_cases hbl:b<x.branches.length
       ·have hbn:=YS hbl;have hdb:decide ((b:Int)<(x.branches.length:Int))=true:=sO;have hVb:=hV _ (Vk hbl);rw[Vq hbl,XN,JAm]at hb2;rw[Vq hbl,YU,JGb]at hinv2;generalize x.branches[b]=br at*;have hc3:=call42 p br.steps z v s0 S2.2 (S2.1.map owN) es ek ev;have hcF:=(p75 br.steps).call trivial;generalize hw2:bgn es ek br.steps z=w2 at*;obtain⟨n2,hn2⟩:∃n,n=S2.1[i]:=⟨_,rfl⟩;have q0:nth (S2.1.map owN) i=owN n2:=by rw[hn2];exact JU owN hil2
        have q1:(S2.1.map owN).getD i .opq=owN n2:=q0;have q2:∀y,nth ((S2.1.map owN).set i y) i=y:=fun y=>by rw[Xr (sX hil2)];simp
        have q3:∀y,((S2.1.map owN).set i y).getD i .opq=y:=q2;rw[XE n2]at q0 q1;have hNB3:=JCQ hNB2 i w2;have hE3:∀k,∃j:Nat,lkI es k=j∧j<(addN S2 i w2).1.length:=by simpa only[Xx]using hE2
        have hV3:=call43 hVb (addN S2 i w2) ((ia:Nat):Int) z (c2+1) hE3 hNB3 oM;have hU1:=ZW (p:=p) (es:=es) (ek:=ek) br.steps ((ia:Nat):Int) z (addN S2 i w2) (c2+1) hNB3;have hU2:=YV (p:=p) (es:=es) (ek:=ek) br.steps ((ia:Nat):Int) z (addN S2 i w2);rw[Xx]at hU2;have ha1:(addN S2 i w2).1.map owN=(S2.1.map owN).set i (owN (n2.nxt (n2.next++[w2]))):=by
         unfold addN;rw[JAt hil2,←hn2,U3]
        have ha2:(addN S2 i w2).2=if n2.next=[]then S2.2+1 else S2.2+2:=by
         unfold addN;rw[Vl hil2,←hn2]
        rw[ha1,ha2]at hV3;have hfin:∀(U:Int×NS),U=XU p es ek br.steps ((ia:Nat):Int) z (addN S2 i w2)→True:=fun _ _=>trivial
        clear ha1 ha2;rw[XE]at hV3;generalize hUU:XU p es ek br.steps ((ia:Nat):Int) z (addN S2 i w2)=U at*;obtain⟨u1,U2⟩:=U;simp only[Rn.nxt]at hV3 hinv2 hU1 hU2;cases hnx:n2.next with
        |nil=>
         simp only[hnx,List.nil_append,nxD,if_true,Va,Vb]at hV3 q0 q1;simp only[go_sem,TMk,hdb,hbn,hn0,q0,q1,q2,q3,List.length_set,List.set_set,List.set_cons_succ,List.set_cons_zero,List.any_cons,List.any_nil,Jw,Bool.or_false,Vu,Vv,Vc,Vv,Vc,Nat.reduceAdd,Nat.reduceEqDiff,Nat.reduceBEq,Nat.reduceLeDiff,reduceCtorEq,↓reduceIte];refine⟨⟨oM,oM⟩,⟨hil2,dC⟩,?_⟩;refine JG rfl hc3 ⟨rfl,rfl,rfl,rfl,rfl,trivial⟩ ?_;simp only[go_sem,hn0,q0,q1,q2,q3,List.length_set,List.set_set,List.set_cons_succ,List.set_cons_zero,List.any_cons,List.any_nil,Jw,Bool.or_false,Vu,Vv,Vc,Vv,Vc,Nat.reduceAdd,Nat.reduceEqDiff,Nat.reduceBEq,Nat.reduceLeDiff,reduceCtorEq,↓reduceIte];refine⟨sP,⟨dC,sP⟩,hil2,dC,?_⟩;refine JT rfl hV3 ⟨rfl,rfl,rfl,rfl,rfl,trivial⟩ ?_;simp only[go_sem,Vu,Vv,Vc,Nat.reduceAdd,Nat.reduceEqDiff,Nat.reduceBEq,Nat.reduceLeDiff,reduceCtorEq,↓reduceIte];refine sq (!Ug br.steps) ?_ ?_
         ·simp only[go_sem,Vv,Vc,Nat.reduceAdd,Nat.reduceEqDiff,Nat.reduceBEq,Nat.reduceLeDiff,reduceCtorEq,↓reduceIte];refine wn hcF ?_;simp only[go_sem,Vv,Vc,Nat.reduceAdd,Nat.reduceEqDiff,Nat.reduceBEq,Nat.reduceLeDiff,reduceCtorEq,↓reduceIte]
         have hE4:∀k,∃j:Nat,lkI es k=j∧j<U2.1.length:=by simpa only[hU2]using hE2
         cases hq:(decide (after<0)&& !Ug br.steps)
         ·simp only[hq,Vu,if_false]at hinv2;simp only[go_sem,hq,Vu,Vv,Vc,Nat.reduceAdd,Nat.reduceEqDiff,Nat.reduceBEq,Nat.reduceLeDiff,reduceCtorEq,↓reduceIte];refine⟨x.branches.length-(b+1),_,oM,Wk.less ?_,b+1,U2,after,_,oM,rfl,hinv2,hE4,oM,hU1,oM,rfl⟩;simp only[JE b oM];simp[go_sem,TMk]
         ·simp only[hq,if_true]at hinv2;simp only[go_sem,hq,Vu,Vv,Vc,Nat.reduceAdd,Nat.reduceEqDiff,Nat.reduceBEq,Nat.reduceLeDiff,reduceCtorEq,↓reduceIte];refine⟨x.branches.length-(b+1),_,oM,Wk.less ?_,b+1,U2,u1,_,oM,rfl,hinv2,hE4,oM,hU1,oM,rfl⟩;simp only[JE b oM];simp[go_sem,TMk]
        |cons o os=>
         have hin:=JCR hil2 n2 (by rw[hnx];simp);rw[show S2.1.set i n2=S2.1 from by rw[hn2];exact List.set_getElem_self _]at hin;have hfl:=Zn n2.next;have hnl:=(hNB2 n2 (by rw[hn2];exact Vk _)).2;simp only[hnx,Vf]at hnl;simp only[hnx,List.cons_append,nxD,reduceCtorEq,if_false,Va,Vw,Vb]at hV3 q0 q1 hin hfl;simp only[go_sem,TMk,hdb,hbn,hn0,q0,q1,q2,q3,List.length_set,List.set_set,List.set_cons_succ,List.set_cons_zero,List.any_cons,List.any_nil,Jw,Bool.or_false,Vu,Vv,Vc,Vv,Vc,Nat.reduceAdd,Nat.reduceEqDiff,Nat.reduceBEq,Nat.reduceLeDiff,reduceCtorEq,↓reduceIte];refine⟨⟨oM,oM⟩,⟨hil2,dC⟩,?_⟩;refine JG rfl hc3 ⟨rfl,rfl,rfl,rfl,rfl,trivial⟩ ?_;simp only[go_sem,JAP,hin,hfl,hn0,q0,q1,q2,q3,List.length_set,List.set_set,List.set_cons_succ,List.set_cons_zero,List.any_cons,List.any_nil,Jw,Bool.or_false,Vu,Vv,Vc,Vv,Vc,Nat.reduceAdd,Nat.reduceEqDiff,Nat.reduceBEq,Nat.reduceLeDiff,reduceCtorEq,↓reduceIte];refine⟨sP,⟨dC,oM,sP⟩,hil2,dC,?_⟩;refine JT rfl hV3 ⟨rfl,rfl,rfl,rfl,rfl,trivial⟩ ?_;simp only[go_sem,Vu,Vv,Vc,Nat.reduceAdd,Nat.reduceEqDiff,Nat.reduceBEq,Nat.reduceLeDiff,reduceCtorEq,↓reduceIte];refine sq (!Ug br.steps) ?_ ?_
         ·simp only[go_sem,Vv,Vc,Nat.reduceAdd,Nat.reduceEqDiff,Nat.reduceBEq,Nat.reduceLeDiff,reduceCtorEq,↓reduceIte];refine wn hcF ?_;simp only[go_sem,Vv,Vc,Nat.reduceAdd,Nat.reduceEqDiff,Nat.reduceBEq,Nat.reduceLeDiff,reduceCtorEq,↓reduceIte]
         have hE4:∀k,∃j:Nat,lkI es k=j∧j<U2.1.length:=by simpa only[hU2]using hE2
         cases hq:(decide (after<0)&& !Ug br.steps)
         ·simp only[hq,Vu,if_false]at hinv2;simp only[go_sem,hq,Vu,Vv,Vc,Nat.reduceAdd,Nat.reduceEqDiff,Nat.reduceBEq,Nat.reduceLeDiff,reduceCtorEq,↓reduceIte];refine⟨x.branches.length-(b+1),_,oM,Wk.less ?_,b+1,U2,after,_,oM,rfl,hinv2,hE4,oM,hU1,oM,rfl⟩;simp only[JE b oM];simp[go_sem,TMk]
         ·simp only[hq,if_true]at hinv2;simp only[go_sem,hq,Vu,Vv,Vc,Nat.reduceAdd,Nat.reduceEqDiff,Nat.reduceBEq,Nat.reduceLeDiff,reduceCtorEq,↓reduceIte];refine⟨x.branches.length-(b+1),_,oM,Wk.less ?_,b+1,U2,u1,_,oM,rfl,hinv2,hE4,oM,hU1,oM,rfl⟩;simp only[JE b oM];simp[go_sem,TMk]
       ·have hdb:decide ((b:Int)<(x.branches.length:Int))=false:=sO;obtain rfl:b=x.branches.length:=oM;rw[List.drop_length,YU]at hinv2;subst hinv2;cases hge:decide (after≥0)
        ·simp only[hge,Vu,if_false]at hinv;simp only[go_sem,TMk,hdb,hge,Vu,Vv,Vc,Nat.reduceAdd,Nat.reduceEqDiff,Nat.reduceBEq,Nat.reduceLeDiff,reduceCtorEq,↓reduceIte];refine⟨l.length-(k+1),_,oM,Wk.less ?_,k+1,S2,((ia:Nat):Int),c2,oM,rfl,hinv,hE2,hNB2,oM,rfl⟩;simp only[JE k oM];simp[go_sem,TMk]
        ·simp only[hge,if_true]at hinv;simp only[go_sem,TMk,hdb,hge,Vu,Vv,Vc,Nat.reduceAdd,Nat.reduceEqDiff,Nat.reduceBEq,Nat.reduceLeDiff,reduceCtorEq,↓reduceIte];refine⟨l.length-(k+1),_,oM,Wk.less ?_,k+1,S2,after,c2,oM,rfl,hinv,hE2,hNB2,oM,rfl⟩;simp only[JE k oM];simp[go_sem,TMk]
     ·simp only[h11,Bool.true_or,if_true]at hinv;generalize hRB:YU p es ek x.branches i z ((ia:Nat):Int) (-1) (S.1.set i n1,S.2)=RB at hinv;simp only[go_sem,hs,Vr,Vs,h14,h11,hn0,g0,g1,g2,g3,List.length_set,List.set_set,List.set_cons_succ,List.set_cons_zero,List.any_cons,List.any_nil,Jw,Bool.or_false,Vu,Vv,Vc,Vv,Vc,Nat.reduceAdd,Nat.reduceEqDiff,Nat.reduceBEq,Nat.reduceLeDiff,reduceCtorEq,↓reduceIte];refine JK (fun nn st=>∃(b:Nat) (S2:NS) (after:Int) (c2:Nat),b≤x.branches.length∧nn=x.branches.length-b∧YU p es ek (x.branches.drop b) i z ((ia:Nat):Int) after S2=RB∧(∀k,∃i:Nat,lkI es k=i∧i<S2.1.length)∧i<S2.1.length∧NB S2.1 c2∧c2+XN (x.branches.drop b)+J3 (l.drop (k+1))≤10000000000∧
       st=⟨[(0,.ref 1001 0),(1,.d (.list 11 (l.map JI))),(2,.d (.int .i64 ((ia:Nat):Int))),(3,.d (.int .i64 behind)),(9,.d (.int .i64 k)),(10,.ref 10 0),(11,.d (.int .i64 z)),(12,.tr 1002 ⟨v,S.2,[],some (i,0)⟩),(13,.d (.int .i64 after)),(14,.d (.int .i64 b))],
        (10,.box [.d (.str x.name),.d (.int .i64 x.kind),.d (.int .i64 x.number),.d (.int .i64 x.time),.d (.int .i64 x.limit),.d (.str x.text),.d (.str x.schema),.d (.list 5 (x.exprs.map Jf)),.d (.list 6 (x.rules.map UR)),.d (.list 2 (x.calls.map JW)),.d (.list 2 (x.branches.map Jz))])::TMk p v s0 S2.2 (S2.1.map owN) (mpI es) (mpI ek) (mpI ev)⟩) ?_ ?_
      ·refine⟨_,_,Wk.less ?_,0,(S.1.set i n1,S.2),-1,c,Nat.zero_le _,rfl,by simpa using hRB,hE',by simpa using hil,hNB',by simp only[List.drop_zero];omega,rfl⟩;simp only[U3,hmap];simp[go_sem,TMk]
      clear hRB;rintro nn st ⟨b,S2,after,c2,hbk,rfl,hinv2,hE2,hil2,hNB2,hb2,rfl⟩;by_cases hbl:b<x.branches.length
      ·have hbn:=YS hbl;have hdb:decide ((b:Int)<(x.branches.length:Int))=true:=sO;have hVb:=hV _ (Vk hbl);rw[Vq hbl,XN,JAm]at hb2;rw[Vq hbl,YU,JGb]at hinv2;generalize x.branches[b]=br at*;have hc3:=call42 p br.steps z v s0 S2.2 (S2.1.map owN) es ek ev;have hcF:=(p75 br.steps).call trivial;generalize hw2:bgn es ek br.steps z=w2 at*;obtain⟨n2,hn2⟩:∃n,n=S2.1[i]:=⟨_,rfl⟩;have q0:nth (S2.1.map owN) i=owN n2:=by rw[hn2];exact JU owN hil2
       have q1:(S2.1.map owN).getD i .opq=owN n2:=q0;have q2:∀y,nth ((S2.1.map owN).set i y) i=y:=fun y=>by rw[Xr (sX hil2)];simp
       have q3:∀y,((S2.1.map owN).set i y).getD i .opq=y:=q2;rw[XE n2]at q0 q1;have hNB3:=JCQ hNB2 i w2;have hE3:∀k,∃j:Nat,lkI es k=j∧j<(addN S2 i w2).1.length:=by simpa only[Xx]using hE2
       have hV3:=call43 hVb (addN S2 i w2) ((ia:Nat):Int) z (c2+1) hE3 hNB3 oM;have hU1:=ZW (p:=p) (es:=es) (ek:=ek) br.steps ((ia:Nat):Int) z (addN S2 i w2) (c2+1) hNB3;have hU2:=YV (p:=p) (es:=es) (ek:=ek) br.steps ((ia:Nat):Int) z (addN S2 i w2);rw[Xx]at hU2;have ha1:(addN S2 i w2).1.map owN=(S2.1.map owN).set i (owN (n2.nxt (n2.next++[w2]))):=by
        unfold addN;rw[JAt hil2,←hn2,U3]
       have ha2:(addN S2 i w2).2=if n2.next=[]then S2.2+1 else S2.2+2:=by
        unfold addN;rw[Vl hil2,←hn2]
       rw[ha1,ha2]at hV3;have hfin:∀(U:Int×NS),U=XU p es ek br.steps ((ia:Nat):Int) z (addN S2 i w2)→True:=fun _ _=>trivial
       clear ha1 ha2;rw[XE]at hV3;generalize hUU:XU p es ek br.steps ((ia:Nat):Int) z (addN S2 i w2)=U at*;obtain⟨u1,U2⟩:=U;simp only[Rn.nxt]at hV3 hinv2 hU1 hU2;cases hnx:n2.next with
       |nil=>
        simp only[hnx,List.nil_append,nxD,if_true,Va,Vb]at hV3 q0 q1;simp only[go_sem,TMk,hdb,hbn,hn0,q0,q1,q2,q3,List.length_set,List.set_set,List.set_cons_succ,List.set_cons_zero,List.any_cons,List.any_nil,Jw,Bool.or_false,Vu,Vv,Vc,Vv,Vc,Nat.reduceAdd,Nat.reduceEqDiff,Nat.reduceBEq,Nat.reduceLeDiff,reduceCtorEq,↓reduceIte];refine⟨⟨oM,oM⟩,⟨hil2,dC⟩,?_⟩;refine JG rfl hc3 ⟨rfl,rfl,rfl,rfl,rfl,trivial⟩ ?_;simp only[go_sem,hn0,q0,q1,q2,q3,List.length_set,List.set_set,List.set_cons_succ,List.set_cons_zero,List.any_cons,List.any_nil,Jw,Bool.or_false,Vu,Vv,Vc,Vv,Vc,Nat.reduceAdd,Nat.reduceEqDiff,Nat.reduceBEq,Nat.reduceLeDiff,reduceCtorEq,↓reduceIte];refine⟨sP,⟨dC,sP⟩,hil2,dC,?_⟩;refine JT rfl hV3 ⟨rfl,rfl,rfl,rfl,rfl,trivial⟩ ?_;simp only[go_sem,Vu,Vv,Vc,Nat.reduceAdd,Nat.reduceEqDiff,Nat.reduceBEq,Nat.reduceLeDiff,reduceCtorEq,↓reduceIte];refine sq (!Ug br.steps) ?_ ?_
        ·simp only[go_sem,Vv,Vc,Nat.reduceAdd,Nat.reduceEqDiff,Nat.reduceBEq,Nat.reduceLeDiff,reduceCtorEq,↓reduceIte];refine wn hcF ?_;simp only[go_sem,Vv,Vc,Nat.reduceAdd,Nat.reduceEqDiff,Nat.reduceBEq,Nat.reduceLeDiff,reduceCtorEq,↓reduceIte]
        have hE4:∀k,∃j:Nat,lkI es k=j∧j<U2.1.length:=by simpa only[hU2]using hE2
        cases hq:(decide (after<0)&& !Ug br.steps)
        ·simp only[hq,Vu,if_false]at hinv2;simp only[go_sem,hq,Vu,Vv,Vc,Nat.reduceAdd,Nat.reduceEqDiff,Nat.reduceBEq,Nat.reduceLeDiff,reduceCtorEq,↓reduceIte];refine⟨x.branches.length-(b+1),_,oM,Wk.less ?_,b+1,U2,after,_,oM,rfl,hinv2,hE4,oM,hU1,oM,rfl⟩;simp only[JE b oM];simp[go_sem,TMk]
        ·simp only[hq,if_true]at hinv2;simp only[go_sem,hq,Vu,Vv,Vc,Nat.reduceAdd,Nat.reduceEqDiff,Nat.reduceBEq,Nat.reduceLeDiff,reduceCtorEq,↓reduceIte];refine⟨x.branches.length-(b+1),_,oM,Wk.less ?_,b+1,U2,u1,_,oM,rfl,hinv2,hE4,oM,hU1,oM,rfl⟩;simp only[JE b oM];simp[go_sem,TMk]
       |cons o os=>
        have hin:=JCR hil2 n2 (by rw[hnx];simp);rw[show S2.1.set i n2=S2.1 from by rw[hn2];exact List.set_getElem_self _]at hin;have hfl:=Zn n2.next;have hnl:=(hNB2 n2 (by rw[hn2];exact Vk _)).2;simp only[hnx,Vf]at hnl;simp only[hnx,List.cons_append,nxD,reduceCtorEq,if_false,Va,Vw,Vb]at hV3 q0 q1 hin hfl;simp only[go_sem,TMk,hdb,hbn,hn0,q0,q1,q2,q3,List.length_set,List.set_set,List.set_cons_succ,List.set_cons_zero,List.any_cons,List.any_nil,Jw,Bool.or_false,Vu,Vv,Vc,Vv,Vc,Nat.reduceAdd,Nat.reduceEqDiff,Nat.reduceBEq,Nat.reduceLeDiff,reduceCtorEq,↓reduceIte];refine⟨⟨oM,oM⟩,⟨hil2,dC⟩,?_⟩;refine JG rfl hc3 ⟨rfl,rfl,rfl,rfl,rfl,trivial⟩ ?_;simp only[go_sem,JAP,hin,hfl,hn0,q0,q1,q2,q3,List.length_set,List.set_set,List.set_cons_succ,List.set_cons_zero,List.any_cons,List.any_nil,Jw,Bool.or_false,Vu,Vv,Vc,Vv,Vc,Nat.reduceAdd,Nat.reduceEqDiff,Nat.reduceBEq,Nat.reduceLeDiff,reduceCtorEq,↓reduceIte];refine⟨sP,⟨dC,oM,sP⟩,hil2,dC,?_⟩;refine JT rfl hV3 ⟨rfl,rfl,rfl,rfl,rfl,trivial⟩ ?_;simp only[go_sem,Vu,Vv,Vc,Nat.reduceAdd,Nat.reduceEqDiff,Nat.reduceBEq,Nat.reduceLeDiff,reduceCtorEq,↓reduceIte];refine sq (!Ug br.steps) ?_ ?_
        ·simp only[go_sem,Vv,Vc,Nat.reduceAdd,Nat.reduceEqDiff,Nat.reduceBEq,Nat.reduceLeDiff,reduceCtorEq,↓reduceIte];refine wn hcF ?_;simp only[go_sem,Vv,Vc,Nat.reduceAdd,Nat.reduceEqDiff,Nat.reduceBEq,Nat.reduceLeDiff,reduceCtorEq,↓reduceIte]
        have hE4:∀k,∃j:Nat,lkI es k=j∧j<U2.1.length:=by simpa only[hU2]using hE2
        cases hq:(decide (after<0)&& !Ug br.steps)
        ·simp only[hq,Vu,if_false]at hinv2;simp only[go_sem,hq,Vu,Vv,Vc,Nat.reduceAdd,Nat.reduceEqDiff,Nat.reduceBEq,Nat.reduceLeDiff,reduceCtorEq,↓reduceIte];refine⟨x.branches.length-(b+1),_,oM,Wk.less ?_,b+1,U2,after,_,oM,rfl,hinv2,hE4,oM,hU1,oM,rfl⟩;simp only[JE b oM];simp[go_sem,TMk]
        ·simp only[hq,if_true]at hinv2;simp only[go_sem,hq,Vu,Vv,Vc,Nat.reduceAdd,Nat.reduceEqDiff,Nat.reduceBEq,Nat.reduceLeDiff,reduceCtorEq,↓reduceIte];refine⟨x.branches.length-(b+1),_,oM,Wk.less ?_,b+1,U2,u1,_,oM,rfl,hinv2,hE4,oM,hU1,oM,rfl⟩;simp only[JE b oM];simp[go_sem,TMk]
      ·have hdb:decide ((b:Int)<(x.branches.length:Int))=false:=sO;obtain rfl:b=x.branches.length:=oM;rw[List.drop_length,YU]at hinv2;subst hinv2;cases hge:decide (after≥0)
       ·simp only[hge,Vu,if_false]at hinv;simp only[go_sem,TMk,hdb,hge,Vu,Vv,Vc,Nat.reduceAdd,Nat.reduceEqDiff,Nat.reduceBEq,Nat.reduceLeDiff,reduceCtorEq,↓reduceIte];refine⟨l.length-(k+1),_,oM,Wk.less ?_,k+1,S2,((ia:Nat):Int),c2,oM,rfl,hinv,hE2,hNB2,oM,rfl⟩;simp only[JE k oM];simp[go_sem,TMk]
       ·simp only[hge,if_true]at hinv;simp only[go_sem,TMk,hdb,hge,Vu,Vv,Vc,Nat.reduceAdd,Nat.reduceEqDiff,Nat.reduceBEq,Nat.reduceLeDiff,reduceCtorEq,↓reduceIte];refine⟨l.length-(k+1),_,oM,Wk.less ?_,k+1,S2,after,c2,oM,rfl,hinv,hE2,hNB2,oM,rfl⟩;simp only[JE k oM];simp[go_sem,TMk]
    ·simp only[hT,h14,if_true]at hinv;simp only[go_sem,hs,Vr,Vs,h14,hn0,g0,g1,g2,g3,List.length_set,List.set_set,List.set_cons_succ,List.set_cons_zero,List.any_cons,List.any_nil,Jw,Bool.or_false,Vu,Vv,Vc,Vv,Vc,Nat.reduceAdd,Nat.reduceEqDiff,Nat.reduceBEq,Nat.reduceLeDiff,reduceCtorEq,↓reduceIte];refine⟨l.length-(k+1),_,oM,Wk.less ?_,k+1,(_,_),_,c,oM,rfl,hinv,hE',hNB',oM,rfl⟩;simp only[U3,hmap,JE k oM];simp[go_sem,TMk]
   ·have hT:plT p es x now S=(now,S.1.set i (n.sch now (-1)),S.2):=by
     unfold plT;rw[hs,if_pos rfl,hi,Vv,JAt hil,←hnn]
    obtain⟨n1,hn1⟩:∃n1,n1=n.sch now (-1):=⟨_,rfl⟩;have hmap:owN n1=_:=(congrArg owN hn1).trans (XE _);simp only[Rn.sch]at hmap;rw[←hn1]at hT;rw[hi,Vv]at hinv;have hNB':NB (S.1.set i n1) c:=by have:=JI3 (p:=p) (es:=es) x now hNB;rw[hT]at this;exact this
    have hE':∀k,∃i_1:Nat,lkI es k=i_1∧i_1<(S.1.set i n1).length:=sX hE;cases h14:x.kind==14
    ·simp only[hT,h14,Vu,if_false]at hinv;cases h11:x.kind==11
     ·cases h12:x.kind==12
      ·simp only[h11,h12,Bool.or_false,Vu,if_false]at hinv;have hNB2:NB (upN (S.1.set i n1) i (·.nxt [z])) (c+1):=hNB'.up oM _ fun m hm=>⟨(hNB' m hm).1.nxt _,by simp[Rn.nxt]⟩
       rw[JJ7 hil]at hinv hNB2;have hmap2:=XE (n1.nxt [z]);rw[hn1]at hmap2;simp only[Rn.sch,Rn.typ,Rn.nxt,nxD,Va,Vb]at hmap2;simp only[hn1,Rn.sch,Rn.typ,Rn.nxt]at hinv hNB2;simp only[go_sem,hs,Vr,Vs,h14,h11,h12,hn0,g0,g1,g2,g3,List.length_set,List.set_set,List.set_cons_succ,List.set_cons_zero,List.any_cons,List.any_nil,Jw,Bool.or_false,Vu,Vv,Vc,Vv,Vc,Nat.reduceAdd,Nat.reduceEqDiff,Nat.reduceBEq,Nat.reduceLeDiff,reduceCtorEq,↓reduceIte];refine⟨sP,hil,l.length-(k+1),_,oM,Wk.less ?_,k+1,(_,_),_,c+1,oM,rfl,hinv,by simpa using hE,hNB2,oM,rfl⟩;simp only[U3,hmap2,JE k oM];simp[go_sem,TMk]
      ·simp only[h12,Bool.or_true,if_true]at hinv;generalize hRB:YU p es ek x.branches i z now (-1) (S.1.set i n1,S.2)=RB at hinv;simp only[go_sem,hs,Vr,Vs,h14,h11,h12,hn0,g0,g1,g2,g3,List.length_set,List.set_set,List.set_cons_succ,List.set_cons_zero,List.any_cons,List.any_nil,Jw,Bool.or_false,Vu,Vv,Vc,Vv,Vc,Nat.reduceAdd,Nat.reduceEqDiff,Nat.reduceBEq,Nat.reduceLeDiff,reduceCtorEq,↓reduceIte];refine JK (fun nn st=>∃(b:Nat) (S2:NS) (after:Int) (c2:Nat),b≤x.branches.length∧nn=x.branches.length-b∧YU p es ek (x.branches.drop b) i z now after S2=RB∧(∀k,∃i:Nat,lkI es k=i∧i<S2.1.length)∧i<S2.1.length∧NB S2.1 c2∧c2+XN (x.branches.drop b)+J3 (l.drop (k+1))≤10000000000∧
        st=⟨[(0,.ref 1001 0),(1,.d (.list 11 (l.map JI))),(2,.d (.int .i64 now)),(3,.d (.int .i64 behind)),(9,.d (.int .i64 k)),(10,.ref 10 0),(11,.d (.int .i64 z)),(12,.tr 1002 ⟨v,S.2,[],some (i,0)⟩),(13,.d (.int .i64 after)),(14,.d (.int .i64 b))],
         (10,.box [.d (.str x.name),.d (.int .i64 x.kind),.d (.int .i64 x.number),.d (.int .i64 x.time),.d (.int .i64 x.limit),.d (.str x.text),.d (.str x.schema),.d (.list 5 (x.exprs.map Jf)),.d (.list 6 (x.rules.map UR)),.d (.list 2 (x.calls.map JW)),.d (.list 2 (x.branches.map Jz))])::TMk p v s0 S2.2 (S2.1.map owN) (mpI es) (mpI ek) (mpI ev)⟩) ?_ ?_
       ·refine⟨_,_,Wk.less ?_,0,(S.1.set i n1,S.2),-1,c,Nat.zero_le _,rfl,by simpa using hRB,hE',by simpa using hil,hNB',by simp only[List.drop_zero];omega,rfl⟩;simp only[U3,hmap];simp[go_sem,TMk]
       clear hRB;rintro nn st ⟨b,S2,after,c2,hbk,rfl,hinv2,hE2,hil2,hNB2,hb2,rfl⟩;by_cases hbl:b<x.branches.length
       ·have hbn:=YS hbl;have hdb:decide ((b:Int)<(x.branches.length:Int))=true:=sO;have hVb:=hV _ (Vk hbl);rw[Vq hbl,XN,JAm]at hb2;rw[Vq hbl,YU,JGb]at hinv2;generalize x.branches[b]=br at*;have hc3:=call42 p br.steps z v s0 S2.2 (S2.1.map owN) es ek ev;have hcF:=(p75 br.steps).call trivial;generalize hw2:bgn es ek br.steps z=w2 at*;obtain⟨n2,hn2⟩:∃n,n=S2.1[i]:=⟨_,rfl⟩;have q0:nth (S2.1.map owN) i=owN n2:=by rw[hn2];exact JU owN hil2
        have q1:(S2.1.map owN).getD i .opq=owN n2:=q0;have q2:∀y,nth ((S2.1.map owN).set i y) i=y:=fun y=>by rw[Xr (sX hil2)];simp
        have q3:∀y,((S2.1.map owN).set i y).getD i .opq=y:=q2;rw[XE n2]at q0 q1;have hNB3:=JCQ hNB2 i w2;have hE3:∀k,∃j:Nat,lkI es k=j∧j<(addN S2 i w2).1.length:=by simpa only[Xx]using hE2
        have hV3:=call43 hVb (addN S2 i w2) now z (c2+1) hE3 hNB3 oM;have hU1:=ZW (p:=p) (es:=es) (ek:=ek) br.steps now z (addN S2 i w2) (c2+1) hNB3;have hU2:=YV (p:=p) (es:=es) (ek:=ek) br.steps now z (addN S2 i w2);rw[Xx]at hU2;have ha1:(addN S2 i w2).1.map owN=(S2.1.map owN).set i (owN (n2.nxt (n2.next++[w2]))):=by
         unfold addN;rw[JAt hil2,←hn2,U3]
        have ha2:(addN S2 i w2).2=if n2.next=[]then S2.2+1 else S2.2+2:=by
         unfold addN;rw[Vl hil2,←hn2]
        rw[ha1,ha2]at hV3;have hfin:∀(U:Int×NS),U=XU p es ek br.steps now z (addN S2 i w2)→True:=fun _ _=>trivial
        clear ha1 ha2;rw[XE]at hV3;generalize hUU:XU p es ek br.steps now z (addN S2 i w2)=U at*;obtain⟨u1,U2⟩:=U;simp only[Rn.nxt]at hV3 hinv2 hU1 hU2;cases hnx:n2.next with
        |nil=>
         simp only[hnx,List.nil_append,nxD,if_true,Va,Vb]at hV3 q0 q1;simp only[go_sem,TMk,hdb,hbn,hn0,q0,q1,q2,q3,List.length_set,List.set_set,List.set_cons_succ,List.set_cons_zero,List.any_cons,List.any_nil,Jw,Bool.or_false,Vu,Vv,Vc,Vv,Vc,Nat.reduceAdd,Nat.reduceEqDiff,Nat.reduceBEq,Nat.reduceLeDiff,reduceCtorEq,↓reduceIte];refine⟨⟨oM,oM⟩,⟨hil2,dC⟩,?_⟩;refine JG rfl hc3 ⟨rfl,rfl,rfl,rfl,rfl,trivial⟩ ?_;simp only[go_sem,hn0,q0,q1,q2,q3,List.length_set,List.set_set,List.set_cons_succ,List.set_cons_zero,List.any_cons,List.any_nil,Jw,Bool.or_false,Vu,Vv,Vc,Vv,Vc,Nat.reduceAdd,Nat.reduceEqDiff,Nat.reduceBEq,Nat.reduceLeDiff,reduceCtorEq,↓reduceIte];refine⟨sP,⟨dC,sP⟩,hil2,dC,?_⟩;refine JT rfl hV3 ⟨rfl,rfl,rfl,rfl,rfl,trivial⟩ ?_;simp only[go_sem,Vu,Vv,Vc,Nat.reduceAdd,Nat.reduceEqDiff,Nat.reduceBEq,Nat.reduceLeDiff,reduceCtorEq,↓reduceIte];refine sq (!Ug br.steps) ?_ ?_
         ·simp only[go_sem,Vv,Vc,Nat.reduceAdd,Nat.reduceEqDiff,Nat.reduceBEq,Nat.reduceLeDiff,reduceCtorEq,↓reduceIte];refine wn hcF ?_;simp only[go_sem,Vv,Vc,Nat.reduceAdd,Nat.reduceEqDiff,Nat.reduceBEq,Nat.reduceLeDiff,reduceCtorEq,↓reduceIte]
         have hE4:∀k,∃j:Nat,lkI es k=j∧j<U2.1.length:=by simpa only[hU2]using hE2
         cases hq:(decide (after<0)&& !Ug br.steps)
         ·simp only[hq,Vu,if_false]at hinv2;simp only[go_sem,hq,Vu,Vv,Vc,Nat.reduceAdd,Nat.reduceEqDiff,Nat.reduceBEq,Nat.reduceLeDiff,reduceCtorEq,↓reduceIte];refine⟨x.branches.length-(b+1),_,oM,Wk.less ?_,b+1,U2,after,_,oM,rfl,hinv2,hE4,oM,hU1,oM,rfl⟩;simp only[JE b oM];simp[go_sem,TMk]
         ·simp only[hq,if_true]at hinv2;simp only[go_sem,hq,Vu,Vv,Vc,Nat.reduceAdd,Nat.reduceEqDiff,Nat.reduceBEq,Nat.reduceLeDiff,reduceCtorEq,↓reduceIte];refine⟨x.branches.length-(b+1),_,oM,Wk.less ?_,b+1,U2,u1,_,oM,rfl,hinv2,hE4,oM,hU1,oM,rfl⟩;simp only[JE b oM];simp[go_sem,TMk]
        |cons o os=>
         have hin:=JCR hil2 n2 (by rw[hnx];simp);rw[show S2.1.set i n2=S2.1 from by rw[hn2];exact List.set_getElem_self _]at hin;have hfl:=Zn n2.next;have hnl:=(hNB2 n2 (by rw[hn2];exact Vk _)).2;simp only[hnx,Vf]at hnl;simp only[hnx,List.cons_append,nxD,reduceCtorEq,if_false,Va,Vw,Vb]at hV3 q0 q1 hin hfl;simp only[go_sem,TMk,hdb,hbn,hn0,q0,q1,q2,q3,List.length_set,List.set_set,List.set_cons_succ,List.set_cons_zero,List.any_cons,List.any_nil,Jw,Bool.or_false,Vu,Vv,Vc,Vv,Vc,Nat.reduceAdd,Nat.reduceEqDiff,Nat.reduceBEq,Nat.reduceLeDiff,reduceCtorEq,↓reduceIte];refine⟨⟨oM,oM⟩,⟨hil2,dC⟩,?_⟩;refine JG rfl hc3 ⟨rfl,rfl,rfl,rfl,rfl,trivial⟩ ?_;simp only[go_sem,JAP,hin,hfl,hn0,q0,q1,q2,q3,List.length_set,List.set_set,List.set_cons_succ,List.set_cons_zero,List.any_cons,List.any_nil,Jw,Bool.or_false,Vu,Vv,Vc,Vv,Vc,Nat.reduceAdd,Nat.reduceEqDiff,Nat.reduceBEq,Nat.reduceLeDiff,reduceCtorEq,↓reduceIte];refine⟨sP,⟨dC,oM,sP⟩,hil2,dC,?_⟩;refine JT rfl hV3 ⟨rfl,rfl,rfl,rfl,rfl,trivial⟩ ?_;simp only[go_sem,Vu,Vv,Vc,Nat.reduceAdd,Nat.reduceEqDiff,Nat.reduceBEq,Nat.reduceLeDiff,reduceCtorEq,↓reduceIte];refine sq (!Ug br.steps) ?_ ?_
         ·simp only[go_sem,Vv,Vc,Nat.reduceAdd,Nat.reduceEqDiff,Nat.reduceBEq,Nat.reduceLeDiff,reduceCtorEq,↓reduceIte];refine wn hcF ?_;simp only[go_sem,Vv,Vc,Nat.reduceAdd,Nat.reduceEqDiff,Nat.reduceBEq,Nat.reduceLeDiff,reduceCtorEq,↓reduceIte]
         have hE4:∀k,∃j:Nat,lkI es k=j∧j<U2.1.length:=by simpa only[hU2]using hE2
         cases hq:(decide (after<0)&& !Ug br.steps)
         ·simp only[hq,Vu,if_false]at hinv2;simp only[go_sem,hq,Vu,Vv,Vc,Nat.reduceAdd,Nat.reduceEqDiff,Nat.reduceBEq,Nat.reduceLeDiff,reduceCtorEq,↓reduceIte];refine⟨x.branches.length-(b+1),_,oM,Wk.less ?_,b+1,U2,after,_,oM,rfl,hinv2,hE4,oM,hU1,oM,rfl⟩;simp only[JE b oM];simp[go_sem,TMk]
         ·simp only[hq,if_true]at hinv2;simp only[go_sem,hq,Vu,Vv,Vc,Nat.reduceAdd,Nat.reduceEqDiff,Nat.reduceBEq,Nat.reduceLeDiff,reduceCtorEq,↓reduceIte];refine⟨x.branches.length-(b+1),_,oM,Wk.less ?_,b+1,U2,u1,_,oM,rfl,hinv2,hE4,oM,hU1,oM,rfl⟩;simp only[JE b oM];simp[go_sem,TMk]
       ·have hdb:decide ((b:Int)<(x.branches.length:Int))=false:=sO;obtain rfl:b=x.branches.length:=oM;rw[List.drop_length,YU]at hinv2;subst hinv2;cases hge:decide (after≥0)
        ·simp only[hge,Vu,if_false]at hinv;simp only[go_sem,TMk,hdb,hge,Vu,Vv,Vc,Nat.reduceAdd,Nat.reduceEqDiff,Nat.reduceBEq,Nat.reduceLeDiff,reduceCtorEq,↓reduceIte];refine⟨l.length-(k+1),_,oM,Wk.less ?_,k+1,S2,now,c2,oM,rfl,hinv,hE2,hNB2,oM,rfl⟩;simp only[JE k oM];simp[go_sem,TMk]
        ·simp only[hge,if_true]at hinv;simp only[go_sem,TMk,hdb,hge,Vu,Vv,Vc,Nat.reduceAdd,Nat.reduceEqDiff,Nat.reduceBEq,Nat.reduceLeDiff,reduceCtorEq,↓reduceIte];refine⟨l.length-(k+1),_,oM,Wk.less ?_,k+1,S2,after,c2,oM,rfl,hinv,hE2,hNB2,oM,rfl⟩;simp only[JE k oM];simp[go_sem,TMk]
     ·simp only[h11,Bool.true_or,if_true]at hinv;generalize hRB:YU p es ek x.branches i z now (-1) (S.1.set i n1,S.2)=RB at hinv;simp only[go_sem,hs,Vr,Vs,h14,h11,hn0,g0,g1,g2,g3,List.length_set,List.set_set,List.set_cons_succ,List.set_cons_zero,List.any_cons,List.any_nil,Jw,Bool.or_false,Vu,Vv,Vc,Vv,Vc,Nat.reduceAdd,Nat.reduceEqDiff,Nat.reduceBEq,Nat.reduceLeDiff,reduceCtorEq,↓reduceIte];refine JK (fun nn st=>∃(b:Nat) (S2:NS) (after:Int) (c2:Nat),b≤x.branches.length∧nn=x.branches.length-b∧YU p es ek (x.branches.drop b) i z now after S2=RB∧(∀k,∃i:Nat,lkI es k=i∧i<S2.1.length)∧i<S2.1.length∧NB S2.1 c2∧c2+XN (x.branches.drop b)+J3 (l.drop (k+1))≤10000000000∧
       st=⟨[(0,.ref 1001 0),(1,.d (.list 11 (l.map JI))),(2,.d (.int .i64 now)),(3,.d (.int .i64 behind)),(9,.d (.int .i64 k)),(10,.ref 10 0),(11,.d (.int .i64 z)),(12,.tr 1002 ⟨v,S.2,[],some (i,0)⟩),(13,.d (.int .i64 after)),(14,.d (.int .i64 b))],
        (10,.box [.d (.str x.name),.d (.int .i64 x.kind),.d (.int .i64 x.number),.d (.int .i64 x.time),.d (.int .i64 x.limit),.d (.str x.text),.d (.str x.schema),.d (.list 5 (x.exprs.map Jf)),.d (.list 6 (x.rules.map UR)),.d (.list 2 (x.calls.map JW)),.d (.list 2 (x.branches.map Jz))])::TMk p v s0 S2.2 (S2.1.map owN) (mpI es) (mpI ek) (mpI ev)⟩) ?_ ?_
      ·refine⟨_,_,Wk.less ?_,0,(S.1.set i n1,S.2),-1,c,Nat.zero_le _,rfl,by simpa using hRB,hE',by simpa using hil,hNB',by simp only[List.drop_zero];omega,rfl⟩;simp only[U3,hmap];simp[go_sem,TMk]
      clear hRB;rintro nn st ⟨b,S2,after,c2,hbk,rfl,hinv2,hE2,hil2,hNB2,hb2,rfl⟩;by_cases hbl:b<x.branches.length
      ·have hbn:=YS hbl;have hdb:decide ((b:Int)<(x.branches.length:Int))=true:=sO;have hVb:=hV _ (Vk hbl);rw[Vq hbl,XN,JAm]at hb2;rw[Vq hbl,YU,JGb]at hinv2;generalize x.branches[b]=br at*;have hc3:=call42 p br.steps z v s0 S2.2 (S2.1.map owN) es ek ev;have hcF:=(p75 br.steps).call trivial;generalize hw2:bgn es ek br.steps z=w2 at*;obtain⟨n2,hn2⟩:∃n,n=S2.1[i]:=⟨_,rfl⟩;have q0:nth (S2.1.map owN) i=owN n2:=by rw[hn2];exact JU owN hil2
       have q1:(S2.1.map owN).getD i .opq=owN n2:=q0;have q2:∀y,nth ((S2.1.map owN).set i y) i=y:=fun y=>by rw[Xr (sX hil2)];simp
       have q3:∀y,((S2.1.map owN).set i y).getD i .opq=y:=q2;rw[XE n2]at q0 q1;have hNB3:=JCQ hNB2 i w2;have hE3:∀k,∃j:Nat,lkI es k=j∧j<(addN S2 i w2).1.length:=by simpa only[Xx]using hE2
       have hV3:=call43 hVb (addN S2 i w2) now z (c2+1) hE3 hNB3 oM;have hU1:=ZW (p:=p) (es:=es) (ek:=ek) br.steps now z (addN S2 i w2) (c2+1) hNB3;have hU2:=YV (p:=p) (es:=es) (ek:=ek) br.steps now z (addN S2 i w2);rw[Xx]at hU2;have ha1:(addN S2 i w2).1.map owN=(S2.1.map owN).set i (owN (n2.nxt (n2.next++[w2]))):=by
        unfold addN;rw[JAt hil2,←hn2,U3]
       have ha2:(addN S2 i w2).2=if n2.next=[]then S2.2+1 else S2.2+2:=by
        unfold addN;rw[Vl hil2,←hn2]
       rw[ha1,ha2]at hV3;have hfin:∀(U:Int×NS),U=XU p es ek br.steps now z (addN S2 i w2)→True:=fun _ _=>trivial
       clear ha1 ha2;rw[XE]at hV3;generalize hUU:XU p es ek br.steps now z (addN S2 i w2)=U at*;obtain⟨u1,U2⟩:=U;simp only[Rn.nxt]at hV3 hinv2 hU1 hU2;cases hnx:n2.next with
       |nil=>
        simp only[hnx,List.nil_append,nxD,if_true,Va,Vb]at hV3 q0 q1;simp only[go_sem,TMk,hdb,hbn,hn0,q0,q1,q2,q3,List.length_set,List.set_set,List.set_cons_succ,List.set_cons_zero,List.any_cons,List.any_nil,Jw,Bool.or_false,Vu,Vv,Vc,Vv,Vc,Nat.reduceAdd,Nat.reduceEqDiff,Nat.reduceBEq,Nat.reduceLeDiff,reduceCtorEq,↓reduceIte];refine⟨⟨oM,oM⟩,⟨hil2,dC⟩,?_⟩;refine JG rfl hc3 ⟨rfl,rfl,rfl,rfl,rfl,trivial⟩ ?_;simp only[go_sem,hn0,q0,q1,q2,q3,List.length_set,List.set_set,List.set_cons_succ,List.set_cons_zero,List.any_cons,List.any_nil,Jw,Bool.or_false,Vu,Vv,Vc,Vv,Vc,Nat.reduceAdd,Nat.reduceEqDiff,Nat.reduceBEq,Nat.reduceLeDiff,reduceCtorEq,↓reduceIte];refine⟨sP,⟨dC,sP⟩,hil2,dC,?_⟩;refine JT rfl hV3 ⟨rfl,rfl,rfl,rfl,rfl,trivial⟩ ?_;simp only[go_sem,Vu,Vv,Vc,Nat.reduceAdd,Nat.reduceEqDiff,Nat.reduceBEq,Nat.reduceLeDiff,reduceCtorEq,↓reduceIte];refine sq (!Ug br.steps) ?_ ?_
        ·simp only[go_sem,Vv,Vc,Nat.reduceAdd,Nat.reduceEqDiff,Nat.reduceBEq,Nat.reduceLeDiff,reduceCtorEq,↓reduceIte];refine wn hcF ?_;simp only[go_sem,Vv,Vc,Nat.reduceAdd,Nat.reduceEqDiff,Nat.reduceBEq,Nat.reduceLeDiff,reduceCtorEq,↓reduceIte]
        have hE4:∀k,∃j:Nat,lkI es k=j∧j<U2.1.length:=by simpa only[hU2]using hE2
        cases hq:(decide (after<0)&& !Ug br.steps)
        ·simp only[hq,Vu,if_false]at hinv2;simp only[go_sem,hq,Vu,Vv,Vc,Nat.reduceAdd,Nat.reduceEqDiff,Nat.reduceBEq,Nat.reduceLeDiff,reduceCtorEq,↓reduceIte];refine⟨x.branches.length-(b+1),_,oM,Wk.less ?_,b+1,U2,after,_,oM,rfl,hinv2,hE4,oM,hU1,oM,rfl⟩;simp only[JE b oM];simp[go_sem,TMk]
        ·simp only[hq,if_true]at hinv2;simp only[go_sem,hq,Vu,Vv,Vc,Nat.reduceAdd,Nat.reduceEqDiff,Nat.reduceBEq,Nat.reduceLeDiff,reduceCtorEq,↓reduceIte];refine⟨x.branches.length-(b+1),_,oM,Wk.less ?_,b+1,U2,u1,_,oM,rfl,hinv2,hE4,oM,hU1,oM,rfl⟩;simp only[JE b oM];simp[go_sem,TMk]
       |cons o os=>
        have hin:=JCR hil2 n2 (by rw[hnx];simp);rw[show S2.1.set i n2=S2.1 from by rw[hn2];exact List.set_getElem_self _]at hin;have hfl:=Zn n2.next;have hnl:=(hNB2 n2 (by rw[hn2];exact Vk _)).2;simp only[hnx,Vf]at hnl;simp only[hnx,List.cons_append,nxD,reduceCtorEq,if_false,Va,Vw,Vb]at hV3 q0 q1 hin hfl;simp only[go_sem,TMk,hdb,hbn,hn0,q0,q1,q2,q3,List.length_set,List.set_set,List.set_cons_succ,List.set_cons_zero,List.any_cons,List.any_nil,Jw,Bool.or_false,Vu,Vv,Vc,Vv,Vc,Nat.reduceAdd,Nat.reduceEqDiff,Nat.reduceBEq,Nat.reduceLeDiff,reduceCtorEq,↓reduceIte];refine⟨⟨oM,oM⟩,⟨hil2,dC⟩,?_⟩;refine JG rfl hc3 ⟨rfl,rfl,rfl,rfl,rfl,trivial⟩ ?_;simp only[go_sem,JAP,hin,hfl,hn0,q0,q1,q2,q3,List.length_set,List.set_set,List.set_cons_succ,List.set_cons_zero,List.any_cons,List.any_nil,Jw,Bool.or_false,Vu,Vv,Vc,Vv,Vc,Nat.reduceAdd,Nat.reduceEqDiff,Nat.reduceBEq,Nat.reduceLeDiff,reduceCtorEq,↓reduceIte];refine⟨sP,⟨dC,oM,sP⟩,hil2,dC,?_⟩;refine JT rfl hV3 ⟨rfl,rfl,rfl,rfl,rfl,trivial⟩ ?_;simp only[go_sem,Vu,Vv,Vc,Nat.reduceAdd,Nat.reduceEqDiff,Nat.reduceBEq,Nat.reduceLeDiff,reduceCtorEq,↓reduceIte];refine sq (!Ug br.steps) ?_ ?_
        ·simp only[go_sem,Vv,Vc,Nat.reduceAdd,Nat.reduceEqDiff,Nat.reduceBEq,Nat.reduceLeDiff,reduceCtorEq,↓reduceIte];refine wn hcF ?_;simp only[go_sem,Vv,Vc,Nat.reduceAdd,Nat.reduceEqDiff,Nat.reduceBEq,Nat.reduceLeDiff,reduceCtorEq,↓reduceIte]
        have hE4:∀k,∃j:Nat,lkI es k=j∧j<U2.1.length:=by simpa only[hU2]using hE2
        cases hq:(decide (after<0)&& !Ug br.steps)
        ·simp only[hq,Vu,if_false]at hinv2;simp only[go_sem,hq,Vu,Vv,Vc,Nat.reduceAdd,Nat.reduceEqDiff,Nat.reduceBEq,Nat.reduceLeDiff,reduceCtorEq,↓reduceIte];refine⟨x.branches.length-(b+1),_,oM,Wk.less ?_,b+1,U2,after,_,oM,rfl,hinv2,hE4,oM,hU1,oM,rfl⟩;simp only[JE b oM];simp[go_sem,TMk]
        ·simp only[hq,if_true]at hinv2;simp only[go_sem,hq,Vu,Vv,Vc,Nat.reduceAdd,Nat.reduceEqDiff,Nat.reduceBEq,Nat.reduceLeDiff,reduceCtorEq,↓reduceIte];refine⟨x.branches.length-(b+1),_,oM,Wk.less ?_,b+1,U2,u1,_,oM,rfl,hinv2,hE4,oM,hU1,oM,rfl⟩;simp only[JE b oM];simp[go_sem,TMk]
      ·have hdb:decide ((b:Int)<(x.branches.length:Int))=false:=sO;obtain rfl:b=x.branches.length:=oM;rw[List.drop_length,YU]at hinv2;subst hinv2;cases hge:decide (after≥0)
       ·simp only[hge,Vu,if_false]at hinv;simp only[go_sem,TMk,hdb,hge,Vu,Vv,Vc,Nat.reduceAdd,Nat.reduceEqDiff,Nat.reduceBEq,Nat.reduceLeDiff,reduceCtorEq,↓reduceIte];refine⟨l.length-(k+1),_,oM,Wk.less ?_,k+1,S2,now,c2,oM,rfl,hinv,hE2,hNB2,oM,rfl⟩;simp only[JE k oM];simp[go_sem,TMk]
       ·simp only[hge,if_true]at hinv;simp only[go_sem,TMk,hdb,hge,Vu,Vv,Vc,Nat.reduceAdd,Nat.reduceEqDiff,Nat.reduceBEq,Nat.reduceLeDiff,reduceCtorEq,↓reduceIte];refine⟨l.length-(k+1),_,oM,Wk.less ?_,k+1,S2,after,c2,oM,rfl,hinv,hE2,hNB2,oM,rfl⟩;simp only[JE k oM];simp[go_sem,TMk]
    ·simp only[hT,h14,if_true]at hinv;simp only[go_sem,hs,Vr,Vs,h14,hn0,g0,g1,g2,g3,List.length_set,List.set_set,List.set_cons_succ,List.set_cons_zero,List.any_cons,List.any_nil,Jw,Bool.or_false,Vu,Vv,Vc,Vv,Vc,Nat.reduceAdd,Nat.reduceEqDiff,Nat.reduceBEq,Nat.reduceLeDiff,reduceCtorEq,↓reduceIte];refine⟨l.length-(k+1),_,oM,Wk.less ?_,k+1,(_,_),_,c,oM,rfl,hinv,hE',hNB',oM,rfl⟩;simp only[U3,hmap,JE k oM];simp[go_sem,TMk]
  ·rw[h13,if_pos rfl]at hinv;simp only[go_sem,TMk,hdk,hn,hw,hsl,Vv,Vc,Nat.reduceAdd,Nat.reduceEqDiff,Nat.reduceBEq,Nat.reduceLeDiff,reduceCtorEq,↓reduceIte];refine⟨⟨oM,oM⟩,⟨oM,oM,oM⟩,?_⟩;refine JT rfl hc ⟨rfl,rfl,rfl,rfl,rfl,trivial⟩ ?_;simp only[go_sem,h13,Vv,Vc,Nat.reduceAdd,Nat.reduceEqDiff,Nat.reduceBEq,Nat.reduceLeDiff,reduceCtorEq,↓reduceIte];refine⟨l.length-(k+1),_,oM,Wk.less ?_,k+1,S,now,c,oM,rfl,hinv,hE,hNB,oM,rfl⟩;simp only[JE k oM];simp[go_sem,TMk]
 ·have hdk:decide ((k:Int)<(l.length:Int))=false:=sO;obtain rfl:k=l.length:=oM;rw[List.drop_length,XU]at hinv;subst hinv;simp only[go_sem,TMk,hdk,Vv,Vc,Nat.reduceAdd,Nat.reduceEqDiff,Nat.reduceBEq,Nat.reduceLeDiff,reduceCtorEq,↓reduceIte]
mutual
theorem JS6{p:Prg}(hP:PB p){es ek ev:List (Str×Int)}{v s0:Nat}:∀(l:List Ste),∀x∈l,∀b∈x.branches,V74 p es ek ev v s0 b.steps
 |[],x,h,_,_=>by cases h
 |y::q,x,h,b,hb=>by
  by_cases e:x=y
  ·rw[e]at hb;exact v74S hP y b hb
  ·exact JS6 hP q x ((VA.1 h).resolve_left e) b hb
theorem v74S{p:Prg}(hP:PB p){es ek ev:List (Str×Int)}{v s0:Nat}:∀(x:Ste),∀b∈x.branches,V74 p es ek ev v s0 b.steps
 |.mk n k u t l x c e ru a bs=>JRZ hP bs
theorem JRZ{p:Prg}(hP:PB p){es ek ev:List (Str×Int)}{v s0:Nat}:∀(l:List Brn),∀b∈l,V74 p es ek ev v s0 b.steps
 |[],b,h=>by cases h
 |y::q,b,h=>by
  by_cases e:b=y
  ·rw[e];exact v74B hP y
  ·exact JRZ hP q b ((VA.1 h).resolve_left e)
theorem v74B{p:Prg}(hP:PB p){es ek ev:List (Str×Int)}{v s0:Nat}:∀(b:Brn),V74 p es ek ev v s0 b.steps
 |.mk w s=>JOl hP s (JS6 hP s)
end
theorem w74{p:Prg}(hP:PB p){es ek ev:List (Str×Int)}{v s0:Nat}(l:List Ste):V74 p es ek ev v s0 l:=JOl hP l (JS6 hP l)
end Go.Proofs
namespace Go.Proofs
open Go Av
variable {p:Prg}{n:Nat}{es:List (Str×Int)}
def JDS(p:Prg)(s:Ste):Rn:=⟨s.name,s.kind,0,0,nuO s,s.time,s.limit,s.text,0,0,0,0,.nil 1,.nil 7,.nil 11,.list 7 (tyO p s.calls),exO s,.list 6 (s.rules.map UR),.list 2 (s.calls.map JW),[]⟩
theorem JOm(p:Prg)(s:Ste):owN (JDS p s)=JLS p s:=rfl
def rnE(n:Str)(kd s r:Int):Rn:=⟨n,kd,s,r,0,0,0,n,0,0,0,0,.nil 1,.nil 7,.nil 11,.nil 7,.nil 5,.nil 6,.nil 2,[]⟩
theorem JGc(n:Str)(kd s r:Int):okR (rnE n kd s r):=⟨rfl,rfl,rfl,⟨[],rfl⟩,⟨[],rfl⟩,⟨[],rfl⟩,⟨[],rfl,dC⟩,⟨[],rfl,dC⟩,⟨[],rfl⟩,⟨[],rfl,dC⟩⟩
def JRa:Exp:=.mk 1 0 [] [.mk 1 1 0 [] [] []] []
def exE(b:Brn):Exp:=match b.cond with|[]=>JRa|e::_=>e
theorem JLT(b:Brn):(exB b).canon=Jf (exE b):=by
 unfold exB exE;cases b.cond with
 |nil=>simp[JDh,JRa,JX,JY,Dat.canon,JH]
 |cons e r=>exact JBY e
theorem JI4(l:List Brn):JH (l.map exB)=(l.map exE).map Jf:=by
 rw[Jv,List.map_map,List.map_map];exact List.map_congr_left fun b _=>JLT b
theorem JI5(l:List Exp):(Yj l).dat.canon=.list 5 (l.map Jf):=by
 cases l with
 |nil=>rfl
 |cons a r=>simp only[Yj,Dat.dat,Dat.canon,J7]
theorem JH1(hP:PB p):∀l:List Kal,∃ts:List Typ,tyO p l=ts.map Xp
 |[]=>⟨[],rfl⟩
 |c::r=>by
  obtain⟨ts,h⟩:=JH1 hP r;obtain⟨si,x,-,-,-,-,h1⟩:=JGY hP c;obtain⟨_,_,a,-,-,-,-,h2⟩:=JAE hP x.request;obtain⟨_,_,b,-,-,-,-,h3⟩:=JAE hP x.reply;refine⟨a.type::b.type::ts,?_⟩;unfold tyO at h⊢;rw[List.flatMap_cons,h,h1,h2,h3];rfl
theorem JOn(hP:PB p)(s:Ste)(hs:stQ s):okR (JDS p s):=by
 refine⟨rfl,rfl,rfl,⟨[],rfl⟩,⟨[],rfl⟩,⟨[],rfl⟩,?_,?_,⟨s.rules,?_⟩,⟨s.calls,?_,by have:=hs.ca;omega⟩⟩
 ·obtain⟨ts,h⟩:=JH1 hP s.calls;refine⟨ts,by simp only[JDS,h,Dat.dat,Dat.canon,Xk],?_⟩;have h1:=congrArg List.length h;rw[JCO hP,Vc]at h1;have:=hs.ca;omega
 ·simp only[JDS,exO];split
  ·exact⟨s.branches.map exE,by simp only[Dat.dat,Dat.canon,JI4],by rw[Vc];have:=hs.br;omega⟩
  ·exact⟨s.exprs,JI5 _,by have:=hs.el;omega⟩
 ·simp only[JDS,Dat.dat,Dat.canon,UO]
 ·simp only[JDS,Dat.dat,Dat.canon,XJ]
def scI(p:Prg)(n:Str)(v:Int):Nat:=fdQ (fun x:Sch=>x.name==n&&x.version==v) p.schemas
def epI(p:Prg)(n:Str):Nat:=fdQ (fun x:Epd=>x.name==n) p.endpoints
def p1R(p:Prg)(r:Rou):Rn:=match p.endpoints[epI p r.src]? with
 |some x=>rnE x.name 21 (scI p x.schema x.version:Nat) (scI p x.schema x.version:Nat)
 |none=>rnE [] 0 0 0
def ph1(p:Prg)(l:List Rou):List Rn:=l.map (p1R p)
structure P2 where
 N:List Rn
 es:List (Str×Int)
 us:List Str
 cs:List Str
def JGd(cs:List Str)(l:List Kal):List Str:=l.foldl (fun c k=>JLR c k.service) cs
def p2S(p:Prg)(S:P2)(s:Ste):P2:=if s.kind==13 then⟨S.N,S.es,JLR S.us s.text,JGd S.cs s.calls⟩else⟨S.N++[JDS p s],puS S.es s.name (S.N.length:Nat),S.us,JGd S.cs s.calls⟩
def ph2(p:Prg)(l:List Wlk)(S:P2):P2:=l.foldl (fun S w=>p2S p S w.step) S
def p3S(p:Prg)(us:List Str)(S:List Rn×List (Str×Int))(x:Epd):List Rn×List (Str×Int):=
 if us.contains x.name then(S.1++[rnE x.name 22 (scI p x.schema x.version:Nat) (-1)],puS S.2 x.name (S.1.length:Nat))else S
def ph3(p:Prg)(us:List Str)(l:List Epd)(S:List Rn×List (Str×Int)):List Rn×List (Str×Int):=l.foldl (p3S p us) S
def p4S(p:Prg)(cs:List Str)(N:List Rn)(x:Svc):List Rn:=if cs.contains x.name then N++[rnE x.name 23 ((JCN p.schemas x.request).1:Nat) ((JCN p.schemas x.reply).1:Nat)]else N
def ph4(p:Prg)(cs:List Str)(l:List Svc)(N:List Rn):List Rn:=l.foldl (p4S p cs) N
def p5A(es ek:List (Str×Int))(l:List Ste)(S:NS)(i:Nat):NS:=(upN S.1 i (·.nxt [bgn es ek l (-1)]),S.2+1)
def p5S(p:Prg)(es ek:List (Str×Int))(S:NS)(i:Nat):NS:=match p.routes[i]? with
 |some r=>(XU p es ek r.steps (((p5A es ek r.steps S i).1[i]?.map Rn.schema).getD 0) (-1) (p5A es ek r.steps S i)).2
 |none=>S
def ph5(p:Prg)(es ek:List (Str×Int))(k:Nat)(S:NS):NS:=(List.range k).foldl (p5S p es ek) S
theorem JH2(p:Prg)(es ek:List (Str×Int))(k:Nat)(S:NS):ph5 p es ek (k+1) S=p5S p es ek (ph5 p es ek k S) k:=by
 unfold ph5;rw[List.range_succ,List.foldl_append];rfl
def plA(p:Prg):P2:=ph2 p (wkN p.routes p.routes.length) ⟨ph1 p p.routes,[],[],[]⟩
def plK(p:Prg):List Rn×List (Str×Int):=ph3 p (plA p).us p.endpoints ((plA p).N,[])
def plN(p:Prg):List Rn:=ph4 p (plA p).cs p.services (plK p).1
def plE(p:Prg):NS:=ph5 p (plA p).es (plK p).2 p.routes.length (plN p,0)
def plD(p:Prg):Dat:=.agg [.int .i64 p.version,.list 9 (p.schemas.map Uc),.list 7 (p.endpoints.map J8),.list 4 (p.services.map Uk),.list 20 (JH (Dat.dat.datL ((plE p).1.map owN)))]
theorem JQV(l:List (Str×Int))(k:Str)(v:Int)(j:Str):lkI (puS l k v) j=if j==k then v else lkI l j:=by
 unfold lkI
 induction l with
 |nil=>simp only[puS,lkS];split<;>rfl
 |cons e r ih=>
  simp only[puS];by_cases h1:k==e.1
  ·have h1':k=e.1:=sX h1;simp only[h1,if_true,lkS];by_cases h2:j==k
   ·simp[h2]
   ·have h2':¬j=k:=sX h2;have:(j==e.1)=false:=by simp;rw[←h1'];exact h2'
    simp[h2,this]
  ·have h1':¬k=e.1:=sX h1;simp only[h1,if_false,lkS,Vu];by_cases h3:j==e.1
   ·have h3':j=e.1:=sX h3;have:(j==k)=false:=by simp;rw[h3'];exact fun e=>h1' e.symm
    simp[h3,this]
   ·simp only[h3,Vu,if_false];exact ih
def ME(es:List (Str×Int))(n:Nat):Prop:=∀k,∃i:Nat,lkI es k=i∧i<n
theorem ME.nil(h:0<n):ME [] n:=fun k=>⟨0,rfl,h⟩
theorem ME.put(h:ME es n)(k:Str)(i m:Nat)(hi:i<m)(hm:n≤m):ME (puS es k i) m:=by
 intro j;rw[JQV];split
 ·exact⟨i,rfl,hi⟩
 ·obtain⟨a,h1,h2⟩:=h j;exact⟨a,h1,oM⟩
theorem ME.le{m:Nat}(h:ME es n)(hm:n≤m):ME es m:=fun k=>by obtain⟨a,h1,h2⟩:=h k;exact⟨a,h1,oM⟩
abbrev TMp(p:Prg)(v s0 s:Nat)(X:List Dat)(es ek ev:List (Dat×Dat)):List (Nat×Av.Obj):=[(33,.box [.d (.int .i64 p.version),.d (.list 9 (p.schemas.map Uc)),.d (.list 7 (p.endpoints.map J8)),.d (.list 4 (p.services.map Uk)),.d (.list 3 (p.routes.map Ue)),.tr 1002 ⟨v,s0,[],none⟩,.mp 29,.mp 30,.mp 31]),
 (1002,.tre v s 20 X),(29,.mapo es),(30,.mapo ek),(31,.mapo ev)]
abbrev rp(i:Nat):Nat:=if i=1001 then 33 else if i=1003 then 29 else if i=1004 then 30 else if i=1005 then 31 else i
theorem JI6{i j:Nat}(hi:i=1001∨i=1002∨i=1003∨i=1004∨i=1005)(hj:j=1001∨j=1002∨j=1003∨j=1004∨j=1005)(h:rp i=rp j):i=j:=by
 rcases hi with rfl|rfl|rfl|rfl|rfl<;>rcases hj with rfl|rfl|rfl|rfl|rfl<;>first|rfl|(revert h;decide)
theorem JCS{v s0 s:Nat}{X:List Dat}{es ek ev:List (Dat×Dat)}{i:Nat}(h:(JC (Av.get (TMk p v s0 s X es ek ev)) [] i).isSome=true):i=1001∨i=1002∨i=1003∨i=1004∨i=1005:=by
 refine Decidable.byContradiction fun hn=>?_
 simp only[not_or]at hn;obtain⟨a1,a2,a3,a4,a5⟩:=hn;simp[TMk,JC,Av.get,Ne.symm a1,Ne.symm a2,Ne.symm a3,Ne.symm a4,Ne.symm a5]at h
theorem cp74{ek ev:List (Str×Int)}{v s0:Nat}{l:List Ste}(h:V74 p es ek ev v s0 l)(S:NS)(now behind:Int)(b:Nat)(h1:∀k,∃i:Nat,lkI es k=i∧i<S.1.length)(h2:NB S.1 b)(h3:b+J3 l≤10000000000):
  CT (.fn 43) [.ref 33 0,.d (.list 11 (l.map JI)),.d (.int .i64 now),.d (.int .i64 behind)] ((TMp p v s0 S.2 (S.1.map owN) (mpI es) (mpI ek) (mpI ev)).map fun x=>(x.1,some x.2)) (.d (.int .i64 (XU p es ek l now behind S).1)) [(1002,.tre v (XU p es ek l now behind S).2.2 20 ((XU p es ek l now behind S).2.1.map owN))]:=by
 have:=(h S now behind b h1 h2 h3).call rp (fun i hi=>by
   simp only[TMk,Av.get]at hi
   repeat' split at hi
   all_goals first|(cases hi;done)|omega) (fun i j hi hj h=>JI6 (JJ8 hi) (JJ8 hj) h) (by simp[JR,Av.get]) (Jx (by simp[Je,J2,JS,JR,Ub,Av.get])) [] (by simp[Av.get]) (JEr _ _ _ _ _ _ _ _ _ _) trivial
 simp only[TMk,Va,Vb,Obj.ren,Av.ren,UN,YA,List.append_nil,rp,Nat.reduceEqDiff,↓reduceIte]at this⊢;exact this
theorem cp73(p:Prg)(l:List Ste)(behind:Int)(v s0 sv:Nat)(X:List Dat)(es ek ev:List (Str×Int)):
  CT (.fn 42) [.ref 33 0,.d (.list 11 (l.map JI)),.d (.int .i64 behind)] ((TMp p v s0 sv X (mpI es) (mpI ek) (mpI ev)).map fun x=>(x.1,some x.2)) (.d (.int .i64 (bgn es ek l behind))) []:=by
 have:=(JRY p l behind v s0 sv X es ek ev).call rp (fun i hi=>by
   simp only[TMk,Av.get]at hi
   repeat' split at hi
   all_goals first|(cases hi;done)|omega) (fun i j hi hj h=>JI6 (JCS hi) (JCS hj) h) (by simp[JR,Av.get]) (Jx (by simp[Je,J2,JS,JR,Ub,Av.get])) [] (by simp[Av.get]) (Zm _ _ _ _ _ _ _ _) trivial
 simp only[TMk,Va,Vb,Obj.ren,Av.ren,UN,YA,List.append_nil,rp,Nat.reduceEqDiff,↓reduceIte]at this⊢;exact this
theorem cp71(p:Prg)(hP:PB p)(s:Ste)(hs:stQ s)(v s0 sv:Nat)(X:List Dat)(es ek ev:List (Str×Int)):
  CT (.fn 40) [.ref 33 0,.d (JEj s)] ((TMp p v s0 sv X (mpI es) (mpI ek) (mpI ev)).map fun x=>(x.1,some x.2)) (.d (JLS p s)) []:=by
 have:=(con40 p hP s hs v s0 sv X (mpI es) (mpI ek) (mpI ev)).call rp (fun i hi=>by
   simp only[TMk,Av.get]at hi
   repeat' split at hi
   all_goals first|(cases hi;done)|omega) (fun i j hi hj h=>JI6 (JCS hi) (JCS hj) h) (by simp[JR,Av.get]) (Jx (by simp[Je,J2,JS,JR,Ub,Av.get])) [] (by simp[Av.get]) (Zm _ _ _ _ _ _ _ _) trivial
 simp only[TMk,Va,Vb,Obj.ren,Av.ren,UN,YA,List.append_nil,rp,Nat.reduceEqDiff,↓reduceIte]at this⊢;exact this
end Go.Proofs
namespace Go.Proofs
open Go Av
variable {b i:Nat}{p:Prg}{es ek:List (Str×Int)}{S:NS}
theorem JOo(p:Prg)(l:List Rou):NB (ph1 p l) 0:=by
 intro n hn;obtain⟨r,-,rfl⟩:=VC.1 hn;unfold p1R;split<;>exact⟨JGc _ _ _ _,Nat.le_refl _⟩
theorem NB.app{N:List Rn}(h:NB N b){n:Rn}(hn:okR n)(hl:n.next.length≤b):NB (N++[n]) b:=by
 intro m hm;rcases List.mem_append.1 hm with hm|hm
 ·exact h m hm
 ·rw[List.mem_singleton.1 hm];exact⟨hn,hl⟩
theorem JS7(hP:PB p)(S:P2)(s:Ste)(hs:stQ s)(h1:NB S.N 0)(h2:ME S.es S.N.length):NB (p2S p S s).N 0∧ME (p2S p S s).es (p2S p S s).N.length∧S.N.length≤(p2S p S s).N.length:=by
 unfold p2S;split
 ·exact⟨h1,h2,Nat.le_refl _⟩
 ·have hl:(S.N++[JDS p s]).length=S.N.length+1:=sP;refine⟨h1.app (JOn hP _ hs) (Nat.le_refl _),h2.put _ S.N.length _ ?_ ?_,?_⟩
  ·show S.N.length<(S.N++[JDS p s]).length;omega
  ·show S.N.length≤(S.N++[JDS p s]).length;omega
  ·show S.N.length≤(S.N++[JDS p s]).length;omega
theorem JI7(hP:PB p):∀(l:List Wlk) (S:P2),(∀w∈l,stQ w.step)→NB S.N 0→ME S.es S.N.length→NB (ph2 p l S).N 0∧ME (ph2 p l S).es (ph2 p l S).N.length∧S.N.length≤(ph2 p l S).N.length
 |[],S,_,h1,h2=>⟨h1,h2,Nat.le_refl _⟩
 |w::r,S,hq,h1,h2=>by
  obtain⟨a,b,c⟩:=JS7 hP S w.step (hq w Vh) h1 h2;obtain⟨d,e,f⟩:=JI7 hP r _ (fun x hx=>hq x (Vn _ hx)) a b;exact⟨d,e,Nat.le_trans c f⟩
theorem JS8(p:Prg)(us:List Str)(S:List Rn×List (Str×Int))(x:Epd)(h1:NB S.1 0):NB (p3S p us S x).1 0∧S.1.length≤(p3S p us S x).1.length:=by
 unfold p3S;split
 ·exact⟨h1.app (JGc _ _ _ _) (Nat.le_refl _),sP⟩
 ·exact⟨h1,Nat.le_refl _⟩
theorem JI8(p:Prg)(us:List Str):∀(l:List Epd) (S:List Rn×List (Str×Int)),NB S.1 0→NB (ph3 p us l S).1 0∧S.1.length≤(ph3 p us l S).1.length
 |[],S,h1=>⟨h1,Nat.le_refl _⟩
 |x::r,S,h1=>by
  obtain⟨a,c⟩:=JS8 p us S x h1;obtain⟨d,f⟩:=JI8 p us r _ a;exact⟨d,Nat.le_trans c f⟩
theorem JS9(p:Prg)(cs:List Str)(N:List Rn)(x:Svc)(h1:NB N 0):NB (p4S p cs N x) 0∧N.length≤(p4S p cs N x).length:=by
 unfold p4S;split
 ·exact⟨h1.app (JGc _ _ _ _) (Nat.le_refl _),sP⟩
 ·exact⟨h1,Nat.le_refl _⟩
theorem JI9(p:Prg)(cs:List Str):∀(l:List Svc) (N:List Rn),NB N 0→NB (ph4 p cs l N) 0∧N.length≤(ph4 p cs l N).length
 |[],N,h1=>⟨h1,Nat.le_refl _⟩
 |x::r,N,h1=>by
  obtain⟨a,c⟩:=JS9 p cs N x h1;obtain⟨d,f⟩:=JI9 p cs r _ a;exact⟨d,Nat.le_trans c f⟩
theorem JOp(hi:i<p.routes.length)(hil:i<S.1.length):
  p5S p es ek S i=(XU p es ek p.routes[i].steps S.1[i].schema (-1) (S.1.set i (S.1[i].nxt [bgn es ek p.routes[i].steps (-1)]),S.2+1)).2:=by
 unfold p5S;rw[Vl hi];have e:p5A es ek p.routes[i].steps S i=(S.1.set i (S.1[i].nxt [bgn es ek p.routes[i].steps (-1)]),S.2+1):=by
  unfold p5A;rw[JAt hil]
 show(XU p es ek p.routes[i].steps (((p5A es ek p.routes[i].steps S i).1[i]?.map Rn.schema).getD 0) (-1) (p5A es ek p.routes[i].steps S i)).2=_;rw[e];simp only[List.getElem?_set_self hil,Vj,Vp,Rn.nxt]
theorem NB.set{N:List Rn}(h:NB N b){n:Rn}(hn:okR n)(hl:n.next.length≤b):NB (N.set i n) b:=by
 intro m hm;rcases List.mem_or_eq_of_mem_set hm with hm|hm
 ·exact h m hm
 ·rw[hm];exact⟨hn,hl⟩
theorem JLU{l:List Rou}{k:Nat}(h:k<l.length):XK (l.drop k)=J3 l[k].steps+XK (l.drop (k+1)):=by
 rw[Vq h];rfl
theorem JTA(hi:i<p.routes.length)(hil:i<S.1.length)(h:NB S.1 b):NB (p5S p es ek S i).1 (b+1+J3 p.routes[i].steps)∧(p5S p es ek S i).1.length=S.1.length:=by
 rw[JOp hi hil];refine⟨ZW _ _ _ _ _ ((h.le (Nat.le_succ b)).set ((h _ (Vk hil)).1.nxt _) (by simp[Rn.nxt])),?_⟩;rw[YV];simp
theorem JFk{l:List Rou}{k:Nat}(h:k<l.length):XK (l.take (k+1))=XK (l.take k)+J3 l[k].steps:=by
 have h3:∀(a b:List Rou),XK (a++b)=XK a+XK b:=by
  intro a b
  induction a with
  |nil=>simp[XK]
  |cons x r ih=>simp only[List.cons_append,XK,ih];omega
 rw[List.take_succ_eq_append_getElem h,h3];rfl
theorem JJA(hl:p.routes.length≤S.1.length)(h:NB S.1 b):∀k:Nat,k≤p.routes.length→NB (ph5 p es ek k S).1 (b+k+XK (p.routes.take k))∧(ph5 p es ek k S).1.length=S.1.length
 |0,_=>⟨by simpa[XK,ph5]using h,rfl⟩
 |k+1,hk=>by
  obtain⟨h1,h2⟩:=JJA hl h k oM;rw[JH2];have:=JTA (p:=p) (es:=es) (ek:=ek) (i:=k) oM (by rw[h2];omega) h1;refine⟨this.1.le ?_,this.2.trans h2⟩;rw[JFk oM];omega
end Go.Proofs
namespace Av
open Go
variable [Glb][Rls]
section
variable {β:JN}{A:Nat→Prop}{w:World}{H:Heap}{D:Nat→Prop}
theorem JQ.borrow{P:Program}{f:Nat}{ds:List Dat}{r:Dat}(h:UD P f ds (.d r))(hr:scalar r=true)(cs:List Av)(T:List (Nat×Option Obj))
  (hds:∀H:Heap,(∀e∈T,H e.1=e.2)→∃p ups,Jk H cs=some (p,ds,ups)∧p):JQ P f cs T (.d r) []:=by
 intro β A w H vs hT hc hvs;obtain⟨p,ups,hd,hp⟩:=hds H hT;obtain⟨A1,s1,l1,r1,m1⟩:=U5 hc hd hp (us:=vs.toList) (sX hvs.1) (fun k c u h1 h2=>hvs.2 k c u h1 (sX h2));have hc0:Core β A1 w (get []):=⟨(by intro i o hi;cases hi),(by intro i j o o' b hi;cases hi),(by intro i o b hi;cases hi),s1.core.old,s1.core.glob⟩;refine .inl ⟨h.1,(h.2 β A1 w vs hc0 ⟨by simpa using l1,?_⟩).mono ?_⟩
 ·intro k c v h1 h2;rw[Vo]at h1;cases e:ds[k]? with
  |none=>simp[e]at h1
  |some x=>
   simp only[e,Vj,Vd]at h1;subst h1;exact .d _ _ (r1 k x v e (sX h2))
 ·rintro e w' ⟨v,β1,A2,rfl,hsince,hc1,hv⟩;obtain⟨s1,s2,s3,s4,s5,sl,s6,s7,s8⟩:=hsince;dsimp only at s1 s2 s3 s4 s5 sl;have hsame:∀b,b<w.heap.size→w'.heap[b]? =w.heap[b]? :=fun b hb=>s5 b hb (by intro i o hi;cases hi)
  have hst:Stp β A w H β A w' H:=Stp.new hc s1 s2 s3 s4 hsame (fun _ h=>h) (fun _ h=>.inl h) (fun b hb=>by have:=hc.old b hb;omega);exact⟨v,rfl,β,A,hst,.d _ _ (hv.Jc.scalar hr)⟩
theorem Stp.JJI(hc:Core β A w H){k sz:Nat}(hk:H k=none)(hsz:0<sz):Stp β A w H (upd β k (none:Option Nat)) A w (upd H k (some (.tre 0 0 sz []))):=by
 refine Stp.many hc (fun t=>t=k) (fun t ht=>JP _ _ ht) (fun t ht=>JP _ _ ht) rfl rfl rfl (Nat.le_refl _) (fun _ _ _=>rfl) (fun _ h=>h) (fun _ h=>.inl h) hc.old ?_ (fun t t' _ _ _ ht ht' _ _ _ _ _ _=>ht.trans ht'.symm) ?_ ?_ ?_
 ·rintro t o b rfl _ _ hb;rw[JF]at hb;cases hb
 ·rintro t c u rfl hh hvr;exact Xa (v:=0) (s:=0) (sz:=sz) (xs:=[]) (.inr hk) (JF _ _ _) (Nat.le_refl _) (Nat.le_refl _) hh hvr (fun h=>by rw[hk]at h;cases h)
 ·rintro _ t o rfl ho;rw[JF]at ho;cases ho;refine⟨.slice none 0 0,?_,?_,?_,?_⟩
  ·rw[JF];exact .nil sz none hsz
  ·rw[JF];exact List.Pairwise.nil
  ·exact .inl ⟨by rw[JF],rfl,none,rfl⟩
  ·rw[JF];rfl
 ·rintro b r _ ⟨t,o,rfl,ho,_,_⟩;rw[hk]at ho;cases ho
theorem VRep.JJI{k sz:Nat}{u:Value}(hr:Rep A w (.nil sz) u):VRep (upd β k (none:Option Nat)) A w (upd H k (some (.tre 0 0 sz []))) (.tr k ⟨0,0,[],none⟩) u:=by
 cases hr with
 |nil _ ad=>
  refine .tr _ _ _ rfl sU (fun h=>by cases h) ?_;intro v3 s3 sz3 xs3 h3;simp only[upd,if_true,Vd,Obj.tre.injEq]at h3;obtain⟨rfl,rfl,rfl,rfl⟩:=h3;exact⟨Nat.le_refl _,Nat.le_refl _,fun _ _=>⟨_,_,.inl ⟨by rw[JF],rfl,ad,rfl⟩,rfl,rfl⟩⟩
theorem Wk.nilTB{st:St}(b j k sz:Nat)(cs:List Av)(hb:get st.hp b=some (.box cs))(hj:cs[j]? =some (.d (.nil sz)))(hk:get st.hp k=none)(hsz:0<sz):
  Wk D st ⟨st.tm,put (put st.hp k (.tre 0 0 sz [])) b (.box (cs.set j (.tr k ⟨0,0,[],none⟩)))⟩:=by
 refine Wk.JBe ?_;intro β A w a hc htr;have hne:b≠k:=fun e=>by subst e;rw[hk]at hb;cases hb
 have hst:=Stp.JJI (β:=β) hc hk hsz;have hb1:upd (get st.hp) k (some (.tre 0 0 sz [])) b=some (.box cs):=by rw[JP _ _ hne];exact hb
 obtain⟨bb,C,T,e1,e2,e3,e4,e5⟩:=hst.core.objs b _ hb1;have hset:w.setRow bb C=w:=Xh e2;have hst2:=Stp.JCv (cs':=cs.set j (.tr k ⟨0,0,[],none⟩)) (C':=C) hst.core hb1 e1 e2 (sX e3) e4 (fun hall i c v hc' hv'=>by
  rw[List.getElem?_set]at hc';split at hc'
  ·rename_i e;subst e;split at hc'
   ·cases hc';obtain⟨bb0,C0,T0,q1,q2,q3,q4,q5⟩:=hc.objs b _ hb;have hbb:bb0=bb:=by
     rw[JP _ _ hne]at e1;rw[q1]at e1;exact Option.some.inj (BK.mk.inj e1).1
    subst hbb;rw[e2]at q2;cases q2;have hr:=(q5 j _ v hj hv').Jc;exact hall _ _ (VRep.JJI hr)
   ·cases hc'
  ·exact hall _ _ (e5 i c v hc' hv'))
 rw[hset]at hst2;have hh:get (put (put st.hp k (.tre 0 0 sz [])) b (.box (cs.set j (.tr k ⟨0,0,[],none⟩))))=upd (upd (get st.hp) k (some (.tre 0 0 sz []))) b (some (.box (cs.set j (.tr k ⟨0,0,[],none⟩)))):=funext fun i=>by
  rw[J9,J9];rfl
 rw[hh];refine⟨_,A,hst.trans hst2,?_⟩;intro t v hv;obtain⟨u,q1,q2⟩:=htr t v hv;exact⟨u,q1,(hst.trans hst2).vals _ _ q2⟩
end
end Av
namespace Go.Proofs
open Go Av
theorem ep_ex{p:Prg}(hP:PB p)(n:Str):∃(i:Nat) (x:Epd),fdQ (fun x:Epd=>x.name==n) p.endpoints=i∧i<p.endpoints.length∧p.endpoints[i]? =some x∧nth (p.endpoints.map J8) i=J8 x:=by
 have h:=JI2 (fun x:Epd=>x.name==n) hP.ep0;exact⟨_,_,rfl,h,Vl h,JU J8 h⟩
section
@[instance_reducible] def JQW:Rls:={rl:=fun n=>n==1,tr:=fun n=>n==20}
attribute [local instance 2000] JQW
theorem YD(n:Nat): @Rls.rl JQW n=(n==1):=rfl
theorem YW(n:Nat): @Rls.tr JQW n=(n==20):=rfl
theorem Jp(sz n:Nat): @Yx JQW sz n=(sz==1&&n==1):=by unfold Yx;rw[YD];show((sz==1&&n==1)||(false&&_))=_;rw[Bool.false_and,Bool.or_false]
set_option maxHeartbeats 4000000 in
theorem JTB(p0:Prg)(hne:p0.routes≠[])(hsz:nmP p0)(hw:XK (UG p0).routes≤1000000000)(hq:∀w∈wkN (UG p0).routes (UG p0).routes.length,stQ w.step)(h1:p0.schemas≠[])(h2:p0.endpoints≠[])(h3:p0.services≠[])(h4:p0.routes.length≤1000000000)(h5:p0.endpoints.length≤1000000000)(h6:p0.services.length≤1000000000):
  PT 13 [UA p0] (.d (plD (UG p0))):=by
 refine UD.Ju ok13.has fun hfit=>?_
 have hlen:=hfit _ (Vh);simp only[UA,fits,XW,Vc]at hlen;have hP:PB (UG p0):=⟨by simp only[UG];omega,by simp only[UG];omega,by simp only[UG];omega,h1,h2,h3⟩;have hrl:(UG p0).routes.length≤1000000000:=by simp only[UG,ZI];omega
 have hel:(UG p0).endpoints.length≤1000000000:=h5;have hsl:(UG p0).services.length≤1000000000:=h6;have hrn:(UG p0).routes≠[]:=by
  intro e;have:=congrArg List.length e;simp only[UG,ZI,Vm]at this;exact hne (List.eq_nil_of_length_eq_zero this)
 clear hlen hfit;refine ok13.pc ?_;have c36:=(JOg p0 hne hsz).call trivial;have c39:=(JSh (UG p0) hw).call trivial;generalize UG p0=p at*;have hv:p.version=p.version:=rfl;simp only[UA,Va,Vb]at c36 c39;simp only[go_sem,ir13,UA,YD,YW,Jp,Bool.false_and,Vu,nodeAt,Vv,Vc,Nat.reduceAdd,Nat.reduceEqDiff,Nat.reduceBEq,Nat.reduceLeDiff,reduceCtorEq,↓reduceIte];refine wn c36 ?_;simp only[go_sem,YD,YW,Jp,Bool.false_and,Vu,nodeAt,Vv,Vc,Nat.reduceAdd,Nat.reduceEqDiff,Nat.reduceBEq,Nat.reduceLeDiff,reduceCtorEq,↓reduceIte];refine JK (fun n st=>∃k:Nat,k≤p.routes.length∧n=p.routes.length-k∧
  st=⟨[(1,.ref 1 0),(2,.ref 2 0),(3,.ref 33 0),(4,.d (.int .i64 k))],
   (1,.box [.d (.int .i64 p.version),.d (.list 9 (p.schemas.map Uc)),.d (.list 7 (p.endpoints.map J8)),.d (.list 4 (p.services.map Uk)),.d (.list 3 (p.routes.map Ue))])::
   (2,.box [.d (.int .i64 0),.d (.nil 9),.d (.nil 7),.d (.nil 4),.d (.nil 20)])::
   TMp p k 0 0 ((ph1 p (p.routes.take k)).map owN) (mpI []) (mpI []) (mpI [])⟩) ?_ ?_
 ·refine⟨_,_,(Wk.nilTB 33 5 1002 20 _ rfl rfl rfl dC).trans (Wk.less ?_),0,Nat.zero_le _,rfl,rfl⟩;simp[go_sem,TMp,mpI,ph1]
 ·rintro n st ⟨k,hk,rfl,rfl⟩;by_cases hlt:k<p.routes.length
  ·have hd:=dT hlt;have hx:=JU Ue hlt;have hpk:ph1 p (p.routes.take (k+1))=ph1 p (p.routes.take k)++[p1R p p.routes[k]]:=by
    unfold ph1;rw[List.take_succ_eq_append_getElem hlt,Vw];rfl
   have hpl:(ph1 p (p.routes.take k)).length=k:=by unfold ph1;rw[Vc,List.length_take];omega
   generalize p.routes[k]=r at*;have c37:=(JS0 p r.src hP.ep).call (by simp[U6]);obtain⟨ei,x,e1,he,he2,hex⟩:=ep_ex hP r.src;rw[e1]at c37;have hp1:p1R p r=rnE x.name 21 (scI p x.schema x.version:Nat) (scI p x.schema x.version:Nat):=by unfold p1R epI;rw[e1,he2]
   have c38:=(JOj p x.schema x.version hP.sc).call (by simp[U6]);simp only[UA,Va,Vb]at c37 c38;simp only[J8]at hex;simp only[Ue]at hx;simp only[scI]at hp1;generalize fdQ (fun c:Sch=>c.name==x.schema&&c.version==x.version) p.schemas=si at*;simp only[go_sem,TMp,hd,hx,YD,YW,Jp,Bool.false_and,Vu,nodeAt,Vv,Vc,Nat.reduceAdd,Nat.reduceEqDiff,Nat.reduceBEq,Nat.reduceLeDiff,reduceCtorEq,↓reduceIte];refine⟨⟨oM,oM⟩,dC,?_⟩;refine wn c37 ?_;simp only[go_sem,hex,YD,YW,Jp,Bool.false_and,Vu,nodeAt,Vv,Vc,Nat.reduceAdd,Nat.reduceEqDiff,Nat.reduceBEq,Nat.reduceLeDiff,reduceCtorEq,↓reduceIte];refine⟨⟨oM,oM⟩,?_⟩;refine wn c38 ?_;simp only[go_sem,hex,JAP,YD,YW,Jp,Bool.false_and,Vu,nodeAt,Vv,Vc,Nat.reduceAdd,Nat.reduceEqDiff,Nat.reduceBEq,Nat.reduceLeDiff,reduceCtorEq,↓reduceIte];refine⟨sP,⟨dC,oM,sP⟩,dC,p.routes.length-(k+1),_,oM,Wk.less ?_,k+1,oM,rfl,rfl⟩;rw[hpk,hp1,Vw,Va,Vb,XE];simp only[rnE,nxD,JE k oM];simp[go_sem,TMp]
  ·have hd:=dF hlt;obtain rfl:k=p.routes.length:=oM;rw[List.take_length];simp only[go_sem,TMp,hd,YD,YW,Jp,Bool.false_and,Vu,nodeAt,Vv,Vc,Nat.reduceAdd,Nat.reduceEqDiff,Nat.reduceBEq,Nat.reduceLeDiff,reduceCtorEq,↓reduceIte];have hwl:(wkN p.routes p.routes.length).length≤1000000000:=by
    have e1:=JDd p.routes p.routes.length (Nat.le_refl _);have e2:=Zl p.routes p.routes.length;omega
   have hpl:(ph1 p p.routes).length=p.routes.length:=by unfold ph1;rw[Vc]
   have hN1:=JOo p p.routes;have hN0:0<(ph1 p p.routes).length:=by rw[hpl];exact List.length_pos_iff.2 hrn
   unfold plD plE plN plK plA;generalize wkN p.routes p.routes.length=W at*;generalize ph1 p p.routes=N1 at*;rw[←hpl];refine wn c39 ?_;simp only[go_sem,YD,YW,Jp,Bool.false_and,Vu,nodeAt,Vv,Vc,Nat.reduceAdd,Nat.reduceEqDiff,Nat.reduceBEq,Nat.reduceLeDiff,reduceCtorEq,↓reduceIte];refine JK (fun n st=>∃(k:Nat) (S:P2),k≤W.length∧n=W.length-k∧S=ph2 p (W.take k) ⟨N1,[],[],[]⟩∧S.N.length≤N1.length+k∧
    st=⟨[(1,.ref 1 0),(2,.ref 2 0),(3,.ref 33 0),(10,.mp 86),(11,.mp 87),(12,.d (.list 13 (W.map XT))),(13,.d (.int .i64 k))],
     (1,.box [.d (.int .i64 p.version),.d (.list 9 (p.schemas.map Uc)),.d (.list 7 (p.endpoints.map J8)),.d (.list 4 (p.services.map Uk)),.d (.list 3 (p.routes.map Ue))])::
     (2,.box [.d (.int .i64 0),.d (.nil 9),.d (.nil 7),.d (.nil 4),.d (.nil 20)])::
     (86,.mapo (mpS S.us))::(87,.mapo (mpS S.cs))::TMp p S.N.length 0 0 (S.N.map owN) (mpI S.es) (mpI []) (mpI [])⟩) ?_ ?_
   ·refine⟨_,_,Wk.less ?_,0,_,Nat.zero_le _,rfl,rfl,Nat.le_refl _,rfl⟩;simp[go_sem,TMp,mpI,mpS,ph2]
   ·rintro n st ⟨k,S,hk2,rfl,hS,hSN,rfl⟩;by_cases hlt2:k<W.length
    ·have hd2:decide ((k:Int)<(W.length:Int))=true:=sO;have hx:=JU XT hlt2;have hS2:ph2 p (W.take (k+1)) ⟨N1,[],[],[]⟩=p2S p S W[k].step:=by
      rw[hS,List.take_succ_eq_append_getElem hlt2];unfold ph2;rw[List.foldl_append];rfl
     have hQ:=hq _ (Vk hlt2);generalize W[k]=w at*;obtain⟨rt,pl,s⟩:=w;simp only[XT]at hx;simp only at hS2 hQ;have hcell:Dat.cells (Yj s.exprs)=[Yj s.exprs]∧Av.cells (.d (Yj s.exprs))=some [.d (Yj s.exprs)]:=by cases s.exprs<;>exact⟨rfl,rfl⟩
     obtain⟨g1,g2⟩:=hcell;simp only[Dat.cells]at g1;simp only[Av.cells]at g2;have hca:=hQ.ca;have c40:=cp71 p hP s hQ S.N.length 0 0 (S.N.map owN) (puS S.es s.name (S.N.length:Nat)) [] [];simp only[JEj,JLS]at c40;unfold p2S at hS2;generalize Yj s.exprs=E at*;generalize hcs:s.calls=cs at*;simp only[go_sem,TMp,hd2,hx,g1,g2,YD,YW,Jp,Bool.false_and,Vu,nodeAt,Vv,Vc,Nat.reduceAdd,Nat.reduceEqDiff,Nat.reduceBEq,Nat.reduceLeDiff,reduceCtorEq,↓reduceIte];refine⟨⟨oM,oM⟩,?_⟩;refine JK (fun n st=>∃j:Nat,j≤cs.length∧n=cs.length-j∧
      st=⟨[(1,.ref 1 0),(2,.ref 2 0),(3,.ref 33 0),(10,.mp 86),(11,.mp 87),(12,.d (.list 13 (W.map XT))),(13,.d (.int .i64 k)),(14,.ref 14 0),(15,.d (.int .i64 j))],
       (1,.box [.d (.int .i64 p.version),.d (.list 9 (p.schemas.map Uc)),.d (.list 7 (p.endpoints.map J8)),.d (.list 4 (p.services.map Uk)),.d (.list 3 (p.routes.map Ue))])::
       (2,.box [.d (.int .i64 0),.d (.nil 9),.d (.nil 7),.d (.nil 4),.d (.nil 20)])::
       (14,.box [.d (.str s.name),.d (.int .i64 s.kind),.d (.int .i64 s.number),.d (.int .i64 s.time),.d (.int .i64 s.limit),.d (.str s.text),.d (.str s.schema),.d E,.d (.list 6 (s.rules.map UR)),.d (.list 2 (cs.map JW)),.d (.list 2 (s.branches.map Jz))])::
       (86,.mapo (mpS S.us))::(87,.mapo (mpS (JGd S.cs (cs.take j))))::TMp p S.N.length 0 0 (S.N.map owN) (mpI S.es) (mpI []) (mpI [])⟩) ?_ ?_
     ·refine⟨_,_,Wk.less ?_,0,Nat.zero_le _,rfl,rfl⟩;simp[go_sem,TMp,JGd]
     ·rintro n st ⟨j,hj,rfl,rfl⟩;by_cases hjl:j<cs.length
      ·have hdj:decide ((j:Int)<(cs.length:Int))=true:=sO;have hxj:=JU JW hjl;have hcj:JGd S.cs (cs.take (j+1))=JLR (JGd S.cs (cs.take j)) cs[j].service:=by
        unfold JGd;rw[List.take_succ_eq_append_getElem hjl,List.foldl_append];rfl
       generalize cs[j]=c at*;simp only[JW]at hxj;simp only[go_sem,TMp,hdj,hxj,YB,JEq,YD,YW,Jp,Bool.false_and,Vu,nodeAt,Vv,Vc,Nat.reduceAdd,Nat.reduceEqDiff,Nat.reduceBEq,Nat.reduceLeDiff,reduceCtorEq,↓reduceIte];refine⟨⟨oM,oM⟩,dC,cs.length-(j+1),_,oM,Wk.less ?_,j+1,oM,rfl,rfl⟩;rw[hcj];simp only[JE j oM];simp[go_sem,TMp]
      ·have hdj:decide ((j:Int)<(cs.length:Int))=false:=sO;obtain rfl:j=cs.length:=oM;rw[List.take_length];cases h13:s.kind==13
       ·rw[h13,if_neg Bool.false_ne_true]at hS2;simp only[go_sem,TMp,hdj,h13,YC,JCP,g1,g2,YD,YW,Jp,Bool.false_and,Vu,nodeAt,Vv,Vc,Nat.reduceAdd,Nat.reduceEqDiff,Nat.reduceBEq,Nat.reduceLeDiff,reduceCtorEq,↓reduceIte];refine JG rfl c40 ⟨rfl,rfl,rfl,rfl,rfl,trivial⟩ ?_;simp only[go_sem,JAP,YD,YW,Jp,Bool.false_and,Vu,nodeAt,Vv,Vc,Nat.reduceAdd,Nat.reduceEqDiff,Nat.reduceBEq,Nat.reduceLeDiff,reduceCtorEq,↓reduceIte];refine⟨sP,⟨dC,oM,sP⟩,dC,W.length-(k+1),_,oM,Wk.less ?_,k+1,⟨S.N++[JDS p s],puS S.es s.name (S.N.length:Nat),S.us,JGd S.cs cs⟩,oM,rfl,hS2.symm,by simp only[Vg,Vf,Vm];omega,rfl⟩;rw[Vw,Va,Vb,JOm,JLS];simp only[JE k oM,hcs,Vg,Vf,Vm];simp[go_sem,TMp]
       ·rw[h13,if_pos rfl]at hS2;simp only[go_sem,TMp,hdj,h13,YB,JEq,YD,YW,Jp,Bool.false_and,Vu,nodeAt,Vv,Vc,Nat.reduceAdd,Nat.reduceEqDiff,Nat.reduceBEq,Nat.reduceLeDiff,reduceCtorEq,↓reduceIte];refine⟨W.length-(k+1),_,oM,Wk.less ?_,k+1,⟨S.N,S.es,JLR S.us s.text,JGd S.cs cs⟩,oM,rfl,hS2.symm,by show S.N.length≤_;omega,rfl⟩;simp only[JE k oM];simp[go_sem,TMp]
    ·have hd2:decide ((k:Int)<(W.length:Int))=false:=sO;obtain rfl:k=W.length:=oM;rw[List.take_length]at hS;rw[←hS];simp only[go_sem,TMp,hd2,YD,YW,Jp,Bool.false_and,Vu,nodeAt,Vv,Vc,Nat.reduceAdd,Nat.reduceEqDiff,Nat.reduceBEq,Nat.reduceLeDiff,reduceCtorEq,↓reduceIte];have hSN2:S.N.length≤2000000000:=oM;obtain⟨k1,k2,k3⟩:NB S.N 0∧ME S.es S.N.length∧N1.length≤S.N.length:=by rw[hS];exact JI7 hP W ⟨N1,[],[],[]⟩ hq hN1 (ME.nil hN0)
     clear hS hSN hlt2 hk2 hq hlt hk hd;refine JK (fun n st=>∃(k:Nat) (T:List Rn×List (Str×Int)),k≤p.endpoints.length∧n=p.endpoints.length-k∧T=ph3 p S.us (p.endpoints.take k) (S.N,[])∧T.1.length≤S.N.length+k∧
      st=⟨[(1,.ref 1 0),(2,.ref 2 0),(3,.ref 33 0),(10,.mp 86),(11,.mp 87),(16,.d (.int .i64 k))],
       (1,.box [.d (.int .i64 p.version),.d (.list 9 (p.schemas.map Uc)),.d (.list 7 (p.endpoints.map J8)),.d (.list 4 (p.services.map Uk)),.d (.list 3 (p.routes.map Ue))])::
       (2,.box [.d (.int .i64 0),.d (.nil 9),.d (.nil 7),.d (.nil 4),.d (.nil 20)])::
       (86,.mapo (mpS S.us))::(87,.mapo (mpS S.cs))::TMp p T.1.length 0 0 (T.1.map owN) (mpI S.es) (mpI T.2) (mpI [])⟩) ?_ ?_
     ·refine⟨_,_,Wk.less ?_,0,(S.N,[]),Nat.zero_le _,rfl,rfl,Nat.le_refl _,rfl⟩;simp[go_sem,TMp]
     ·rintro n st ⟨k,T,hk,rfl,hT,hTN,rfl⟩;by_cases hlt:k<p.endpoints.length
      ·have hd:=dT hlt;have hx:=JU J8 hlt;have hT2:ph3 p S.us (p.endpoints.take (k+1)) (S.N,[])=p3S p S.us T p.endpoints[k]:=by
        rw[hT,List.take_succ_eq_append_getElem hlt];unfold ph3;rw[List.foldl_append];rfl
       generalize p.endpoints[k]=x at*;unfold p3S scI at hT2;have c38:=(JOj p x.schema x.version hP.sc).call (by simp[U6]);simp only[UA,Va,Vb]at c38;simp only[J8]at hx;generalize fdQ (fun c:Sch=>c.name==x.schema&&c.version==x.version) p.schemas=si at*;cases hc:S.us.contains x.name
       ·rw[hc,if_neg Bool.false_ne_true]at hT2;simp only[go_sem,TMp,hd,hx,YB,JDg,hc,YD,YW,Jp,Bool.false_and,Vu,nodeAt,Vv,Vc,Nat.reduceAdd,Nat.reduceEqDiff,Nat.reduceBEq,Nat.reduceLeDiff,reduceCtorEq,↓reduceIte];refine⟨⟨oM,oM⟩,p.endpoints.length-(k+1),_,oM,Wk.less ?_,k+1,T,oM,rfl,hT2.symm,oM,rfl⟩;simp only[JE k oM];simp[go_sem,TMp]
       ·rw[hc,if_pos rfl]at hT2;simp only[go_sem,TMp,hd,hx,YB,JDg,hc,YD,YW,Jp,Bool.false_and,Vu,nodeAt,Vv,Vc,Nat.reduceAdd,Nat.reduceEqDiff,Nat.reduceBEq,Nat.reduceLeDiff,reduceCtorEq,↓reduceIte];refine⟨⟨oM,oM⟩,?_⟩;refine wn c38 ?_;simp only[go_sem,YC,JCP,JAP,YD,YW,Jp,Bool.false_and,Vu,nodeAt,Vv,Vc,Nat.reduceAdd,Nat.reduceEqDiff,Nat.reduceBEq,Nat.reduceLeDiff,reduceCtorEq,↓reduceIte];refine⟨sP,⟨dC,oM,sP⟩,dC,p.endpoints.length-(k+1),_,oM,Wk.less ?_,k+1,(T.1++[rnE x.name 22 (si:Nat) (-1)],puS T.2 x.name (T.1.length:Nat)),oM,rfl,hT2.symm,by simp only[Vg,Vf,Vm];omega,rfl⟩;simp only[Vw,Va,Vb,XE,rnE,nxD,JE k oM,Vg,Vf,Vm];simp[go_sem,TMp]
      ·have hd:=dF hlt;obtain rfl:k=p.endpoints.length:=oM;rw[List.take_length]at hT;rw[←hT];simp only[go_sem,TMp,hd,YD,YW,Jp,Bool.false_and,Vu,nodeAt,Vv,Vc,Nat.reduceAdd,Nat.reduceEqDiff,Nat.reduceBEq,Nat.reduceLeDiff,reduceCtorEq,↓reduceIte];have hTN2:T.1.length≤3000000000:=oM;obtain⟨k4,k5⟩:NB T.1 0∧S.N.length≤T.1.length:=by rw[hT];exact JI8 p S.us p.endpoints (S.N,[]) k1
       clear hlt hd hTN hSN2;refine JK (fun n st=>∃(k:Nat) (M:List Rn),k≤p.services.length∧n=p.services.length-k∧M=ph4 p S.cs (p.services.take k) T.1∧M.length≤T.1.length+k∧
        st=⟨[(1,.ref 1 0),(2,.ref 2 0),(3,.ref 33 0),(11,.mp 87),(20,.d (.int .i64 k))],
         (1,.box [.d (.int .i64 p.version),.d (.list 9 (p.schemas.map Uc)),.d (.list 7 (p.endpoints.map J8)),.d (.list 4 (p.services.map Uk)),.d (.list 3 (p.routes.map Ue))])::
         (2,.box [.d (.int .i64 0),.d (.nil 9),.d (.nil 7),.d (.nil 4),.d (.nil 20)])::
         (87,.mapo (mpS S.cs))::TMp p M.length 0 0 (M.map owN) (mpI S.es) (mpI T.2) (mpI [])⟩) ?_ ?_
       ·refine⟨_,_,Wk.less ?_,0,T.1,Nat.zero_le _,rfl,rfl,Nat.le_refl _,rfl⟩;simp[go_sem,TMp]
       ·rintro n st ⟨k,M,hk,rfl,hM,hMN,rfl⟩;by_cases hlt:k<p.services.length
        ·have hd:=dT hlt;have hx:=JU Uk hlt;have hM2:ph4 p S.cs (p.services.take (k+1)) T.1=p4S p S.cs M p.services[k]:=by
          rw[hM,List.take_succ_eq_append_getElem hlt];unfold ph4;rw[List.foldl_append];rfl
         generalize p.services[k]=x at*;unfold p4S at hM2;have c41a:=(JAD p x.request hP.sc).call (by simp[U6]);have c41b:=(JAD p x.reply hP.sc).call (by simp[U6]);simp only[UA,Va,Vb]at c41a c41b;simp only[Uk]at hx;generalize JCN p.schemas x.request=la at*;generalize JCN p.schemas x.reply=lb at*;cases hc:S.cs.contains x.name
         ·rw[hc,if_neg Bool.false_ne_true]at hM2;simp only[go_sem,TMp,hd,hx,YB,JDg,hc,YD,YW,Jp,Bool.false_and,Vu,nodeAt,Vv,Vc,Nat.reduceAdd,Nat.reduceEqDiff,Nat.reduceBEq,Nat.reduceLeDiff,reduceCtorEq,↓reduceIte];refine⟨⟨oM,oM⟩,p.services.length-(k+1),_,oM,Wk.less ?_,k+1,M,oM,rfl,hM2.symm,oM,rfl⟩;simp only[JE k oM];simp[go_sem,TMp]
         ·rw[hc,if_pos rfl]at hM2;simp only[go_sem,TMp,hd,hx,YB,JDg,hc,YD,YW,Jp,Bool.false_and,Vu,nodeAt,Vv,Vc,Nat.reduceAdd,Nat.reduceEqDiff,Nat.reduceBEq,Nat.reduceLeDiff,reduceCtorEq,↓reduceIte];refine⟨⟨oM,oM⟩,?_⟩;refine wn c41a ?_;simp only[go_sem,YD,YW,Jp,Bool.false_and,Vu,nodeAt,Vv,Vc,Nat.reduceAdd,Nat.reduceEqDiff,Nat.reduceBEq,Nat.reduceLeDiff,reduceCtorEq,↓reduceIte];refine wn c41b ?_;simp only[go_sem,YC,JCP,JAP,YD,YW,Jp,Bool.false_and,Vu,nodeAt,Vv,Vc,Nat.reduceAdd,Nat.reduceEqDiff,Nat.reduceBEq,Nat.reduceLeDiff,reduceCtorEq,↓reduceIte];refine⟨sP,⟨dC,oM,sP⟩,dC,p.services.length-(k+1),_,oM,Wk.less ?_,k+1,M++[rnE x.name 23 (la.1:Nat) (lb.1:Nat)],oM,rfl,hM2.symm,by simp only[Vg,Vf,Vm];omega,rfl⟩;simp only[Vw,Va,Vb,XE,rnE,nxD,JE k oM,Vg,Vf,Vm];simp[go_sem,TMp]
        ·have hd:=dF hlt;obtain rfl:k=p.services.length:=oM;rw[List.take_length]at hM;rw[←hM];simp only[go_sem,TMp,hd,YD,YW,Jp,Bool.false_and,Vu,nodeAt,Vv,Vc,Nat.reduceAdd,Nat.reduceEqDiff,Nat.reduceBEq,Nat.reduceLeDiff,reduceCtorEq,↓reduceIte];obtain⟨k6,k7⟩:NB M 0∧T.1.length≤M.length:=by rw[hM];exact JI9 p S.cs p.services T.1 k4
         have hRM:p.routes.length≤M.length:=oM;have hME:ME S.es M.length:=k2.le oM;have h5ok:=JJA (p:=p) (es:=S.es) (ek:=T.2) (S:=(M,0)) hRM k6;clear hlt hd hMN hM hT;refine JK (fun n st=>∃(k:Nat) (U:NS),k≤p.routes.length∧n=p.routes.length-k∧U=ph5 p S.es T.2 k (M,0)∧
          st=⟨[(1,.ref 1 0),(2,.ref 2 0),(3,.ref 33 0),(26,.d (.int .i64 k))],
           (1,.box [.d (.int .i64 p.version),.d (.list 9 (p.schemas.map Uc)),.d (.list 7 (p.endpoints.map J8)),.d (.list 4 (p.services.map Uk)),.d (.list 3 (p.routes.map Ue))])::
           (2,.box [.d (.int .i64 0),.d (.nil 9),.d (.nil 7),.d (.nil 4),.d (.nil 20)])::
           TMp p M.length 0 U.2 (U.1.map owN) (mpI S.es) (mpI T.2) (mpI [])⟩) ?_ ?_
         ·refine⟨_,_,Wk.less ?_,0,(M,0),Nat.zero_le _,rfl,rfl,rfl⟩;simp[go_sem,TMp]
         ·rintro n st ⟨k,U,hk,rfl,hU,rfl⟩;by_cases hlt:k<p.routes.length
          ·have hd:=dT hlt;have hx:=JU Ue hlt;obtain⟨hNB,hUl⟩:=h5ok k oM;have hRs:=JLU hlt;have hszs:=JFk hlt;have hszt:=Zl p.routes (k+1);rw[←hU]at hNB hUl;have hil:k<U.1.length:=by rw[hUl];show k<M.length;omega
           have hU2:=JH2 p S.es T.2 k (M,0);rw[←hU,JOp hlt hil]at hU2;generalize p.routes[k]=r at*;have c42:=cp73 p r.steps (-1) M.length 0 U.2 (U.1.map owN) S.es T.2 [];generalize bgn S.es T.2 r.steps (-1)=z at*;obtain⟨n,hnn⟩:∃n,n=U.1[k]:=⟨_,rfl⟩;rw[←hnn]at hU2;have hn0:∀Y:List Dat,nodeAt (.own 20 Y) []=some (.own 20 Y):=fun _=>rfl
           have g0:nth (U.1.map owN) k=owN n:=by rw[hnn];exact JU owN hil
           have g1:(U.1.map owN).getD k .opq=owN n:=g0;have g2:∀y,nth ((U.1.map owN).set k y) k=y:=fun y=>by rw[Xr (sX hil)];simp
           have g3:∀y,((U.1.map owN).set k y).getD k .opq=y:=g2;have hNB2:NB (U.1.set k (n.nxt [z])) (0+k+XK (p.routes.take k)+1):=(hNB.le (Nat.le_succ _)).set ((hNB n (by rw[hnn];exact Vk _)).1.nxt _) (by simp[Rn.nxt]);have c43:=cp74 (w74 hP r.steps) (es:=S.es) (ek:=T.2) (ev:=[]) (v:=M.length) (s0:=0) (U.1.set k (n.nxt [z]),U.2+1) n.schema (-1) _ (fun j=>by obtain⟨a,b1,b2⟩:=hME j;exact⟨a,b1,by show a<(U.1.set k _).length;rw[List.length_set,hUl];exact b2⟩) hNB2 oM;simp only at c43;rw[U3,XE]at c43;rw[XE n]at g0 g1;simp only[Rn.nxt,nxD,Va,Vb]at c43 hU2;simp only[Ue]at hx;simp only[go_sem,TMp,hd,hx,YD,YW,Jp,Bool.false_and,Vu,nodeAt,hn0,g0,g1,g2,g3,List.length_set,List.set_set,List.set_cons_succ,List.set_cons_zero,List.any_cons,List.any_nil,Jw,Bool.or_false,Vt,Bool.true_or,Bool.or_true,decide_true,beq_self_eq_true,Vv,Vc,Nat.reduceAdd,Nat.reduceEqDiff,Nat.reduceBEq,Nat.reduceLeDiff,reduceCtorEq,↓reduceIte];refine⟨⟨oM,oM⟩,dC,?_⟩;refine JG rfl c42 ⟨rfl,rfl,rfl,rfl,rfl,trivial⟩ ?_;simp only[go_sem,hx,YD,YW,Jp,Bool.false_and,Vu,nodeAt,hn0,g0,g1,g2,g3,List.length_set,List.set_set,List.set_cons_succ,List.set_cons_zero,List.any_cons,List.any_nil,Jw,Bool.or_false,Vt,Bool.true_or,Bool.or_true,decide_true,beq_self_eq_true,Vv,Vc,Nat.reduceAdd,Nat.reduceEqDiff,Nat.reduceBEq,Nat.reduceLeDiff,reduceCtorEq,↓reduceIte];refine⟨sP,⟨oM,oM⟩,hil,dC,⟨oM,oM⟩,dC,⟨oM,oM⟩,⟨hil,dC⟩,?_⟩;refine JT rfl c43 ⟨rfl,rfl,rfl,rfl,rfl,trivial⟩ ?_;simp only[go_sem,YD,YW,Jp,Bool.false_and,Vu,nodeAt,Vv,Vc,Nat.reduceAdd,Nat.reduceEqDiff,Nat.reduceBEq,Nat.reduceLeDiff,reduceCtorEq,↓reduceIte];refine⟨p.routes.length-(k+1),_,oM,Wk.less ?_,k+1,_,oM,rfl,hU2.symm,rfl⟩;simp only[JE k oM];simp[go_sem,TMp]
          ·have hd:=dF hlt;obtain rfl:k=p.routes.length:=oM;simp only[go_sem,TMp,hd,YD,YW,Jp,Bool.false_and,Vu,nodeAt,Vv,Vc,Nat.reduceAdd,Nat.reduceEqDiff,Nat.reduceBEq,Nat.reduceLeDiff,reduceCtorEq,↓reduceIte];rw[hU,hpl]
end
end Go.Proofs
namespace Go.Proofs
open Go Av
structure Pn where
 version:Int
 schemas:List Sch
 endpoints:List Epd
 services:List Svc
 nodes:List Nd
def Zo(q:Pn):Dat:=.agg [.int .i64 q.version,.list 9 (q.schemas.map Uc),.list 7 (q.endpoints.map J8),.list 4 (q.services.map Uk),.list 20 (q.nodes.map Uh)]
theorem JQX(l:List Int):(nxD l).dat.canon=.list 1 (l.map (.int .i64)):=by
 cases l with
 |nil=>rfl
 |cons a r=>
  simp only[nxD,Dat.dat,Dat.canon];have:∀l:List Int,JH (Dat.dat.datL (l.map (.int .i64)))=l.map (.int .i64):=by
   intro l
   induction l with
   |nil=>rfl
   |cons a r ih=>rw[Va,JA8,JH,ih];rfl
  rw[this]
structure BN(n:Nd):Prop where
 ts:n.types.length≤4000000000
 ex:n.exprs.length≤4000000000
 ca:n.calls.length≤4000000000
 nx:n.next.length≤4000000000
theorem okR.nd{n:Rn}(h:okR n)(hl:n.next.length≤4000000000):∃m:Nd,(owN n).dat.canon=Uh m∧BN m:=by
 obtain⟨w,h1⟩:=h.tw;obtain⟨e,h2⟩:=h.te;obtain⟨f,h3⟩:=h.tf;obtain⟨ts,h4,l4⟩:=h.ts;obtain⟨ex,h5,l5⟩:=h.ex;obtain⟨ru,h6⟩:=h.ru;obtain⟨ca,h7,l7⟩:=h.ca;refine⟨⟨n.name,n.kind,n.schema,n.result,n.number,n.time,n.limit,n.text,.mk n.tk n.tn n.tm n.tc w e f,ts,ex,ru,ca,n.next⟩,?_,⟨l4,l5,l7,hl⟩⟩;simp only[owN,Uh,Dat.dat,Dat.dat.datL,Dat.canon,JH,h1,h2,h3,h4,h5,h6,h7,JQX];rfl
theorem JOq:∀N:List Rn,NB N 4000000000→∃l:List Nd,JH (Dat.dat.datL (N.map owN))=l.map Uh∧l.length=N.length∧∀n∈l,BN n
 |[],_=>⟨[],rfl,rfl,fun _ h=>by cases h⟩
 |n::r,h=>by
  obtain⟨m,hm,hb⟩:=(h n Vh).1.nd (h n Vh).2;obtain⟨l,hl,hn,hbs⟩:=JOq r fun x hx=>h x (Vn _ hx)
  refine⟨m::l,by rw[Va,JA8,JH,hm,hl];rfl,by simp[hn],fun x hx=>?_⟩;rcases VA.1 hx with rfl|hx
  ·exact hb
  ·exact hbs x hx
theorem JJ9(p:Prg):∀(l:List Wlk) (S:P2),(ph2 p l S).N.length≤S.N.length+l.length
 |[],S=>Nat.le_refl _
 |w::r,S=>by
  have h:=JJ9 p r (p2S p S w.step);have h2:(p2S p S w.step).N.length≤S.N.length+1:=by unfold p2S;split<;>simp
  show(ph2 p r (p2S p S w.step)).N.length≤_;simp only[Vf];omega
theorem JKA(p:Prg)(us:List Str):∀(l:List Epd) (S:List Rn×List (Str×Int)),(ph3 p us l S).1.length≤S.1.length+l.length
 |[],S=>Nat.le_refl _
 |x::r,S=>by
  have h:=JKA p us r (p3S p us S x);have h2:(p3S p us S x).1.length≤S.1.length+1:=by unfold p3S;split<;>simp
  show(ph3 p us r (p3S p us S x)).1.length≤_;simp only[Vf];omega
theorem JKB(p:Prg)(cs:List Str):∀(l:List Svc) (N:List Rn),(ph4 p cs l N).length≤N.length+l.length
 |[],N=>Nat.le_refl _
 |x::r,N=>by
  have h:=JKB p cs r (p4S p cs N x);have h2:(p4S p cs N x).length≤N.length+1:=by unfold p4S;split<;>simp
  show(ph4 p cs r (p4S p cs N x)).length≤_;simp only[Vf];omega
structure PnB(q:Pn):Prop where
 n0:q.nodes.length≤4000000000
 n1:q.nodes≠[]
 nd:∀n∈q.nodes,BN n
theorem JQY{p:Prg}(hP:PB p)(hrn:p.routes≠[])(hw:XK p.routes≤1000000000)(hq:∀w∈wkN p.routes p.routes.length,stQ w.step)(h4:p.routes.length≤1000000000)(h5:p.endpoints.length≤1000000000)(h6:p.services.length≤1000000000):∃q:Pn,plD p=Zo q∧PnB q:=by
 have hN1:=JOo p p.routes;have hpl:(ph1 p p.routes).length=p.routes.length:=by unfold ph1;rw[Vc]
 have hN0:0<(ph1 p p.routes).length:=by rw[hpl];exact List.length_pos_iff.2 hrn
 obtain⟨k1,k2,k3⟩:=JI7 hP (wkN p.routes p.routes.length) ⟨ph1 p p.routes,[],[],[]⟩ hq hN1 (ME.nil hN0);obtain⟨k4,k5⟩:=JI8 p (plA p).us p.endpoints ((plA p).N,[]) k1;obtain⟨k6,k7⟩:=JI9 p (plA p).cs p.services (plK p).1 k4;have e1:(ph1 p p.routes).length≤(plA p).N.length:=k3;have e2:(plA p).N.length≤(plK p).1.length:=k5;have hle:p.routes.length≤(plN p).length:=by
  show _≤(ph4 p (plA p).cs p.services (plK p).1).length;omega
 have hwl:(wkN p.routes p.routes.length).length≤1000000000:=by
  have e1:=JDd p.routes p.routes.length (Nat.le_refl _);have e2:=Zl p.routes p.routes.length;omega
 have l2:(plA p).N.length≤(ph1 p p.routes).length+(wkN p.routes p.routes.length).length:=JJ9 p _ _;have l3:(plK p).1.length≤(plA p).N.length+p.endpoints.length:=JKA p _ _ _;have l4:(plN p).length≤(plK p).1.length+p.services.length:=JKB p _ _ _;have h5:=JJA (p:=p) (es:=(plA p).es) (ek:=(plK p).2) (S:=(plN p,0)) hle k6 p.routes.length (Nat.le_refl _);rw[List.take_length]at h5;obtain⟨l,hl,hn,hb⟩:=JOq (plE p).1 (h5.1.le oM);have hn2:l.length=(plN p).length:=hn.trans h5.2;have hl0:l≠[]:=by
  intro e;have e2:l.length=0:=by rw[e];rfl
  omega
 exact⟨⟨p.version,p.schemas,p.endpoints,p.services,l⟩,by unfold plD Zo;rw[hl],⟨by show l.length≤_;omega,hl0,hb⟩⟩
def mkP(rs:List (List S3)):Prg:=UG (JEc (XB rs 3))
theorem JTC(rs:List (List S3))(h:JGT rs)(ch:Int)(ev:List Dat)(hsz:nmP (JEc (XB rs 3))):
    ∃ev2:List Dat,UD Tryz.prog 12 [ZJ rs ch ev] (.tup [.d (UA (mkP rs)),.d (.list 6 ev2)]):=by
  refine⟨((ev.drop 0).take ((if(24:Int)<(ev.length:Int)then 24 else(ev.length:Int))-0).toNat),?_⟩
  refine ok12.con (k:=none) (Nat.le_of_ble_eq_true rfl) (by intro i o h;cases h) (by simp[inT,JR,JS]) ?_
  have c35:=(con35 rs h ch ev hsz).call trivial
  unfold mkP
  generalize UG (JEc (XB rs 3))=q at*
  simp only[UA,ZJ,Va,Vb]at c35⊢
  simp only[go_sem,ir12,Vv,Vc,Nat.reduceAdd,Nat.reduceEqDiff,Nat.reduceBEq,Nat.reduceLeDiff,reduceCtorEq,↓reduceIte]
  refine JG rfl c35 trivial ?_
  simp only[go_sem,Vv,Vc,Nat.reduceAdd,Nat.reduceEqDiff,Nat.reduceBEq,Nat.reduceLeDiff,reduceCtorEq,↓reduceIte]
  refine⟨⟨by omega,by split<;>omega,by split<;>omega⟩,by decide,rfl⟩
end Go.Proofs
namespace Go.Proofs
open Go Av
open Av.Y
def ir15:Ic:=q (.reg (oN 0 yT<|N))<|q (R (oo 1 (.bls 1 [.k (.str [97]),.k (.str [98]),.k (.str [99])])<|oo 2 (.bld yT [(0,1,i 4),(4,1,t 1)])<|oS 7 0 2<|N) [1,2])<|.ret
theorem ok15:FT 15 3 ir15 [.cell 0 (some 7)]:=.o Tryz.func15
def ir3:Ic:=q (R (ox 3 0<|ow 6 false<|N) [0,6])<|q (R (oL 13 3 3<|om 14 1<|cl 15 5 [t 13,t 14]<|oN 7 [.int .i64 0,.nil 9,.nil 7,.nil 4,.nil 20]<|oS 5 7 15<|N) [1,3,13,14,15])<|q (D (.regd [(2,3)] (oL 16 5 7<|om 17 2<|cl 18 6 [t 16,t 17]<|oL 19 5 7<|om 20 2<|cl 21 7 [t 19,t 20]<|om 8 18<|om 9 21<|N)) [2,16,17,18,19,20,21])<|q (.reg (ow 10 true<|N))<|q (q (.reg (oz 11 0<|N))<|D (.block 0<|.loop (q (q (R (om 22 11<|of 23 7 4<|ol 24 23<|oh 25 24<|ot 26 .lss 22 25<|N) [22,23,24,25])<|D (I 26 S (E 0)) [26])<|q (D (.block 1<|R (om 29 10<|om 30 29<|.sc 30 true (of 31 7 4<|ol 32 31<|om 33 11<|oa true 34 20 32 33<|of 35 34 1<|ol 36 35<|oi 37 .lss 36 4<|om 38 37<|.sc 38 false (of 39 7 4<|ol 40 39<|om 41 11<|oa true 42 20 40 41<|of 43 42 1<|ol 44 43<|oi 45 .gtr 44 10<|N) (t 45) 46 N) (t 46) 47 (om 10 47<|N)) [29,30,47]) [])<|R (om 27 11<|oi 28 .add 27 1<|om 11 28<|N) [27,28])) [11,26])<|q (q (R (cl 48 8 []<|og 49 48<|om 50 49<|.sc 50 false (om 51 8<|oh 52 51<|om 53 9<|oh 54 53<|ot 55 .neq 52 54<|N) (t 55) 56 (om 57 56<|.sc 57 false (oL 58 5 7<|cl 59 9 [t 58]<|om 60 10<|ot 61 .bne 59 60<|N) (t 61) 62 N)) [7,10,48,49,50,56,57])<|D (I 62 (q (R (ow 6 false<|N) [8,9,62])<|.ret) S) [62])<|q (q (.reg (oz 12 0<|N))<|D (.block 2<|.loop (q (q (R (om 63 12<|om 64 8<|oh 65 64<|ot 66 .lss 63 65<|N) [63,64,65])<|D (I 66 S (E 2)) [66])<|q (D (.block 3<|q (R (om 69 8<|om 70 12<|oa false 71 1 69 70<|ol 72 71<|om 73 9<|om 74 12<|oa false 75 1 73 74<|ol 76 75<|ot 77 .neq 72 76<|N) [69,70,71,72,73,74,75,76])<|D (I 77 (q (R (ow 6 false<|N) [8,9,12,77])<|.ret) S) [77]) [])<|R (om 67 12<|oi 68 .add 67 1<|om 12 68<|N) [67,68])) [8,9,12,66])<|q (.reg (ow 6 true<|N))<|.ret
theorem ok3:FT 3 78 ir3 [.tmp 6]:=.o Tryz.func3
def ir6:Ic:=q (R (ox 2 0<|ok 4 (.k (.nil 1))<|N) [0,4])<|q (q (R (om 10 1<|oi 11 .lss 10 0<|om 12 11<|.sc 12 false (om 13 1<|of 14 2 4<|ol 15 14<|oh 16 15<|ot 17 .geq 13 16<|N) (t 17) 18 N) [10,11,12])<|D (I 18 (q (R (ok 4 (.k (.nil 1))<|N) [1,2,18])<|.ret) S) [18])<|q (R (of 19 2 4<|ol 20 19<|om 21 1<|oa true 22 20 20 21<|oL 23 20 22<|oN 5 [.str [],.int .i64 0,.int .i64 0,.int .i64 0,.int .i64 0,.int .i64 0,.int .i64 0,.str [],.int .i64 0,.int .i64 0,.int .i64 0,.int .i64 0,.nil 1,.nil 7,.nil 11,.nil 7,.nil 5,.nil 6,.nil 2,.nil 1]<|oS 20 5 23<|N) [19,20,21,22,23])<|q (.reg (ok 6 (.k (.nil 1))<|N))<|q (q (R (of 24 2 4<|ol 25 24<|oh 26 25<|oz 27 0<|N) [2,24])<|D (.block 0<|.loop (q (.reg (ot 28 .lss 27 26<|N))<|q (D (I 28 S (E 0)) [28])<|q (D (.block 1<|q (R (om 29 27<|oa true 30 20 25 27<|oL 31 20 30<|oN 8 [.str [],.int .i64 0,.int .i64 0,.int .i64 0,.int .i64 0,.int .i64 0,.int .i64 0,.str [],.int .i64 0,.int .i64 0,.int .i64 0,.int .i64 0,.nil 1,.nil 7,.nil 11,.nil 7,.nil 5,.nil 6,.nil 2,.nil 1]<|om 7 29<|oS 20 8 31<|N) [29,30,31])<|q (R (of 32 5 1<|ol 33 32<|oi 34 .eql 33 23<|om 35 34<|.sc 35 true (of 36 8 18<|ol 37 36<|oo 38 (.fnv (.func 17) [] [t 5])<|cl 39 16 [t 37,t 38]<|N) (t 39) 40 (om 9 40<|N)) [32,33,34,35,40])<|q (R (om 41 9<|om 42 41<|.sc 42 false (of 43 8 19<|ol 44 43<|om 45 1<|cl 46 18 [t 44,t 45]<|N) (t 46) 47 N) [8,9,41,42])<|D (I 47 (R (om 48 6<|om 49 7<|oo 50 (.bls 1 [t 49])<|oo 51 (.app 1 (t 48) (t 50))<|om 6 51<|N) [7,47,48,49,50,51]) S) [7,47]) [])<|R (oi 52 .add 27 1<|om 27 52<|N) [52])) [1,5,25,26,27,28,8,7,9])<|q (R (om 53 6<|om 4 53<|N) [6,53])<|.ret
theorem ok6:FT 6 54 ir6 [.tmp 4]:=.o Tryz.func6
def ir7:Ic:=q (R (ox 2 0<|ok 4 (.k (.nil 1))<|N) [0,4])<|q (.reg (ok 5 (.k (.nil 1))<|N))<|q (q (R (om 10 1<|oi 11 .lss 10 0<|om 12 11<|.sc 12 false (om 13 1<|of 14 2 4<|ol 15 14<|oh 16 15<|ot 17 .geq 13 16<|N) (t 17) 18 N) [10,11,12])<|D (I 18 (q (R (ok 4 (.k (.nil 1))<|N) [1,2,5,18])<|.ret) S) [18])<|q (q (.reg (oz 6 0<|N))<|D (.block 0<|.loop (q (q (R (om 19 6<|of 20 2 4<|ol 21 20<|oh 22 21<|ot 23 .lss 19 22<|N) [19,20,21,22])<|D (I 23 S (E 0)) [23])<|q (D (.block 1<|q (.reg (ow 7 false<|N))<|q (q (.reg (oz 8 0<|N))<|D (.block 2<|.loop (q (q (R (om 26 8<|of 27 2 4<|ol 28 27<|om 29 6<|oa true 30 20 28 29<|of 31 30 19<|ol 32 31<|oh 33 32<|ot 34 .lss 26 33<|N) [26,27,28,29,30,31,32,33])<|D (I 34 S (E 2)) [34])<|q (D (.block 3<|R (om 37 7<|om 38 37<|.sc 38 false (of 39 2 4<|ol 40 39<|om 41 6<|oa true 42 20 40 41<|of 43 42 19<|ol 44 43<|om 45 8<|oa false 46 1 44 45<|ol 47 46<|om 48 1<|ot 49 .eql 47 48<|N) (t 49) 50 (om 7 50<|N)) [37,38,50]) [])<|R (om 35 8<|oi 36 .add 35 1<|om 8 36<|N) [35,36])) [8,34])<|q (q (.reg (oz 9 0<|N))<|D (.block 4<|.loop (q (q (R (om 51 9<|of 52 2 4<|ol 53 52<|om 54 6<|oa true 55 20 53 54<|of 56 55 18<|ol 57 56<|oh 58 57<|ot 59 .lss 51 58<|N) [51,52,53,54,55,56,57,58])<|D (I 59 S (E 4)) [59])<|q (D (.block 5<|R (om 62 7<|om 63 62<|.sc 63 false (of 64 2 4<|ol 65 64<|om 66 1<|oa true 67 20 65 66<|of 68 67 1<|ol 69 68<|oi 70 .eql 69 23<|om 71 70<|.sc 71 true (of 72 2 4<|ol 73 72<|om 74 6<|oa true 75 20 73 74<|of 76 75 18<|ol 77 76<|om 78 9<|oa true 79 2 77 78<|of 80 79 0<|ol 81 80<|of 82 2 4<|ol 83 82<|om 84 1<|oa true 85 20 83 84<|of 86 85 7<|ol 87 86<|ot 88 .seq 81 87<|N) (t 88) 89 N) (t 89) 90 (om 7 90<|N)) [62,63,90]) [])<|R (om 60 9<|oi 61 .add 60 1<|om 9 61<|N) [60,61])) [9,59])<|q (R (om 91 7<|N) [7])<|D (I 91 (R (om 92 5<|om 93 6<|oo 94 (.bls 1 [t 93])<|oo 95 (.app 1 (t 92) (t 94))<|om 5 95<|N) [91,92,93,94,95]) S) [91]) [])<|R (om 24 6<|oi 25 .add 24 1<|om 6 25<|N) [24,25])) [1,2,6,23,7,8,9])<|q (R (om 96 5<|om 4 96<|N) [5,96])<|.ret
theorem ok7:FT 7 97 ir7 [.tmp 4]:=.o Tryz.func7
def ir9:Ic:=q (R (ox 1 0<|ow 2 false<|N) [0,2])<|q (R (of 3 1 4<|ol 4 3<|cl 5 22 [t 4,.k (.fn (.func 23) [] [])]<|og 6 5<|om 2 6<|N) [1,3,4,5,6])<|.ret
theorem ok9:FT 9 7 ir9 [.tmp 2]:=.o Tryz.func9
def ir16:Ic:=q (R (ow 4 false<|N) [4])<|q (R (om 5 0<|om 6 1<|cl 7 45 [t 5,t 6]<|oi 8 .geq 7 0<|om 4 8<|N) [0,1,5,6,7,8])<|.ret
theorem ok16:FT 16 9 ir16 [.tmp 4]:=.o Tryz.func16
def ir17:Ic:=q (R (ox 2 0<|ow 3 false<|N) [0,3])<|q (R (of 4 2 0<|ol 5 4<|of 6 1 7<|ol 7 6<|ot 8 .seq 5 7<|om 3 8<|N) [2,4,5,6,7,8])<|.ret
theorem ok17:FT 17 9 ir17 [.tmp 3]:=.o Tryz.func17
def ir18:Ic:=q (R (ow 4 false<|N) [4])<|q (R (om 5 0<|om 6 1<|cl 7 46 [t 5,t 6]<|oi 8 .geq 7 0<|om 4 8<|N) [0,1,5,6,7,8])<|.ret
theorem ok18:FT 18 9 ir18 [.tmp 4]:=.o Tryz.func18
def ir22:Ic:=q (R (ow 4 false<|N) [4])<|q (R (om 5 0<|om 6 1<|cl 7 58 [t 5,t 6]<|oi 8 .geq 7 0<|om 4 8<|N) [0,1,5,6,7,8])<|.ret
theorem ok22:FT 22 9 ir22 [.tmp 4]:=.o Tryz.func22
def ir23:Ic:=q (R (ox 1 0<|ow 2 false<|N) [0,2])<|q (R (of 3 1 1<|ol 4 3<|oi 5 .geq 4 4<|om 6 5<|.sc 6 true (of 7 1 1<|ol 8 7<|oi 9 .leq 8 10<|N) (t 9) 10 (om 2 10<|N)) [1,3,4,5,6,10])<|.ret
theorem ok23:FT 23 11 ir23 [.tmp 2]:=.o Tryz.func23
def ir45:Ic:=q (R (oz 4 0<|N) [4])<|q (q (R (om 6 0<|oh 7 6<|oz 8 0<|N) [6])<|D (.block 0<|.loop (q (.reg (ot 9 .lss 8 7<|N))<|q (D (I 9 S (E 0)) [9])<|q (D (.block 1<|q (R (om 10 8<|om 5 10<|N) [10])<|q (R (om 11 1<|om 12 0<|om 13 5<|oa true 14 2 12 13<|oL 15 2 14<|.call (some 16) (.dyn (t 11)) [t 15] N) [11,12,13,14,15])<|D (I 16 (q (R (om 17 5<|om 4 17<|N) [0,1,7,8,5,16,17])<|.ret) S) [5,16]) [])<|R (oi 18 .add 8 1<|om 8 18<|N) [18])) [0,1,7,8,9,10,5,11])<|q (.reg (oz 4 (-1)<|N))<|.ret
theorem ok45:FT 45 19 ir45 [.tmp 4]:=.o Tryz.func45
def JTD:Ic:=q (R (oz 4 0<|N) [4])<|q (q (R (om 6 0<|oh 7 6<|oz 8 0<|N) [6])<|D (.block 0<|.loop (q (.reg (ot 9 .lss 8 7<|N))<|q (D (I 9 S (E 0)) [9])<|q (D (.block 1<|q (R (om 10 8<|om 5 10<|N) [10])<|q (R (om 11 1<|om 12 0<|om 13 5<|oa false 14 1 12 13<|ol 15 14<|ot 16 .eql 11 15<|N) [11,12,13,14,15])<|D (I 16 (q (R (om 17 5<|om 4 17<|N) [0,1,7,8,5,16,17])<|.ret) S) [5,16]) [])<|R (oi 18 .add 8 1<|om 8 18<|N) [18])) [0,1,7,8,9,10,5,11])<|q (.reg (oz 4 (-1)<|N))<|.ret
theorem ok46:FT 46 19 JTD [.tmp 4]:=.o Tryz.func46
def ir58:Ic:=q (R (oz 4 0<|N) [4])<|q (q (R (om 6 0<|oh 7 6<|oz 8 0<|N) [6])<|D (.block 0<|.loop (q (.reg (ot 9 .lss 8 7<|N))<|q (D (I 9 S (E 0)) [9])<|q (D (.block 1<|q (R (om 10 8<|om 5 10<|N) [10])<|q (R (om 11 1<|om 12 0<|om 13 5<|oa true 14 20 12 13<|oL 15 20 14<|.call (some 16) (.dyn (t 11)) [t 15] N) [11,12,13,14,15])<|D (I 16 (q (R (om 17 5<|om 4 17<|N) [0,1,7,8,5,16,17])<|.ret) S) [5,16]) [])<|R (oi 18 .add 8 1<|om 8 18<|N) [18])) [0,1,7,8,9,10,5,11])<|q (.reg (oz 4 (-1)<|N))<|.ret
theorem ok58:FT 58 19 ir58 [.tmp 4]:=.o Tryz.func58
end Go.Proofs
namespace Go.Proofs
open Go Av
variable {b:Nat}
structure Cg where
 node:Int
 field:Int
 number:Int
 text:Str
def JAL(c:Cg):Dat:=.agg [.int .u8 c.node,.int .u8 c.field,.int .i64 c.number,.str c.text]
def JJB(c:Cg):Prop:=0≤c.node∧c.node≤255∧0≤c.field∧c.field≤255
structure Rc where
 n:Nd
 exn:Bool
 ca:List (Bool×Kal)
def JH3(x:Bool×Kal):Dat:=.agg [.str x.2.service,if x.1 then .nil 6 else .list 6 (x.2.rules.map UR)]
def exC(r:Rc):Dat:=if r.exn then .nil 5 else .list 5 (r.n.exprs.map Jf)
def Xn(r:Rc):Dat:=.agg [.str r.n.name,.int .i64 r.n.kind,.int .i64 r.n.schema,.int .i64 r.n.result,.int .i64 r.n.number,.int .i64 r.n.time,.int .i64 r.n.limit,.str r.n.text,.int .i64 r.n.type.kind,.int .i64 r.n.type.min,.int .i64 r.n.type.max,.int .i64 r.n.type.scale,.list 1 (r.n.type.words.map .str),.list 7 (r.n.type.elem.map Xp),.list 11 (r.n.type.fields.map JCD),.list 7 (r.n.types.map Xp),exC r,.list 6 (r.n.rules.map UR),.list 2 (r.ca.map JH3),.list 1 (r.n.next.map (.int .i64))]
def JCT(n:Nd):Rc:=⟨n,false,n.calls.map fun k=>(false,k)⟩
def JLV(r:Rc):Nd:={r.n with calls:=r.ca.map Prod.snd}
structure okC(b:Nat)(r:Rc):Prop where
 ex:r.exn=true→r.n.exprs=[]
 ca:∀x∈r.ca,x.1=true→x.2.rules=[]
 l1:r.n.types.length≤b
 l2:r.n.exprs.length≤b
 l3:r.ca.length≤b
 l4:r.n.next.length≤b
def JKC:Typ:=.mk 4 0 0 0 [[97],[98],[99]] [] []
def JTE(s:Str):Str:=s.take (if(40:Int)<(s.length:Int)then 40 else(s.length:Int)).toNat
def chR(first:Str)(c:Cg)(r:Rc):Rc:=
 let f:=c.field.tmod 12
 if f==0 then{r with n:={r.n with name:=JTE c.text}}
 else if f==1 then{r with n:={r.n with kind:=c.number}}
 else if f==2 then{r with n:={r.n with schema:=c.number}}
 else if f==3 then{r with n:={r.n with result:=c.number}}
 else if f==4 then{r with n:={r.n with exprs:=r.n.exprs++[Jo 1]},exn:=false}
 else if f==5 then{r with n:={r.n with exprs:=[]},exn:=true}
 else if f==6 then{r with ca:=r.ca++[(true,⟨[112,97,121],[]⟩)]}
 else if f==7 then{r with n:={r.n with types:=r.n.types++[JKC]}}
 else if f==8 then{r with n:={r.n with next:=r.n.next++[c.number]}}
 else if f==9 then{r with n:={r.n with next:=[c.number]}}
 else if f==10 then{r with n:={r.n with number:=c.number}}
 else{r with n:={r.n with name:=first}}
def Xy(R:List Rc)(c:Cg):List Rc:=match R[(c.node.tmod R.length).toNat]? with
 |some r=>R.set (c.node.tmod R.length).toNat (chR ((R[0]?.map fun x=>x.n.name).getD []) c r)
 |none=>R
theorem JH4(R:List Rc)(c:Cg):(Xy R c).length=R.length:=by unfold Xy;split<;>simp
theorem JTF:PT 15 [] (.d (Xp JKC)):=by
 refine ok15.pc ?_;simp only[go_sem,ir15,JKC,Yi,Typ.kind,Typ.min,Typ.max,Typ.scale,Typ.words,Typ.elem,Typ.fields,Va,Vb,Vv,Vc,simprocAttr];simp
theorem Xz{P:Prop}[Decidable P]{x y:Rc}(h1:okC b x)(h2:okC b y):okC b (if P then x else y):=by
 by_cases h:P
 ·rw[if_pos h];exact h1
 ·rw[if_neg h];exact h2
theorem JTG{r:Rc}(h:okC b r)(s:Str)(c:Cg):okC (b+1) (chR s c r):=by
 obtain⟨h1,h2,h3,h4,h5,h6⟩:=h;have p3:r.n.types.length≤b+1:=oM;have p4:r.n.exprs.length≤b+1:=oM;have p5:r.ca.length≤b+1:=oM;have p6:r.n.next.length≤b+1:=oM;unfold chR;refine Xz ⟨h1,h2,p3,p4,p5,p6⟩ (Xz ⟨h1,h2,p3,p4,p5,p6⟩ (Xz ⟨h1,h2,p3,p4,p5,p6⟩ (Xz ⟨h1,h2,p3,p4,p5,p6⟩ (Xz ⟨fun e=>(by cases e),h2,p3,?_,p5,p6⟩ (Xz ⟨fun _=>rfl,h2,p3,sP,p5,p6⟩
  (Xz ⟨h1,?_,p3,p4,?_,p6⟩ (Xz ⟨h1,h2,?_,p4,p5,p6⟩ (Xz ⟨h1,h2,p3,p4,p5,?_⟩ (Xz ⟨h1,h2,p3,p4,p5,sP⟩ (Xz ⟨h1,h2,p3,p4,p5,p6⟩ ⟨h1,h2,p3,p4,p5,p6⟩))))))))))
 ·simp only[Vg,Vf,Vm];omega
 ·intro x hx hx1;rcases List.mem_append.1 hx with hx|hx
  ·exact h2 x hx hx1
  ·rw[List.mem_singleton.1 hx]
 ·simp only[Vg,Vf,Vm];omega
 ·simp only[Vg,Vf,Vm];omega
 ·simp only[Vg,Vf,Vm];omega
theorem JKD{R:List Rc}(h:∀r∈R,okC b r)(c:Cg):∀r∈Xy R c,okC (b+1) r:=by
 have hm:∀r∈R,okC (b+1) r:=fun r hr=>by
  obtain⟨h1,h2,h3,h4,h5,h6⟩:=h r hr;exact⟨h1,h2,oM,oM,oM,oM⟩
 intro r hr;unfold Xy at hr;split at hr
 ·rename_i x e;rcases List.mem_or_eq_of_mem_set hr with hr|hr
  ·exact hm r hr
  ·rw[hr];exact JTG (h x (List.mem_of_getElem? e)) _ _
 ·exact hm r hr
theorem JJC{x:Bool×Kal}(h:x.1=true→x.2.rules=[]):(JH3 x).canon=JW x.2:=by
 obtain⟨b,k⟩:=x;cases b with
 |false=>simp only[JH3,Dat.canon,JH,JW,Vu,if_false,UO]
 |true=>
  have h2:k.rules=[]:=h rfl;simp only[JH3,Dat.canon,JH,JW,if_true,h2,Vb]
theorem JH5{r:Rc}(h:okC b r):(Xn r).canon=Uh (JLV r):=by
 have h1:JH (r.ca.map JH3)=(r.ca.map Prod.snd).map JW:=by
  rw[Jv,List.map_map,List.map_map];exact List.map_congr_left fun x hx=>JJC (h.ca x hx)
 have h2:(exC r).canon=.list 5 (r.n.exprs.map Jf):=by
  unfold exC;split
  ·rename_i e;rw[h.ex e];rfl
  ·simp only[Dat.canon,J7]
 simp only[Xn,Uh,JLV,Dat.canon,JH,h1,h2,Xj,Xk,YR,UO,U7]
end Go.Proofs
namespace Go.Proofs
open Go Av
open Go.Proofs.YteegbpaakjlodaaGreatDoor.Rows (uptoBulk uptoBulkAll)
theorem qc3:Tryz.prog.cellsOf 3=1:=kR
theorem qc5:Tryz.prog.cellsOf 5=1:=kR
theorem qc9:Tryz.prog.cellsOf 9=1:=kR
theorem qc22:Tryz.prog.cellsOf 22=1:=kR
theorem qc23:Tryz.prog.cellsOf 23=1:=kR
theorem qc62:Tryz.prog.cellsOf 62=4:=kR
theorem qc133:Tryz.prog.cellsOf 133=1:=kR
theorem JRb:Tryz.prog.cellsOf 198=3:=kR
theorem JOr:Tryz.prog.cellsOf 534=1:=kR
theorem JRc:Tryz.prog.cellsOf 536=6:=kR
theorem qcW:Tryz.prog.cellsOf 25=3:=kR
section
variable {H:Type}{enc:TypeId×Value→H}{w:World}{base:Nat}{spare:Nat→Bool}{held:Bool}
theorem fl9{fs:Array Field}{n:Nat}{cs:List Value}{xs:List (DataW H×List MemPlace)}
  (hf:∀(i:Nat) (f:Field),fs[i]? =some f→DataW.trod enc Tryz.prog w base spare held n f.type ((cs.drop f.offset).take (Tryz.prog.cellsOf f.type))=xs[i]?)
  (i:Nat)(t off:Nat){k:Nat}(hi:(fs[i]?).map (fun f=>(f.type,f.offset))=some (t,off))(hc:Tryz.prog.cellsOf t=k):DataW.trod enc Tryz.prog w base spare held n t ((cs.drop off).take k)=xs[i]? :=by
 cases e:fs[i]? with
 |none=>rw[e]at hi;cases hi
 |some f=>
  rw[e]at hi;simp only[Vj,Vd,Ve]at hi;have:=hf i f e;rw[hi.1,hi.2,hc]at this;exact this
theorem JCU{fuel:Nat}{cs:List Value}{x:DataW H×List MemPlace}(h:DataW.trod enc Tryz.prog w base spare held fuel 5 cs=some x):
  ∃n:Int,0≤n∧n≤255∧CR (old w) w [.int .u8 n] cs:=by
 obtain⟨n,rfl,_,hw⟩:=DataW.trod_int Tryz.underlying5 h;have hw':IntKind.min .u8≤n∧n≤IntKind.max .u8:=by simpa[Lit.wf,Vi]using hw
 have e1:IntKind.u8.min=0:=dC;have e2:IntKind.u8.max=255:=dC;rw[e1,e2]at hw';refine⟨n,hw'.1,hw'.2,.one rfl (.int .u8 n ?_)⟩;simpa[Lit.wf,Vi]using hw
def JOs:Int×Int×Int×Int×Int×Int→Dat:=fun e=>.agg [.int .u8 e.1,.int .u8 e.2.1,.int .u8 e.2.2.1,.int .u16 e.2.2.2.1,.int .u16 e.2.2.2.2.1,.int .u16 e.2.2.2.2.2]
theorem JTH(fuel:Nat):∀(cs:List Value) (x:DataW H×List MemPlace),DataW.trod enc Tryz.prog w base spare held fuel 198 cs=some x→uptoBulk x.1≤1048576→∃a:S3,JEh a∧CR (old w) w (JAq a).cells cs:=by
 intro csn x hn hbn;obtain⟨xs,n',rfl,rfl,hl,hlen,hf⟩:=DataW.trod_struct Tryz.underlying198 hn;rw[JRb]at hl;have h0:=fl9 hf 0 5 0 rfl qc5;have h1:=fl9 hf 1 5 1 rfl qc5;have h2:=fl9 hf 2 5 2 rfl qc5
 match xs,hlen,csn,hl with
 |[y0,y1,y2],_,[a0,a1,a2],_=>
  simp only[Va,Vb,uptoBulk,uptoBulkAll]at hbn;obtain⟨z0,o0,p0,g0⟩:=JCU (show DataW.trod enc Tryz.prog w base spare held n' 5 [a0]=some y0 from h0);obtain⟨z1,o1,p1,g1⟩:=JCU (show DataW.trod enc Tryz.prog w base spare held n' 5 [a1]=some y1 from h1);obtain⟨z2,o2,p2,g2⟩:=JCU (show DataW.trod enc Tryz.prog w base spare held n' 5 [a2]=some y2 from h2);refine⟨⟨z0,z1,z2⟩,⟨o0,p0,o1,p1,o2,p2⟩,?_⟩;have:=g0.append (g1.append g2);simpa only[JAq,UE,Dat.cells,List.singleton_append,List.cons_append,List.nil_append,List.append_assoc]using this
theorem JTI(fuel:Nat):∀(cs:List Value) (x:DataW H×List MemPlace),DataW.trod enc Tryz.prog w base spare held fuel 133 cs=some x→uptoBulk x.1≤1048576→∃a:List S3,(∀x∈a,JEh x)∧CR (old w) w [.list 3 (a.map JAq)] cs:=by
 intro csn x hn hbn;obtain⟨z,_,o,g⟩:=JB7 (encA:=JAq) (ok:=fun x=>JEh x) Tryz.underlying133 JRb dC (fun _=>rfl) hn hbn (fun m cs' y _ hy hyb=>JTH m cs' y hy hyb);exact⟨z,o,g⟩
theorem rd_22(fuel:Nat):∀(cs:List Value) (x:DataW H×List MemPlace),DataW.trod enc Tryz.prog w base spare held fuel 22 cs=some x→uptoBulk x.1≤1048576→∃a:List (List S3),(∀x∈a,∀y∈x,JEh y)∧CR (old w) w [.list 1 (a.map (fun l:List S3=>Dat.list 3 (l.map JAq)))] cs:=by
 intro csn x hn hbn;obtain⟨z,_,o,g⟩:=JB7 (encA:=(fun l:List S3=>Dat.list 3 (l.map JAq))) (ok:=fun x=>∀y∈x,JEh y) Tryz.underlying22 qc133 dC (fun _=>rfl) hn hbn (fun m cs' y _ hy hyb=>by
  obtain⟨a,o,g⟩:=JTI m cs' y hy hyb;exact⟨a,o,g⟩)
 exact⟨z,o,g⟩
theorem JTJ(fuel:Nat):∀(cs:List Value) (x:DataW H×List MemPlace),DataW.trod enc Tryz.prog w base spare held fuel 536 cs=some x→uptoBulk x.1≤1048576→∃a:(Int×Int×Int×Int×Int×Int),True∧CR (old w) w (JOs a).cells cs:=by
 intro csn x hn hbn;obtain⟨xs,n',rfl,rfl,hl,hlen,hf⟩:=DataW.trod_struct Tryz.underlying536 hn;rw[JRc]at hl;have h0:=fl9 hf 0 5 0 rfl qc5;have h1:=fl9 hf 1 5 1 rfl qc5;have h2:=fl9 hf 2 5 2 rfl qc5;have h3:=fl9 hf 3 534 3 rfl JOr;have h4:=fl9 hf 4 534 4 rfl JOr;have h5:=fl9 hf 5 534 5 rfl JOr
 match xs,hlen,csn,hl with
 |[y0,y1,y2,y3,y4,y5],_,[a0,a1,a2,a3,a4,a5],_=>
  simp only[Va,Vb,uptoBulk,uptoBulkAll]at hbn;obtain⟨z0,o0,p0,g0⟩:=JCU (show DataW.trod enc Tryz.prog w base spare held n' 5 [a0]=some y0 from h0);obtain⟨z1,o1,p1,g1⟩:=JCU (show DataW.trod enc Tryz.prog w base spare held n' 5 [a1]=some y1 from h1);obtain⟨z2,o2,p2,g2⟩:=JCU (show DataW.trod enc Tryz.prog w base spare held n' 5 [a2]=some y2 from h2);obtain⟨z3,g3⟩:=JEN Tryz.underlying534 (show DataW.trod enc Tryz.prog w base spare held n' 534 [a3]=some y3 from h3);obtain⟨z4,g4⟩:=JEN Tryz.underlying534 (show DataW.trod enc Tryz.prog w base spare held n' 534 [a4]=some y4 from h4);obtain⟨z5,g5⟩:=JEN Tryz.underlying534 (show DataW.trod enc Tryz.prog w base spare held n' 534 [a5]=some y5 from h5);refine⟨⟨z0,z1,z2,z3,z4,z5⟩,trivial,?_⟩;have:=g0.append (g1.append (g2.append (g3.append (g4.append g5))));simpa only[JOs,Dat.cells,List.singleton_append,List.cons_append,List.nil_append,List.append_assoc]using this
theorem rd_23(fuel:Nat):∀(cs:List Value) (x:DataW H×List MemPlace),DataW.trod enc Tryz.prog w base spare held fuel 23 cs=some x→uptoBulk x.1≤1048576→∃a:List (Int×Int×Int×Int×Int×Int),(∀x∈a,True)∧CR (old w) w [.list 6 (a.map JOs)] cs:=by
 intro csn x hn hbn;obtain⟨z,_,o,g⟩:=JB7 (encA:=JOs) (ok:=fun x=>True) Tryz.underlying23 JRc dC (fun _=>rfl) hn hbn (fun m cs' y _ hy hyb=>JTJ m cs' y hy hyb);exact⟨z,o,g⟩
theorem rd_25(fuel:Nat):∀(cs:List Value) (x:DataW H×List MemPlace),DataW.trod enc Tryz.prog w base spare held fuel 25 cs=some x→uptoBulk x.1≤1048576→∃a:(List (List S3)×Int×List Dat),JGT a.1∧CR (old w) w (ZJ a.1 a.2.1 a.2.2).cells cs:=by
 intro csn x hn hbn;obtain⟨xs,n',rfl,rfl,hl,hlen,hf⟩:=DataW.trod_struct Tryz.underlying25 hn;rw[qcW]at hl;have h0:=fl9 hf 0 22 0 rfl qc22;have h1:=fl9 hf 1 5 1 rfl qc5;have h2:=fl9 hf 2 23 2 rfl qc23
 match xs,hlen,csn,hl with
 |[y0,y1,y2],_,[a0,a1,a2],_=>
  simp only[Va,Vb,uptoBulk,uptoBulkAll]at hbn;obtain⟨z0,o0,g0⟩:=rd_22 n' _ y0 (show DataW.trod enc Tryz.prog w base spare held n' 22 [a0]=some y0 from h0) oM;obtain⟨z1,o1,p1,g1⟩:=JCU (show DataW.trod enc Tryz.prog w base spare held n' 5 [a1]=some y1 from h1);obtain⟨z2,o2,g2⟩:=rd_23 n' _ y2 (show DataW.trod enc Tryz.prog w base spare held n' 23 [a2]=some y2 from h2) oM;refine⟨⟨z0,z1,z2.map JOs⟩,o0,?_⟩;have:=g0.append (g1.append g2);simpa only[ZJ,Dat.cells,List.singleton_append,List.cons_append,List.nil_append,List.append_assoc]using this
theorem rd_62(fuel:Nat):∀(cs:List Value) (x:DataW H×List MemPlace),DataW.trod enc Tryz.prog w base spare held fuel 62 cs=some x→uptoBulk x.1≤1048576→∃a:Cg,JJB a∧CR (old w) w (JAL a).cells cs:=by
 intro csn x hn hbn;obtain⟨xs,n',rfl,rfl,hl,hlen,hf⟩:=DataW.trod_struct Tryz.underlying62 hn;rw[qc62]at hl;have h0:=fl9 hf 0 5 0 rfl qc5;have h1:=fl9 hf 1 5 1 rfl qc5;have h2:=fl9 hf 2 3 2 rfl qc3;have h3:=fl9 hf 3 9 3 rfl qc9
 match xs,hlen,csn,hl with
 |[y0,y1,y2,y3],_,[a0,a1,a2,a3],_=>
  simp only[Va,Vb,uptoBulk,uptoBulkAll]at hbn;obtain⟨z0,o0,p0,g0⟩:=JCU (show DataW.trod enc Tryz.prog w base spare held n' 5 [a0]=some y0 from h0);obtain⟨z1,o1,p1,g1⟩:=JCU (show DataW.trod enc Tryz.prog w base spare held n' 5 [a1]=some y1 from h1);obtain⟨z2,g2⟩:=JEN Tryz.underlying3 (show DataW.trod enc Tryz.prog w base spare held n' 3 [a2]=some y2 from h2);obtain⟨z3,_,g3⟩:=JR3 Tryz.underlying9 (show DataW.trod enc Tryz.prog w base spare held n' 9 [a3]=some y3 from h3) oM;refine⟨⟨z0,z1,z2,z3⟩,⟨o0,p0,o1,p1⟩,?_⟩;have:=g0.append (g1.append (g2.append g3));simpa only[JAL,Dat.cells,List.singleton_append,List.cons_append,List.nil_append,List.append_assoc]using this
theorem rd_26(fuel:Nat):∀(cs:List Value) (x:DataW H×List MemPlace),DataW.trod enc Tryz.prog w base spare held fuel 26 cs=some x→uptoBulk x.1≤1048576→∃a:List Cg,(∀x∈a,JJB x)∧CR (old w) w [.list 4 (a.map JAL)] cs:=by
 intro csn x hn hbn;obtain⟨z,_,o,g⟩:=JB7 (encA:=JAL) (ok:=fun x=>JJB x) Tryz.underlying26 qc62 dC (fun _=>rfl) hn hbn (fun m cs' y _ hy hyb=>rd_62 m cs' y hy hyb);exact⟨z,o,g⟩
end
end Go.Proofs
namespace Go.Proofs.YteegbpaakjlodaaGreatDoor
open Go Go.Proofs Av Go.ChangeShapes Go.WideShapes Go.ChangeAt Go.RowKit
section
variable {H:Type}{enc:TypeId×Value→H}{w:World}{r:Reach}{base b0:Nat}{spare:Nat→Bool}{held:Bool}{v:Value}{d:DataW H}{ps:List MemPlace}
theorem JJD(hval:Value.okWide Tryz.prog w r b0 25 v)(hd:DataW.Trod enc Tryz.prog w base spare held 25 v d ps)(hb:Rows.uptoBulk d≤1048576):
  ∃rs ch ev,JGT rs∧Rep (Av.old w) w (ZJ rs ch ev) v:=by
 obtain⟨fuel,hf⟩:=hd;obtain⟨m,ho,hc⟩:=rd_25 fuel _ (d,ps) hf hb;refine⟨m.1,m.2.1,m.2.2,ho,?_⟩;unfold Value.okWide at hval;rw[Tryz.underlying25]at hval;obtain⟨cs,rfl,_,_⟩:=hval;obtain⟨h1,h2,h3⟩:=hc;have e:(Value.agg cs).cells=cs:=rfl;rw[e]at h1 h2 h3;have h1':(ZJ m.1 m.2.1 m.2.2).cells.length=cs.size:=sX h1;unfold ZJ at h1' h3⊢;exact .agg _ _ h1' h2 (fun i c v hc hv=>h3 i c v hc (sX hv))
theorem JLW(hval:Value.okWide Tryz.prog w r b0 26 v)(hd:DataW.Trod enc Tryz.prog w base spare held 26 v d ps)(hb:Rows.uptoBulk d≤1048576):
  ∃cs:List Cg,(∀c∈cs,JJB c)∧Rep (Av.old w) w (.list 4 (cs.map JAL)) v:=by
 obtain⟨fuel,hf⟩:=hd;obtain⟨m,ho,hc⟩:=rd_26 fuel _ (d,ps) hf hb;refine⟨m,ho,?_⟩;unfold Value.okWide at hval;obtain⟨h1,h2,h3⟩:=hc;cases v with
 |slice _ _ _=>exact h3 0 _ _ rfl rfl
 |_=>first|exact h3 0 _ _ rfl rfl|(rw[Tryz.underlying26]at hval;exact hval.elim)|(simp[Tryz.underlying26]at hval)
theorem open_int(hval:Value.okWide Tryz.prog w r b0 3 v)(hd:DataW.Trod enc Tryz.prog w base spare held 3 v d ps):∃n:Int,Rep (Av.old w) w (.int .i64 n) v:=by
 obtain⟨fuel,hf⟩:=hd;obtain⟨n,hc⟩:=JEN Tryz.underlying3 hf;refine⟨n,?_⟩;unfold Value.okWide at hval;obtain⟨h1,h2,h3⟩:=hc;cases v with
 |int _ _=>exact h3 0 _ _ rfl rfl
 |_=>first|exact h3 0 _ _ rfl rfl|(rw[Tryz.underlying3]at hval;exact hval.elim)|(simp[Tryz.underlying3]at hval)
end
end Go.Proofs.YteegbpaakjlodaaGreatDoor
namespace Go.Proofs.YteegbpaakjlodaaGreatDoor
open Go Go.Proofs Av Go.ChangeShapes Go.WideShapes Go.ChangeAt Go.RowKit
theorem JOt(w:World)(hg:∀g cs,Yv g=some cs→JBh (Av.old w) w g cs):Core (fun _=>(⟨none,[]⟩:BK)) (Av.old w) w (get []):=
 ⟨(by intro i o hi;cases hi),(by intro i j o o' b hi;cases hi),(by intro i o b hi;cases hi),fun _ h=>h,hg⟩
theorem JE7{P:Program}{f:Nat}{ds:List Dat}{b:Bool}(h:UD P f ds (.d (.bool b))){w:World}{vs:Array Value}(hg:∀g cs,Yv g=some cs→JBh (Av.old w) w g cs)(hl:ds.length=vs.size)
  (hv:∀(i:Nat) d v,ds[i]? =some d→vs[i]? =some v→Rep (Av.old w) w d v):
  Calls P f vs w fun e w'=>e=.returned (.bool b)∧Below w.heap.size w w':=by
 refine(h.2 (fun _=>(⟨none,[]⟩:BK)) (Av.old w) w vs (JOt w hg) ⟨by simpa using hl,?_⟩).mono ?_
 ·intro i c v hc hv';rw[Vo]at hc;cases e:ds[i]? with
  |none=>rw[e]at hc;cases hc
  |some d=>
   rw[e]at hc;cases hc;exact .d _ _ (hv i d v e hv')
 ·rintro e w' ⟨u,β',A',rfl,hs,_,hu⟩;have:=hu.Jc;cases this;exact⟨rfl,hs.os,hs.tape,hs.output,hs.size,fun k hk=>hs.same k hk (by intro i o hi;cases hi)⟩
theorem laidOut:laidOutB Tryz.prog=true:=kR
theorem JH6{H:Type}(l r:List (DataW H)):Rows.uptoBulkAll (l++r)=Rows.uptoBulkAll l+Rows.uptoBulkAll r:=by
 induction l with
 |nil=>simp[Rows.uptoBulkAll]
 |cons x l ih=>simp only[List.cons_append,Rows.uptoBulkAll,ih];omega
end Go.Proofs.YteegbpaakjlodaaGreatDoor
namespace Go.Proofs
open Go Av
mutual
def qS:Ste→Prop
 |.mk n k u t l x c e ru a b=>((k=11→e=[])∧a.length≤1000000000∧b.length≤1000000000∧e.length≤1000000000)∧qBs b
def qSs:List Ste→Prop
 |[]=>True
 |v::r=>qS v∧qSs r
def qB:Brn→Prop
 |.mk w s=>qSs s
def qBs:List Brn→Prop
 |[]=>True
 |v::r=>qB v∧qBs r
end
theorem qS_st{s:Ste}(h:qS s):stQ s:=by
 obtain⟨n,k,u,t,l,x,c,e,ru,a,b⟩:=s;simp only[qS]at h;exact⟨h.1.1,h.1.2.1,h.1.2.2.1,h.1.2.2.2⟩
mutual
theorem qS_nm(r:Int):∀(s:Ste) (pl:List Int),qS s→qS (nmS r pl s)
 |.mk n k u t l x c e ru a b,pl,h=>by
  simp only[qS,nmS]at h⊢;exact⟨⟨h.1.1,h.1.2.1,by rw[JAs];exact h.1.2.2.1,h.1.2.2.2⟩,JOu r b pl 0 h.2⟩
theorem JJE(r:Int):∀(l:List Ste) (pl:List Int) (i:Int),qSs l→qSs (Yk r pl i l)
 |[],_,_,h=>h
 |v::q,pl,i,h=>by
  simp only[qSs,Yk]at h⊢;exact⟨qS_nm r v _ h.1,JJE r q pl (i+1) h.2⟩
theorem qB_nm(r:Int):∀(b:Brn) (pl:List Int),qB b→qB (nmB r pl b)
 |.mk w s,pl,h=>by
  simp only[qB,nmB]at h⊢;exact JJE r s pl 0 h
theorem JOu(r:Int):∀(l:List Brn) (pl:List Int) (i:Int),qBs l→qBs (JCM r pl i l)
 |[],_,_,h=>h
 |v::q,pl,i,h=>by
  simp only[qBs,JCM]at h⊢;exact⟨qB_nm r v _ h.1,JOu r q pl (i+1) h.2⟩
end
mutual
theorem JTK(r:Int):∀(s:Ste) (pl:List Int),szS (nmS r pl s)=szS s
 |.mk n k u t l x c e ru a b,pl=>by simp only[szS,nmS,JKE r b pl 0]
theorem JGe(r:Int):∀(l:List Ste) (pl:List Int) (i:Int),J3 (Yk r pl i l)=J3 l
 |[],_,_=>rfl
 |v::q,pl,i=>by simp only[J3,Yk,JTK r v _,JGe r q pl (i+1)]
theorem JTL(r:Int):∀(b:Brn) (pl:List Int),szB (nmB r pl b)=szB b
 |.mk w s,pl=>by simp only[szB,nmB,JGe r s pl 0]
theorem JKE(r:Int):∀(l:List Brn) (pl:List Int) (i:Int),XN (JCM r pl i l)=XN l
 |[],_,_=>rfl
 |v::q,pl,i=>by simp only[XN,JCM,JTL r v _,JKE r q pl (i+1)]
end
def JDT(o:List Wlk):Prop:=∀w∈o,stQ w.step
theorem JDT.app{o:List Wlk}(h:JDT o){w:Wlk}(hw:stQ w.step):JDT (o++[w]):=by
 intro x hx;rcases List.mem_append.1 hx with hx|hx
 ·exact h x hx
 ·rw[List.mem_singleton.1 hx];exact hw
mutual
theorem JTM(r:Int):∀(x:Ste) (i:Int) (d:Nat) (s:PO),qS x→JDT s.2.2→JDT (JE4 r x i d s).2.2
 |.mk n k u t l x c e ru a b,i,d,s,h,hs=>by
  have h0:=qS_st h;rw[JE4];simp only[qS]at h;exact JKF r b 0 (d+1) _ h.2 (hs.app h0)
theorem JGf(r:Int):∀(x:List Ste) (i:Int) (d:Nat) (s:PO),qSs x→JDT s.2.2→JDT (UX r x i d s).2.2
 |[],_,_,_,_,hs=>hs
 |x::y,i,d,s,h,hs=>by
  simp only[qSs]at h;exact JGf r y (i+1) d _ h.2 (JTM r x i d s h.1 hs)
theorem JTN(r:Int):∀(x:Brn) (i:Int) (d:Nat) (s:PO),qB x→JDT s.2.2→JDT (JE5 r x i d s).2.2
 |.mk w l,i,d,s,h,hs=>by
  rw[JE5];simp only[qB]at h;exact JGf r l 0 (d+1) _ h hs
theorem JKF(r:Int):∀(x:List Brn) (i:Int) (d:Nat) (s:PO),qBs x→JDT s.2.2→JDT (Xw r x i d s).2.2
 |[],_,_,_,_,hs=>hs
 |x::y,i,d,s,h,hs=>by
  simp only[qBs]at h;exact JKF r y (i+1) d _ h.2 (JTN r x i d s h.1 hs)
end
theorem wkN_q{l:List Rou}(h:∀x∈l,qSs x.steps)(k:Nat):JDT (wkN l k):=by
 intro w hw;obtain⟨i,-,hi⟩:=List.mem_flatMap.1 hw;cases e:l[i]? with
 |none=>rw[e]at hi;cases hi
 |some x=>
  rw[e]at hi;exact JGf i x.steps 0 0 (0,[],[]) (h x (List.mem_of_getElem? e)) (fun _ h=>by cases h) w hi
end Go.Proofs
namespace Go.Proofs
open Go Av
variable {n:Nat}
def sm(n:Nat)(s:Ste):Prop:=qS s∧szS s≤n
theorem JEt{nm:Str}{k u t l:Int}{x c:Str}{e:List Exp}{ru:List Rule}{a:List Kal}(hn:1≤n)(h1:k=11→e=[])(h2:a.length≤1000)(h3:e.length≤1000):sm n (.mk nm k u t l x c e ru a []):=
 ⟨by simp only[qS,qBs,Vm];exact⟨⟨h1,oM,oM,oM⟩,trivial⟩,by simp only[szS,XN];omega⟩
theorem JQZ(a:Int):(sgL a).length≤3:=by
 unfold sgL
 repeat' split
 all_goals decide
theorem JTO(hn:1≤n)(now:Str)(a b:Int):sm n (JOA now a b):=by
 unfold JOA;refine JEt hn (fun h=>absurd h dC) sP ?_;cases(a.tmod 2==0)<;>simp
theorem JKG{br:Ste}(hb:sm n br)(hn:1≤n)(k a b:Int)(now:Str):sm n (UM br k a b now).1:=by
 unfold UM
 repeat' split
 all_goals first
  |exact hb
  |exact JTO hn _ _ _
  |exact JEt hn (fun h=>absurd h dC) sP sP
  |exact JEt hn (fun h=>absurd h dC) (by rw[JCI];have:=JQZ a;omega) sP
  |exact JEt hn (fun h=>absurd h dC) (by rw[JCI];simp) sP
  |skip
theorem JOv(now:Str)(a:Int):sm 1 (toS now a):=JEt (Nat.le_refl _) (fun h=>absurd h dC) sP sP
theorem JTP(now:Str)(a:Int):sm 1 (JCK now a):=JEt (Nat.le_refl _) (fun h=>absurd h dC) sP sP
theorem JTQ:sm 1 JSY:=JEt (Nat.le_refl _) (fun h=>absurd h dC) sP sP
theorem JQa{inn t:Ste}(h1:sm 1 inn)(h2:sm 1 t)(j:Int):qSs (pick inn t j)∧J3 (pick inn t j)≤2:=by
 unfold pick;have h3:=JTQ;unfold sm at h1 h2 h3
 repeat' split
 all_goals simp only[qSs,J3,h1.1,h2.1,h3.1,and_self,true_and]
 all_goals omega
theorem JOw{f:Nat→Brn}(h:∀i,qB (f i)∧szB (f i)≤3):∀l:List Nat,qBs (l.map f)∧XN (l.map f)≤3*l.length
 |[]=>⟨trivial,Nat.le_refl _⟩
 |i::r=>by
  have h1:=h i;have h2:=JOw h r;simp only[Va,qBs,XN,Vf];exact⟨⟨h1.1,h2.1⟩,oM⟩
theorem sm_br(k a b:Int)(now:Str)(h0:0≤a):sm 10 (brS k a b now):=by
 have hi:sm 1 (JP6 k a b now):=JKG (JTP now _) (Nat.le_refl _) _ _ _ _;have hb:=JOw (f:=brn (!(k.tmod 13==11)) a b (Jg now a) (JP6 k a b now) (toS now a)) (fun i=>by
  have:=JQa hi (JOv now a) ((b+i).tmod 4);simp only[brn,qB,szB];exact⟨this.1,oM⟩) (List.range (2+(a.tmod 2).toNat))
 have h2:(a.tmod 2).toNat≤1:=by
  rw[Int.tmod_eq_emod_of_nonneg h0];omega
 rw[List.length_range]at hb;unfold sm brS;simp only[qS,szS];refine⟨⟨⟨sP,sP,?_,sP⟩,hb.1⟩,?_⟩
 ·unfold bBr;rw[Vc,List.length_range];omega
 ·have e:XN (bBr k a b now)≤3*(2+(a.tmod 2).toNat):=hb.2;omega
theorem sm_md(x:S3)(hx:JEh x)(now:Str):sm 10 (mdS x now).1:=JKG (sm_br _ _ _ _ hx.2.2.1) oM _ _ _ _
theorem JDi:∀(a b:List Ste),qSs a→qSs b→qSs (a++b)
 |[],_,_,h=>h
 |x::r,b,h1,h2=>by simp only[List.cons_append,qSs]at h1⊢;exact⟨h1.1,JDi r b h1.2 h2⟩
theorem JCV:∀(a b:List Ste),J3 (a++b)=J3 a+J3 b
 |[],_=>by simp[J3]
 |x::r,b=>by simp only[List.cons_append,J3,JCV r b];omega
theorem JOx:∀(l:List S3) (i:Nat) (out:List Ste) (now:Str) (z:S3),(∀x∈l,JEh x)→qSs out→J3 out≤10*i→i≤6→qSs (rtR l i out now z)∧J3 (rtR l i out now z)≤100
 |[],i,out,now,z,_,h1,h2,h3=>by
  have ht:=JOv now z.a;unfold sm at ht;simp only[rtR];refine⟨JDi _ _ h1 ⟨ht.1,trivial⟩,?_⟩;rw[JCV];simp only[J3];omega
 |x::r,i,out,now,z,hl,h1,h2,h3=>by
  have hm:=sm_md x (hl x Vh) now;have ht:=JOv now z.a;unfold sm at ht hm;have hq:=JDi out [(mdS x now).1] h1 ⟨hm.1,trivial⟩;have hs:J3 (out++[(mdS x now).1])≤10*(i+1):=by rw[JCV];simp only[J3];omega
  simp only[rtR];split
  ·rename_i hc;simp only[Vi,decide_eq_true_eq]at hc;split
   ·exact⟨hq,oM⟩
   ·exact JOx r (i+1) _ _ _ (fun y hy=>hl y (Vn _ hy)) hq hs oM
  ·refine⟨JDi _ _ h1 ⟨ht.1,trivial⟩,?_⟩;rw[JCV];simp only[J3];omega
end Go.Proofs
