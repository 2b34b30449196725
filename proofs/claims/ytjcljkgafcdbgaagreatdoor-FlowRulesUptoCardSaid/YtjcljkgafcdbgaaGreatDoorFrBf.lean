/- Part Bf of a proof. -/
import Derived.Test.YtjcljkgafcdbgaaGreatDoorFrT
import Derived.Test.YtjcljkgafcdbgaaGreatDoorFrU
import Derived.Test.YtjcljkgafcdbgaaGreatDoorFrBe
import Derived.Test.YtjcljkgafcdbgaaGreatDoorFrC
import Derived.Test.YtjcljkgafcdbgaaGreatDoorFrA
set_option linter.unusedVariables false
set_option linter.unusedSimpArgs false
set_option linter.unusedSectionVars false
set_option linter.constructorNameAsVariable false
set_option linter.unnecessarySimpa false
set_option maxRecDepth 10000
namespace Go.Proofs
open Go Av
variable {f:Nat}{a b:Dat}{v:Av}
@[instance_reducible] def rlsL:Rls:={rl:=fun _=>false}
attribute [local instance] rlsL
theorem XO(n k:Nat): @Z7 rlsL n k=false:=rfl
def ordC:Sch:=⟨[111,114,100,101,114],1,JGK⟩
def epsE(sc:Str):List Dat:=[epD [105,110] 1 [111,114,100,101,114],epD [111,117,116] 2 sc,epD [113] 3 [111,114,100,101,114]]
def rouE(src:Str)(xs:List Dat):List Dat:=[.agg [.str [109,97,105,110],.str src,.list 11 xs]]
def JMd(src sc:Str)(x:List Ste):Prg:=⟨1,[ordC],[⟨[105,110],1,[111,114,100,101,114],1,1,0,[]⟩,⟨[111,117,116],2,sc,1,1,0,[]⟩,⟨[113],3,[111,114,100,101,114],1,1,0,[]⟩],[],[⟨[109,97,105,110],src,x⟩]⟩
theorem JR8{src sc:Str}{x:List Ste}{xs:List Dat}(h:JK xs=x.map JL):(Dat.agg [.int .i64 1,.list 9 [Uk ordC],.list 7 (epsE sc),.nil 4,.list 3 (rouE src xs)]).canon=Jb (JMd src sc x):=by
 simp only[Dat.canon,JK,epsE,rouE,epD,JMd,Jb,UW,U8,h,JBX,Va,Vb]
theorem JR9{src sc:Str}{x:List Ste}(h7:x.length≤7)(hk:okX 701 6010 x):szP (JMd src sc x):=by
 have h1:=JHH fun s hs=>(hk s hs).1
 have h2:=JHI fun s hs=>(hk s hs).2
 have h3:=Nat.mul_le_mul_right 701 h7;have h4:=Nat.mul_le_mul_right 6010 h7;unfold szP;simp only[JMd,Ys,JKH,Vf,Vm];omega
theorem prg_A(x:List Ste):Zu (JMd [110,111,119,104,101,114,101] [111,114,100,101,114] x)≠[]:=JO8 _ ⟨_,Vh,rfl⟩
theorem prg_B(x:List Ste):Zu (JMd [105,110] [111,116,104,101,114] x)≠[]:=JO9 _ ⟨_,Vn _ Vh,rfl⟩
abbrev pgA:Av:=.agg [.d (.int .i64 1),.d (.list 9 [Uk ordC]),.ms 25 0,.d (.nil 4),.ms 28 0]
abbrev pgD(E R:List Dat):Dat:=.agg [.int .i64 1,.list 9 [Uk ordC],.list 7 E,.nil 4,.list 3 R]
theorem callR3{E R:List Dat}(h:CT (.fn f) ([pgD E R,a,b].map .d) [] v []):
  CT (.fn f) [pgA,.d a,.d b] [(25,some (.row 0 7 E)),(28,some (.row 0 3 R))] v [(25,.frz 0 7 E),(28,.frz 0 3 R)]:=
 JC.JKR (hp:=[(25,.row 0 7 E),(28,.row 0 3 R)]) (ds:=[pgD E R,a,b]) rfl sP h
theorem JKJ{E R:List Dat}(h:CT (.fn f) ([pgD E R,a,b].map .d) [] v []):
  CT (.fn f) [pgA,.d a,.d b] [(25,some (.frz 0 7 E)),(28,some (.frz 0 3 R))] v []:=
 JC.JKR (hp:=[(25,.frz 0 7 E),(28,.frz 0 3 R)]) (ds:=[pgD E R,a,b]) rfl sP h
theorem JSA{E R:List Dat}(h:CT (.fn f) ([pgD E R].map .d) [] v []):
  CT (.fn f) [pgA] [(25,some (.frz 0 7 E)),(28,some (.frz 0 3 R))] v []:=
 JC.JKR (hp:=[(25,.frz 0 7 E),(28,.frz 0 3 R)]) (ds:=[pgD E R]) rfl sP h
theorem cn3{E R:List Dat}{p:Prg}{a' b':Dat}(hD:(pgD E R).canon=Jb p)(ha:a.canon=a')(hb:b.canon=b')(h:CT (.fn f) ([Jb p,a',b'].map .d) [] v []):CT (.fn f) ([pgD E R,a,b].map .d) [] v []:=
 JC.canon (by simp only[Va,Vb,Av.canon,hD,ha,hb];exact h)
theorem cn1{E R:List Dat}{p:Prg}(hD:(pgD E R).canon=Jb p)(h:CT (.fn f) ([Jb p].map .d) [] v []):CT (.fn f) ([pgD E R].map .d) [] v []:=
 JC.canon (by simp only[Va,Vb,Av.canon,hD];exact h)
theorem nt0(a:Dat):nth [a] (Int.toNat 0)=a:=rfl
theorem nt1(a b c:Dat):nth [a,b,c] (Int.toNat 1)=b:=rfl
section
variable {E R:List Dat}{p:Prg}(hD:(pgD E R).canon=Jb p)(hs:szP p)(hp:Zu p≠[])
include hD hs hp
theorem k7:CT 7 [pgA,.d (.int .i64 0),.d (.list 1 [.int .i64 0])] [(25,some (.row 0 7 E)),(28,some (.row 0 3 R))] (.tup [.d (.list 6 []),.d (.bool false),.d (.int .i64 25)]) [(25,.frz 0 7 E),(28,.frz 0 3 R)]:=
 callR3 (cn3 hD rfl rfl ((walk7 p hs hp 0 [0]).call (by simp[J5])))
theorem k8:CT 8 [pgA,.d (.int .i64 0),.d (.list 1 [.int .i64 0])] [(25,some (.frz 0 7 E)),(28,some (.frz 0 3 R))] (.tup [.d v0D,.d (.bool false)]) []:=
 JKJ (cn3 hD rfl rfl ((walk8 p hs hp 0 [0]).call (by simp[J5])))
theorem k9:CT 9 [pgA,.d (.int .i64 0),.d (.agg [.int .i64 0,.int .i64 0,.int .i64 0,.str [],.nil 6,.nil 7])] [(25,some (.frz 0 7 E)),(28,some (.frz 0 3 R))] (.tup [.d (.list 1 []),.d (.int .i64 25)]) []:=
 JKJ (cn3 hD rfl (b':=v0D) rfl ((walk9 p hs hp 0 v0D rfl ⟨_,rfl⟩).call (by simp[J5])))
theorem k10:CT 10 [pgA,.d (.int .i64 0),.d (.list 1 [.int .i64 0])] [(25,some (.frz 0 7 E)),(28,some (.frz 0 3 R))] (.tup [.d (.list 1 []),.d (.int .i64 25)]) []:=
 JKJ (cn3 hD rfl rfl ((walk10 p hs hp 0 [0]).call (by simp[J5])))
theorem k11:CT 11 [pgA] [(25,some (.frz 0 7 E)),(28,some (.frz 0 3 R))] (.d (.list 4 [])) []:=
 JSA (cn1 hD ((walk11 p hs hp).call trivial))
theorem k12:CT 12 [pgA] [(25,some (.frz 0 7 E)),(28,some (.frz 0 3 R))] (.d (.list 4 [])) []:=
 JSA (cn1 hD ((walk12 p hs hp).call trivial))
end
theorem cI1(n:Int):∀x∈[Dat.int .i64 n],x.cells.length=1:=by
 intro x hx;rw[List.mem_singleton.1 hx];rfl
theorem walk3(l:List Itm)(k:Int):Jz Tryz.prog 3 [.agg [.list 5 (l.map J6)],.int .u8 k] (.d (.bool true)):=by
  refine ok3.pcon (Nat.le_of_ble_eq_true rfl) trivial ?_
  have c4:=walk4.call trivial
  obtain⟨r,_,hc5⟩:=ex5 l
  have c5:=hc5.call trivial
  obtain⟨⟨x,xs⟩,⟨h7,hg⟩,c6⟩:=ex6c l
  dsimp only at h7 hg c6
  have c6:JC Tryz.prog (.fn 6) ([.agg [.list 5 (l.map J6)]].map .d) [(25,none),(28,none)] pgA [(25,.row 0 7 (epsE [111,114,100,101,114])),(28,.row 0 3 (rouE [105,110] xs))]:=c6
  have z0:(((0:Nat):Int)==0)=true:=rfl
  have h25:((25:Int)==25)=true:=rfl
  have c13:=(JOS (.mk 0 0 0 [] [] [])).call trivial
  rw[JG]at c13
  simp only[go_sem,ir3,Vv,Vc,Nat.reduceAdd,Nat.reduceEqDiff,Nat.reduceBEq,Nat.reduceLeDiff,reduceCtorEq,↓reduceIte]
  refine JI rfl c4 trivial ?_
  simp only[go_sem,Vv,Vc,Nat.reduceAdd,Nat.reduceEqDiff,Nat.reduceBEq,Nat.reduceLeDiff,reduceCtorEq,↓reduceIte]
  refine J9 (!r) (fun _=>?_) ?_
  · simp only[go_sem,Vv,Vc,Nat.reduceAdd,Nat.reduceEqDiff,Nat.reduceBEq,Nat.reduceLeDiff,reduceCtorEq,↓reduceIte]
    refine JI rfl c5 trivial ?_
    simp only[go_sem,Vv,Vc,Nat.reduceAdd,Nat.reduceEqDiff,Nat.reduceBEq,Nat.reduceLeDiff,reduceCtorEq,↓reduceIte]
  simp only[go_sem,XO,Vv,Vc,Nat.reduceAdd,Nat.reduceEqDiff,Nat.reduceBEq,Nat.reduceLeDiff,reduceCtorEq,↓reduceIte]
  refine U9 (fun _=>?_) (fun _=>?_)
  · refine JI rfl c4 trivial ?_
    simp only[go_sem,Vv,Vc,Nat.reduceAdd,Nat.reduceEqDiff,Nat.reduceBEq,Nat.reduceLeDiff,reduceCtorEq,↓reduceIte]
  refine JI rfl c6 ⟨rfl,rfl,trivial⟩ ?_
  simp only[go_sem,pgA,epsE,rouE,epD,nt0,nt1,XO,Vv,Vc,Nat.reduceAdd,Nat.reduceEqDiff,Nat.reduceBEq,Nat.reduceLeDiff,reduceCtorEq,↓reduceIte]
  refine⟨by decide,U9 (fun _=>?_) (fun _=>?_)⟩
  · have hD:=JR8 (src:=[110,111,119,104,101,114,101]) (sc:=[111,114,100,101,114]) hg.2.1
    have hs:=JR9 (src:=[110,111,119,104,101,114,101]) (sc:=[111,114,100,101,114]) h7 hg.1
    have hp:=prg_A x
    refine⟨by decide,cI1 _,?_⟩
    refine JI rfl (k7 hD hs hp) ⟨rfl,rfl,trivial⟩ ?_
    simp only[go_sem,XO,Vv,Vc,Nat.reduceAdd,Nat.reduceEqDiff,Nat.reduceBEq,Nat.reduceLeDiff,reduceCtorEq,↓reduceIte]
    refine⟨cI1 _,?_⟩
    refine JI rfl (k8 hD hs hp) ⟨rfl,rfl,trivial⟩ ?_
    simp only[go_sem,XO,v0D,Vv,Vc,Nat.reduceAdd,Nat.reduceEqDiff,Nat.reduceBEq,Nat.reduceLeDiff,reduceCtorEq,↓reduceIte]
    refine JI rfl (k9 hD hs hp) ⟨rfl,rfl,trivial⟩ ?_
    simp only[go_sem,XO,Vv,Vc,Nat.reduceAdd,Nat.reduceEqDiff,Nat.reduceBEq,Nat.reduceLeDiff,reduceCtorEq,↓reduceIte]
    refine⟨cI1 _,?_⟩
    refine JI rfl (k10 hD hs hp) ⟨rfl,rfl,trivial⟩ ?_
    simp only[go_sem,XO,Vv,Vc,Nat.reduceAdd,Nat.reduceEqDiff,Nat.reduceBEq,Nat.reduceLeDiff,reduceCtorEq,↓reduceIte]
    refine JI rfl (k11 hD hs hp) ⟨rfl,rfl,trivial⟩ ?_
    simp only[go_sem,z0,Vv,Vc,Nat.reduceAdd,Nat.reduceEqDiff,Nat.reduceBEq,Nat.reduceLeDiff,reduceCtorEq,↓reduceIte]
    refine JI rfl (k12 hD hs hp) ⟨rfl,rfl,trivial⟩ ?_
    simp only[go_sem,z0,h25,Vs,Vv,Vc,Nat.reduceAdd,Nat.reduceEqDiff,Nat.reduceBEq,Nat.reduceLeDiff,reduceCtorEq,↓reduceIte]
    refine JI rfl c13 trivial ?_
    simp only[go_sem,Vv,Vc,Nat.reduceAdd,Nat.reduceEqDiff,Nat.reduceBEq,Nat.reduceLeDiff,reduceCtorEq,↓reduceIte]
    rfl
  · have hD:=JR8 (src:=[105,110]) (sc:=[111,116,104,101,114]) hg.2.1
    have hs:=JR9 (src:=[105,110]) (sc:=[111,116,104,101,114]) h7 hg.1
    have hp:=prg_B x
    refine⟨by decide,cI1 _,?_⟩
    refine JI rfl (k7 hD hs hp) ⟨rfl,rfl,trivial⟩ ?_
    simp only[go_sem,XO,Vv,Vc,Nat.reduceAdd,Nat.reduceEqDiff,Nat.reduceBEq,Nat.reduceLeDiff,reduceCtorEq,↓reduceIte]
    refine⟨cI1 _,?_⟩
    refine JI rfl (k8 hD hs hp) ⟨rfl,rfl,trivial⟩ ?_
    simp only[go_sem,XO,v0D,Vv,Vc,Nat.reduceAdd,Nat.reduceEqDiff,Nat.reduceBEq,Nat.reduceLeDiff,reduceCtorEq,↓reduceIte]
    refine JI rfl (k9 hD hs hp) ⟨rfl,rfl,trivial⟩ ?_
    simp only[go_sem,XO,Vv,Vc,Nat.reduceAdd,Nat.reduceEqDiff,Nat.reduceBEq,Nat.reduceLeDiff,reduceCtorEq,↓reduceIte]
    refine⟨cI1 _,?_⟩
    refine JI rfl (k10 hD hs hp) ⟨rfl,rfl,trivial⟩ ?_
    simp only[go_sem,XO,Vv,Vc,Nat.reduceAdd,Nat.reduceEqDiff,Nat.reduceBEq,Nat.reduceLeDiff,reduceCtorEq,↓reduceIte]
    refine JI rfl (k11 hD hs hp) ⟨rfl,rfl,trivial⟩ ?_
    simp only[go_sem,z0,Vv,Vc,Nat.reduceAdd,Nat.reduceEqDiff,Nat.reduceBEq,Nat.reduceLeDiff,reduceCtorEq,↓reduceIte]
    refine JI rfl (k12 hD hs hp) ⟨rfl,rfl,trivial⟩ ?_
    simp only[go_sem,z0,h25,Vs,Vv,Vc,Nat.reduceAdd,Nat.reduceEqDiff,Nat.reduceBEq,Nat.reduceLeDiff,reduceCtorEq,↓reduceIte]
    refine JI rfl c13 trivial ?_
    simp only[go_sem,Vv,Vc,Nat.reduceAdd,Nat.reduceEqDiff,Nat.reduceBEq,Nat.reduceLeDiff,reduceCtorEq,↓reduceIte]
    rfl
end Go.Proofs
