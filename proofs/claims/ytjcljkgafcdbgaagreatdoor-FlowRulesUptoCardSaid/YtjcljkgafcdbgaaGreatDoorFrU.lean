/- Part U of a proof. -/
import Derived.Test.YtjcljkgafcdbgaaGreatDoorFrT
import Derived.Test.YtjcljkgafcdbgaaGreatDoorFrQ
import Derived.Test.YtjcljkgafcdbgaaGreatDoorFrC
import Derived.Test.YtjcljkgafcdbgaaGreatDoorFrA
set_option linter.unusedVariables false
set_option linter.unusedSimpArgs false
set_option linter.unusedSectionVars false
set_option linter.constructorNameAsVariable false
set_option linter.unnecessarySimpa false
set_option maxRecDepth 10000
namespace Go.Proofs
open Go Av
def szP(p:Prg):Prop:=Ys p.routes≤100000000∧JKH p.routes+3*p.schemas.length+4*p.endpoints.length+4*p.services.length≤8000000000
theorem JFC(p:Prg)(hs:szP p)(hp:Zu p≠[]):PT 26 [Jb p] (.d (.bool false)):=by
 refine ok26.pc ?_;have c1:=(walk55 p hs.1 hs.2).call trivial;have h0:(((Zu p).length:Int)==0)=false:=by
  have:=List.length_pos_iff.2 hp;simp;exact hp
 generalize Zu p=l at*;simp only[Jb]at c1⊢;simp only[go_sem,ir26,Vv,Vc,simprocAttr];refine wn c1 ?_;simp only[go_sem,Vv,Vc,simprocAttr];simp only[go_sem,h0,Vv,Vc,simprocAttr]
theorem JPA(p:Prg)(hs:szP p)(hp:Zu p≠[])(r:Int)(l:List Int):PT 20 [Jb p,.int .i64 r,.list 1 (l.map (.int .i64))] (.tup [.d (.agg [.list 6 [],.bool false]),.d (.int .i64 25)]):=by
 refine ok20.pc ?_;have c1:=(JFC p hs hp).call trivial;simp only[Jb]at c1⊢;simp only[go_sem,ir20,Vv,Vc,simprocAttr];refine wn c1 ?_;simp only[go_sem,Vv,Vc,simprocAttr];refine Av.U9 (fun _=>trivial) (fun q=>by cases q)
theorem walk7(p:Prg)(hs:szP p)(hp:Zu p≠[])(r:Int)(l:List Int):PT 7 [Jb p,.int .i64 r,.list 1 (l.map (.int .i64))] (.tup [.d (.list 6 []),.d (.bool false),.d (.int .i64 25)]):=by
 refine ok7.pc ?_;have c1:=(JPA p hs hp r l).call (by simp[J5]);simp only[Jb]at c1⊢;simp only[go_sem,ir7,Vv,Vc,simprocAttr];refine wn c1 ?_;simp only[go_sem,Vv,Vc,simprocAttr];refine JH (fun _ s=>s=_) ⟨0,_,Wk.refl _,rfl⟩ ?_;rintro n s rfl;simp only[go_sem,Vv,Vc,simprocAttr];refine Av.U9 (fun q=>by simp at q) (fun _=>?_);simp only[go_sem,Vv,Vc,simprocAttr]
def v0D:Dat:=.agg [.int .i64 0,.int .i64 0,.int .i64 0,.str [],.list 6 [],.list 7 []]
theorem walk8(p:Prg)(hs:szP p)(hp:Zu p≠[])(r:Int)(l:List Int):PT 8 [Jb p,.int .i64 r,.list 1 (l.map (.int .i64))] (.tup [.d v0D,.d (.bool false)]):=by
 refine ok8.pc ?_;have c1:=(JPA p hs hp r l).call (by simp[J5]);simp only[Jb]at c1⊢;unfold v0D;simp only[go_sem,ir8,Vv,Vc,Nat.reduceAdd,Nat.reduceEqDiff,Nat.reduceBEq,Nat.reduceLeDiff,reduceCtorEq,↓reduceIte];refine wn c1 ?_;simp only[go_sem,Vv,Vc,Nat.reduceAdd,Nat.reduceEqDiff,Nat.reduceBEq,Nat.reduceLeDiff,reduceCtorEq,↓reduceIte];have h25:((25:Int)!=0)=true:=rfl;simp only[go_sem,h25,Vv,Vc,Nat.reduceAdd,Nat.reduceEqDiff,Nat.reduceBEq,Nat.reduceLeDiff,reduceCtorEq,↓reduceIte]
theorem walk9(p:Prg)(hs:szP p)(hp:Zu p≠[])(r:Int)(v:Dat)(hv:v.cells.length=6)(ha:∃cs,v=.agg cs):PT 9 [Jb p,.int .i64 r,v] (.tup [.d (.list 1 []),.d (.int .i64 25)]):=by
 refine ok9.pc ?_;have c1:=(JFC p hs hp).call trivial;obtain⟨cs,rfl⟩:=ha;simp only[Jb]at c1⊢;simp only[go_sem,ir9,Vv,Vc,simprocAttr];refine wn c1 ?_;simp only[go_sem,Vv,Vc,simprocAttr];refine Av.U9 (fun _=>trivial) (fun q=>by cases q)
theorem walk10(p:Prg)(hs:szP p)(hp:Zu p≠[])(r:Int)(l:List Int):PT 10 [Jb p,.int .i64 r,.list 1 (l.map (.int .i64))] (.tup [.d (.list 1 []),.d (.int .i64 25)]):=by
 refine ok10.pc ?_;have c1:=(JFC p hs hp).call trivial;simp only[Jb]at c1⊢;simp only[go_sem,ir10,Vv,Vc,simprocAttr];refine wn c1 ?_;simp only[go_sem,Vv,Vc,simprocAttr];refine Av.U9 (fun _=>trivial) (fun q=>by cases q)
theorem walk11(p:Prg)(hs:szP p)(hp:Zu p≠[]):PT 11 [Jb p] (.d (.list 4 [])):=by
 refine ok11.pc ?_;have c1:=(JFC p hs hp).call trivial;simp only[Jb]at c1⊢;simp only[go_sem,ir11,Vv,Vc,simprocAttr];refine wn c1 ?_;simp only[go_sem,Vv,Vc,simprocAttr];refine Av.U9 (fun _=>trivial) (fun q=>by cases q)
theorem walk12(p:Prg)(hs:szP p)(hp:Zu p≠[]):PT 12 [Jb p] (.d (.list 4 [])):=by
 refine ok12.pc ?_;have c1:=(JFC p hs hp).call trivial;simp only[Jb]at c1⊢;simp only[go_sem,ir12,Vv,Vc,simprocAttr];refine wn c1 ?_;simp only[go_sem,Vv,Vc,simprocAttr];refine Av.U9 (fun _=>trivial) (fun q=>by cases q)
end Go.Proofs
