/- Part Q of a proof. -/
import Derived.Test.YteadlnapgiochaaGreatDoorCeO
import Derived.Test.YteadlnapgiochaaGreatDoorCeP
import Derived.Test.YteadlnapgiochaaGreatDoorCeC
import Derived.Test.YteadlnapgiochaaGreatDoorCeA
import Derived.Test.YteadlnapgiochaaGreatDoorCeM
import Derived.Test.YteadlnapgiochaaGreatDoorCeN
set_option linter.unusedVariables false
set_option linter.unusedSimpArgs false
set_option linter.unusedSectionVars false
set_option linter.constructorNameAsVariable false
set_option linter.unnecessarySimpa false
set_option maxRecDepth 10000
namespace Go.Proofs
open Go Av
def rOk(x:Rou):Prop:=qSs x.steps∧UC x.steps≤100
theorem JRu{rs:List (List S3)}(h:JG1 rs)(k:Nat):∀x∈XI rs k,rOk x:=by
 intro x hx;obtain⟨i,-,hi⟩:=List.mem_flatMap.1 hx;unfold JIf at hi;split at hi
 ·rw[List.mem_singleton.1 hi];exact JP3 (lsI rs i) 0 [] ZK ⟨0,0,0⟩ (JPd h i) trivial (by simp[UC]) oM
 ·cases hi
theorem JHF:∀(l:List Rou) (i:Int),(∀x∈l,rOk x)→∀x∈ZQ i l,rOk x
 |[],_,_,x,h=>by cases h
 |y::q,i,hl,x,h=>by
  rcases VA.1 h with rfl|h
  ·have:=hl y Vh;exact⟨JJ1 i y.steps [] 0 this.1,by show UC (Yt i [] 0 y.steps)≤100;rw[JHD];exact this.2⟩
  ·exact JHF q (i+1) (fun z hz=>hl z (Vn _ hz)) x h
theorem JK9:∀l:List Rou,(∀x∈l,rOk x)→XV l≤100*l.length
 |[],_=>Nat.le_refl _
 |x::r,h=>by
  have h1:=(h x Vh).2;have h2:=JK9 r fun y hy=>h y (Vn _ hy)
  simp only[XV,Vf];omega
def chgP(q:Pn)(cs:List Cg):Pn:={q with nodes:=((cs.take 3).foldl Yf (q.nodes.map JFV)).map JPm}
theorem con4(rs:List (List S3))(h:JG1 rs):∃q:Pn,PnB q∧∀(ch:Int) (ev:List Dat) (cs:List Cg),(∀c∈cs,JIk c)→PT 4 [ZP rs ch ev,.list 4 (cs.map Zx)] (.d (Ug (chgP q cs))):=by
 have hK:=JRu h 3;have hKl:=JFE rs 3;have hne:XI rs 3≠[]:=by
  rw[Xv,Xv,Xv];simp[XI,JIf]
 have hsz:nmP (JE0 (XI rs 3)):=fun x hx=>by have:=(hK x hx).2;omega
 have hN:=JHF (XI rs 3) 0 hK;have hNl:=ZO (XI rs 3) 0;have hsz2:nmP (mkP rs):=fun x hx=>by have:=(hN x hx).2;omega
 have hN2:=JHF (ZQ 0 (XI rs 3)) 0 hN;have hNl2:=ZO (ZQ 0 (XI rs 3)) 0;have hne2:(mkP rs).routes≠[]:=by
  intro e;have e2:(ZQ 0 (XI rs 3)).length=0:=by rw[show ZQ 0 (XI rs 3)=[]from e];rfl
  exact hne (List.eq_nil_of_length_eq_zero oM)
 have hne3:(UM (mkP rs)).routes≠[]:=by
  intro e;have e2:(ZQ 0 (ZQ 0 (XI rs 3))).length=0:=by rw[show ZQ 0 (ZQ 0 (XI rs 3))=[]from e];rfl
  exact hne (List.eq_nil_of_length_eq_zero oM)
 have hw:XV (UM (mkP rs)).routes≤1000000000:=by
  have:=JK9 _ hN2;show XV (ZQ 0 (ZQ 0 (XI rs 3)))≤_;omega
 have hq:∀w∈wkN (UM (mkP rs)).routes (UM (mkP rs)).routes.length,stQ w.step:=wkN_q (fun x hx=>(hN2 x hx).1) _;have l1:(mkP rs).routes.length≤1000000000:=by show(ZQ 0 (XI rs 3)).length≤_;omega
 have l2:(UM (mkP rs)).routes.length≤1000000000:=by show(ZQ 0 (ZQ 0 (XI rs 3))).length≤_;omega
 have h25:=walk9 (mkP rs) hne2 hsz2 hw hq (by show JFQ≠[];simp[JFQ]) (by show JCS≠[];simp[JCS]) (by show JDk≠[];simp[JDk]) l1 (by show JCS.length≤_;decide) (by show JDk.length≤_;decide);have hP:PB (UM (mkP rs)):=⟨by show JFQ.length≤_;decide,by show JCS.length≤_;decide,by show JDk.length≤_;decide,by show JFQ≠[];simp[JFQ],by show JCS≠[];simp[JCS],by show JDk≠[];simp[JDk]⟩;obtain⟨q,hqe,hB⟩:=JRk hP hne3 hw hq l2 (by show JCS.length≤_;decide) (by show JDk.length≤_;decide);rw[hqe]at h25;exact⟨q,hB,fun ch ev cs hcs=>walk4 rs h ch ev hsz cs hcs q h25 hB⟩
theorem Uy{α:Type}{eq:α→α→Bool}{xs:List α}(h:∀x∈xs,eq x x=true):eqF eq xs xs=true:=
 (Jn rfl).2 fun j h1 _=>h _ (Vk h1)
theorem JP5{f:Typ→Typ→Bool}(hf:∀t,f t t=true)(x:TFl):eqG f x x=true:=by
 unfold eqG;rw[hf,Uy (fun v _=>by rw[(JCn v v).2 rfl];rfl)];simp
theorem JDF:∀(k:Nat) (t:Typ),JIo k t t=true
 |0,_=>rfl
 |k+1,t=>by
  rw[JIo];unfold JRo;rw[Uy (fun(a:Str) _=>by simp),Uy (fun a _=>JDF k a),Uy (fun a _=>JP5 (JDF k) a)];simp
theorem JDG(t:Typ):JCl t t=true:=JDF _ t
mutual
theorem JFJ:∀(a:Exp),eqE a a=true
 |.mk o i t v l=>by
  have h1:=JGG l;simp only[eqE,Exp.op,Exp.int,Exp.text,Exp.value,Exp.args,h1,Bool.and_true];rw[Uy (fun v _=>by rw[(JCn v v).2 rfl];rfl)];simp
theorem JGG:∀(l:List Exp),JFY l l=true
 |[]=>by simp[JFY]
 |x::r=>by simp only[JFY,JFJ x,JGG r,Bool.and_true]
end
theorem JIq(l:List Rule):eqM l l=true:=Uy fun r _=>by unfold eqR;rw[JFJ];simp
theorem JIr(l:List Int):eqI l l=true:=Uy fun r _=>by simp
theorem JMK(n:Nd):JBN n n=true:=by
 unfold JBN;rw[JDG,Uy (fun t _=>JDG t),Uy (fun e _=>JFJ e),JIq,JIr,Uy (fun k _=>by unfold eqK;rw[JIq];simp)];simp
theorem JML(q:Pn):JDq q q=true:=by
 unfold JDq;rw[Uy (fun c _=>by unfold eqC;rw[JDG];simp),Uy (fun e _=>by unfold JFX;rw[JIr];simp),Uy (fun x _=>by unfold eqX;simp),Uy (fun n _=>JMK n)];simp
theorem walk3(rs:List (List S3))(h:JG1 rs)(ch:Int)(ev:List Dat)(cs:List Cg)(hcs:∀c∈cs,JIk c)(ds:List Cg)(hds:∀c∈ds,JIk c):
  PT 3 [ZP rs ch ev,.list 4 (cs.map Zx),.list 4 (ds.map Zx)] (.d (.bool true)):=by
 obtain⟨q0,hB,h7⟩:=con4 rs h;refine ok3.pc ?_;have c1:=(h7 ch ev cs hcs).call trivial;have c2:=(h7 ch ev ds hds).call trivial;generalize chgP q0 cs=p at*;generalize chgP q0 ds=q at*;have cA:=(JTD p q).call trivial;have cB:=(walk7 p q).call trivial;have cC:=(JTD p p).call trivial;have cK:=walk5.call trivial;rw[JML]at cC;generalize JDq p q=R at*;simp only[Ug,ZP,Va,Vb]at c1 c2 cA cB cC⊢;simp only[go_sem,ir3,Vv,Vc,simprocAttr];refine JG rfl c1 trivial ?_;simp only[go_sem,Vv,Vc,simprocAttr];refine JG rfl c2 trivial ?_;simp only[go_sem,Vv,Vc,simprocAttr];refine⟨dC,?_⟩;refine JG rfl cK trivial ?_;simp only[go_sem,Vv,Vc,simprocAttr];refine⟨true,[(3,.box [.d (.list 1 (rs.map fun l=>.list 3 (l.map JAG))),.d (.int .u8 ch),.d (.list 6 ev)]),(7,.box [.d (.int .i64 p.version),.d (.list 9 (p.schemas.map UB)),.d (.list 7 (p.endpoints.map Jp)),.d (.list 4 (p.services.map UR)),.d (.list 20 (p.nodes.map Uq))]),(8,.box [.d (.int .i64 q.version),.d (.list 9 (q.schemas.map UB)),.d (.list 7 (q.endpoints.map Jp)),.d (.list 4 (q.services.map UR)),.d (.list 20 (q.nodes.map Uq))])],
  [([7],[]),([8],[]),([],[]),([7],[]),([8],[]),([],[]),([],[])],rfl,?_,fun _=>rfl,?_⟩
 ·refine JG rfl cA trivial ?_;simp only[go_sem,Vv,Vc,simprocAttr];refine JG rfl cB trivial ?_;simp only[go_sem,Vv,Vc,simprocAttr]
 simp only[go_sem,Vv,Vc,simprocAttr];refine⟨true,[(3,.box [.d (.list 1 (rs.map fun l=>.list 3 (l.map JAG))),.d (.int .u8 ch),.d (.list 6 ev)]),(7,.box [.d (.int .i64 p.version),.d (.list 9 (p.schemas.map UB)),.d (.list 7 (p.endpoints.map Jp)),.d (.list 4 (p.services.map UR)),.d (.list 20 (p.nodes.map Uq))]),(8,.box [.d (.int .i64 q.version),.d (.list 9 (q.schemas.map UB)),.d (.list 7 (q.endpoints.map Jp)),.d (.list 4 (q.services.map UR)),.d (.list 20 (q.nodes.map Uq))])],
  [([7],[]),([7],[]),([],[])],rfl,?_,fun _=>rfl,dC,rfl⟩
 intro _;refine JG rfl cC trivial ?_;simp only[go_sem,Vv,Vc,simprocAttr]
end Go.Proofs
namespace Go.Proofs.YteadlnapgiochaaGreatDoor
open Go Go.Proofs Av Go.ChangeShapes Go.WideShapes Go.ChangeAt Go.RowKit
theorem JMM(H:Type)(enc:TypeId×Value→H)(W:World)(base:Nat)(args:Array Value)(ds gs:List (DataW H))(before:List MemPlace)
  (hval:∀(j:Nat) t v,Tryz.f3.params[j]? =some t→args[j]? =some v→Value.okWide Tryz.prog W .any base t v)
  (hW:DataW.Whole enc Tryz.prog Tryz.f3.params.toList Rows.compileEqualsSpec.vars false W args.toList ds gs before)(hk:Rows.uptoSmall H (ds++gs)=true)(hL:laidMetH Tryz.prog Rows.compileEqualsUptoRow.laid W):
  Calls Tryz.prog 3 args W fun e W'=>∃v,e=.returned v∧Rows.compileEqualsSpec.post enc Tryz.prog Tryz.f3 false true false false W args v W':=by
 have hW':=hW;have hk':Rows.uptoBulkAll (ds++gs)≤1048576:=of_decide_eq_true hk;rw[JIn]at hk';obtain⟨p,q,hA0,hV,rfl,hfz,hnd⟩:=hW;have hA:DataW.TrodAll enc Tryz.prog W 0 (fun _=>true) true Tryz.f3.params.toList args.toList ds p:=hA0;rw[Tryz.params3]at hA hval;obtain⟨v0,vs0,d0,ds0,p0,q0,hargs0,rfl,rfl,h0,r0⟩:=trodAll_cons hA;obtain⟨v1,vs1,d1,ds1,p1,q1,hargs1,rfl,rfl,h1,r1⟩:=trodAll_cons r0;obtain⟨v2,vs2,d2,ds2,p2,q2,hargs2,rfl,rfl,h2,r2⟩:=trodAll_cons r1;obtain⟨rfl,rfl,rfl⟩:=trodAll_nil r2;subst hargs1 hargs2;obtain rfl:args=#[v0,v1,v2]:=by cases args;simp_all
 obtain⟨rfl,rfl⟩:=trodVars_none hV;simp only[Rows.uptoBulkAll]at hk';obtain⟨rs0,ch0,ev0,ok0,r0⟩:=JJx (hval 0 25 v0 rfl rfl) h0 oM;obtain⟨cs1,ok1,r1⟩:=JGD (hval 1 26 v1 rfl rfl) h1 oM;obtain⟨cs2,ok2,r2⟩:=JGD (hval 2 26 v2 rfl rfl) h2 oM;refine(JFW (walk3 rs0 ok0 ch0 ev0 cs1 ok1 cs2 ok2) (vs:=#[v0,v1,v2]) (globs hL) rfl ?_).mono ?_
 ·intro i d v hd hv
  match i,hd,hv with
  |0,hd,hv=>cases hd;cases hv;exact r0
  |1,hd,hv=>cases hd;cases hv;exact r1
  |2,hd,hv=>cases hd;cases hv;exact r2
 ·rintro e W' ⟨rfl,hbel⟩;have hlt:∀x∈p0++(p1++(p2++[])),x.block<W.heap.size:=fun x hx=>by simpa using hW'.lt x (sX hx)
  refine⟨.bool true,rfl,[d0,d1,d2],[],_,[],p0++(p1++(p2++[])),[],hW',?_,?_,?_,hbel.frame _,fun h=>by cases h⟩
  ·exact trodAll_mk1 (shut_bool kR _)
  ·have a0:=Below.trod laidOut kR (of_decide_eq_true kR) h0 hbel (fun x hx=>hlt x (by simp[hx]));have a1:=Below.trod laidOut kR (of_decide_eq_true kR) h1 hbel (fun x hx=>hlt x (by simp[hx]));have a2:=Below.trod laidOut kR (of_decide_eq_true kR) h2 hbel (fun x hx=>hlt x (by simp[hx]));show DataW.TrodAll enc Tryz.prog W' 0 _ true Tryz.f3.params.toList [v0,v1,v2] [d0,d1,d2] _;rw[Tryz.params3];exact trodAll_cons_mk a0 (trodAll_cons_mk a1 (trodAll_cons_mk a2 trodAll_mk0))
  ·rfl
end Go.Proofs.YteadlnapgiochaaGreatDoor
