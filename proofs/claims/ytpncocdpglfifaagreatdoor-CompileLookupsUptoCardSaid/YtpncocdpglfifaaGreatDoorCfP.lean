/- Part P of a proof. -/
import Derived.Test.YtpncocdpglfifaaGreatDoorCfN
import Derived.Test.YtpncocdpglfifaaGreatDoorCfO
import Derived.Test.YtpncocdpglfifaaGreatDoorCfC
import Derived.Test.YtpncocdpglfifaaGreatDoorCfA
import Derived.Test.YtpncocdpglfifaaGreatDoorCfL
import Derived.Test.YtpncocdpglfifaaGreatDoorCfM
import Derived.ChangeArms
import Derived.DataReads
import Derived.Test.YtpncocdpglfifaaGreatDoorRows
import Derived.ChangeAt
import Derived.RowKit
set_option linter.unusedVariables false
set_option linter.unusedSimpArgs false
set_option linter.unusedSectionVars false
set_option linter.constructorNameAsVariable false
set_option linter.unnecessarySimpa false
set_option maxRecDepth 10000
namespace Go.Proofs
open Go Av
def rOk(x:Rou):Prop:=qSs x.steps∧J6 x.steps≤100
theorem JQx{rs:List (List S3)}(h:JGc rs)(k:Nat):∀x∈XE rs k,rOk x:=by
 intro x hx;obtain⟨i,-,hi⟩:=List.mem_flatMap.1 hx;unfold JH9 at hi;split at hi
 ·rw[List.mem_singleton.1 hi];exact JPE (lsI rs i) 0 [] ZF ⟨0,0,0⟩ (JOu h i) trivial (by simp[J6]) oM
 ·cases hi
theorem JGq:∀(l:List Rou) (i:Int),(∀x∈l,rOk x)→∀x∈ZL i l,rOk x
 |[],_,_,x,h=>by cases h
 |y::q,i,hl,x,h=>by
  rcases VA.1 h with rfl|h
  ·have:=hl y Vh;exact⟨JJN i y.steps [] 0 this.1,by show J6 (Yo i [] 0 y.steps)≤100;rw[JGo];exact this.2⟩
  ·exact JGq q (i+1) (fun z hz=>hl z (Vn _ hz)) x h
theorem JKQ:∀l:List Rou,(∀x∈l,rOk x)→XN l≤100*l.length
 |[],_=>Nat.le_refl _
 |x::r,h=>by
  have h1:=(h x Vh).2;have h2:=JKQ r fun y hy=>h y (Vn _ hy)
  simp only[XN,Vf];omega
def JQy(q:Pn)(cs:List Cg):Pn:={q with nodes:=((cs.take 3).foldl Yb (q.nodes.map JFE)).map JO4}
theorem con4(rs:List (List S3))(h:JGc rs):∃q:Pn,PnB q∧q.endpoints=JBE∧∀(ch:Int) (ev:List Dat) (cs:List Cg),(∀c∈cs,JIE c)→PT 4 [ZK rs ch ev,.list 4 (cs.map Ya)] (.d (J8 (JQy q cs))):=by
 have hK:=JQx h 3;have hKl:=JEv rs 3;have hne:XE rs 3≠[]:=by
  rw[Xr,Xr,Xr];simp[XE,JH9]
 have hsz:nmP (JEh (XE rs 3)):=fun x hx=>by have:=(hK x hx).2;omega
 have hN:=JGq (XE rs 3) 0 hK;have hNl:=ZJ (XE rs 3) 0;have hsz2:nmP (mkP rs):=fun x hx=>by have:=(hN x hx).2;omega
 have hN2:=JGq (ZL 0 (XE rs 3)) 0 hN;have hNl2:=ZJ (ZL 0 (XE rs 3)) 0;have hne2:(mkP rs).routes≠[]:=by
  intro e;have e2:(ZL 0 (XE rs 3)).length=0:=by rw[show ZL 0 (XE rs 3)=[]from e];rfl
  exact hne (List.eq_nil_of_length_eq_zero oM)
 have hne3:(UJ (mkP rs)).routes≠[]:=by
  intro e;have e2:(ZL 0 (ZL 0 (XE rs 3))).length=0:=by rw[show ZL 0 (ZL 0 (XE rs 3))=[]from e];rfl
  exact hne (List.eq_nil_of_length_eq_zero oM)
 have hw:XN (UJ (mkP rs)).routes≤1000000000:=by
  have:=JKQ _ hN2;show XN (ZL 0 (ZL 0 (XE rs 3)))≤_;omega
 have hq:∀w∈wkN (UJ (mkP rs)).routes (UJ (mkP rs)).routes.length,stQ w.step:=wkN_q (fun x hx=>(hN2 x hx).1) _;have l1:(mkP rs).routes.length≤1000000000:=by show(ZL 0 (XE rs 3)).length≤_;omega
 have l2:(UJ (mkP rs)).routes.length≤1000000000:=by show(ZL 0 (ZL 0 (XE rs 3))).length≤_;omega
 have h25:=walk15 (mkP rs) hne2 hsz2 hw hq (by show JE7≠[];simp[JE7]) (by show JBE≠[];simp[JBE]) (by show JDR≠[];simp[JDR]) l1 (by show JBE.length≤_;decide) (by show JDR.length≤_;decide);have hP:PB (UJ (mkP rs)):=⟨by show JE7.length≤_;decide,by show JBE.length≤_;decide,by show JDR.length≤_;decide,by show JE7≠[];simp[JE7],by show JBE≠[];simp[JBE],by show JDR≠[];simp[JDR]⟩;obtain⟨q,hqe,hB,hep⟩:=JQp hP hne3 hw hq l2 (by show JBE.length≤_;decide) (by show JDR.length≤_;decide);rw[hqe]at h25;exact⟨q,hB,hep,fun ch ev cs hcs=>walk4 rs h ch ev hsz cs hcs q h25 hB⟩
theorem JKR{t:Str}:∀{l:List Epd} {e:Epd},epL t l=some e→e∈l
 |[],_,h=>by cases h
 |x::r,e,h=>by
  unfold epL at h;split at h
  ·cases h;exact Vh
  ·exact Vn _ (JKR h)
set_option maxHeartbeats 2000000 in
theorem walk3(rs:List (List S3))(h:JGc rs)(ch:Int)(ev:List Dat)(cs:List Cg)(hcs:∀c∈cs,JIE c)(x:Cg):
  PT 3 [ZK rs ch ev,.list 4 (cs.map Ya),Ya x] (.d (.bool true)):=by
 obtain⟨q0,hB,hep,h7⟩:=con4 rs h;refine ok3.pc ?_;have c1:=(h7 ch ev cs hcs).call trivial;have hnm:∀e∈(JQy q0 cs).endpoints,e.name≠[]:=by
  intro e he;rw[show(JQy q0 cs).endpoints=JBE from hep]at he
  revert e
  decide
 generalize JQy q0 cs=q at*;clear h7 hB hep q0;have hname:=Uv x.text;generalize hnn:JQq x.text=name at*;have cA:=(walk6 q name).call (by simp[Ug]);have cB:=(walk7 q name).call (by simp[Ug]);have cC:=(walk8 q name).call (by simp[Ug]);have cD:=(walk9 q name).call (by simp[Ug]);have f0:=JN.JQ3 (ds:=[.int .i64 0]) (JKM q name 0) rfl rfl 7 8 dC;simp only[J8,Dat.cells,Va,Vb,List.cons_append,List.nil_append]at f0;have f1:=JN.JQ3 (ds:=[.int .i64 21]) (JKM q name 21) rfl rfl 7 8 dC;simp only[J8,Dat.cells,Va,Vb,List.cons_append,List.nil_append]at f1;have f2:=JN.JQ3 (ds:=[.int .i64 22]) (JKM q name 22) rfl rfl 7 8 dC;simp only[J8,Dat.cells,Va,Vb,List.cons_append,List.nil_append]at f2;have f3:=JN.JQ3 (ds:=[.int .i64 23]) (JKM q name 23) rfl rfl 7 8 dC;simp only[J8,Dat.cells,Va,Vb,List.cons_append,List.nil_append]at f3;have cK:=JSY.call trivial;have cE:=(walk11 q x.number).call (by simp[Ug]);have cS:=(walk12 q x.number).call (by simp[Ug]);simp only[J8,ZK,Ya,Jo,UB,Va,Vb]at c1 cA cB cC cD cE cS⊢;simp only[go_sem,ir3,Vv,Vc,Nat.reduceAdd,Nat.reduceEqDiff,Nat.reduceBEq,Nat.reduceLeDiff,reduceCtorEq,↓reduceIte];refine wn c1 ?_;simp only[go_sem,hname,Vv,Vc,Nat.reduceAdd,Nat.reduceEqDiff,Nat.reduceBEq,Nat.reduceLeDiff,reduceCtorEq,↓reduceIte];refine⟨⟨oM,by split<;>omega,by split<;>omega⟩,?_⟩;refine wn cA ?_;simp only[go_sem,Vv,Vc,Nat.reduceAdd,Nat.reduceEqDiff,Nat.reduceBEq,Nat.reduceLeDiff,reduceCtorEq,↓reduceIte];refine wn cB ?_;simp only[go_sem,Vv,Vc,Nat.reduceAdd,Nat.reduceEqDiff,Nat.reduceBEq,Nat.reduceLeDiff,reduceCtorEq,↓reduceIte];refine wn cC ?_;simp only[go_sem,Vv,Vc,Nat.reduceAdd,Nat.reduceEqDiff,Nat.reduceBEq,Nat.reduceLeDiff,reduceCtorEq,↓reduceIte];refine wn cD ?_;simp only[go_sem,Vv,Vc,Nat.reduceAdd,Nat.reduceEqDiff,Nat.reduceBEq,Nat.reduceLeDiff,reduceCtorEq,↓reduceIte];refine wn f0 ?_;simp only[go_sem,Vv,Vc,Nat.reduceAdd,Nat.reduceEqDiff,Nat.reduceBEq,Nat.reduceLeDiff,reduceCtorEq,↓reduceIte];refine wn f1 ?_;simp only[go_sem,Vv,Vc,Nat.reduceAdd,Nat.reduceEqDiff,Nat.reduceBEq,Nat.reduceLeDiff,reduceCtorEq,↓reduceIte];refine wn f2 ?_;simp only[go_sem,Vv,Vc,Nat.reduceAdd,Nat.reduceEqDiff,Nat.reduceBEq,Nat.reduceLeDiff,reduceCtorEq,↓reduceIte];refine wn f3 ?_;simp only[go_sem,Vv,Vc,Nat.reduceAdd,Nat.reduceEqDiff,Nat.reduceBEq,Nat.reduceLeDiff,reduceCtorEq,↓reduceIte];have hni:∀n:Int,(n !=n)=false:=by intro n;simp
 have hnS:∀s:Str,(s !=s)=false:=by intro s;simp
 have hbb:∀b:Bool,(b !=b)=false:=by intro b;cases b<;>rfl
 refine wn cK ?_;simp only[go_sem,Vr,Vu,hni,hbb,Vv,Vc,Nat.reduceAdd,Nat.reduceEqDiff,Nat.reduceBEq,Nat.reduceLeDiff,reduceCtorEq,↓reduceIte];cases hc:(decide (x.number<0)||decide (x.number≥(q.nodes.length:Int)))
 ·simp only[Bool.or_eq_false_iff,decide_eq_false_iff_not]at hc;have hm:x.number.toNat<q.nodes.length:=oM;have hc2:(decide (x.number<0)||decide (x.number≥(q.nodes.length:Int)))=false:=sO;have hx:=JU XO hm;have hE:epR q x.number=if q.nodes[x.number.toNat].kind !=21&&q.nodes[x.number.toNat].kind !=22 then none else epL q.nodes[x.number.toNat].text q.endpoints:=by
   unfold epR;rw[if_neg (nF hc2),Vl hm]
  have hS:scR q x.number=if decide (q.nodes[x.number.toNat].schema<0)||decide (q.nodes[x.number.toNat].schema≥(q.schemas.length:Int))then none else q.schemas[q.nodes[x.number.toNat].schema.toNat]? :=by
   unfold scR;rw[if_neg (nF hc2),Vl hm]
  generalize q.nodes[x.number.toNat]=tn at*;simp only[XO]at hx;have c13:=(walk13 q tn.text).call trivial;simp only[J8,Jo]at c13;generalize hWW:(epL tn.text q.endpoints).getD zEp=W at*;generalize hEE:epR q x.number=E at*;generalize hSS:scR q x.number=S at*;refine wn cE ?_;simp only[go_sem,Vv,Vc,Nat.reduceAdd,Nat.reduceEqDiff,Nat.reduceBEq,Nat.reduceLeDiff,reduceCtorEq,↓reduceIte];refine wn cS ?_;simp only[go_sem,Vv,Vc,Nat.reduceAdd,Nat.reduceEqDiff,Nat.reduceBEq,Nat.reduceLeDiff,reduceCtorEq,↓reduceIte];refine sq (decide (x.number≥(q.nodes.length:Int))) ?_ ?_
  ·simp only[go_sem,Vv,Vc,Nat.reduceAdd,Nat.reduceEqDiff,Nat.reduceBEq,Nat.reduceLeDiff,reduceCtorEq,↓reduceIte]
  simp only[go_sem,hc2,hx,Vu,Vv,Vc,Nat.reduceAdd,Nat.reduceEqDiff,Nat.reduceBEq,Nat.reduceLeDiff,reduceCtorEq,↓reduceIte];refine⟨⟨oM,oM⟩,?_⟩;refine wn c13 ?_;simp only[go_sem,Vv,Vc,Nat.reduceAdd,Nat.reduceEqDiff,Nat.reduceBEq,Nat.reduceLeDiff,reduceCtorEq,↓reduceIte];refine sq (tn.kind !=22) ?_ ?_
  ·simp only[go_sem,Vv,Vc,Nat.reduceAdd,Nat.reduceEqDiff,Nat.reduceBEq,Nat.reduceLeDiff,reduceCtorEq,↓reduceIte]
  cases hk:(tn.kind !=21&&tn.kind !=22)
  ·rw[hk,if_neg Bool.false_ne_true]at hE;rw[←hE]at hWW;cases hE2:E with
   |none=>
    rw[hE2,Option.getD_none]at hWW;subst hWW;subst hE2;simp only[go_sem,hk,Vp,Option.isSome_some,Option.getD_none,Option.isSome_none,zEp,Vr,Vs,beq_self_eq_true,hni,hnS,hbb,Vu,Vv,Vc,Nat.reduceAdd,Nat.reduceEqDiff,Nat.reduceBEq,Nat.reduceLeDiff,reduceCtorEq,↓reduceIte];refine sq (decide (tn.schema≥(q.schemas.length:Int))) ?_ ?_
    ·simp only[go_sem,Vv,Vc,Nat.reduceAdd,Nat.reduceEqDiff,Nat.reduceBEq,Nat.reduceLeDiff,reduceCtorEq,↓reduceIte]
    cases hs:(decide (tn.schema<0)||decide (tn.schema≥(q.schemas.length:Int)))
    ·rw[hs,if_neg Bool.false_ne_true]at hS;have hs':=hs;simp only[Bool.or_eq_false_iff,decide_eq_false_iff_not]at hs';have hsl:tn.schema.toNat<q.schemas.length:=oM;have hy:=JU UB hsl;rw[Vl hsl]at hS;generalize q.schemas[tn.schema.toNat]=sc at*;simp only[UB]at hy;subst hS;simp only[go_sem,hs,hy,Vp,Option.isSome_some,Option.getD_none,Option.isSome_none,zEp,Vr,Vs,beq_self_eq_true,hni,hnS,hbb,Vu,Vv,Vc,Nat.reduceAdd,Nat.reduceEqDiff,Nat.reduceBEq,Nat.reduceLeDiff,reduceCtorEq,↓reduceIte];exact⟨⟨oM,oM⟩,dC,oM,oM⟩
    ·rw[hs,if_pos rfl]at hS;subst hS;simp only[go_sem,hs,zC,Vp,Option.isSome_some,Option.getD_none,Option.isSome_none,zEp,Vr,Vs,beq_self_eq_true,hni,hnS,hbb,Vu,Vv,Vc,Nat.reduceAdd,Nat.reduceEqDiff,Nat.reduceBEq,Nat.reduceLeDiff,reduceCtorEq,↓reduceIte]
   |some e=>
    have hne:(e.name==[])=false:=by
     have:=hnm e (JKR (hE.symm.trans hE2));simpa using this
    rw[hE2,Vp]at hWW;subst hWW;subst hE2;simp only[go_sem,hk,hne,Vp,Option.isSome_some,Option.getD_none,Option.isSome_none,zEp,Vr,Vs,beq_self_eq_true,hni,hnS,hbb,Vu,Vv,Vc,Nat.reduceAdd,Nat.reduceEqDiff,Nat.reduceBEq,Nat.reduceLeDiff,reduceCtorEq,↓reduceIte];refine sq (decide (tn.schema≥(q.schemas.length:Int))) ?_ ?_
    ·simp only[go_sem,Vv,Vc,Nat.reduceAdd,Nat.reduceEqDiff,Nat.reduceBEq,Nat.reduceLeDiff,reduceCtorEq,↓reduceIte]
    cases hs:(decide (tn.schema<0)||decide (tn.schema≥(q.schemas.length:Int)))
    ·rw[hs,if_neg Bool.false_ne_true]at hS;have hs':=hs;simp only[Bool.or_eq_false_iff,decide_eq_false_iff_not]at hs';have hsl:tn.schema.toNat<q.schemas.length:=oM;have hy:=JU UB hsl;rw[Vl hsl]at hS;generalize q.schemas[tn.schema.toNat]=sc at*;simp only[UB]at hy;subst hS;simp only[go_sem,hs,hy,Vp,Option.isSome_some,Option.getD_none,Option.isSome_none,zEp,Vr,Vs,beq_self_eq_true,hni,hnS,hbb,Vu,Vv,Vc,Nat.reduceAdd,Nat.reduceEqDiff,Nat.reduceBEq,Nat.reduceLeDiff,reduceCtorEq,↓reduceIte];exact⟨⟨oM,oM⟩,dC,oM,oM⟩
    ·rw[hs,if_pos rfl]at hS;subst hS;simp only[go_sem,hs,zC,Vp,Option.isSome_some,Option.getD_none,Option.isSome_none,zEp,Vr,Vs,beq_self_eq_true,hni,hnS,hbb,Vu,Vv,Vc,Nat.reduceAdd,Nat.reduceEqDiff,Nat.reduceBEq,Nat.reduceLeDiff,reduceCtorEq,↓reduceIte]
  ·rw[hk,if_pos rfl]at hE;subst hE;simp only[go_sem,hk,Vp,Option.isSome_some,Option.getD_none,Option.isSome_none,zEp,Vr,Vs,beq_self_eq_true,hni,hnS,hbb,Vu,Vv,Vc,Nat.reduceAdd,Nat.reduceEqDiff,Nat.reduceBEq,Nat.reduceLeDiff,reduceCtorEq,↓reduceIte];refine sq (decide (tn.schema≥(q.schemas.length:Int))) ?_ ?_
   ·simp only[go_sem,Vv,Vc,Nat.reduceAdd,Nat.reduceEqDiff,Nat.reduceBEq,Nat.reduceLeDiff,reduceCtorEq,↓reduceIte]
   cases hs:(decide (tn.schema<0)||decide (tn.schema≥(q.schemas.length:Int)))
   ·rw[hs,if_neg Bool.false_ne_true]at hS;have hs':=hs;simp only[Bool.or_eq_false_iff,decide_eq_false_iff_not]at hs';have hsl:tn.schema.toNat<q.schemas.length:=oM;have hy:=JU UB hsl;rw[Vl hsl]at hS;generalize q.schemas[tn.schema.toNat]=sc at*;simp only[UB]at hy;subst hS;simp only[go_sem,hs,hy,Vp,Option.isSome_some,Option.getD_none,Option.isSome_none,zEp,Vr,Vs,beq_self_eq_true,hni,hnS,hbb,Vu,Vv,Vc,Nat.reduceAdd,Nat.reduceEqDiff,Nat.reduceBEq,Nat.reduceLeDiff,reduceCtorEq,↓reduceIte];exact⟨⟨oM,oM⟩,dC,oM,oM⟩
   ·rw[hs,if_pos rfl]at hS;subst hS;simp only[go_sem,hs,zC,Vp,Option.isSome_some,Option.getD_none,Option.isSome_none,zEp,Vr,Vs,beq_self_eq_true,hni,hnS,hbb,Vu,Vv,Vc,Nat.reduceAdd,Nat.reduceEqDiff,Nat.reduceBEq,Nat.reduceLeDiff,reduceCtorEq,↓reduceIte]
 ·have hE:epR q x.number=none:=by unfold epR;rw[if_pos hc]
  have hS:scR q x.number=none:=by unfold scR;rw[if_pos hc]
  rw[hE]at cE;rw[hS]at cS;refine wn cE ?_;simp only[go_sem,Vv,Vc,Nat.reduceAdd,Nat.reduceEqDiff,Nat.reduceBEq,Nat.reduceLeDiff,reduceCtorEq,↓reduceIte];refine wn cS ?_;simp only[go_sem,Vv,Vc,Nat.reduceAdd,Nat.reduceEqDiff,Nat.reduceBEq,Nat.reduceLeDiff,reduceCtorEq,↓reduceIte];refine sq (decide (x.number≥(q.nodes.length:Int))) ?_ ?_
  ·simp only[go_sem,Vv,Vc,Nat.reduceAdd,Nat.reduceEqDiff,Nat.reduceBEq,Nat.reduceLeDiff,reduceCtorEq,↓reduceIte]
  simp only[go_sem,hc,Option.getD_none,Option.isSome_none,zEp,zC,Vs,beq_self_eq_true,Bool.and_true,Vv,Vc,Nat.reduceAdd,Nat.reduceEqDiff,Nat.reduceBEq,Nat.reduceLeDiff,reduceCtorEq,↓reduceIte]
end Go.Proofs
namespace Av
open Go
open Go.Proofs.YtpncocdpglfifaaGreatDoor.Rows (uptoBulk uptoBulkAll)
variable {A:Nat→Prop}{fuel:Nat}{cs:List Value}
def CR(A:Nat→Prop)(w:World)(ds:List Dat)(cs:List Value):Prop:=
 ds.length=cs.length∧(∀v∈cs,v.oneCell'=true)∧∀(i:Nat) c v,ds[i]? =some c→cs[i]? =some v→Rep A w c v
theorem CR.nil{w:World}:CR A w [] []:=⟨rfl,sP,sP⟩
theorem CR.one{w:World}{d:Dat}{v:Value}(h1:v.oneCell'=true)(h:Rep A w d v):CR A w [d] [v]:=by
 refine⟨rfl,by simpa using h1,?_⟩;intro i c u hc hu;cases i with
 |zero=>simp at hc hu;subst hc;subst hu;exact h
 |succ i=>simp at hc
theorem CR.append{w:World}{d1 d2:List Dat}{c1 c2:List Value}(h1:CR A w d1 c1)(h2:CR A w d2 c2):CR A w (d1++d2) (c1++c2):=by
 obtain⟨a1,a2,a3⟩:=h1;obtain⟨b1,b2,b3⟩:=h2;refine⟨by simp[a1,b1],?_,?_⟩
 ·intro v hv;rcases List.mem_append.1 hv with h|h
  ·exact a2 v h
  ·exact b2 v h
 ·intro i c v hc hv;by_cases hi:i<d1.length
  ·rw[Vz hi]at hc;rw[Vz oM]at hv;exact a3 i c v hc hv
  ·rw[Vy oM]at hc;rw[Vy oM,←a1]at hv;exact b3 _ c v hc hv
theorem JM0{H:Type}(d:DataW H):1≤uptoBulk d:=by
 cases d with
 |lit l=>cases l<;>simp[uptoBulk]
 |_=>simp[uptoBulk]
theorem JK4{H:Type}{d:DataW H}{l:List (DataW H)}(h:d∈l):uptoBulk d≤uptoBulkAll l:=by
 induction l with
 |nil=>cases h
 |cons x r ih=>
  simp only[uptoBulkAll];cases VA.1 h with
  |inl e=>subst e;omega
  |inr e=>have:=ih e;omega
theorem JHc{H:Type}(l:List (DataW H)):l.length≤uptoBulkAll l:=by
 induction l with
 |nil=>simp[uptoBulkAll]
 |cons x r ih=>have:=JM0 x;simp only[uptoBulkAll,Vf];omega
section
variable {H:Type}{enc:TypeId×Value→H}{P:Program}{w:World}{base:Nat}{spare:Nat→Bool}{held:Bool}
def old(w:World)(b:Nat):Prop:=b<w.heap.size
theorem JGL{t:TypeId}{k:IntKind}{x:DataW H×List MemPlace}(ht:P.underlying t=some (.int k))(h:DataW.trod enc P w base spare held fuel t cs=some x):
  ∃n,CR (old w) w [.int k n] cs:=by
 obtain⟨n,rfl,_,hw⟩:=DataW.trod_int ht h;refine⟨n,.one rfl (.int k n ?_)⟩;simpa[Lit.wf,Vi]using hw
theorem JSQ{t:TypeId}{x:DataW H×List MemPlace}(ht:P.underlying t=some .string)(h:DataW.trod enc P w base spare held fuel t cs=some x)(hb:uptoBulk x.1≤1048576):
  ∃s:List UInt8,s.length≤1048576∧CR (old w) w [.str s] cs:=by
 obtain⟨s,rfl,rfl,_⟩:=DataW.trod_string ht h;simp only[uptoBulk]at hb;have e:(Value.string s)=.string ⟨s.data.toList.toArray⟩:=sP;refine⟨s.data.toList,oM,?_⟩;rw[e];exact .one rfl (.str _ oM)
theorem JK5{a:Addr}{v:Value}(h:w.cell? a=some v):a.spot=none∧a.block<w.heap.size:=by
 unfold World.cell? at h;split at h
 ·rename_i hh;split at h
  ·cases h
  ·rename_i hs;refine⟨by cases e:a.spot<;>simp_all,?_⟩;exact(Array.getElem?_eq_some_iff.1 hh).1
 ·cases h
theorem JB9{a:Addr}(h:a.spot=none)(n:Nat):a.add n=⟨a.block,a.off+n,none⟩:=by
 unfold Addr.add;split
 ·rename_i e;subst e;cases a;simp_all
 ·rfl
theorem JJu{α:Type}{encA:α→Dat}{sz:Nat}(hsz:0<sz)(a:Addr):∀(len:Nat) (E:Nat→List Value) (X:Nat→α),
  (∀i,i<len→w.cells? base (a.add (i*sz)) sz=some (E i)∧CR (old w) w (encA (X i)).cells (E i))→
  ∃vs:List Value,(0<len→a.spot=none∧a.block<w.heap.size)∧vs.length=len*sz∧(∀(i:Nat) v,vs[i]? =some v→w.cell? (a.add i)=some v)∧CR (old w) w (flat ((List.range len).map fun i=>encA (X i))) vs
 |0,_,_,_=>⟨[],sP,sP,sP,by simpa[flat]using CR.nil⟩
 |n+1,E,X,h=>by
  obtain⟨vs,h1,h2,h3,h4⟩:=JJu (encA:=encA) hsz a n E X fun i hi=>h i oM
  obtain⟨g1,g2⟩:=h n oM;obtain⟨_,hlen,hcell⟩:=World.cells?_some g1;have hspot:a.spot=none∧a.block<w.heap.size:=by
   by_cases h0:0<n
   ·exact h1 h0
   ·obtain rfl:n=0:=oM;have:=hcell 0 hsz;rw[Nat.zero_mul]at this;have e1:(a.add 0).add 0=a:=by simp[Addr.add]
    rw[e1]at this;cases e:(E 0)[0]? with
    |none=>rw[List.getElem?_eq_none_iff]at e;omega
    |some v=>rw[e]at this;exact JK5 this
  refine⟨vs++E n,fun _=>hspot,by rw[Vg,h2,hlen,Nat.succ_mul],?_,?_⟩
  ·intro i v hv;by_cases hi:i<vs.length
   ·rw[Vz hi]at hv;exact h3 i v hv
   ·rw[Vy oM]at hv;have hlt:i-vs.length<sz:=by
     have:=(VB.1 hv).1;omega
    have:=hcell _ hlt;rw[hv]at this;rw[←this];congr 1;rw[JB9 hspot.1,JB9 hspot.1,JB9 rfl];have hoff:a.off+i=a.off+n*sz+(i-vs.length):=oM;show(⟨a.block,a.off+i,none⟩:Addr)=⟨a.block,a.off+n*sz+(i-vs.length),none⟩;rw[hoff]
  ·rw[List.range_succ,Vw];have e:flat (List.map (fun i=>encA (X i)) (List.range n)++List.map (fun i=>encA (X i)) [n])=flat (List.map (fun i=>encA (X i)) (List.range n))++(encA (X n)).cells:=by
    simp[flat]
   rw[e];exact h4.append g2
theorem JCA{α:Type}{encA:α→Dat}{ok:α→Prop}{t e:TypeId}{sz:Nat}{x:DataW H×List MemPlace}(ht:P.underlying t=some (.slice e))(hc:P.cellsOf e=sz)(hsz:0<sz)(henc:∀a,(encA a).cells.length=sz)
  (h:DataW.trod enc P w base spare held fuel t cs=some x)(hb:uptoBulk x.1≤1048576)
  (hel:∀n cs' y,n<fuel→DataW.trod enc P w base spare held n e cs'=some y→uptoBulk y.1≤1048576→∃a:α,ok a∧CR (old w) w (encA a).cells cs'):
  ∃xs:List α,xs.length≤1048576∧(∀a∈xs,ok a)∧CR (old w) w [.list sz (xs.map encA)] cs:=by
 rcases DataW.trod_slice ht h with⟨rfl,_⟩|⟨a,len,cap,elems,rest,n,rfl,rfl,rfl,hbase,hl,hm,hlen,hget,_,_⟩
 ·exact⟨[],sP,sP,.one rfl (.emp sz none 0)⟩
 ·rw[hc]at hget;simp only[uptoBulk]at hb;have hlen':len≤1048576:=by
   have:=JHc (elems.map (·.1));rw[Vc,hlen]at this;omega
  have hex:∀i,i<len→∃p:List Value×α,w.cells? base (a.add (i*sz)) sz=some p.1∧ok p.2∧CR (old w) w (encA p.2).cells p.1:=by
   intro i hi;have hg:=hget i hi;rw[Vl oM]at hg;obtain⟨cs',g1,g2⟩:=Option.bind_eq_some_iff.1 hg;have hbi:uptoBulk (elems[i]'oM).1≤1048576:=by
    have:=JK4 (VC.2 ⟨elems[i]'oM,Vk _,rfl⟩:(elems[i]'oM).1∈elems.map (·.1));omega
   obtain⟨y,h1,h2⟩:=hel n cs' _ oM g2 hbi;exact⟨(cs',y),g1,h1,h2⟩
  obtain⟨p0,hp0⟩:∃p:Nat→Option (List Value×α),∀i,i<len→∃q,p i=some q∧w.cells? base (a.add (i*sz)) sz=some q.1∧ok q.2∧CR (old w) w (encA q.2).cells q.1:=by
   classical
   refine⟨fun i=>if hi:i<len then some (Classical.choose (hex i hi))else none,fun i hi=>?_⟩;exact⟨Classical.choose (hex i hi),by simp[hi],Classical.choose_spec (hex i hi)⟩
  by_cases h0:len=0
  ·subst h0;exact⟨[],sP,sP,.one rfl (.emp sz (some a) cap)⟩
  ·obtain⟨q0,hq0,_⟩:=hp0 0 oM;have hq:∀i,i<len→w.cells? base (a.add (i*sz)) sz=some ((p0 i).getD q0).1∧ok ((p0 i).getD q0).2∧CR (old w) w (encA ((p0 i).getD q0).2).cells ((p0 i).getD q0).1:=by
    intro i hi;obtain⟨q,e,hq⟩:=hp0 i hi;rw[e];exact hq
   obtain⟨vs,g1,g2,g3,g4⟩:=JJu (encA:=encA) hsz a len (fun i=>((p0 i).getD q0).1) (fun i=>((p0 i).getD q0).2) fun i hi=>⟨(hq i hi).1,(hq i hi).2.2⟩
   obtain⟨hs,hblk⟩:=g1 oM;refine⟨(List.range len).map fun i=>((p0 i).getD q0).2,by simpa using hlen',?_,?_⟩
   ·intro y hy;obtain⟨i,hi,rfl⟩:=VC.1 hy;exact(hq i (List.mem_range.1 hi)).2.1
   ·rw[List.map_map];have ea:a=⟨a.block,a.off,none⟩:=by cases a;simp_all
    rw[ea];refine .one rfl (.list sz _ a.block a.off len cap vs sP hblk (sX hl) sO g4.2.1 ?_ ?_ g4.1 g4.2.2)
    ·intro d hd;obtain⟨i,_,rfl⟩:=VC.1 hd;exact henc _
    ·intro i v hv;have:=g3 i v hv;rwa[JB9 hs]at this
end
end Av
namespace Go.Proofs
open Go Av
open Go.Proofs.YtpncocdpglfifaaGreatDoor.Rows (uptoBulk uptoBulkAll)
theorem qc3:Tryz.prog.cellsOf 3=1:=kR
theorem qc5:Tryz.prog.cellsOf 5=1:=kR
theorem qc9:Tryz.prog.cellsOf 9=1:=kR
theorem qc22:Tryz.prog.cellsOf 22=1:=kR
theorem qc23:Tryz.prog.cellsOf 23=1:=kR
theorem qc28:Tryz.prog.cellsOf 28=4:=kR
theorem qc135:Tryz.prog.cellsOf 135=1:=kR
theorem JRx:Tryz.prog.cellsOf 197=3:=kR
theorem JO6:Tryz.prog.cellsOf 530=1:=kR
theorem JRy:Tryz.prog.cellsOf 532=6:=kR
theorem qcW:Tryz.prog.cellsOf 25=3:=kR
section
variable {H:Type}{enc:TypeId×Value→H}{w:World}{base:Nat}{spare:Nat→Bool}{held:Bool}
theorem fl9{fs:Array Field}{n:Nat}{cs:List Value}{xs:List (DataW H×List MemPlace)}
  (hf:∀(i:Nat) (f:Field),fs[i]? =some f→DataW.trod enc Tryz.prog w base spare held n f.type ((cs.drop f.offset).take (Tryz.prog.cellsOf f.type))=xs[i]?)
  (i:Nat)(t off:Nat){k:Nat}(hi:(fs[i]?).map (fun f=>(f.type,f.offset))=some (t,off))(hc:Tryz.prog.cellsOf t=k):DataW.trod enc Tryz.prog w base spare held n t ((cs.drop off).take k)=xs[i]? :=by
 cases e:fs[i]? with
 |none=>rw[e]at hi;cases hi
 |some f=>
  rw[e]at hi;simp only[Vj,Vd,Ve]at hi;have:=hf i f e;rw[hi.1,hi.2,hc]at this;exact this
theorem JCV{fuel:Nat}{cs:List Value}{x:DataW H×List MemPlace}(h:DataW.trod enc Tryz.prog w base spare held fuel 5 cs=some x):
  ∃n:Int,0≤n∧n≤255∧CR (old w) w [.int .u8 n] cs:=by
 obtain⟨n,rfl,_,hw⟩:=DataW.trod_int Tryz.underlying5 h;have hw':IntKind.min .u8≤n∧n≤IntKind.max .u8:=by simpa[Lit.wf,Vi]using hw
 have e1:IntKind.u8.min=0:=dC;have e2:IntKind.u8.max=255:=dC;rw[e1,e2]at hw';refine⟨n,hw'.1,hw'.2,.one rfl (.int .u8 n ?_)⟩;simpa[Lit.wf,Vi]using hw
def JO7:Int×Int×Int×Int×Int×Int→Dat:=fun e=>.agg [.int .u8 e.1,.int .u8 e.2.1,.int .u8 e.2.2.1,.int .u16 e.2.2.2.1,.int .u16 e.2.2.2.2.1,.int .u16 e.2.2.2.2.2]
theorem rd_197(fuel:Nat):∀(cs:List Value) (x:DataW H×List MemPlace),DataW.trod enc Tryz.prog w base spare held fuel 197 cs=some x→uptoBulk x.1≤1048576→∃a:S3,JEm a∧CR (old w) w (JAs a).cells cs:=by
 intro csn x hn hbn;obtain⟨xs,n',rfl,rfl,hl,hlen,hf⟩:=DataW.trod_struct Tryz.underlying197 hn;rw[JRx]at hl;have h0:=fl9 hf 0 5 0 rfl qc5;have h1:=fl9 hf 1 5 1 rfl qc5;have h2:=fl9 hf 2 5 2 rfl qc5
 match xs,hlen,csn,hl with
 |[y0,y1,y2],_,[a0,a1,a2],_=>
  simp only[Va,Vb,uptoBulk,uptoBulkAll]at hbn;obtain⟨z0,o0,p0,g0⟩:=JCV (show DataW.trod enc Tryz.prog w base spare held n' 5 [a0]=some y0 from h0);obtain⟨z1,o1,p1,g1⟩:=JCV (show DataW.trod enc Tryz.prog w base spare held n' 5 [a1]=some y1 from h1);obtain⟨z2,o2,p2,g2⟩:=JCV (show DataW.trod enc Tryz.prog w base spare held n' 5 [a2]=some y2 from h2);refine⟨⟨z0,z1,z2⟩,⟨o0,p0,o1,p1,o2,p2⟩,?_⟩;have:=g0.append (g1.append g2);simpa only[JAs,UI,Dat.cells,List.singleton_append,List.cons_append,List.nil_append,List.append_assoc]using this
theorem rd_135(fuel:Nat):∀(cs:List Value) (x:DataW H×List MemPlace),DataW.trod enc Tryz.prog w base spare held fuel 135 cs=some x→uptoBulk x.1≤1048576→∃a:List S3,(∀x∈a,JEm x)∧CR (old w) w [.list 3 (a.map JAs)] cs:=by
 intro csn x hn hbn;obtain⟨z,_,o,g⟩:=JCA (encA:=JAs) (ok:=fun x=>JEm x) Tryz.underlying135 JRx dC (fun _=>rfl) hn hbn (fun m cs' y _ hy hyb=>rd_197 m cs' y hy hyb);exact⟨z,o,g⟩
theorem rd_22(fuel:Nat):∀(cs:List Value) (x:DataW H×List MemPlace),DataW.trod enc Tryz.prog w base spare held fuel 22 cs=some x→uptoBulk x.1≤1048576→∃a:List (List S3),(∀x∈a,∀y∈x,JEm y)∧CR (old w) w [.list 1 (a.map (fun l:List S3=>Dat.list 3 (l.map JAs)))] cs:=by
 intro csn x hn hbn;obtain⟨z,_,o,g⟩:=JCA (encA:=(fun l:List S3=>Dat.list 3 (l.map JAs))) (ok:=fun x=>∀y∈x,JEm y) Tryz.underlying22 qc135 dC (fun _=>rfl) hn hbn (fun m cs' y _ hy hyb=>by
  obtain⟨a,o,g⟩:=rd_135 m cs' y hy hyb;exact⟨a,o,g⟩)
 exact⟨z,o,g⟩
theorem rd_532(fuel:Nat):∀(cs:List Value) (x:DataW H×List MemPlace),DataW.trod enc Tryz.prog w base spare held fuel 532 cs=some x→uptoBulk x.1≤1048576→∃a:(Int×Int×Int×Int×Int×Int),True∧CR (old w) w (JO7 a).cells cs:=by
 intro csn x hn hbn;obtain⟨xs,n',rfl,rfl,hl,hlen,hf⟩:=DataW.trod_struct Tryz.underlying532 hn;rw[JRy]at hl;have h0:=fl9 hf 0 5 0 rfl qc5;have h1:=fl9 hf 1 5 1 rfl qc5;have h2:=fl9 hf 2 5 2 rfl qc5;have h3:=fl9 hf 3 530 3 rfl JO6;have h4:=fl9 hf 4 530 4 rfl JO6;have h5:=fl9 hf 5 530 5 rfl JO6
 match xs,hlen,csn,hl with
 |[y0,y1,y2,y3,y4,y5],_,[a0,a1,a2,a3,a4,a5],_=>
  simp only[Va,Vb,uptoBulk,uptoBulkAll]at hbn;obtain⟨z0,o0,p0,g0⟩:=JCV (show DataW.trod enc Tryz.prog w base spare held n' 5 [a0]=some y0 from h0);obtain⟨z1,o1,p1,g1⟩:=JCV (show DataW.trod enc Tryz.prog w base spare held n' 5 [a1]=some y1 from h1);obtain⟨z2,o2,p2,g2⟩:=JCV (show DataW.trod enc Tryz.prog w base spare held n' 5 [a2]=some y2 from h2);obtain⟨z3,g3⟩:=JGL Tryz.underlying530 (show DataW.trod enc Tryz.prog w base spare held n' 530 [a3]=some y3 from h3);obtain⟨z4,g4⟩:=JGL Tryz.underlying530 (show DataW.trod enc Tryz.prog w base spare held n' 530 [a4]=some y4 from h4);obtain⟨z5,g5⟩:=JGL Tryz.underlying530 (show DataW.trod enc Tryz.prog w base spare held n' 530 [a5]=some y5 from h5);refine⟨⟨z0,z1,z2,z3,z4,z5⟩,trivial,?_⟩;have:=g0.append (g1.append (g2.append (g3.append (g4.append g5))));simpa only[JO7,Dat.cells,List.singleton_append,List.cons_append,List.nil_append,List.append_assoc]using this
theorem rd_23(fuel:Nat):∀(cs:List Value) (x:DataW H×List MemPlace),DataW.trod enc Tryz.prog w base spare held fuel 23 cs=some x→uptoBulk x.1≤1048576→∃a:List (Int×Int×Int×Int×Int×Int),(∀x∈a,True)∧CR (old w) w [.list 6 (a.map JO7)] cs:=by
 intro csn x hn hbn;obtain⟨z,_,o,g⟩:=JCA (encA:=JO7) (ok:=fun x=>True) Tryz.underlying23 JRy dC (fun _=>rfl) hn hbn (fun m cs' y _ hy hyb=>rd_532 m cs' y hy hyb);exact⟨z,o,g⟩
theorem rd_25(fuel:Nat):∀(cs:List Value) (x:DataW H×List MemPlace),DataW.trod enc Tryz.prog w base spare held fuel 25 cs=some x→uptoBulk x.1≤1048576→∃a:(List (List S3)×Int×List Dat),JGc a.1∧CR (old w) w (ZK a.1 a.2.1 a.2.2).cells cs:=by
 intro csn x hn hbn;obtain⟨xs,n',rfl,rfl,hl,hlen,hf⟩:=DataW.trod_struct Tryz.underlying25 hn;rw[qcW]at hl;have h0:=fl9 hf 0 22 0 rfl qc22;have h1:=fl9 hf 1 5 1 rfl qc5;have h2:=fl9 hf 2 23 2 rfl qc23
 match xs,hlen,csn,hl with
 |[y0,y1,y2],_,[a0,a1,a2],_=>
  simp only[Va,Vb,uptoBulk,uptoBulkAll]at hbn;obtain⟨z0,o0,g0⟩:=rd_22 n' _ y0 (show DataW.trod enc Tryz.prog w base spare held n' 22 [a0]=some y0 from h0) oM;obtain⟨z1,o1,p1,g1⟩:=JCV (show DataW.trod enc Tryz.prog w base spare held n' 5 [a1]=some y1 from h1);obtain⟨z2,o2,g2⟩:=rd_23 n' _ y2 (show DataW.trod enc Tryz.prog w base spare held n' 23 [a2]=some y2 from h2) oM;refine⟨⟨z0,z1,z2.map JO7⟩,o0,?_⟩;have:=g0.append (g1.append g2);simpa only[ZK,Dat.cells,List.singleton_append,List.cons_append,List.nil_append,List.append_assoc]using this
theorem JRz(fuel:Nat):∀(cs:List Value) (x:DataW H×List MemPlace),DataW.trod enc Tryz.prog w base spare held fuel 28 cs=some x→uptoBulk x.1≤1048576→∃a:Cg,JIE a∧CR (old w) w (Ya a).cells cs:=by
 intro csn x hn hbn;obtain⟨xs,n',rfl,rfl,hl,hlen,hf⟩:=DataW.trod_struct Tryz.underlying28 hn;rw[qc28]at hl;have h0:=fl9 hf 0 5 0 rfl qc5;have h1:=fl9 hf 1 5 1 rfl qc5;have h2:=fl9 hf 2 3 2 rfl qc3;have h3:=fl9 hf 3 9 3 rfl qc9
 match xs,hlen,csn,hl with
 |[y0,y1,y2,y3],_,[a0,a1,a2,a3],_=>
  simp only[Va,Vb,uptoBulk,uptoBulkAll]at hbn;obtain⟨z0,o0,p0,g0⟩:=JCV (show DataW.trod enc Tryz.prog w base spare held n' 5 [a0]=some y0 from h0);obtain⟨z1,o1,p1,g1⟩:=JCV (show DataW.trod enc Tryz.prog w base spare held n' 5 [a1]=some y1 from h1);obtain⟨z2,g2⟩:=JGL Tryz.underlying3 (show DataW.trod enc Tryz.prog w base spare held n' 3 [a2]=some y2 from h2);obtain⟨z3,_,g3⟩:=JSQ Tryz.underlying9 (show DataW.trod enc Tryz.prog w base spare held n' 9 [a3]=some y3 from h3) oM;refine⟨⟨z0,z1,z2,z3⟩,⟨o0,p0,o1,p1⟩,?_⟩;have:=g0.append (g1.append (g2.append g3));simpa only[Ya,Dat.cells,List.singleton_append,List.cons_append,List.nil_append,List.append_assoc]using this
theorem rd_26(fuel:Nat):∀(cs:List Value) (x:DataW H×List MemPlace),DataW.trod enc Tryz.prog w base spare held fuel 26 cs=some x→uptoBulk x.1≤1048576→∃a:List Cg,(∀x∈a,JIE x)∧CR (old w) w [.list 4 (a.map Ya)] cs:=by
 intro csn x hn hbn;obtain⟨z,_,o,g⟩:=JCA (encA:=Ya) (ok:=fun x=>JIE x) Tryz.underlying26 qc28 dC (fun _=>rfl) hn hbn (fun m cs' y _ hy hyb=>JRz m cs' y hy hyb);exact⟨z,o,g⟩
end
end Go.Proofs
namespace Go.Proofs.YtpncocdpglfifaaGreatDoor
open Go Go.Proofs Av Go.ChangeShapes Go.WideShapes Go.ChangeAt Go.RowKit
section
variable {H:Type}{enc:TypeId×Value→H}{w:World}{r:Reach}{base b0:Nat}{spare:Nat→Bool}{held:Bool}{v:Value}{d:DataW H}{ps:List MemPlace}
theorem JJK(hval:Value.okWide Tryz.prog w r b0 25 v)(hd:DataW.Trod enc Tryz.prog w base spare held 25 v d ps)(hb:Rows.uptoBulk d≤1048576):
  ∃rs ch ev,JGc rs∧Rep (Av.old w) w (ZK rs ch ev) v:=by
 obtain⟨fuel,hf⟩:=hd;obtain⟨m,ho,hc⟩:=rd_25 fuel _ (d,ps) hf hb;refine⟨m.1,m.2.1,m.2.2,ho,?_⟩;unfold Value.okWide at hval;rw[Tryz.underlying25]at hval;obtain⟨cs,rfl,_,_⟩:=hval;obtain⟨h1,h2,h3⟩:=hc;have e:(Value.agg cs).cells=cs:=rfl;rw[e]at h1 h2 h3;have h1':(ZK m.1 m.2.1 m.2.2).cells.length=cs.size:=sX h1;unfold ZK at h1' h3⊢;exact .agg _ _ h1' h2 (fun i c v hc hv=>h3 i c v hc (sX hv))
theorem JLf(hval:Value.okWide Tryz.prog w r b0 26 v)(hd:DataW.Trod enc Tryz.prog w base spare held 26 v d ps)(hb:Rows.uptoBulk d≤1048576):
  ∃cs:List Cg,(∀c∈cs,JIE c)∧Rep (Av.old w) w (.list 4 (cs.map Ya)) v:=by
 obtain⟨fuel,hf⟩:=hd;obtain⟨m,ho,hc⟩:=rd_26 fuel _ (d,ps) hf hb;refine⟨m,ho,?_⟩;unfold Value.okWide at hval;obtain⟨h1,h2,h3⟩:=hc;cases v with
 |slice _ _ _=>exact h3 0 _ _ rfl rfl
 |_=>first|exact h3 0 _ _ rfl rfl|(rw[Tryz.underlying26]at hval;exact hval.elim)|(simp[Tryz.underlying26]at hval)
theorem JO8(hval:Value.okWide Tryz.prog w r b0 28 v)(hd:DataW.Trod enc Tryz.prog w base spare held 28 v d ps)(hb:Rows.uptoBulk d≤1048576):
  ∃c:Cg,JIE c∧Rep (Av.old w) w (Ya c) v:=by
 obtain⟨fuel,hf⟩:=hd;obtain⟨m,ho,hc⟩:=JRz fuel _ (d,ps) hf hb;refine⟨m,ho,?_⟩;unfold Value.okWide at hval;rw[Tryz.underlying28]at hval;obtain⟨cs,rfl,_,_⟩:=hval;obtain⟨h1,h2,h3⟩:=hc;have e:(Value.agg cs).cells=cs:=rfl;rw[e]at h1 h2 h3;have h1':(Ya m).cells.length=cs.size:=sX h1;unfold Ya at h1' h3⊢;exact .agg _ _ h1' h2 (fun i c v hc hv=>h3 i c v hc (sX hv))
end
end Go.Proofs.YtpncocdpglfifaaGreatDoor
