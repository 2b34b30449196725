/- Part P of a proof. -/
import Derived.Test.YteegbpaakjlodaaGreatDoorCbN
import Derived.Test.YteegbpaakjlodaaGreatDoorCbO
import Derived.Test.YteegbpaakjlodaaGreatDoorCbC
import Derived.Test.YteegbpaakjlodaaGreatDoorCbA
set_option linter.unusedVariables false
set_option linter.unusedSimpArgs false
set_option linter.unusedSectionVars false
set_option linter.constructorNameAsVariable false
set_option linter.unnecessarySimpa false
set_option maxRecDepth 10000
namespace Go.Proofs
open Go Av
def rOk(x:Rou):Prop:=qSs x.steps∧J3 x.steps≤100
theorem JQb{rs:List (List S3)}(h:JGT rs)(k:Nat):∀x∈XB rs k,rOk x:=by
 intro x hx;obtain⟨i,-,hi⟩:=List.mem_flatMap.1 hx;unfold JHy at hi;split at hi
 ·rw[List.mem_singleton.1 hi];exact JOx (lsI rs i) 0 [] ZE ⟨0,0,0⟩ (JOi h i) trivial (by simp[J3]) oM
 ·cases hi
theorem JGg:∀(l:List Rou) (i:Int),(∀x∈l,rOk x)→∀x∈ZK i l,rOk x
 |[],_,_,x,h=>by cases h
 |y::q,i,hl,x,h=>by
  rcases VA.1 h with rfl|h
  ·have:=hl y Vh;exact⟨JJE i y.steps [] 0 this.1,by show J3 (Yk i [] 0 y.steps)≤100;rw[JGe];exact this.2⟩
  ·exact JGg q (i+1) (fun z hz=>hl z (Vn _ hz)) x h
theorem JKH:∀l:List Rou,(∀x∈l,rOk x)→XK l≤100*l.length
 |[],_=>Nat.le_refl _
 |x::r,h=>by
  have h1:=(h x Vh).2;have h2:=JKH r fun y hy=>h y (Vn _ hy)
  simp only[XK,Vf];omega
def JOz(q:Pn)(cs:List Cg):Pn:={q with nodes:=((cs.take 3).foldl Xy (q.nodes.map JCT)).map JLV}
theorem con5(rs:List (List S3))(h:JGT rs):∃q:Pn,PnB q∧∀(ch:Int) (ev:List Dat) (cs:List Cg),(∀c∈cs,JJB c)→PT 5 [ZJ rs ch ev,.list 4 (cs.map JAL)] (.d (Zo (JOz q cs))):=by
 have hK:=JQb h 3;have hKl:=JEp rs 3;have hne:XB rs 3≠[]:=by
  rw[Xm,Xm,Xm];simp[XB,JHy]
 have hsz:nmP (JEc (XB rs 3)):=fun x hx=>by have:=(hK x hx).2;omega
 have hN:=JGg (XB rs 3) 0 hK;have hNl:=ZI (XB rs 3) 0;have hsz2:nmP (mkP rs):=fun x hx=>by have:=(hN x hx).2;omega
 have hN2:=JGg (ZK 0 (XB rs 3)) 0 hN;have hNl2:=ZI (ZK 0 (XB rs 3)) 0;have hne2:(mkP rs).routes≠[]:=by
  intro e;have e2:(ZK 0 (XB rs 3)).length=0:=by rw[show ZK 0 (XB rs 3)=[]from e];rfl
  exact hne (List.eq_nil_of_length_eq_zero oM)
 have hne3:(UG (mkP rs)).routes≠[]:=by
  intro e;have e2:(ZK 0 (ZK 0 (XB rs 3))).length=0:=by rw[show ZK 0 (ZK 0 (XB rs 3))=[]from e];rfl
  exact hne (List.eq_nil_of_length_eq_zero oM)
 have hw:XK (UG (mkP rs)).routes≤1000000000:=by
  have:=JKH _ hN2;show XK (ZK 0 (ZK 0 (XB rs 3)))≤_;omega
 have hq:∀w∈wkN (UG (mkP rs)).routes (UG (mkP rs)).routes.length,stQ w.step:=wkN_q (fun x hx=>(hN2 x hx).1) _;have l1:(mkP rs).routes.length≤1000000000:=by show(ZK 0 (XB rs 3)).length≤_;omega
 have l2:(UG (mkP rs)).routes.length≤1000000000:=by show(ZK 0 (ZK 0 (XB rs 3))).length≤_;omega
 have h25:=JTB (mkP rs) hne2 hsz2 hw hq (by show JE2≠[];simp[JE2]) (by show JCF≠[];simp[JCF]) (by show JDO≠[];simp[JDO]) l1 (by show JCF.length≤_;decide) (by show JDO.length≤_;decide);have hP:PB (UG (mkP rs)):=⟨by show JE2.length≤_;decide,by show JCF.length≤_;decide,by show JDO.length≤_;decide,by show JE2≠[];simp[JE2],by show JCF≠[];simp[JCF],by show JDO≠[];simp[JDO]⟩;obtain⟨q,hqe,hB⟩:=JQY hP hne3 hw hq l2 (by show JCF.length≤_;decide) (by show JDO.length≤_;decide);rw[hqe]at h25;exact⟨q,hB,fun ch ev cs hcs=>walk5 rs h ch ev hsz cs hcs q h25 hB⟩
end Go.Proofs
namespace Go.Proofs
open Go Av
variable {g:Nat}{cs:List Dat}
theorem ix76{q:Kal→Bool}(l:List Kal)(hq:∀x∈l,PT g (JW x::cs) (.d (.bool (q x))))(hl:l.length≤68719476736):
  PT 45 [.list 2 (l.map JW),.fn (.func g) [] cs] (.d (.int .i64 (ixQ q l))):=by
 refine ok45.pc ?_;simp only[go_sem,ir45,Vc,simprocAttr];refine JK (fun n s=>∃k:Nat,k≤l.length∧n=l.length-k∧(∀(j:Nat) (h1:j<l.length),j<k→q l[j]=false)∧
  s=⟨[(0,.d (.list 2 (l.map JW))),(1,.d (.fn (.func g) [] cs)),(7,.d (.int .i64 l.length)),(8,.d (.int .i64 k))],[]⟩) ?_ ?_
 ·exact⟨_,_,Wk.refl _,0,Nat.zero_le _,rfl,sP,rfl⟩
 ·rintro n s ⟨k,hk,rfl,hinv,rfl⟩;by_cases hlt:k<l.length
  ·have hx:=JU JW hlt;have hd:=dT hlt;have hc:=(hq l[k] (Vk _)).call trivial;simp only[JW,Va]at hc hx;refine zz6 ?_;refine⟨oM,wn hc ?_⟩;refine zz ?_;apply ik<;>intro hf
   ·rw[ZC hlt hf hinv]
   ·refine⟨l.length-(k+1),_,oM,Wk.less ?_,k+1,oM,rfl,fun j h1 hj=>?_,rfl⟩
    ·exact zz7 trivial
    ·by_cases e:j=k
     ·subst e;exact hf
     ·exact hinv j h1 oM
  ·have hd:=dF hlt;refine zz5 ?_;rw[ZD (fun j h=>hinv j h oM)]
theorem walk16{q:Kal→Bool}(l:List Kal)(hq:∀x∈l,PT g (JW x::cs) (.d (.bool (q x))))(hl:l.length≤68719476736):
  PT 16 [.list 2 (l.map JW),.fn (.func g) [] cs] (.d (.bool (l.any q))):=by
 refine ok16.pc ?_;have c:=(ix76 l hq hl).call trivial;rw[←Z8];simp only[go_sem,ir16,simprocAttr];refine wc c trivial
theorem ix89{q:Nd→Bool}(l:List Nd)(hq:∀x∈l,PT g (Uh x::cs) (.d (.bool (q x))))(hl:l.length≤68719476736):
  PT 58 [.list 20 (l.map Uh),.fn (.func g) [] cs] (.d (.int .i64 (ixQ q l))):=by
 refine ok58.pc ?_;simp only[go_sem,ir58,Vc,simprocAttr];refine JK (fun n s=>∃k:Nat,k≤l.length∧n=l.length-k∧(∀(j:Nat) (h1:j<l.length),j<k→q l[j]=false)∧
  s=⟨[(0,.d (.list 20 (l.map Uh))),(1,.d (.fn (.func g) [] cs)),(7,.d (.int .i64 l.length)),(8,.d (.int .i64 k))],[]⟩) ?_ ?_
 ·exact⟨_,_,Wk.refl _,0,Nat.zero_le _,rfl,sP,rfl⟩
 ·rintro n s ⟨k,hk,rfl,hinv,rfl⟩;by_cases hlt:k<l.length
  ·have hx:=JU Uh hlt;have hd:=dT hlt;have hc:=(hq l[k] (Vk _)).call trivial;simp only[Uh,Va]at hc hx;refine zz6 ?_;refine⟨oM,wn hc ?_⟩;refine zz ?_;apply ik<;>intro hf
   ·rw[ZC hlt hf hinv]
   ·refine⟨l.length-(k+1),_,oM,Wk.less ?_,k+1,oM,rfl,fun j h1 hj=>?_,rfl⟩
    ·exact zz7 trivial
    ·by_cases e:j=k
     ·subst e;exact hf
     ·exact hinv j h1 oM
  ·have hd:=dF hlt;refine zz5 ?_;rw[ZD (fun j h=>hinv j h oM)]
theorem walk22{q:Nd→Bool}(l:List Nd)(hq:∀x∈l,PT g (Uh x::cs) (.d (.bool (q x))))(hl:l.length≤68719476736):
  PT 22 [.list 20 (l.map Uh),.fn (.func g) [] cs] (.d (.bool (l.any q))):=by
 refine ok22.pc ?_;have c:=(ix89 l hq hl).call trivial;rw[←Z8];simp only[go_sem,ir22,simprocAttr];refine wc c trivial
theorem walk17(c:Kal)(n:Nd):PT 17 [JW c,.ptr (Uh n).cells] (.d (.bool (c.service==n.text))):=by
 refine ok17.pc ?_;simp only[go_sem,ir17,JW,Uh,Dat.cells,Nat.reduceAdd,Nat.reduceEqDiff,Nat.reduceBEq,Nat.reduceLeDiff,reduceCtorEq,↓reduceIte];decide
def slN(n:Nd):Bool:=decide (n.kind≥4)&&decide (n.kind≤10)
theorem walk23(n:Nd):PT 23 [Uh n] (.d (.bool (slN n))):=by
 refine ok23.pc ?_;unfold slN;simp only[go_sem,ir23,Uh,simprocAttr];refine sq (decide (n.kind≤10)) ?_ ?_
 ·exact zz trivial
 exact zz trivial
end Go.Proofs
namespace Go.Proofs
open Go Av
theorem walk46(l:List Int)(v:Int):PT 46 [.list 1 (l.map (.int .i64)),.int .i64 v] (.d (.int .i64 (ixQ (fun x=>v==x) l))):=by
 refine UD.Ju ok46.has fun hfit=>?_
 have hl:l.length≤68719476736:=by have:=(hfit _ (Vh)).1;simpa using this
 clear hfit;refine ok46.pc ?_;simp only[go_sem,JTD,Vv,Vc,Nat.reduceAdd,Nat.reduceEqDiff,Nat.reduceBEq,Nat.reduceLeDiff,reduceCtorEq,↓reduceIte];refine JK (fun n s=>∃k:Nat,k≤l.length∧n=l.length-k∧(∀(j:Nat) (h1:j<l.length),j<k→(v==l[j])=false)∧
  s=⟨[(0,.d (.list 1 (l.map (.int .i64)))),(1,.d (.int .i64 v)),(7,.d (.int .i64 l.length)),(8,.d (.int .i64 k))],[]⟩) ?_ ?_
 ·exact⟨_,_,Wk.refl _,0,Nat.zero_le _,rfl,sP,rfl⟩
 ·rintro n s ⟨k,hk,rfl,hinv,rfl⟩;by_cases hlt:k<l.length
  ·have hx:=JU (fun n=>Dat.int .i64 n) hlt;have hd:=dT hlt;cases hq:v==l[k]
   ·simp only[go_sem,hx,hd,hq,Vu,Vv,Vc,Nat.reduceAdd,Nat.reduceEqDiff,Nat.reduceBEq,Nat.reduceLeDiff,reduceCtorEq,↓reduceIte];refine⟨⟨oM,oM⟩,dC,l.length-(k+1),_,oM,Wk.less ?_,k+1,oM,rfl,fun j h1 hj=>?_,rfl⟩
    ·simp only[go_sem,JE k oM,Vv,Vc,Nat.reduceAdd,Nat.reduceEqDiff,Nat.reduceBEq,Nat.reduceLeDiff,reduceCtorEq,↓reduceIte]
    ·by_cases e:j=k
     ·subst e;exact hq
     ·exact hinv j h1 oM
   ·simp only[go_sem,hx,hd,hq,Vv,Vc,Nat.reduceAdd,Nat.reduceEqDiff,Nat.reduceBEq,Nat.reduceLeDiff,reduceCtorEq,↓reduceIte];refine⟨⟨oM,oM⟩,dC,?_⟩;rw[ZC hlt hq hinv]
  ·have hd:=dF hlt;simp only[go_sem,hd,Vu,Vv,Vc,Nat.reduceAdd,Nat.reduceEqDiff,Nat.reduceBEq,Nat.reduceLeDiff,reduceCtorEq,↓reduceIte];rw[ZD (fun j h=>hinv j h oM)]
theorem walk18(l:List Int)(v:Int):PT 18 [.list 1 (l.map (.int .i64)),.int .i64 v] (.d (.bool (l.any fun x=>v==x))):=by
 refine ok18.pc ?_;have c:=(walk46 l v).call trivial;rw[←Z8];simp only[go_sem,ir18,Vv,Vc,simprocAttr];refine wn c ?_;simp only[go_sem,Vv,Vc,simprocAttr]
structure PnC(q:Pn):Prop where
 n0:q.nodes.length≤5000000000
 nd:∀n∈q.nodes,n.calls.length≤5000000000∧n.next.length≤5000000000
def bfC(tn:Nd)(node:Int)(n:Nd):Bool:=(tn.kind==23&&n.calls.any fun c=>c.service==tn.text)||n.next.any fun x=>node==x
def bfK(tn:Nd)(node:Int)(ns:List Nd)(k:Nat):List Int:=(List.range k).flatMap fun(i:Nat)=>match ns[i]? with|some n=>if bfC tn node n then[((i:Nat):Int)]else[]|none=>[]
theorem JEu(tn:Nd)(node:Int){ns:List Nd}{k:Nat}(h:k<ns.length):bfK tn node ns (k+1)=bfK tn node ns k++(if bfC tn node ns[k]then[(k:Int)]else[]):=by
 unfold bfK;rw[List.range_succ,List.flatMap_append];simp[Vl h]
theorem JDj(tn:Nd)(node:Int)(ns:List Nd):∀k:Nat,k≤ns.length→(bfK tn node ns k).length≤k
 |0,_=>Nat.le_refl _
 |k+1,h=>by
  rw[JEu tn node oM,Vg];have:=JDj tn node ns k oM;split<;>simp<;>omega
def bfL(q:Pn)(node:Int):List Int:=if decide (node<0)||decide (node≥(q.nodes.length:Int))then[]else match q.nodes[node.toNat]? with|some tn=>bfK tn node q.nodes q.nodes.length|none=>[]
theorem walk6(q:Pn)(hB:PnC q)(node:Int):PT 6 [Zo q,.int .i64 node] (.d (.list 1 ((bfL q node).map (.int .i64)))):=by
 refine ok6.pc ?_;have hn0:=hB.n0;unfold bfL;simp only[go_sem,ir6,Zo,Vv,Vc,simprocAttr];refine sq (decide (node≥(q.nodes.length:Int))) ?_ ?_
 ·simp only[go_sem,Vv,Vc,simprocAttr]
 cases hc:(decide (node<0)||decide (node≥(q.nodes.length:Int)))
 ·simp only[Bool.or_eq_false_iff,decide_eq_false_iff_not]at hc;obtain⟨m,rfl⟩:∃m:Nat,node=(m:Int):=⟨node.toNat,oM⟩;have hm:m<q.nodes.length:=oM;have hc2:(decide ((m:Int)<0)||decide ((m:Int)≥(q.nodes.length:Int)))=false:=sO;have hx:=JU Uh hm;rw[Vv,Vl hm];generalize q.nodes[m]=tn at*;simp only[Uh]at hx;simp only[Vu,if_false];simp only[go_sem,hc2,hx,Vu,Vv,Vc,simprocAttr];refine⟨⟨oM,oM⟩,?_⟩;refine JK (fun n st=>∃k:Nat,k≤q.nodes.length∧n=q.nodes.length-k∧
   st=⟨[(1,.d (.int .i64 m)),(5,.ref 5 0),(6,.ms 51 (bfK tn m q.nodes k).length),(25,.d (.list 20 (q.nodes.map Uh))),(26,.d (.int .i64 q.nodes.length)),(27,.d (.int .i64 k))],
    [(5,.box (((Uh tn).cells).map .d)),(51,.row (bfK tn m q.nodes k).length 1 ((bfK tn m q.nodes k).map (.int .i64)))]⟩) ?_ ?_
  ·refine⟨_,_,(Wk.JEv 6 51 1 rfl rfl dC).trans (Wk.less ?_),0,Nat.zero_le _,rfl,rfl⟩;simp[put,go_sem,bfK,Uh]
  ·rintro n st ⟨k,hk,rfl,rfl⟩;by_cases hlt:k<q.nodes.length
   ·have hd:=dT hlt;have hy:=JU Uh hlt;have hs:=JEu tn (m:Int) hlt;have hl:=JDj tn (m:Int) q.nodes k hk;have hnd:=hB.nd _ (Vk hlt);generalize q.nodes[k]=y at*;simp only[Uh]at hy;have h29:PT 16 ([Dat.list 2 (y.calls.map JW),.fn (.func 17) [] [.ptr (Uh tn).cells]].map Dat.canon) (.d (.bool (y.calls.any fun c=>c.service==tn.text))):=by
     have:=walk16 (g:=17) (cs:=[.ptr (Uh tn).cells]) y.calls (fun c _=>walk17 c tn) oM;simpa only[Va,Vb,Dat.canon,JH,XJ,Uh,Dat.cells,Xj,Xk,YR,J7,UO,U7]using this
    have cB:CT 16 [.d (.list 2 (y.calls.map JW)),.clo (.func 17) [] [.ref 5 0]] [(5,some (.box ((Uh tn).cells.map .d)))] (.d (.bool (y.calls.any fun c=>c.service==tn.text))) []:=
     h29.borrow rfl (p:=True) (u:=[(5,.fbox (Uh tn).cells)]) (fun H hH=>by
      have h5:=hH (5,_) (Vh);simp only at h5;simp[Jk,U9,Uj,Zs,JC,h5,JAn]) trivial
    have c18:=(walk18 y.next (m:Int)).call trivial;simp only[Uh,Dat.cells,Va,Vb]at cB;simp only[go_sem,hd,hy,Uh,Dat.cells,Va,Vb,Vv,Vc,simprocAttr];refine⟨⟨oM,oM⟩,?_⟩;refine sq (y.calls.any fun c=>c.service==tn.text) ?_ ?_
    ·simp only[go_sem,Vv,Vc,simprocAttr];refine wn cB ?_;simp only[go_sem,Vv,Vc,simprocAttr]
    simp only[go_sem,Vv,Vc,simprocAttr];refine sq (y.next.any fun x=>(m:Int)==x) ?_ ?_
    ·simp only[go_sem,Vv,Vc,simprocAttr];refine wn c18 ?_;simp only[go_sem,Vv,Vc,simprocAttr]
    unfold bfC at hs;cases hq:((tn.kind==23&&y.calls.any fun c=>c.service==tn.text)||y.next.any fun x=>(m:Int)==x)
    ·rw[hq,if_neg Bool.false_ne_true,List.append_nil]at hs;simp only[go_sem,hq,Vu,Vv,Vc,simprocAttr];refine⟨q.nodes.length-(k+1),_,oM,Wk.less ?_,k+1,oM,rfl,rfl⟩;rw[hs];simp only[JE k oM,Uh,Dat.cells,Va,Vb];simp[go_sem]
    ·rw[hq,if_pos rfl]at hs;simp only[go_sem,hq,Vv,Vc,simprocAttr];refine⟨sP,oM,q.nodes.length-(k+1),_,oM,Wk.less ?_,k+1,oM,rfl,rfl⟩;rw[hs];simp only[JE k oM,Uh,Dat.cells,Va,Vb,Vw,Vg,Vf,Vm];simp[go_sem]
   ·have hd:=dF hlt;obtain rfl:k=q.nodes.length:=oM;simp only[go_sem,hd,Vu,Vv,Vc,simprocAttr]
 ·simp only[go_sem,hc,Vb,Vv,Vc,simprocAttr]
theorem bfC_eq(tn:Nd)(m:Int)(n:Nd):((n.next.any fun x=>x==m)||n.calls.any fun c=>tn.kind==23&&c.service==tn.text)=bfC tn m n:=by
 unfold bfC;have h1:(n.next.any fun x=>x==m)=n.next.any fun x=>m==x:=by congr 1;funext x;simp[Bool.beq_eq_decide_eq,eq_comm]
 rw[h1,Bool.or_comm];congr 1;cases tn.kind==23<;>simp
theorem any_take_succ{α:Type}(f:α→Bool){l:List α}{k:Nat}(h:k<l.length):(l.take (k+1)).any f=((l.take k).any f||f l[k]):=by
 rw[List.take_succ_eq_append_getElem h,List.any_append];simp
theorem walk7(q:Pn)(hB:PnC q)(node:Int):PT 7 [Zo q,.int .i64 node] (.d (.list 1 ((bfL q node).map (.int .i64)))):=by
 refine ok7.pc ?_;have hn0:=hB.n0;unfold bfL;simp only[go_sem,ir7,Zo,Vv,Vc,Nat.reduceAdd,Nat.reduceEqDiff,Nat.reduceBEq,Nat.reduceLeDiff,reduceCtorEq,↓reduceIte];refine sq (decide (node≥(q.nodes.length:Int))) ?_ ?_
 ·simp only[go_sem,Vv,Vc,Nat.reduceAdd,Nat.reduceEqDiff,Nat.reduceBEq,Nat.reduceLeDiff,reduceCtorEq,↓reduceIte]
 cases hc:(decide (node<0)||decide (node≥(q.nodes.length:Int)))
 ·simp only[Bool.or_eq_false_iff,decide_eq_false_iff_not]at hc;obtain⟨m,rfl⟩:∃m:Nat,node=(m:Int):=⟨node.toNat,oM⟩;have hm:m<q.nodes.length:=oM;have hc2:(decide ((m:Int)<0)||decide ((m:Int)≥(q.nodes.length:Int)))=false:=sO;have hx:=JU Uh hm;rw[Vv,Vl hm];generalize q.nodes[m]=tn at*;simp only[Uh]at hx;simp only[Vu,if_false];simp only[go_sem,hc2,hx,Vu,Vv,Vc,Nat.reduceAdd,Nat.reduceEqDiff,Nat.reduceBEq,Nat.reduceLeDiff,reduceCtorEq,↓reduceIte];refine JK (fun n st=>∃k:Nat,k≤q.nodes.length∧n=q.nodes.length-k∧
   st=⟨[(1,.d (.int .i64 m)),(2,.ref 2 0),(5,.ms 95 (bfK tn m q.nodes k).length),(6,.d (.int .i64 k))],
    [
    (2,.box [.d (.int .i64 q.version),.d (.list 9 (q.schemas.map Uc)),.d (.list 7 (q.endpoints.map J8)),.d (.list 4 (q.services.map Uk)),.d (.list 20 (q.nodes.map Uh))]),
     (95,.row (bfK tn m q.nodes k).length 1 ((bfK tn m q.nodes k).map (.int .i64)))]⟩) ?_ ?_
  ·refine⟨_,_,(Wk.JEv 5 95 1 rfl rfl dC).trans (Wk.less ?_),0,Nat.zero_le _,rfl,rfl⟩;simp[put,go_sem,bfK]
  ·rintro n st ⟨k,hk,rfl,rfl⟩;by_cases hlt:k<q.nodes.length
   ·have hd:=dT hlt;have hy:=JU Uh hlt;have hs:=JEu tn (m:Int) hlt;have hl:=JDj tn (m:Int) q.nodes k hk;have hnd:=hB.nd _ (Vk hlt);generalize q.nodes[k]=y at*;simp only[Uh]at hy;simp only[go_sem,hd,Vv,Vc,Nat.reduceAdd,Nat.reduceEqDiff,Nat.reduceBEq,Nat.reduceLeDiff,reduceCtorEq,↓reduceIte];refine JK (fun n st=>∃j:Nat,j≤y.next.length∧n=y.next.length-j∧
     st=⟨[(1,.d (.int .i64 m)),(2,.ref 2 0),(5,.ms 95 (bfK tn m q.nodes k).length),(6,.d (.int .i64 k)),(7,.d (.bool ((y.next.take j).any fun x=>x==(m:Int)))),(8,.d (.int .i64 j))],
      [
      (2,.box [.d (.int .i64 q.version),.d (.list 9 (q.schemas.map Uc)),.d (.list 7 (q.endpoints.map J8)),.d (.list 4 (q.services.map Uk)),.d (.list 20 (q.nodes.map Uh))]),
       (95,.row (bfK tn m q.nodes k).length 1 ((bfK tn m q.nodes k).map (.int .i64)))]⟩) ?_ ?_
    ·refine⟨_,_,Wk.less ?_,0,Nat.zero_le _,rfl,rfl⟩;simp[go_sem]
    ·rintro n st ⟨j,hj,rfl,rfl⟩;by_cases hjl:j<y.next.length
     ·have hdj:decide ((j:Int)<(y.next.length:Int))=true:=sO;have hz:=JU (fun n=>Dat.int .i64 n) hjl;have ht:=any_take_succ (fun x=>x==(m:Int)) hjl;simp only[go_sem,hdj,hy,Vv,Vc,Nat.reduceAdd,Nat.reduceEqDiff,Nat.reduceBEq,Nat.reduceLeDiff,reduceCtorEq,↓reduceIte];refine⟨⟨oM,oM⟩,dC,?_⟩;refine sq (y.next[j]==(m:Int)) ?_ ?_
      ·simp only[go_sem,hy,hz,Vv,Vc,Nat.reduceAdd,Nat.reduceEqDiff,Nat.reduceBEq,Nat.reduceLeDiff,reduceCtorEq,↓reduceIte];exact⟨⟨oM,oM⟩,dC,⟨oM,oM⟩,dC⟩
      ·simp only[go_sem,Vv,Vc,Nat.reduceAdd,Nat.reduceEqDiff,Nat.reduceBEq,Nat.reduceLeDiff,reduceCtorEq,↓reduceIte];refine⟨y.next.length-(j+1),_,oM,Wk.less ?_,j+1,oM,rfl,rfl⟩;rw[ht];simp only[JE j oM];simp[go_sem]
     ·have hdj:decide ((j:Int)<(y.next.length:Int))=false:=sO;obtain rfl:j=y.next.length:=oM;rw[List.take_length];simp only[go_sem,hdj,hy,Vu,Vv,Vc,Nat.reduceAdd,Nat.reduceEqDiff,Nat.reduceBEq,Nat.reduceLeDiff,reduceCtorEq,↓reduceIte];refine⟨⟨oM,oM⟩,dC,?_⟩;generalize hA:(y.next.any fun x=>x==(m:Int))=A;refine JK (fun n st=>∃j:Nat,j≤y.calls.length∧n=y.calls.length-j∧
       st=⟨[(1,.d (.int .i64 m)),(2,.ref 2 0),(5,.ms 95 (bfK tn m q.nodes k).length),(6,.d (.int .i64 k)),(7,.d (.bool (A||(y.calls.take j).any fun c=>tn.kind==23&&c.service==tn.text))),(9,.d (.int .i64 j))],
        [
        (2,.box [.d (.int .i64 q.version),.d (.list 9 (q.schemas.map Uc)),.d (.list 7 (q.endpoints.map J8)),.d (.list 4 (q.services.map Uk)),.d (.list 20 (q.nodes.map Uh))]),
         (95,.row (bfK tn m q.nodes k).length 1 ((bfK tn m q.nodes k).map (.int .i64)))]⟩) ?_ ?_
      ·refine⟨_,_,Wk.less ?_,0,Nat.zero_le _,rfl,rfl⟩;simp[go_sem]
      ·rintro n st ⟨j,hj,rfl,rfl⟩;by_cases hjl:j<y.calls.length
       ·have hdj:decide ((j:Int)<(y.calls.length:Int))=true:=sO;have hz:=JU JW hjl;have ht:=any_take_succ (fun c:Kal=>tn.kind==23&&c.service==tn.text) hjl;generalize y.calls[j]=c at*;simp only[JW]at hz;simp only[go_sem,hdj,hy,Vv,Vc,Nat.reduceAdd,Nat.reduceEqDiff,Nat.reduceBEq,Nat.reduceLeDiff,reduceCtorEq,↓reduceIte];refine⟨⟨oM,oM⟩,dC,?_⟩;refine sq (tn.kind==23&&c.service==tn.text) ?_ ?_
        ·refine zz24 ?_;refine⟨⟨oM,oM⟩,dC,?_⟩;refine sq (c.service==tn.text) ?_ ?_
         ·simp only[go_sem,hx,hy,hz,Vv,Vc,Nat.reduceAdd,Nat.reduceEqDiff,Nat.reduceBEq,Nat.reduceLeDiff,reduceCtorEq,↓reduceIte];exact⟨⟨oM,oM⟩,dC,⟨oM,oM⟩,dC,⟨oM,oM⟩,dC⟩
         ·simp only[go_sem,Vv,Vc,Nat.reduceAdd,Nat.reduceEqDiff,Nat.reduceBEq,Nat.reduceLeDiff,reduceCtorEq,↓reduceIte]
        ·simp only[go_sem,Vv,Vc,Nat.reduceAdd,Nat.reduceEqDiff,Nat.reduceBEq,Nat.reduceLeDiff,reduceCtorEq,↓reduceIte];refine⟨y.calls.length-(j+1),_,oM,Wk.less ?_,j+1,oM,rfl,rfl⟩;rw[ht,←Bool.or_assoc];simp only[JE j oM];simp[go_sem]
       ·have hdj:decide ((j:Int)<(y.calls.length:Int))=false:=sO;obtain rfl:j=y.calls.length:=oM;rw[List.take_length,←hA,bfC_eq];cases hq:bfC tn (m:Int) y
        ·rw[hq,if_neg Bool.false_ne_true,List.append_nil]at hs;simp only[go_sem,hdj,hy,hq,Vu,Vv,Vc,Nat.reduceAdd,Nat.reduceEqDiff,Nat.reduceBEq,Nat.reduceLeDiff,reduceCtorEq,↓reduceIte];refine⟨⟨oM,oM⟩,dC,q.nodes.length-(k+1),_,oM,Wk.less ?_,k+1,oM,rfl,rfl⟩;rw[hs];simp only[JE k oM];simp[go_sem]
        ·rw[hq,if_pos rfl]at hs;simp only[go_sem,hdj,hy,hq,Vu,Vv,Vc,Nat.reduceAdd,Nat.reduceEqDiff,Nat.reduceBEq,Nat.reduceLeDiff,reduceCtorEq,↓reduceIte];refine⟨⟨oM,oM⟩,dC,sP,oM,q.nodes.length-(k+1),_,oM,Wk.less ?_,k+1,oM,rfl,rfl⟩;rw[hs];simp only[JE k oM,Vw,Va,Vb,Vg,Vf,Vm];simp[go_sem]
   ·have hd:=dF hlt;obtain rfl:k=q.nodes.length:=oM;simp only[go_sem,hd,Vu,Vv,Vc,Nat.reduceAdd,Nat.reduceEqDiff,Nat.reduceBEq,Nat.reduceLeDiff,reduceCtorEq,↓reduceIte]
 ·simp only[go_sem,hc,Vb,Vv,Vc,Nat.reduceAdd,Nat.reduceEqDiff,Nat.reduceBEq,Nat.reduceLeDiff,reduceCtorEq,↓reduceIte]
theorem JKI:∀(cs:List Cg) (b:Nat) (R:List Rc),(∀r∈R,okC b r)→(∀r∈cs.foldl Xy R,okC (b+cs.length) r)∧(cs.foldl Xy R).length=R.length
 |[],b,R,h=>⟨h,rfl⟩
 |c::r,b,R,h=>by
  have:=JKI r (b+1) (Xy R c) (JKD h c);simp only[List.foldl_cons,Vf];rw[JH4]at this;refine⟨fun x hx=>?_,this.2⟩;have h2:=this.1 x hx;rwa[Nat.add_assoc,Nat.add_comm 1]at h2
theorem chgP_C{q:Pn}(hB:PnB q)(cs:List Cg):PnC (JOz q cs)∧(JOz q cs).nodes≠[]:=by
 have h0:∀r∈q.nodes.map JCT,okC 4000000000 r:=by
  intro r hr;obtain⟨n,hn,rfl⟩:=VC.1 hr;have h:=hB.nd n hn;refine⟨fun e=>absurd e (by simp[JCT]),fun x hx e=>?_,h.ts,h.ex,by simpa[JCT]using h.ca,h.nx⟩;obtain⟨k,_,rfl⟩:=VC.1 hx;cases e
 obtain⟨h1,h2⟩:=JKI (cs.take 3) 4000000000 (q.nodes.map JCT) h0;have h3:(cs.take 3).length≤3:=by rw[List.length_take];omega
 have hn:(JOz q cs).nodes.length=q.nodes.length:=by show(List.map JLV _).length=_;rw[Vc,h2,Vc]
 refine⟨⟨by rw[hn];have:=hB.n0;omega,fun n hm=>?_⟩,fun e=>?_⟩
 ·obtain⟨r,hr,rfl⟩:=VC.1 hm;have:=h1 r hr;have a1:=this.l3;have a2:=this.l4;exact⟨by show(r.ca.map Prod.snd).length≤_;rw[Vc];omega,by show r.n.next.length≤_;omega⟩
 ·rw[e]at hn;exact hB.n1 (List.eq_nil_of_length_eq_zero hn.symm)
theorem walk9c(q:Pn)(hB:PnC q):PT 9 [Zo q] (.d (.bool (!q.nodes.any slN))):=by
 refine ok9.pc ?_;have c:=(walk22 (cs:=[]) q.nodes (fun x _=>walk23 x) (by have:=hB.n0;omega)).call trivial;simp only[go_sem,ir9,Zo,Vv,Vc,simprocAttr];refine wn c ?_;simp only[go_sem,Vv,Vc,simprocAttr]
def nsl(n:Nd):Bool:=decide (n.kind<4)||decide (n.kind>10)
theorem nsl_eq(n:Nd):nsl n= !slN n:=by
 unfold nsl slN;rw[Bool.eq_iff_iff];simp
theorem JE8{α:Type}(f:α→Bool){l:List α}{k:Nat}(h:k<l.length):(l.take (k+1)).all f=((l.take k).all f&&f l[k]):=by
 rw[List.take_succ_eq_append_getElem h,List.all_append];simp
theorem walk3(rs:List (List S3))(h:JGT rs)(ch:Int)(ev:List Dat)(cs:List Cg)(hcs:∀c∈cs,JJB c)(node:Int):PT 3 [ZJ rs ch ev,.list 4 (cs.map JAL),.int .i64 node] (.d (.bool true)):=by
 obtain⟨q0,hB,h7⟩:=con5 rs h;obtain⟨hC,hne⟩:=chgP_C hB cs;refine ok3.pc ?_;have c7:=(h7 ch ev cs hcs).call trivial;generalize JOz q0 cs=q at*;have c8:=(walk6 q hC node).call trivial;have c9:=(walk7 q hC node).call trivial;have cq10:=walk8.call trivial;have cq11:=(walk9c q hC).call trivial;have hn0:=hC.n0;have hLl:(bfL q node).length≤q.nodes.length:=by
  unfold bfL;split
  ·exact Nat.zero_le _
  ·split
   ·exact JDj _ _ _ _ (Nat.le_refl _)
   ·exact Nat.zero_le _
 generalize bfL q node=L at*;simp only[Zo,ZJ,Va,Vb]at c7 c8 c9 cq10 cq11⊢;simp only[go_sem,ir3,Vv,Vc,Nat.reduceAdd,Nat.reduceEqDiff,Nat.reduceBEq,Nat.reduceLeDiff,reduceCtorEq,↓reduceIte];refine wn c7 ?_;simp only[go_sem,Vv,Vc,Nat.reduceAdd,Nat.reduceEqDiff,Nat.reduceBEq,Nat.reduceLeDiff,reduceCtorEq,↓reduceIte];refine JG rfl c8 trivial ?_;simp only[go_sem,Vv,Vc,Nat.reduceAdd,Nat.reduceEqDiff,Nat.reduceBEq,Nat.reduceLeDiff,reduceCtorEq,↓reduceIte];refine JG rfl c9 trivial ?_;simp only[go_sem,Vv,Vc,Nat.reduceAdd,Nat.reduceEqDiff,Nat.reduceBEq,Nat.reduceLeDiff,reduceCtorEq,↓reduceIte];refine⟨dC,?_⟩;refine JK (fun n st=>∃k:Nat,k≤q.nodes.length∧n=q.nodes.length-k∧
  st=⟨[(7,.ref 7 0),(8,.d (.list 1 (L.map (.int .i64)))),(9,.d (.list 1 (L.map (.int .i64)))),(10,.d (.bool ((q.nodes.take k).all nsl))),(11,.d (.int .i64 k))],
   [(7,.box [.d (.int .i64 q.version),.d (.list 9 (q.schemas.map Uc)),.d (.list 7 (q.endpoints.map J8)),.d (.list 4 (q.services.map Uk)),.d (.list 20 (q.nodes.map Uh))])]⟩) ?_ ?_
 ·refine⟨_,_,Wk.less ?_,0,Nat.zero_le _,rfl,rfl⟩;simp[go_sem]
 rintro n st ⟨k,hk,rfl,rfl⟩;by_cases hlt:k<q.nodes.length
 ·have hd:=dT hlt;have hy:=JU Uh hlt;have ht:=JE8 nsl hlt;generalize q.nodes[k]=y at*;simp only[Uh]at hy;simp only[go_sem,hd,Vv,Vc,Nat.reduceAdd,Nat.reduceEqDiff,Nat.reduceBEq,Nat.reduceLeDiff,reduceCtorEq,↓reduceIte];refine sq (nsl y) ?_ ?_
  ·unfold nsl;simp only[go_sem,hy,Vv,Vc,Nat.reduceAdd,Nat.reduceEqDiff,Nat.reduceBEq,Nat.reduceLeDiff,reduceCtorEq,↓reduceIte];refine⟨⟨oM,oM⟩,dC,?_⟩;refine sq (decide (y.kind>10)) ?_ ?_
   ·simp only[go_sem,hy,Vv,Vc,Nat.reduceAdd,Nat.reduceEqDiff,Nat.reduceBEq,Nat.reduceLeDiff,reduceCtorEq,↓reduceIte];exact⟨⟨oM,oM⟩,dC⟩
   ·simp only[go_sem,Vv,Vc,Nat.reduceAdd,Nat.reduceEqDiff,Nat.reduceBEq,Nat.reduceLeDiff,reduceCtorEq,↓reduceIte]
  ·simp only[go_sem,Vv,Vc,Nat.reduceAdd,Nat.reduceEqDiff,Nat.reduceBEq,Nat.reduceLeDiff,reduceCtorEq,↓reduceIte];refine⟨q.nodes.length-(k+1),_,oM,Wk.less ?_,k+1,oM,rfl,rfl⟩;rw[ht];simp only[JE k oM];simp[go_sem]
 ·have hd:=dF hlt;obtain rfl:k=q.nodes.length:=oM;have hall:q.nodes.all nsl= !q.nodes.any slN:=by
   rw[List.not_any_eq_all_not];congr 1;funext x;exact nsl_eq x
  rw[List.take_length,hall];simp only[go_sem,hd,Vu,Vv,Vc,Nat.reduceAdd,Nat.reduceEqDiff,Nat.reduceBEq,Nat.reduceLeDiff,reduceCtorEq,↓reduceIte];have hnn:((L.length:Int)!=(L.length:Int))=false:=sP;have hbb:∀b:Bool,(b==b)=true:=by intro b;cases b<;>rfl
  refine wn cq10 ?_;simp only[go_sem,Vr,Vu,hnn,Vv,Vc,Nat.reduceAdd,Nat.reduceEqDiff,Nat.reduceBEq,Nat.reduceLeDiff,reduceCtorEq,↓reduceIte];refine wn cq11 ?_;simp only[go_sem,hbb,Vr,Vu,Vv,Vc,Nat.reduceAdd,Nat.reduceEqDiff,Nat.reduceBEq,Nat.reduceLeDiff,reduceCtorEq,↓reduceIte];refine JK (fun n st=>∃k:Nat,k≤L.length∧n=L.length-k∧
   st=⟨[(8,.d (.list 1 (L.map (.int .i64)))),(9,.d (.list 1 (L.map (.int .i64)))),(12,.d (.int .i64 k))],[]⟩) ?_ ?_
  ·refine⟨_,_,Wk.less ?_,0,Nat.zero_le _,rfl,rfl⟩;simp[go_sem]
  rintro n st ⟨k,hk,rfl,rfl⟩;by_cases hlt:k<L.length
  ·have hd:=dT hlt;have hz:=JU (fun n=>Dat.int .i64 n) hlt;have hzz:(L[k]!=L[k])=false:=sP;simp only[go_sem,hd,hz,hzz,Vu,Vv,Vc,Nat.reduceAdd,Nat.reduceEqDiff,Nat.reduceBEq,Nat.reduceLeDiff,reduceCtorEq,↓reduceIte];refine⟨⟨oM,oM⟩,dC,⟨oM,oM⟩,dC,L.length-(k+1),_,oM,Wk.less ?_,k+1,oM,rfl,rfl⟩;simp only[JE k oM];simp[go_sem]
  ·have hd:=dF hlt;simp only[go_sem,hd,Vu,Vv,Vc,Nat.reduceAdd,Nat.reduceEqDiff,Nat.reduceBEq,Nat.reduceLeDiff,reduceCtorEq,↓reduceIte]
end Go.Proofs
namespace Go.Proofs.YteegbpaakjlodaaGreatDoor
open Go Go.Proofs Av Go.ChangeShapes Go.WideShapes Go.ChangeAt Go.RowKit
theorem JLX(H:Type)(enc:TypeId×Value→H)(W:World)(base:Nat)(args:Array Value)(ds gs:List (DataW H))(before:List MemPlace)
  (hval:∀(j:Nat) t v,Tryz.f3.params[j]? =some t→args[j]? =some v→Value.okWide Tryz.prog W .any base t v)
  (hW:DataW.Whole enc Tryz.prog Tryz.f3.params.toList Rows.compileBeforeSpec.vars false W args.toList ds gs before)(hk:Rows.uptoSmall H (ds++gs)=true)(hL:laidMetH Tryz.prog Rows.compileBeforeUptoRow.laid W):
  Calls Tryz.prog 3 args W fun e W'=>∃v,e=.returned v∧Rows.compileBeforeSpec.post enc Tryz.prog Tryz.f3 false true false false W args v W':=by
 have hW':=hW;have hk':Rows.uptoBulkAll (ds++gs)≤1048576:=of_decide_eq_true hk;rw[JH6]at hk';obtain⟨p,q,hA0,hV,rfl,hfz,hnd⟩:=hW;have hA:DataW.TrodAll enc Tryz.prog W 0 (fun _=>true) true Tryz.f3.params.toList args.toList ds p:=hA0;rw[Tryz.params3]at hA hval;obtain⟨v0,vs0,d0,ds0,p0,q0,hargs0,rfl,rfl,h0,r0⟩:=trodAll_cons hA;obtain⟨v1,vs1,d1,ds1,p1,q1,hargs1,rfl,rfl,h1,r1⟩:=trodAll_cons r0;obtain⟨v2,vs2,d2,ds2,p2,q2,hargs2,rfl,rfl,h2,r2⟩:=trodAll_cons r1;obtain⟨rfl,rfl,rfl⟩:=trodAll_nil r2;subst hargs1 hargs2;obtain rfl:args=#[v0,v1,v2]:=by cases args;simp_all
 obtain⟨rfl,rfl⟩:=trodVars_none hV;simp only[Rows.uptoBulkAll]at hk';obtain⟨rs0,ch0,ev0,ok0,r0⟩:=JJD (hval 0 25 v0 rfl rfl) h0 oM;obtain⟨cs1,ok1,r1⟩:=JLW (hval 1 26 v1 rfl rfl) h1 oM;obtain⟨n2,r2⟩:=open_int (hval 2 3 v2 rfl rfl) h2;refine(JE7 (walk3 rs0 ok0 ch0 ev0 cs1 ok1 n2) (vs:=#[v0,v1,v2]) (globs hL) rfl ?_).mono ?_
 ·intro i d v hd hv
  match i,hd,hv with
  |0,hd,hv=>cases hd;cases hv;exact r0
  |1,hd,hv=>cases hd;cases hv;exact r1
  |2,hd,hv=>cases hd;cases hv;exact r2
 ·rintro e W' ⟨rfl,hbel⟩;have hlt:∀x∈p0++(p1++(p2++[])),x.block<W.heap.size:=fun x hx=>by simpa using hW'.lt x (sX hx)
  refine⟨.bool true,rfl,[d0,d1,d2],[],_,[],p0++(p1++(p2++[])),[],hW',?_,?_,?_,hbel.frame _,fun h=>by cases h⟩
  ·exact trodAll_mk1 (shut_bool kR _)
  ·have a0:=Below.trod laidOut kR (of_decide_eq_true kR) h0 hbel (fun x hx=>hlt x (by simp[hx]));have a1:=Below.trod laidOut kR (of_decide_eq_true kR) h1 hbel (fun x hx=>hlt x (by simp[hx]));have a2:=Below.trod laidOut kR (of_decide_eq_true kR) h2 hbel (fun x hx=>hlt x (by simp[hx]));show DataW.TrodAll enc Tryz.prog W' 0 _ true Tryz.f3.params.toList [v0,v1,v2] [d0,d1,d2] _;rw[Tryz.params3];exact trodAll_cons_mk a0 (trodAll_cons_mk a1 (trodAll_cons_mk a2 trodAll_mk0))
  ·rfl
end Go.Proofs.YteegbpaakjlodaaGreatDoor
