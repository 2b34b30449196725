/- Part N of a proof. -/
import Derived.Test.YtpncocdpglfifaaGreatDoorCfC
import Derived.Test.YtpncocdpglfifaaGreatDoorCfD
import Derived.Test.YtpncocdpglfifaaGreatDoorCfM
import Derived.Test.YtpncocdpglfifaaGreatDoorCfK
import Derived.Test.YtpncocdpglfifaaGreatDoorCfL
import Derived.Test.YtpncocdpglfifaaGreatDoorCfA
set_option linter.unusedVariables false
set_option linter.unusedSimpArgs false
set_option linter.unusedSectionVars false
set_option linter.constructorNameAsVariable false
set_option linter.unnecessarySimpa false
set_option maxRecDepth 10000
namespace Go.Proofs
open Go Av
def sIn:Nat→Str:=fun i=>[[105,110,95,97],[105,110,95,98],[97,103,97,105,110]].getD i []
def JI8(i:Nat):Str:=[114,111,117,116,101,95]++(([97,98,99]:Str).drop i).take 1
def lsI(rs:List (List S3))(i:Nat):List S3:=(rs[i]?).getD []
def JH9(rs:List (List S3))(i:Nat):List Rou:=if((i:Int)==0)||decide (((lsI rs i).length:Int)>0)then[⟨JI8 i,sIn i,rtR (lsI rs i) 0 [] ZF ⟨0,0,0⟩⟩]else[]
def XE(rs:List (List S3))(k:Nat):List Rou:=(List.range k).flatMap (JH9 rs)
theorem Xr(rs:List (List S3))(k:Nat):XE rs (k+1)=XE rs k++JH9 rs k:=by
 unfold XE;rw[List.range_succ,List.flatMap_append];simp
theorem JOt(rs:List (List S3))(i:Nat):(JH9 rs i).length≤1:=by unfold JH9;split<;>simp
theorem JEv(rs:List (List S3)):∀k:Nat,(XE rs k).length≤k
 |0=>Nat.le_refl _
 |k+1=>by
  rw[Xr,Vg];have:=JEv rs k;have:=JOt rs k;omega
def JGc(rs:List (List S3)):Prop:=∀l∈rs,∀x∈l,JEm x
theorem JOu{rs:List (List S3)}(h:JGc rs)(i:Nat):∀x∈lsI rs i,JEm x:=by
 intro x hx;unfold lsI at hx;cases e:rs[i]? with
 |none=>rw[e]at hx;cases hx
 |some l=>rw[e]at hx;exact h l (List.mem_of_getElem? e) x hx
def ZK(rs:List (List S3))(ch:Int)(ev:List Dat):Dat:=.agg [.list 1 (rs.map fun l=>.list 3 (l.map JAs)),.int .u8 ch,.list 6 ev]
theorem con30(rs:List (List S3))(h:JGc rs)(ch:Int)(ev:List Dat)(hsz:nmP (JEh (XE rs 3))):PT 30 [ZK rs ch ev,.int .i64 1] (.d (UD (UJ (JEh (XE rs 3))))):=by
 refine J3.Jk ok30.has fun hfit=>?_
 have hl:rs.length≤68719476736:=by
  have:=hfit _ (Vh);simp only[ZK,fits,Un,Vc]at this;omega
 clear hfit;refine ok30.pc ?_;have c47:=JSX.call trivial;simp only[JIw,Va,Vb]at c47;simp only[go_sem,ir30,ZK,Vv,Vc,Nat.reduceAdd,Nat.reduceEqDiff,Nat.reduceBEq,Nat.reduceLeDiff,reduceCtorEq,↓reduceIte];refine wn c47 ?_;simp only[go_sem,Vv,Vc,Nat.reduceAdd,Nat.reduceEqDiff,Nat.reduceBEq,Nat.reduceLeDiff,reduceCtorEq,↓reduceIte];refine⟨sP,JK (fun n st=>∃k:Nat,k≤3∧n=3-k∧
  st=⟨[(2,.ref 2 0),(4,.ref 4 0),(5,.ref 5 0),(6,.d (.list 1 [.str [105,110,95,97],.str [105,110,95,98],.str [97,103,97,105,110]])),(7,.d (.int .i64 k))],
   [(2,.box [.d (.list 1 (rs.map fun l=>.list 3 (l.map JAs))),.d (.int .u8 ch),.d (.list 6 ev)]),(4,.box [.d (.int .i64 0),.d (.nil 9),.d (.nil 7),.d (.nil 4),.d (.nil 3)]),
    (5,.box [.d (.int .i64 1),.d (.list 9 (JE7.map UB)),.d (.list 7 (JBE.map JHl)),.d (.list 4 (JDR.map Uy)),.ms 48 (XE rs k).length]),(48,.row (XE rs k).length 3 ((XE rs k).map Ui))]⟩) ?_ ?_⟩
 ·refine⟨_,_,(Wk.JCZ 5 4 48 3 _ rfl rfl rfl dC).trans (Wk.less ?_),0,Nat.zero_le _,rfl,rfl⟩;simp[go_sem,XE]
 ·rintro n st ⟨k,hk,rfl,rfl⟩;by_cases hlt:k<3
  ·have hd:decide ((k:Int)<3)=true:=sO;have hw:IntKind.i64.wrap ((k:Int)+1)=((k+1:Nat):Int):=by rw[wrap64 oM oM];rfl
   have htk:(((k+1:Nat):Int)-(k:Int)).toNat=1:=oM;have hfr:nth [Dat.str [105,110,95,97],.str [105,110,95,98],.str [97,103,97,105,110]] k=.str (sIn k):=by
    match k,hlt with
    |0,_=>rfl
    |1,_=>rfl
    |2,_=>rfl
   have hrl:=JEv rs k;have hsc:=Xr rs k;have c54:=(JS2 (lsI rs k) (JOu h k)).call trivial;simp only[Va,Vb]at c54;unfold JH9 at hsc;by_cases hkr:k<rs.length
   ·have hdk:decide ((k:Int)<(rs.length:Int))=true:=sO;have hx:nth (rs.map fun l=>Dat.list 3 (l.map JAs)) k=.list 3 ((lsI rs k).map JAs):=by
     rw[JU _ hkr];unfold lsI;rw[Vl hkr];rfl
    generalize lsI rs k=l at*;simp only[go_sem,hd,hdk,hx,Vv,Vc,Nat.reduceAdd,Nat.reduceEqDiff,Nat.reduceBEq,Nat.reduceLeDiff,reduceCtorEq,↓reduceIte];refine⟨⟨oM,oM⟩,dC,?_⟩;refine sq (decide ((l.length:Int)>0)) ?_ ?_
    ·simp only[go_sem,Vv,Vc,Nat.reduceAdd,Nat.reduceEqDiff,Nat.reduceBEq,Nat.reduceLeDiff,reduceCtorEq,↓reduceIte]
    cases hq:(((k:Int)==0)||decide ((l.length:Int)>0))
    ·rw[hq,if_neg Bool.false_ne_true,List.append_nil]at hsc;simp only[go_sem,hq,Vu,Vv,Vc,Nat.reduceAdd,Nat.reduceEqDiff,Nat.reduceBEq,Nat.reduceLeDiff,reduceCtorEq,↓reduceIte];refine⟨3-(k+1),_,oM,Wk.less ?_,k+1,oM,rfl,rfl⟩;rw[hsc];simp only[JF k oM];simp[go_sem]
    ·rw[hq,if_pos rfl]at hsc;simp only[go_sem,hq,hw,htk,hfr,Vv,Vc,Nat.reduceAdd,Nat.reduceEqDiff,Nat.reduceBEq,Nat.reduceLeDiff,reduceCtorEq,↓reduceIte];refine⟨⟨oM,oM,oM⟩,by rw[List.length_take];omega,⟨oM,oM⟩,dC,?_⟩;refine JI rfl c54 trivial ?_;simp only[go_sem,Vv,Vc,Nat.reduceAdd,Nat.reduceEqDiff,Nat.reduceBEq,Nat.reduceLeDiff,reduceCtorEq,↓reduceIte];refine⟨sP,oM,dC,3-(k+1),_,oM,Wk.less ?_,k+1,oM,rfl,rfl⟩;rw[hsc,Vw,Va,Vb,Ui];simp only[JF k oM,JI8,Vg,Vf,Vm];simp[go_sem]
   ·have hdk:decide ((k:Int)<(rs.length:Int))=false:=sO;have hl0:lsI rs k=[]:=by unfold lsI;rw[List.getElem?_eq_none oM];rfl
    rw[hl0]at c54 hsc;have c54:=JEk (args:=[.d (.nil 3)]) c54 rfl;obtain⟨l,hl1⟩:∃l:List S3,l=[]:=⟨_,rfl⟩;rw[←hl1]at c54 hsc;simp only[go_sem,hd,hdk,Vu,Vv,Vc,Nat.reduceAdd,Nat.reduceEqDiff,Nat.reduceBEq,Nat.reduceLeDiff,reduceCtorEq,↓reduceIte];refine sq (decide ((l.length:Int)>0)) ?_ ?_
    ·simp only[go_sem,hl1,Vm,Vv,Vc,Nat.reduceAdd,Nat.reduceEqDiff,Nat.reduceBEq,Nat.reduceLeDiff,reduceCtorEq,↓reduceIte]
    cases hq:(((k:Int)==0)||decide ((l.length:Int)>0))
    ·rw[hq,if_neg Bool.false_ne_true,List.append_nil]at hsc;simp only[go_sem,hq,Vu,Vv,Vc,Nat.reduceAdd,Nat.reduceEqDiff,Nat.reduceBEq,Nat.reduceLeDiff,reduceCtorEq,↓reduceIte];refine⟨3-(k+1),_,oM,Wk.less ?_,k+1,oM,rfl,rfl⟩;rw[hsc];simp only[JF k oM];simp[go_sem]
    ·rw[hq,if_pos rfl]at hsc;simp only[go_sem,hq,hw,htk,hfr,Vv,Vc,Nat.reduceAdd,Nat.reduceEqDiff,Nat.reduceBEq,Nat.reduceLeDiff,reduceCtorEq,↓reduceIte];refine⟨⟨oM,oM,oM⟩,by rw[List.length_take];omega,⟨oM,oM⟩,dC,?_⟩;refine JI rfl c54 trivial ?_;simp only[go_sem,Vv,Vc,Nat.reduceAdd,Nat.reduceEqDiff,Nat.reduceBEq,Nat.reduceLeDiff,reduceCtorEq,↓reduceIte];refine⟨sP,oM,dC,3-(k+1),_,oM,Wk.less ?_,k+1,oM,rfl,rfl⟩;rw[hsc,Vw,Va,Vb,Ui];simp only[JF k oM,JI8,Vg,Vf,Vm];simp[go_sem]
  ·obtain rfl:k=3:=oM;have hne:(JEh (XE rs 3)).routes≠[]:=by
    show XE rs 3≠[];rw[Xr,Xr,Xr];simp[XE,JH9]
   have c31:=(JOs (JEh (XE rs 3)) hne hsz).call trivial;have hd:decide (((3:Nat):Int)<3)=false:=rfl;simp only[go_sem,hd,Vu,Vv,Vc,Nat.reduceAdd,Nat.reduceEqDiff,Nat.reduceBEq,Nat.reduceLeDiff,reduceCtorEq,↓reduceIte];have c31a:=JEk (args:=[.d (.agg [.int .i64 1,.list 9 (JE7.map UB),.list 7 (JBE.map JHl),.list 4 (JDR.map Uy),.list 3 ((XE rs 3).map Ui)])]) c31 (by
    simp only[Va,Vb,Av.canon,Dat.canon,JG,JAm,JAn,JAo,UD,JEh];rw[Jw,JHm])
   have c31b:=JN.datA (hp:=[(48,.row (XE rs 3).length 3 ((XE rs 3).map Ui))]) (vs:=[.agg [.d (.int .i64 1),.d (.list 9 (JE7.map UB)),.d (.list 7 (JBE.map JHl)),.d (.list 4 (JDR.map Uy)),.ms 48 (XE rs 3).length]]) rfl sP c31a;generalize UJ (JEh (XE rs 3))=q at*;simp only[UD]at c31b⊢;refine wn c31b ?_;simp only[go_sem,Vv,Vc,Nat.reduceAdd,Nat.reduceEqDiff,Nat.reduceBEq,Nat.reduceLeDiff,reduceCtorEq,↓reduceIte]
def mkP(rs:List (List S3)):Prg:=UJ (JEh (XE rs 3))
theorem walk14(rs:List (List S3))(h:JGc rs)(ch:Int)(ev:List Dat)(hsz:nmP (JEh (XE rs 3))):
    ∃ev2:List Dat,J3 Tryz.prog 14 [ZK rs ch ev] (.tup [.d (UD (mkP rs)),.d (.list 6 ev2)]):=by
  refine⟨((ev.drop 0).take ((if(24:Int)<(ev.length:Int)then 24 else(ev.length:Int))-0).toNat),?_⟩
  refine ok14.con (k:=none) (Nat.le_of_ble_eq_true rfl) (by intro i o h;cases h) (by simp[inT,JR,JS]) ?_
  have c30:=(con30 rs h ch ev hsz).call trivial
  unfold mkP
  generalize UJ (JEh (XE rs 3))=q at*
  simp only[UD,ZK,Va,Vb]at c30⊢
  simp only[go_sem,ir14,Vv,Vc,Nat.reduceAdd,Nat.reduceEqDiff,Nat.reduceBEq,Nat.reduceLeDiff,reduceCtorEq,↓reduceIte]
  refine JI rfl c30 trivial ?_
  simp only[go_sem,Vv,Vc,Nat.reduceAdd,Nat.reduceEqDiff,Nat.reduceBEq,Nat.reduceLeDiff,reduceCtorEq,↓reduceIte]
  refine⟨⟨by omega,by split<;>omega,by split<;>omega⟩,by decide,rfl⟩
end Go.Proofs
namespace Go.Proofs
open Go Av
variable {b:Nat}
structure Cg where
 node:Int
 field:Int
 number:Int
 text:Str
def Ya(c:Cg):Dat:=.agg [.int .u8 c.node,.int .u8 c.field,.int .i64 c.number,.str c.text]
def JIE(c:Cg):Prop:=0≤c.node∧c.node≤255∧0≤c.field∧c.field≤255
structure Rc where
 n:Nd
 exn:Bool
 ca:List (Bool×Kal)
def JIF(x:Bool×Kal):Dat:=.agg [.str x.2.service,if x.1 then .nil 6 else .list 6 (x.2.rules.map UT)]
def exC(r:Rc):Dat:=if r.exn then .nil 5 else .list 5 (r.n.exprs.map Jf)
def Xs(r:Rc):Dat:=.agg [.str r.n.name,.int .i64 r.n.kind,.int .i64 r.n.schema,.int .i64 r.n.result,.int .i64 r.n.number,.int .i64 r.n.time,.int .i64 r.n.limit,.str r.n.text,.int .i64 r.n.type.kind,.int .i64 r.n.type.min,.int .i64 r.n.type.max,.int .i64 r.n.type.scale,.list 1 (r.n.type.words.map .str),.list 7 (r.n.type.elem.map UX),.list 11 (r.n.type.fields.map XY),.list 7 (r.n.types.map UX),exC r,.list 6 (r.n.rules.map UT),.list 2 (r.ca.map JIF),.list 1 (r.n.next.map (.int .i64))]
def JFE(n:Nd):Rc:=⟨n,false,n.calls.map fun k=>(false,k)⟩
def JO4(r:Rc):Nd:={r.n with calls:=r.ca.map Prod.snd}
structure okC(b:Nat)(r:Rc):Prop where
 ex:r.exn=true→r.n.exprs=[]
 ca:∀x∈r.ca,x.1=true→x.2.rules=[]
 l1:r.n.types.length≤b
 l2:r.n.exprs.length≤b
 l3:r.ca.length≤b
 l4:r.n.next.length≤b
def JKL:Typ:=.mk 4 0 0 0 [[97],[98],[99]] [] []
def JQq(s:Str):Str:=s.take (if(40:Int)<(s.length:Int)then 40 else(s.length:Int)).toNat
def chR(first:Str)(c:Cg)(r:Rc):Rc:=
 let f:=c.field.tmod 12
 if f==0 then{r with n:={r.n with name:=JQq c.text}}
 else if f==1 then{r with n:={r.n with kind:=c.number}}
 else if f==2 then{r with n:={r.n with schema:=c.number}}
 else if f==3 then{r with n:={r.n with result:=c.number}}
 else if f==4 then{r with n:={r.n with exprs:=r.n.exprs++[Jq 1]},exn:=false}
 else if f==5 then{r with n:={r.n with exprs:=[]},exn:=true}
 else if f==6 then{r with ca:=r.ca++[(true,⟨[112,97,121],[]⟩)]}
 else if f==7 then{r with n:={r.n with types:=r.n.types++[JKL]}}
 else if f==8 then{r with n:={r.n with next:=r.n.next++[c.number]}}
 else if f==9 then{r with n:={r.n with next:=[c.number]}}
 else if f==10 then{r with n:={r.n with number:=c.number}}
 else{r with n:={r.n with name:=first}}
def Yb(R:List Rc)(c:Cg):List Rc:=match R[(c.node.tmod R.length).toNat]? with
 |some r=>R.set (c.node.tmod R.length).toNat (chR ((R[0]?.map fun x=>x.n.name).getD []) c r)
 |none=>R
theorem JO5(R:List Rc)(c:Cg):(Yb R c).length=R.length:=by unfold Yb;split<;>simp
theorem walk17:PT 17 [] (.d (UX JKL)):=by
 refine ok17.pc ?_;simp only[go_sem,ir17,JKL,Us,Typ.kind,Typ.min,Typ.max,Typ.scale,Typ.words,Typ.elem,Typ.fields,Va,Vb,Vv,Vc,simprocAttr];simp
theorem X3{P:Prop}[Decidable P]{x y:Rc}(h1:okC b x)(h2:okC b y):okC b (if P then x else y):=by
 by_cases h:P
 ·rw[if_pos h];exact h1
 ·rw[if_neg h];exact h2
theorem chR_ok{r:Rc}(h:okC b r)(s:Str)(c:Cg):okC (b+1) (chR s c r):=by
 obtain⟨h1,h2,h3,h4,h5,h6⟩:=h;have p3:r.n.types.length≤b+1:=oM;have p4:r.n.exprs.length≤b+1:=oM;have p5:r.ca.length≤b+1:=oM;have p6:r.n.next.length≤b+1:=oM;unfold chR;refine X3 ⟨h1,h2,p3,p4,p5,p6⟩ (X3 ⟨h1,h2,p3,p4,p5,p6⟩ (X3 ⟨h1,h2,p3,p4,p5,p6⟩ (X3 ⟨h1,h2,p3,p4,p5,p6⟩ (X3 ⟨fun e=>(by cases e),h2,p3,?_,p5,p6⟩ (X3 ⟨fun _=>rfl,h2,p3,sP,p5,p6⟩
  (X3 ⟨h1,?_,p3,p4,?_,p6⟩ (X3 ⟨h1,h2,?_,p4,p5,p6⟩ (X3 ⟨h1,h2,p3,p4,p5,?_⟩ (X3 ⟨h1,h2,p3,p4,p5,sP⟩ (X3 ⟨h1,h2,p3,p4,p5,p6⟩ ⟨h1,h2,p3,p4,p5,p6⟩))))))))))
 ·simp only[Vg,Vf,Vm];omega
 ·intro x hx hx1;rcases List.mem_append.1 hx with hx|hx
  ·exact h2 x hx hx1
  ·rw[List.mem_singleton.1 hx]
 ·simp only[Vg,Vf,Vm];omega
 ·simp only[Vg,Vf,Vm];omega
 ·simp only[Vg,Vf,Vm];omega
theorem JQr{R:List Rc}(h:∀r∈R,okC b r)(c:Cg):∀r∈Yb R c,okC (b+1) r:=by
 have hm:∀r∈R,okC (b+1) r:=fun r hr=>by
  obtain⟨h1,h2,h3,h4,h5,h6⟩:=h r hr;exact⟨h1,h2,oM,oM,oM,oM⟩
 intro r hr;unfold Yb at hr;split at hr
 ·rename_i x e;rcases List.mem_or_eq_of_mem_set hr with hr|hr
  ·exact hm r hr
  ·rw[hr];exact chR_ok (h x (List.mem_of_getElem? e)) _ _
 ·exact hm r hr
theorem JJJ{x:Bool×Kal}(h:x.1=true→x.2.rules=[]):(JIF x).canon=Je x.2:=by
 obtain⟨b,k⟩:=x;cases b with
 |false=>simp only[JIF,Dat.canon,JG,Je,Vu,if_false,Uf]
 |true=>
  have h2:k.rules=[]:=h rfl;simp only[JIF,Dat.canon,JG,Je,if_true,h2,Vb]
theorem JIG{r:Rc}(h:okC b r):(Xs r).canon=XO (JO4 r):=by
 have h1:JG (r.ca.map JIF)=(r.ca.map Prod.snd).map Je:=by
  rw[Jw,List.map_map,List.map_map];exact List.map_congr_left fun x hx=>JJJ (h.ca x hx)
 have h2:(exC r).canon=.list 5 (r.n.exprs.map Jf):=by
  unfold exC;split
  ·rename_i e;rw[h.ex e];rfl
  ·simp only[Dat.canon,UH]
 simp only[Xs,XO,JO4,Dat.canon,JG,h1,h2,YT,YU,ZU,Uf,XB]
end Go.Proofs
namespace Go.Proofs
open Go Av
mutual
def qS:Ste→Prop
 |.mk n k u t l x c e ru a b=>((k=11→e=[])∧a.length≤1000000000∧b.length≤1000000000∧e.length≤1000000000)∧qBs b
def qSs:List Ste→Prop
 |[]=>True
 |v::r=>qS v∧qSs r
def qB:Brn→Prop
 |.mk w s=>qSs s
def qBs:List Brn→Prop
 |[]=>True
 |v::r=>qB v∧qBs r
end
theorem qS_st{s:Ste}(h:qS s):stQ s:=by
 obtain⟨n,k,u,t,l,x,c,e,ru,a,b⟩:=s;simp only[qS]at h;exact⟨h.1.1,h.1.2.1,h.1.2.2.1,h.1.2.2.2⟩
mutual
theorem qS_nm(r:Int):∀(s:Ste) (pl:List Int),qS s→qS (nmS r pl s)
 |.mk n k u t l x c e ru a b,pl,h=>by
  simp only[qS,nmS]at h⊢;exact⟨⟨h.1.1,h.1.2.1,by rw[JAu];exact h.1.2.2.1,h.1.2.2.2⟩,JPB r b pl 0 h.2⟩
theorem JJN(r:Int):∀(l:List Ste) (pl:List Int) (i:Int),qSs l→qSs (Yo r pl i l)
 |[],_,_,h=>h
 |v::q,pl,i,h=>by
  simp only[qSs,Yo]at h⊢;exact⟨qS_nm r v _ h.1,JJN r q pl (i+1) h.2⟩
theorem qB_nm(r:Int):∀(b:Brn) (pl:List Int),qB b→qB (nmB r pl b)
 |.mk w s,pl,h=>by
  simp only[qB,nmB]at h⊢;exact JJN r s pl 0 h
theorem JPB(r:Int):∀(l:List Brn) (pl:List Int) (i:Int),qBs l→qBs (JCO r pl i l)
 |[],_,_,h=>h
 |v::q,pl,i,h=>by
  simp only[qBs,JCO]at h⊢;exact⟨qB_nm r v _ h.1,JPB r q pl (i+1) h.2⟩
end
mutual
theorem szS_nm(r:Int):∀(s:Ste) (pl:List Int),szS (nmS r pl s)=szS s
 |.mk n k u t l x c e ru a b,pl=>by simp only[szS,nmS,JKN r b pl 0]
theorem JGo(r:Int):∀(l:List Ste) (pl:List Int) (i:Int),J6 (Yo r pl i l)=J6 l
 |[],_,_=>rfl
 |v::q,pl,i=>by simp only[J6,Yo,szS_nm r v _,JGo r q pl (i+1)]
theorem szB_nm(r:Int):∀(b:Brn) (pl:List Int),szB (nmB r pl b)=szB b
 |.mk w s,pl=>by simp only[szB,nmB,JGo r s pl 0]
theorem JKN(r:Int):∀(l:List Brn) (pl:List Int) (i:Int),XQ (JCO r pl i l)=XQ l
 |[],_,_=>rfl
 |v::q,pl,i=>by simp only[XQ,JCO,szB_nm r v _,JKN r q pl (i+1)]
end
def JDW(o:List Wlk):Prop:=∀w∈o,stQ w.step
theorem JDW.app{o:List Wlk}(h:JDW o){w:Wlk}(hw:stQ w.step):JDW (o++[w]):=by
 intro x hx;rcases List.mem_append.1 hx with hx|hx
 ·exact h x hx
 ·rw[List.mem_singleton.1 hx];exact hw
mutual
theorem visS_q(r:Int):∀(x:Ste) (i:Int) (d:Nat) (s:PO),qS x→JDW s.2.2→JDW (JFB r x i d s).2.2
 |.mk n k u t l x c e ru a b,i,d,s,h,hs=>by
  have h0:=qS_st h;rw[JFB];simp only[qS]at h;exact JKO r b 0 (d+1) _ h.2 (hs.app h0)
theorem JGp(r:Int):∀(x:List Ste) (i:Int) (d:Nat) (s:PO),qSs x→JDW s.2.2→JDW (Ua r x i d s).2.2
 |[],_,_,_,_,hs=>hs
 |x::y,i,d,s,h,hs=>by
  simp only[qSs]at h;exact JGp r y (i+1) d _ h.2 (visS_q r x i d s h.1 hs)
theorem visB_q(r:Int):∀(x:Brn) (i:Int) (d:Nat) (s:PO),qB x→JDW s.2.2→JDW (JFC r x i d s).2.2
 |.mk w l,i,d,s,h,hs=>by
  rw[JFC];simp only[qB]at h;exact JGp r l 0 (d+1) _ h hs
theorem JKO(r:Int):∀(x:List Brn) (i:Int) (d:Nat) (s:PO),qBs x→JDW s.2.2→JDW (Xz r x i d s).2.2
 |[],_,_,_,_,hs=>hs
 |x::y,i,d,s,h,hs=>by
  simp only[qBs]at h;exact JKO r y (i+1) d _ h.2 (visB_q r x i d s h.1 hs)
end
theorem wkN_q{l:List Rou}(h:∀x∈l,qSs x.steps)(k:Nat):JDW (wkN l k):=by
 intro w hw;obtain⟨i,-,hi⟩:=List.mem_flatMap.1 hw;cases e:l[i]? with
 |none=>rw[e]at hi;cases hi
 |some x=>
  rw[e]at hi;exact JGp i x.steps 0 0 (0,[],[]) (h x (List.mem_of_getElem? e)) (fun _ h=>by cases h) w hi
end Go.Proofs
namespace Go.Proofs
open Go Av
variable {n:Nat}
def sm(n:Nat)(s:Ste):Prop:=qS s∧szS s≤n
theorem JE0{nm:Str}{k u t l:Int}{x c:Str}{e:List Exp}{ru:List Rule}{a:List Kal}(hn:1≤n)(h1:k=11→e=[])(h2:a.length≤1000)(h3:e.length≤1000):sm n (.mk nm k u t l x c e ru a []):=
 ⟨by simp only[qS,qBs,Vm];exact⟨⟨h1,oM,oM,oM⟩,trivial⟩,by simp only[szS,XQ];omega⟩
theorem JQv(a:Int):(sgL a).length≤3:=by
 unfold sgL
 repeat' split
 all_goals decide
theorem sm_agg(hn:1≤n)(now:Str)(a b:Int):sm n (JOL now a b):=by
 unfold JOL;refine JE0 hn (fun h=>absurd h dC) sP ?_;cases(a.tmod 2==0)<;>simp
theorem JKP{br:Ste}(hb:sm n br)(hn:1≤n)(k a b:Int)(now:Str):sm n (UP br k a b now).1:=by
 unfold UP
 repeat' split
 all_goals first
  |exact hb
  |exact sm_agg hn _ _ _
  |exact JE0 hn (fun h=>absurd h dC) sP sP
  |exact JE0 hn (fun h=>absurd h dC) (by rw[JCK];have:=JQv a;omega) sP
  |exact JE0 hn (fun h=>absurd h dC) (by rw[JCK];simp) sP
  |skip
theorem JPC(now:Str)(a:Int):sm 1 (toS now a):=JE0 (Nat.le_refl _) (fun h=>absurd h dC) sP sP
theorem sm_fil(now:Str)(a:Int):sm 1 (JCM now a):=JE0 (Nat.le_refl _) (fun h=>absurd h dC) sP sP
theorem sm_rej:sm 1 JSx:=JE0 (Nat.le_refl _) (fun h=>absurd h dC) sP sP
theorem JQw{inn t:Ste}(h1:sm 1 inn)(h2:sm 1 t)(j:Int):qSs (pick inn t j)∧J6 (pick inn t j)≤2:=by
 unfold pick;have h3:=sm_rej;unfold sm at h1 h2 h3
 repeat' split
 all_goals simp only[qSs,J6,h1.1,h2.1,h3.1,and_self,true_and]
 all_goals omega
theorem JPD{f:Nat→Brn}(h:∀i,qB (f i)∧szB (f i)≤3):∀l:List Nat,qBs (l.map f)∧XQ (l.map f)≤3*l.length
 |[]=>⟨trivial,Nat.le_refl _⟩
 |i::r=>by
  have h1:=h i;have h2:=JPD h r;simp only[Va,qBs,XQ,Vf];exact⟨⟨h1.1,h2.1⟩,oM⟩
theorem sm_br(k a b:Int)(now:Str)(h0:0≤a):sm 10 (brS k a b now):=by
 have hi:sm 1 (JQN k a b now):=JKP (sm_fil now _) (Nat.le_refl _) _ _ _ _;have hb:=JPD (f:=brn (!(k.tmod 13==11)) a b (Jg now a) (JQN k a b now) (toS now a)) (fun i=>by
  have:=JQw hi (JPC now a) ((b+i).tmod 4);simp only[brn,qB,szB];exact⟨this.1,oM⟩) (List.range (2+(a.tmod 2).toNat))
 have h2:(a.tmod 2).toNat≤1:=by
  rw[Int.tmod_eq_emod_of_nonneg h0];omega
 rw[List.length_range]at hb;unfold sm brS;simp only[qS,szS];refine⟨⟨⟨sP,sP,?_,sP⟩,hb.1⟩,?_⟩
 ·unfold bBr;rw[Vc,List.length_range];omega
 ·have e:XQ (bBr k a b now)≤3*(2+(a.tmod 2).toNat):=hb.2;omega
theorem sm_md(x:S3)(hx:JEm x)(now:Str):sm 10 (mdS x now).1:=JKP (sm_br _ _ _ _ hx.2.2.1) oM _ _ _ _
theorem JDn:∀(a b:List Ste),qSs a→qSs b→qSs (a++b)
 |[],_,_,h=>h
 |x::r,b,h1,h2=>by simp only[List.cons_append,qSs]at h1⊢;exact⟨h1.1,JDn r b h1.2 h2⟩
theorem JCW:∀(a b:List Ste),J6 (a++b)=J6 a+J6 b
 |[],_=>by simp[J6]
 |x::r,b=>by simp only[List.cons_append,J6,JCW r b];omega
theorem JPE:∀(l:List S3) (i:Nat) (out:List Ste) (now:Str) (z:S3),(∀x∈l,JEm x)→qSs out→J6 out≤10*i→i≤6→qSs (rtR l i out now z)∧J6 (rtR l i out now z)≤100
 |[],i,out,now,z,_,h1,h2,h3=>by
  have ht:=JPC now z.a;unfold sm at ht;simp only[rtR];refine⟨JDn _ _ h1 ⟨ht.1,trivial⟩,?_⟩;rw[JCW];simp only[J6];omega
 |x::r,i,out,now,z,hl,h1,h2,h3=>by
  have hm:=sm_md x (hl x Vh) now;have ht:=JPC now z.a;unfold sm at ht hm;have hq:=JDn out [(mdS x now).1] h1 ⟨hm.1,trivial⟩;have hs:J6 (out++[(mdS x now).1])≤10*(i+1):=by rw[JCW];simp only[J6];omega
  simp only[rtR];split
  ·rename_i hc;simp only[Vi,decide_eq_true_eq]at hc;split
   ·exact⟨hq,oM⟩
   ·exact JPE r (i+1) _ _ _ (fun y hy=>hl y (Vn _ hy)) hq hs oM
  ·refine⟨JDn _ _ h1 ⟨ht.1,trivial⟩,?_⟩;rw[JCW];simp only[J6];omega
end Go.Proofs
