/- Part P of a proof. -/
import Derived.Test.YteegbpaakjlodaaGreatDoorCbN
import Derived.Test.YteegbpaakjlodaaGreatDoorCbO
import Derived.Test.YteegbpaakjlodaaGreatDoorCbC
import Derived.Test.YteegbpaakjlodaaGreatDoorCbA
import Derived.Test.YteegbpaakjlodaaGreatDoorProg
import Derived.Test.YteegbpaakjlodaaGreatDoorCbM
import Derived.Test.YteegbpaakjlodaaGreatDoorCbF
set_option linter.unusedVariables false
set_option linter.unusedSimpArgs false
set_option linter.unusedSectionVars false
set_option linter.constructorNameAsVariable false
set_option linter.unnecessarySimpa false
set_option maxRecDepth 10000
namespace Go.Proofs
open Go Av
def rOk(x:Rou):Prop:=qSs x.steps∧J3 x.steps≤100
theorem JQb{rs:List (List S3)}(h:JGT rs)(k:Nat):∀x∈XB rs k,rOk x:=by
 intro x hx;obtain⟨i,-,hi⟩:=List.mem_flatMap.1 hx;unfold JHy at hi;split at hi
 ·rw[List.mem_singleton.1 hi];exact JOx (lsI rs i) 0 [] ZE ⟨0,0,0⟩ (JOi h i) trivial (by simp[J3]) oM
 ·cases hi
theorem JGg:∀(l:List Rou) (i:Int),(∀x∈l,rOk x)→∀x∈ZK i l,rOk x
 |[],_,_,x,h=>by cases h
 |y::q,i,hl,x,h=>by
  rcases VA.1 h with rfl|h
  ·have:=hl y Vh;exact⟨JJE i y.steps [] 0 this.1,by show J3 (Yk i [] 0 y.steps)≤100;rw[JGe];exact this.2⟩
  ·exact JGg q (i+1) (fun z hz=>hl z (Vn _ hz)) x h
theorem JKH:∀l:List Rou,(∀x∈l,rOk x)→XK l≤100*l.length
 |[],_=>Nat.le_refl _
 |x::r,h=>by
  have h1:=(h x Vh).2;have h2:=JKH r fun y hy=>h y (Vn _ hy)
  simp only[XK,Vf];omega
def JOz(q:Pn)(cs:List Cg):Pn:={q with nodes:=((cs.take 3).foldl Xy (q.nodes.map JCT)).map JLV}
theorem con5(rs:List (List S3))(h:JGT rs):∃q:Pn,PnB q∧∀(ch:Int) (ev:List Dat) (cs:List Cg),(∀c∈cs,JJB c)→PT 5 [ZJ rs ch ev,.list 4 (cs.map JAL)] (.d (Zo (JOz q cs))):=by
 have hK:=JQb h 3;have hKl:=JEp rs 3;have hne:XB rs 3≠[]:=by
  rw[Xm,Xm,Xm];simp[XB,JHy]
 have hsz:nmP (JEc (XB rs 3)):=fun x hx=>by have:=(hK x hx).2;omega
 have hN:=JGg (XB rs 3) 0 hK;have hNl:=ZI (XB rs 3) 0;have hsz2:nmP (mkP rs):=fun x hx=>by have:=(hN x hx).2;omega
 have hN2:=JGg (ZK 0 (XB rs 3)) 0 hN;have hNl2:=ZI (ZK 0 (XB rs 3)) 0;have hne2:(mkP rs).routes≠[]:=by
  intro e;have e2:(ZK 0 (XB rs 3)).length=0:=by rw[show ZK 0 (XB rs 3)=[]from e];rfl
  exact hne (List.eq_nil_of_length_eq_zero oM)
 have hne3:(UG (mkP rs)).routes≠[]:=by
  intro e;have e2:(ZK 0 (ZK 0 (XB rs 3))).length=0:=by rw[show ZK 0 (ZK 0 (XB rs 3))=[]from e];rfl
  exact hne (List.eq_nil_of_length_eq_zero oM)
 have hw:XK (UG (mkP rs)).routes≤1000000000:=by
  have:=JKH _ hN2;show XK (ZK 0 (ZK 0 (XB rs 3)))≤_;omega
 have hq:∀w∈wkN (UG (mkP rs)).routes (UG (mkP rs)).routes.length,stQ w.step:=wkN_q (fun x hx=>(hN2 x hx).1) _;have l1:(mkP rs).routes.length≤1000000000:=by show(ZK 0 (XB rs 3)).length≤_;omega
 have l2:(UG (mkP rs)).routes.length≤1000000000:=by show(ZK 0 (ZK 0 (XB rs 3))).length≤_;omega
 have h25:=JTB (mkP rs) hne2 hsz2 hw hq (by show JE2≠[];simp[JE2]) (by show JCF≠[];simp[JCF]) (by show JDO≠[];simp[JDO]) l1 (by show JCF.length≤_;decide) (by show JDO.length≤_;decide);have hP:PB (UG (mkP rs)):=⟨by show JE2.length≤_;decide,by show JCF.length≤_;decide,by show JDO.length≤_;decide,by show JE2≠[];simp[JE2],by show JCF≠[];simp[JCF],by show JDO≠[];simp[JDO]⟩;obtain⟨q,hqe,hB⟩:=JQY hP hne3 hw hq l2 (by show JCF.length≤_;decide) (by show JDO.length≤_;decide);rw[hqe]at h25;exact⟨q,hB,fun ch ev cs hcs=>walk5 rs h ch ev hsz cs hcs q h25 hB⟩
theorem ix89{g:Nat}{cs:List Dat}{q:Nd→Bool}(l:List Nd)(hq:∀x∈l,PT g (Uh x::cs) (.d (.bool (q x))))(hl:l.length≤68719476736):
  PT 58 [.list 20 (l.map Uh),.fn (.func g) [] cs] (.d (.int .i64 (ixQ q l))):=by
 refine ok58.pc ?_;simp only[go_sem,ir58,Vc,simprocAttr];refine JK (fun n s=>∃k:Nat,k≤l.length∧n=l.length-k∧(∀(j:Nat) (h1:j<l.length),j<k→q l[j]=false)∧
  s=⟨[(0,.d (.list 20 (l.map Uh))),(1,.d (.fn (.func g) [] cs)),(7,.d (.int .i64 l.length)),(8,.d (.int .i64 k))],[]⟩) ?_ ?_
 ·exact⟨_,_,Wk.refl _,0,Nat.zero_le _,rfl,sP,rfl⟩
 ·rintro n s ⟨k,hk,rfl,hinv,rfl⟩;by_cases hlt:k<l.length
  ·have hx:=JU Uh hlt;have hd:=dT hlt;have hc:=(hq l[k] (Vk _)).call trivial;simp only[Uh,Va]at hc hx;refine zz6 ?_;refine⟨oM,wn hc ?_⟩;refine zz ?_;apply ik<;>intro hf
   ·rw[ZC hlt hf hinv]
   ·refine⟨l.length-(k+1),_,oM,Wk.less ?_,k+1,oM,rfl,fun j h1 hj=>?_,rfl⟩
    ·exact zz7 trivial
    ·by_cases e:j=k
     ·subst e;exact hf
     ·exact hinv j h1 oM
  ·have hd:=dF hlt;refine zz5 ?_;rw[ZD (fun j h=>hinv j h oM)]
theorem walk22{g:Nat}{cs:List Dat}{q:Nd→Bool}(l:List Nd)(hq:∀x∈l,PT g (Uh x::cs) (.d (.bool (q x))))(hl:l.length≤68719476736):
  PT 22 [.list 20 (l.map Uh),.fn (.func g) [] cs] (.d (.bool (l.any q))):=by
 refine ok22.pc ?_;have c:=(ix89 l hq hl).call trivial;rw[←Z8];simp only[go_sem,ir22,simprocAttr];refine wc c trivial
structure PnC(q:Pn):Prop where
 n0:q.nodes.length≤5000000000
 nd:∀n∈q.nodes,n.calls.length≤5000000000∧n.next.length≤5000000000
theorem any_take_succ{α:Type}(f:α→Bool){l:List α}{k:Nat}(h:k<l.length):(l.take (k+1)).any f=((l.take k).any f||f l[k]):=by
 rw[List.take_succ_eq_append_getElem h,List.any_append];simp
theorem JKI:∀(cs:List Cg) (b:Nat) (R:List Rc),(∀r∈R,okC b r)→(∀r∈cs.foldl Xy R,okC (b+cs.length) r)∧(cs.foldl Xy R).length=R.length
 |[],b,R,h=>⟨h,rfl⟩
 |c::r,b,R,h=>by
  have:=JKI r (b+1) (Xy R c) (JKD h c);simp only[List.foldl_cons,Vf];rw[JH4]at this;refine⟨fun x hx=>?_,this.2⟩;have h2:=this.1 x hx;rwa[Nat.add_assoc,Nat.add_comm 1]at h2
theorem chgP_C{q:Pn}(hB:PnB q)(cs:List Cg):PnC (JOz q cs)∧(JOz q cs).nodes≠[]:=by
 have h0:∀r∈q.nodes.map JCT,okC 4000000000 r:=by
  intro r hr;obtain⟨n,hn,rfl⟩:=VC.1 hr;have h:=hB.nd n hn;refine⟨fun e=>absurd e (by simp[JCT]),fun x hx e=>?_,h.ts,h.ex,by simpa[JCT]using h.ca,h.nx⟩;obtain⟨k,_,rfl⟩:=VC.1 hx;cases e
 obtain⟨h1,h2⟩:=JKI (cs.take 3) 4000000000 (q.nodes.map JCT) h0;have h3:(cs.take 3).length≤3:=by rw[List.length_take];omega
 have hn:(JOz q cs).nodes.length=q.nodes.length:=by show(List.map JLV _).length=_;rw[Vc,h2,Vc]
 refine⟨⟨by rw[hn];have:=hB.n0;omega,fun n hm=>?_⟩,fun e=>?_⟩
 ·obtain⟨r,hr,rfl⟩:=VC.1 hm;have:=h1 r hr;have a1:=this.l3;have a2:=this.l4;exact⟨by show(r.ca.map Prod.snd).length≤_;rw[Vc];omega,by show r.n.next.length≤_;omega⟩
 ·rw[e]at hn;exact hB.n1 (List.eq_nil_of_length_eq_zero hn.symm)
end Go.Proofs
namespace Go.Proofs
open Go Av
open Av.Y
def ir4:Ic:=q (R (ox 2 0<|ow 4 false<|N) [0,4])<|q (R (oL 6 3 2<|om 7 1<|cl 8 5 [t 6,t 7]<|oN 5 [.int .i64 0,.nil 9,.nil 7,.nil 4,.nil 20]<|oS 5 5 8<|N) [1,2,6,7,8])<|q (D (.regd [(3,4)] (cl 9 8 []<|om 10 9<|.sc 10 true (oL 11 5 5<|cl 12 10 [t 11]<|oL 13 5 5<|cl 14 11 [t 13]<|ot 15 .eql 12 14<|N) (t 15) 16 (om 4 16<|N))) [5,9,10,16])<|.ret
theorem ok4:FT 4 17 ir4 [.tmp 4]:=.o Tryz.func4
def ir10:Ic:=q (R (ox 1 0<|oz 2 0<|N) [0,2])<|q (q (R (of 5 1 4<|ol 6 5<|oh 7 6<|oi 8 .gtr 7 128<|N) [5,6,7])<|D (I 8 (q (R (oz 2 9<|N) [1,8])<|.ret) S) [8])<|q (q (R (of 9 1 4<|ol 10 9<|oh 11 10<|oz 12 0<|N) [9])<|D (.block 0<|.loop (q (.reg (ot 13 .lss 12 11<|N))<|q (D (I 13 S (E 0)) [13])<|q (D (.block 1<|q (R (om 14 12<|oa true 15 20 10 12<|oL 16 20 15<|oN 3 [.int .i64 0]<|oN 4 [.str [],.int .i64 0,.int .i64 0,.int .i64 0,.int .i64 0,.int .i64 0,.int .i64 0,.str [],.int .i64 0,.int .i64 0,.int .i64 0,.int .i64 0,.nil 1,.nil 7,.nil 11,.nil 7,.nil 5,.nil 6,.nil 2,.nil 1]<|os 3 14<|oS 20 4 16<|N) [14,15,16])<|D (.block 2<|q (R (of 18 4 0<|ol 19 18<|cl 20 24 [t 19]<|og 21 20<|om 17 21<|N) [18,19,20,21])<|D (I 17 (q (R (oz 2 12<|N) [1,10,11,12,3,4,17])<|.ret) (q (R (oL 23 5 1<|ol 24 3<|cl 25 25 [t 23,t 24]<|om 22 25<|N) [17,23,24,25])<|D (I 22 (q (R (oz 2 7<|N) [1,10,11,12,3,4,22])<|.ret) (q (R (of 27 4 1<|ol 28 27<|cl 29 26 [t 28]<|og 30 29<|om 26 30<|N) [22,27,28,29,30])<|D (I 26 (q (R (oz 2 11<|N) [1,10,11,12,3,4,26])<|.ret) (q (R (of 32 4 2<|ol 33 32<|oi 34 .lss 33 0<|om 35 34<|.sc 35 false (of 36 4 2<|ol 37 36<|of 38 1 1<|ol 39 38<|oh 40 39<|ot 41 .geq 37 40<|N) (t 41) 42 (om 43 42<|.sc 43 false (of 44 4 3<|ol 45 44<|oi 46 .lss 45 (-1)<|N) (t 46) 47 (om 48 47<|.sc 48 false (of 49 4 3<|ol 50 49<|of 51 1 1<|ol 52 51<|oh 53 52<|ot 54 .geq 50 53<|N) (t 54) 55 (om 31 55<|N)))) [26,32,33,34,35,42,43,47,48,55])<|D (I 31 (q (R (oz 2 2<|N) [1,10,11,12,3,4,31])<|.ret) (q (R (oL 57 20 4<|cl 58 27 [t 57]<|og 59 58<|om 56 59<|N) [31,57,58,59])<|D (I 56 (q (R (oz 2 3<|N) [1,10,11,12,3,4,56])<|.ret) (q (D (.regd [(1,4),(2,4)] (of 61 4 19<|ol 62 61<|oh 63 62<|oL 64 20 4<|cl 65 28 [t 64]<|ot 66 .neq 63 65<|om 60 66<|N)) [56,61,62,63,64,65,66])<|D (I 60 (q (R (oz 2 25<|N) [1,10,11,12,3,4,60])<|.ret) (q (R (of 68 4 19<|ol 69 68<|oo 70 (.fnv (.func 30) [] [t 3,t 1])<|cl 71 29 [t 69,t 70]<|om 67 71<|N) [3,60,68,69,70,71])<|D (I 67 (q (R (oz 2 24<|N) [1,10,11,12,4,67])<|.ret) (q (R (of 73 4 19<|ol 74 73<|oo 75 (.fnv (.func 31) [] [t 1])<|cl 76 29 [t 74,t 75]<|om 72 76<|N) [4,67,73,74,75,76])<|D (I 72 (q (R (oz 2 25<|N) [1,10,11,12,72])<|.ret) S) [72])) [])) [])) [])) [])) [])) [])) []) []) [])<|R (oi 77 .add 12 1<|om 12 77<|N) [77])) [1,10,11,12,13,3,4])<|q (.reg (oz 2 0<|N))<|.ret
theorem ok10:FT 10 78 ir10 [.tmp 2]:=.o Tryz.func10
def ir11:Ic:=q (R (ox 1 0<|oz 2 0<|N) [0,2])<|q (q (R (of 11 1 4<|ol 12 11<|oh 13 12<|oi 14 .gtr 13 128<|N) [11,12,13])<|D (I 14 (q (R (oz 2 9<|N) [1,14])<|.ret) S) [14])<|q (q (.reg (oz 3 0<|N))<|D (.block 0<|.loop (q (q (R (om 15 3<|of 16 1 4<|ol 17 16<|oh 18 17<|ot 19 .lss 15 18<|N) [15,16,17,18])<|D (I 19 S (E 0)) [19])<|q (D (.block 1<|q (R (of 22 1 4<|ol 23 22<|om 24 3<|oa true 25 20 23 24<|oL 26 20 25<|oN 4 [.str [],.int .i64 0,.int .i64 0,.int .i64 0,.int .i64 0,.int .i64 0,.int .i64 0,.str [],.int .i64 0,.int .i64 0,.int .i64 0,.int .i64 0,.nil 1,.nil 7,.nil 11,.nil 7,.nil 5,.nil 6,.nil 2,.nil 1]<|oS 20 4 26<|N) [22,23,24,25,26])<|q (q (R (of 27 4 0<|ol 28 27<|cl 29 24 [t 28]<|og 30 29<|N) [27,28,29])<|D (I 30 (q (R (oz 2 12<|N) [1,3,4,30])<|.ret) S) [30])<|q (q (.reg (oz 5 0<|N))<|D (.block 2<|.loop (q (q (R (om 31 5<|om 32 3<|ot 33 .lss 31 32<|N) [31,32])<|D (I 33 S (E 2)) [33])<|q (D (.block 3<|q (R (of 36 1 4<|ol 37 36<|om 38 5<|oa true 39 20 37 38<|oL 40 20 39<|oN 6 [.str [],.int .i64 0,.int .i64 0,.int .i64 0,.int .i64 0,.int .i64 0,.int .i64 0,.str [],.int .i64 0,.int .i64 0,.int .i64 0,.int .i64 0,.nil 1,.nil 7,.nil 11,.nil 7,.nil 5,.nil 6,.nil 2,.nil 1]<|oS 20 6 40<|N) [36,37,38,39,40])<|q (R (of 41 4 1<|ol 42 41<|oi 43 .eql 42 21<|om 44 43<|.sc 44 true (of 45 6 1<|ol 46 45<|oi 47 .eql 46 22<|N) (t 47) 48 (om 49 48<|.sc 49 false (of 50 4 1<|ol 51 50<|oi 52 .eql 51 22<|om 53 52<|.sc 53 true (of 54 6 1<|ol 55 54<|oi 56 .eql 55 21<|N) (t 56) 57 N) (t 57) 58 (om 7 58<|N))) [41,42,43,44,48,49,58])<|q (R (of 59 6 0<|ol 60 59<|of 61 4 0<|ol 62 61<|ot 63 .seq 60 62<|om 64 63<|.sc 64 true (om 65 7<|og 66 65<|N) (t 66) 67 N) [6,7,59,60,61,62,63,64])<|D (I 67 (q (R (oz 2 7<|N) [1,3,4,5,67])<|.ret) S) [67]) [])<|R (om 34 5<|oi 35 .add 34 1<|om 5 35<|N) [34,35])) [5,33,6,7])<|q (D (.block 4<|q (R (of 69 4 1<|ol 70 69<|cl 71 32 [t 70]<|og 72 71<|om 68 72<|N) [69,70,71,72])<|D (I 68 (q (R (oz 2 11<|N) [1,3,4,68])<|.ret) (q (R (of 74 4 2<|ol 75 74<|oi 76 .lss 75 0<|om 77 76<|.sc 77 false (of 78 4 2<|ol 79 78<|of 80 1 1<|ol 81 80<|oh 82 81<|ot 83 .geq 79 82<|N) (t 83) 84 (om 85 84<|.sc 85 false (of 86 4 3<|ol 87 86<|oi 88 .lss 87 (-1)<|N) (t 88) 89 (om 90 89<|.sc 90 false (of 91 4 3<|ol 92 91<|of 93 1 1<|ol 94 93<|oh 95 94<|ot 96 .geq 92 95<|N) (t 96) 97 (om 73 97<|N)))) [68,74,75,76,77,84,85,89,90,97])<|D (I 73 (q (R (oz 2 2<|N) [1,3,4,73])<|.ret) (q (R (oL 99 20 4<|cl 100 33 [t 99]<|og 101 100<|om 98 101<|N) [73,99,100,101])<|D (I 98 (q (R (oz 2 3<|N) [1,3,4,98])<|.ret) (q (D (.regd [(1,4),(2,4)] (of 103 4 19<|ol 104 103<|oh 105 104<|oL 106 20 4<|cl 107 34 [t 106]<|ot 108 .neq 105 107<|om 102 108<|N)) [98,103,104,105,106,107,108])<|D (I 102 (q (R (oz 2 25<|N) [1,3,4,102])<|.ret) S) [102])) [])) [])) []) [])<|q (q (.reg (oz 8 0<|N))<|D (.block 5<|.loop (q (q (R (om 109 8<|of 110 4 19<|ol 111 110<|oh 112 111<|ot 113 .lss 109 112<|N) [109,110,111,112])<|D (I 113 S (E 5)) [113])<|q (D (.block 6<|q (R (of 116 4 19<|ol 117 116<|om 118 8<|oa false 119 1 117 118<|ol 120 119<|om 121 3<|ot 122 .leq 120 121<|om 123 122<|.sc 123 false (of 124 4 19<|ol 125 124<|om 126 8<|oa false 127 1 125 126<|ol 128 127<|of 129 1 4<|ol 130 129<|oh 131 130<|ot 132 .geq 128 131<|N) (t 132) 133 N) [116,117,118,119,120,121,122,123])<|D (I 133 (q (R (oz 2 24<|N) [1,3,4,8,133])<|.ret) S) [133]) [])<|R (om 114 8<|oi 115 .add 114 1<|om 8 115<|N) [114,115])) [8,113])<|q (.reg (oz 9 0<|N))<|D (.block 7<|.loop (q (q (R (om 134 9<|of 135 4 19<|ol 136 135<|oh 137 136<|ot 138 .lss 134 137<|N) [134,135,136,137])<|D (I 138 S (E 7)) [138])<|q (D (.block 8<|q (R (of 141 1 4<|ol 142 141<|of 143 4 19<|ol 144 143<|om 145 9<|oa false 146 1 144 145<|ol 147 146<|oa true 148 20 142 147<|of 149 148 1<|ol 150 149<|om 10 150<|N) [141,142,143,144,145,146,147,148,149,150])<|q (R (om 151 10<|oi 152 .eql 151 21<|om 153 152<|.sc 153 false (om 154 10<|oi 155 .eql 154 23<|N) (t 155) 156 N) [10,151,152,153])<|D (I 156 (q (R (oz 2 25<|N) [1,3,4,9,156])<|.ret) S) [156]) [])<|R (om 139 9<|oi 140 .add 139 1<|om 9 140<|N) [139,140])) [4,9,138,10]) [])<|R (om 20 3<|oi 21 .add 20 1<|om 3 21<|N) [20,21])) [1,3,19,4,5,6,7,8,9,10])<|q (.reg (oz 2 0<|N))<|.ret
theorem ok11:FT 11 157 ir11 [.tmp 2]:=.o Tryz.func11
def ir25:Ic:=q (R (ox 2 0<|ow 4 false<|N) [0,4])<|q (R (of 6 2 4<|ol 7 6<|om 8 1<|oa true 9 20 7 8<|oL 10 20 9<|oN 5 [.str [],.int .i64 0,.int .i64 0,.int .i64 0,.int .i64 0,.int .i64 0,.int .i64 0,.str [],.int .i64 0,.int .i64 0,.int .i64 0,.int .i64 0,.nil 1,.nil 7,.nil 11,.nil 7,.nil 5,.nil 6,.nil 2,.nil 1]<|oS 20 5 10<|N) [6,7,8,9,10])<|q (R (of 11 2 4<|ol 12 11<|om 13 1<|oo 14 (.slc 20 (t 12) none (some (t 13)) none)<|oo 15 (.fnv (.func 59) [] [t 5])<|cl 16 22 [t 14,t 15]<|om 4 16<|N) [1,2,5,11,12,13,14,15,16])<|.ret
theorem ok25:FT 25 17 ir25 [.tmp 4]:=.o Tryz.func25
def ir26:Ic:=q (R (ow 2 false<|N) [2])<|q (R (om 3 0<|oi 4 .geq 3 1<|om 5 4<|.sc 5 true (om 6 0<|oi 7 .leq 6 12<|N) (t 7) 8 (om 9 8<|.sc 9 false (om 10 0<|oi 11 .eql 10 14<|N) (t 11) 12 (om 13 12<|.sc 13 false (om 14 0<|oi 15 .geq 14 21<|om 16 15<|.sc 16 true (om 17 0<|oi 18 .leq 17 23<|N) (t 18) 19 N) (t 19) 20 (om 2 20<|N)))) [0,3,4,5,8,9,12,13,20])<|.ret
theorem ok26:FT 26 21 ir26 [.tmp 2]:=.o Tryz.func26
def ir27:Ic:=q (R (ox 1 0<|ow 2 false<|N) [0,2])<|q (R (of 5 1 16<|ol 6 5<|oh 7 6<|oi 8 .eql 7 0<|of 9 1 18<|ol 10 9<|oh 11 10<|oi 12 .eql 11 0<|om 3 8<|om 4 12<|N) [5,6,7,8,9,10,11,12])<|q (q (R (of 13 1 1<|ol 14 13<|N) [13])<|D (.block 0<|q (q (R (oi 16 .eql 14 1<|om 15 16<|N) [16])<|I 15 S (R (oi 17 .eql 14 6<|om 15 17<|N) [17]))<|I 15 (R (of 18 1 16<|ol 19 18<|oh 20 19<|oi 21 .eql 20 1<|om 3 21<|N) [14,15,18,19,20,21]) (q (R (oi 23 .eql 14 4<|om 22 23<|N) [15,23])<|I 22 (R (of 24 1 16<|ol 25 24<|oh 26 25<|oi 27 .eql 26 1<|om 28 27<|.sc 28 false (of 29 1 16<|ol 30 29<|oh 31 30<|oi 32 .eql 31 2<|N) (t 32) 33 (om 3 33<|N)) [14,22,24,25,26,27,28,33]) (q (R (oi 35 .eql 14 5<|om 34 35<|N) [22,35])<|I 34 (R (of 36 1 16<|ol 37 36<|oh 38 37<|oi 39 .eql 38 2<|om 3 39<|N) [14,34,36,37,38,39]) (q (R (oi 41 .eql 14 11<|om 40 41<|N) [34,41])<|I 40 (R (of 42 1 16<|ol 43 42<|oh 44 43<|oi 45 .geq 44 1<|om 3 45<|N) [14,40,42,43,44,45]) (q (R (oi 47 .eql 14 9<|om 46 47<|N) [40,47])<|I 46 (R (of 48 1 18<|ol 49 48<|oh 50 49<|oi 51 .eql 50 1<|om 4 51<|N) [14,46,48,49,50,51]) (q (R (oi 53 .eql 14 10<|om 52 53<|N) [14,46,53])<|D (I 52 (R (of 54 1 18<|ol 55 54<|oh 56 55<|oi 57 .geq 56 1<|om 4 57<|N) [52,54,55,56,57]) S) [52])))))) [])<|q (R (om 58 3<|om 59 58<|.sc 59 true (om 60 4<|N) (t 60) 61 (om 62 61<|.sc 62 true (of 63 1 15<|ol 64 63<|oh 65 64<|of 66 1 18<|ol 67 66<|oh 68 67<|ob 69 .mul (i 2) (t 68)<|ot 70 .eql 65 69<|N) (t 70) 71 (om 2 71<|N))) [1,3,4,58,59,61,62,71])<|.ret
theorem ok27:FT 27 72 ir27 [.tmp 2]:=.o Tryz.func27
def ir28:Ic:=q (R (ox 1 0<|oz 2 0<|N) [0,2])<|q (q (R (of 3 1 1<|ol 4 3<|N) [3])<|D (.block 0<|q (q (R (oi 6 .eql 4 14<|om 5 6<|N) [6])<|I 5 S (q (R (oi 7 .eql 4 22<|om 5 7<|N) [7])<|I 5 S (R (oi 8 .eql 4 23<|om 5 8<|N) [8])))<|D (I 5 (q (R (oz 2 0<|N) [1,4,5])<|.ret) (q (R (oi 10 .eql 4 11<|om 9 10<|N) [5,10])<|D (I 9 (q (R (of 11 1 16<|ol 12 11<|oh 13 12<|om 2 13<|N) [1,4,9,11,12,13])<|.ret) (q (R (oi 15 .eql 4 12<|om 14 15<|N) [4,9,15])<|D (I 14 (q (R (of 16 1 4<|ol 17 16<|om 2 17<|N) [1,14,16,17])<|.ret) S) [1,14])) [])) []) [7,8,11])<|q (.reg (oz 2 1<|N))<|.ret
theorem ok28:FT 28 18 ir28 [.tmp 2]:=.o Tryz.func28
def ir29:Ic:=q (R (ow 4 false<|N) [4])<|q (R (om 5 0<|om 6 1<|cl 7 60 [t 5,t 6]<|oi 8 .geq 7 0<|om 4 8<|N) [0,1,5,6,7,8])<|.ret
theorem ok29:FT 29 9 ir29 [.tmp 4]:=.o Tryz.func29
def ir30:Ic:=q (R (ow 4 false<|N) [4])<|q (R (om 5 0<|ol 6 1<|ot 7 .leq 5 6<|om 8 7<|.sc 8 false (om 9 0<|of 10 2 4<|ol 11 10<|oh 12 11<|ot 13 .geq 9 12<|N) (t 13) 14 (om 4 14<|N)) [0,5,6,7,8,14])<|.ret
theorem ok30:FT 30 15 ir30 [.tmp 4]:=.o Tryz.func30
def ir31:Ic:=q (R (ow 3 false<|N) [3])<|q (R (of 4 1 4<|ol 5 4<|om 6 0<|oa true 7 20 5 6<|of 8 7 1<|ol 9 8<|oi 10 .eql 9 21<|om 11 10<|.sc 11 false (of 12 1 4<|ol 13 12<|om 14 0<|oa true 15 20 13 14<|of 16 15 1<|ol 17 16<|oi 18 .eql 17 23<|N) (t 18) 19 (om 3 19<|N)) [0,4,5,6,7,8,9,10,11,19])<|.ret
theorem ok31:FT 31 20 ir31 [.tmp 3]:=.o Tryz.func31
def ir59:Ic:=q (R (ox 2 0<|ow 3 false<|N) [0,3])<|q (R (of 5 2 1<|ol 6 5<|oi 7 .eql 6 21<|om 8 7<|.sc 8 true (of 9 1 1<|ol 10 9<|oi 11 .eql 10 22<|N) (t 11) 12 (om 13 12<|.sc 13 false (of 14 2 1<|ol 15 14<|oi 16 .eql 15 22<|om 17 16<|.sc 17 true (of 18 1 1<|ol 19 18<|oi 20 .eql 19 21<|N) (t 20) 21 N) (t 21) 22 (om 4 22<|N))) [5,6,7,8,12,13,22])<|q (R (of 23 2 0<|ol 24 23<|of 25 1 0<|ol 26 25<|ot 27 .seq 24 26<|om 28 27<|.sc 28 true (om 29 4<|og 30 29<|N) (t 30) 31 (om 3 31<|N)) [2,4,23,24,25,26,27,28,31])<|.ret
theorem ok59:FT 59 32 ir59 [.tmp 3]:=.o Tryz.func59
def ir60:Ic:=q (R (oz 4 0<|N) [4])<|q (q (R (om 6 0<|oh 7 6<|oz 8 0<|N) [6])<|D (.block 0<|.loop (q (.reg (ot 9 .lss 8 7<|N))<|q (D (I 9 S (E 0)) [9])<|q (D (.block 1<|q (R (om 10 8<|om 5 10<|N) [10])<|q (R (om 11 1<|om 12 0<|om 13 5<|oa false 14 1 12 13<|ol 15 14<|.call (some 16) (.dyn (t 11)) [t 15] N) [11,12,13,14,15])<|D (I 16 (q (R (om 17 5<|om 4 17<|N) [0,1,7,8,5,16,17])<|.ret) S) [5,16]) [])<|R (oi 18 .add 8 1<|om 8 18<|N) [18])) [0,1,7,8,9,10,5,11])<|q (.reg (oz 4 (-1)<|N))<|.ret
theorem ok60:FT 60 19 ir60 [.tmp 4]:=.o Tryz.func60
def ir32:Ic:=q (R (ow 2 false<|N) [2])<|q (R (om 3 0<|oi 4 .geq 3 1<|om 5 4<|.sc 5 true (om 6 0<|oi 7 .leq 6 12<|N) (t 7) 8 (om 9 8<|.sc 9 false (om 10 0<|oi 11 .eql 10 14<|N) (t 11) 12 (om 13 12<|.sc 13 false (om 14 0<|oi 15 .geq 14 21<|om 16 15<|.sc 16 true (om 17 0<|oi 18 .leq 17 23<|N) (t 18) 19 N) (t 19) 20 (om 2 20<|N)))) [0,3,4,5,8,9,12,13,20])<|.ret
theorem ok32:FT 32 21 ir32 [.tmp 2]:=.o Tryz.func32
def ir33:Ic:=q (R (ox 1 0<|ow 2 false<|N) [0,2])<|q (R (of 7 1 16<|ol 8 7<|oh 9 8<|of 10 1 18<|ol 11 10<|oh 12 11<|om 3 9<|om 4 12<|N) [7,8,9,10,11,12])<|q (R (om 13 3<|oi 14 .eql 13 0<|om 15 4<|oi 16 .eql 15 0<|om 5 14<|om 6 16<|N) [13,14,15,16])<|q (q (R (of 17 1 1<|ol 18 17<|N) [17])<|D (.block 0<|q (q (R (oi 20 .eql 18 1<|om 19 20<|N) [20])<|I 19 S (R (oi 21 .eql 18 6<|om 19 21<|N) [21]))<|I 19 (R (om 22 3<|oi 23 .eql 22 1<|om 5 23<|N) [3,18,19,22,23]) (q (R (oi 25 .eql 18 4<|om 24 25<|N) [19,25])<|I 24 (R (om 26 3<|oi 27 .eql 26 1<|om 28 27<|.sc 28 false (om 29 3<|oi 30 .eql 29 2<|N) (t 30) 31 (om 5 31<|N)) [3,18,24,26,27,28,31]) (q (R (oi 33 .eql 18 5<|om 32 33<|N) [24,33])<|I 32 (R (om 34 3<|oi 35 .eql 34 2<|om 5 35<|N) [3,18,32,34,35]) (q (R (oi 37 .eql 18 11<|om 36 37<|N) [32,37])<|I 36 (R (om 38 3<|oi 39 .geq 38 1<|om 5 39<|N) [3,18,36,38,39]) (q (R (oi 41 .eql 18 9<|om 40 41<|N) [3,36,41])<|I 40 (R (om 42 4<|oi 43 .eql 42 1<|om 6 43<|N) [18,40,42,43]) (q (R (oi 45 .eql 18 10<|om 44 45<|N) [18,40,45])<|D (I 44 (R (om 46 4<|oi 47 .geq 46 1<|om 6 47<|N) [44,46,47]) S) [44])))))) [])<|q (R (om 48 5<|om 49 48<|.sc 49 true (om 50 6<|N) (t 50) 51 (om 52 51<|.sc 52 true (of 53 1 15<|ol 54 53<|oh 55 54<|om 56 4<|ob 57 .mul (i 2) (t 56)<|ot 58 .eql 55 57<|N) (t 58) 59 (om 2 59<|N))) [1,4,5,6,48,49,51,52,59])<|.ret
theorem ok33:FT 33 60 ir33 [.tmp 2]:=.o Tryz.func33
def ir34:Ic:=q (R (ox 1 0<|oz 2 0<|N) [0,2])<|q (q (R (of 3 1 1<|ol 4 3<|N) [3])<|D (.block 0<|q (q (R (oi 6 .eql 4 14<|om 5 6<|N) [6])<|I 5 S (q (R (oi 7 .eql 4 22<|om 5 7<|N) [7])<|I 5 S (R (oi 8 .eql 4 23<|om 5 8<|N) [8])))<|D (I 5 (q (R (oz 2 0<|N) [1,4,5])<|.ret) (q (R (oi 10 .eql 4 11<|om 9 10<|N) [5,10])<|D (I 9 (q (R (of 11 1 16<|ol 12 11<|oh 13 12<|om 2 13<|N) [1,4,9,11,12,13])<|.ret) (q (R (oi 15 .eql 4 12<|om 14 15<|N) [4,9,15])<|D (I 14 (q (R (of 16 1 4<|ol 17 16<|om 2 17<|N) [1,14,16,17])<|.ret) S) [1,14])) [])) []) [7,8,11])<|q (.reg (oz 2 1<|N))<|.ret
theorem ok34:FT 34 18 ir34 [.tmp 2]:=.o Tryz.func34
end Go.Proofs
namespace Go.Proofs
open Go Av
open Av.Y
def ir24:Ic:=q (R (ow 2 false<|N) [2])<|q (q (R (om 6 0<|oj 7 6<|oi 8 .lss 7 1<|om 9 8<|.sc 9 false (om 10 0<|oj 11 10<|oi 12 .gtr 11 32<|N) (t 12) 13 N) [6,7,8,9])<|D (I 13 (q (R (ow 2 false<|N) [0,13])<|.ret) S) [13])<|q (q (R (om 14 0<|oj 15 14<|oz 16 0<|N) [14])<|D (.block 0<|.loop (q (.reg (ot 17 .lss 16 15<|N))<|q (D (I 17 S (E 0)) [17])<|q (D (.block 1<|q (R (om 18 16<|om 3 18<|N) [18])<|q (R (om 19 0<|om 20 3<|oo 21 (.ixs (t 19) (t 20))<|om 4 21<|N) [19,20,21])<|q (R (om 22 4<|ob 23 .geq (t 22) (.k (.int .u8 97))<|om 24 23<|.sc 24 true (om 25 4<|ob 26 .leq (t 25) (.k (.int .u8 122))<|N) (t 26) 27 (om 5 27<|N)) [22,23,24,27])<|q (R (om 28 5<|og 29 28<|om 30 29<|.sc 30 true (om 31 3<|oi 32 .eql 31 0<|om 33 32<|.sc 33 false (om 34 4<|ob 35 .neq (t 34) (.k (.int .u8 95))<|om 36 35<|.sc 36 true (om 37 4<|ob 38 .lss (t 37) (.k (.int .u8 48))<|om 39 38<|.sc 39 false (om 40 4<|ob 41 .gtr (t 40) (.k (.int .u8 57))<|N) (t 41) 42 N) (t 42) 43 N) (t 43) 44 N) (t 44) 45 N) [3,4,5,28,29,30])<|D (I 45 (q (R (ow 2 false<|N) [0,15,16,45])<|.ret) S) [45]) [])<|R (oi 46 .add 16 1<|om 16 46<|N) [46])) [0,15,16,17,3,4,5])<|q (.reg (ow 2 true<|N))<|.ret
theorem ok24:FT 24 47 ir24 [.tmp 2]:=.o Tryz.func24
end Go.Proofs
namespace Go.Proofs
open Go Av
def cnBad(i:Int)(c:Int):Bool:= !(decide (c≥97)&&decide (c≤122))&&(i==0||(c !=95&&(decide (c<48)||decide (c>57))))
def cnGo:Nat→Str→Bool
 |_,[]=>true
 |i,c::r=> !cnBad i c.toNat&&cnGo (i+1) r
def cnS(s:Str):Bool:= !(decide ((s.length:Int)<1)||decide ((s.length:Int)>32))&&cnGo 0 s
theorem walk24(s:Str):PT 24 [.str s] (.d (.bool (cnS s))):=by
 refine ok24.pc ?_;simp only[go_sem,ir24,simprocAttr];refine sq (decide ((s.length:Int)>32)) ?_ ?_
 ·exact zz trivial
 unfold cnS;refine zz ?_;cases hb:(decide ((s.length:Int)<1)||decide ((s.length:Int)>32))with
 |true=>simp only[go_sem,Vr,Bool.false_and,simprocAttr]
 |false=>
  simp only[Bool.or_eq_false_iff,decide_eq_false_iff_not]at hb;simp only[go_sem,Vs,Vt,simprocAttr];refine JK (fun r st=>∃k:Nat,k≤s.length∧r=s.length-k∧cnGo k (s.drop k)=cnGo 0 s∧
   st=⟨[(0,.d (.str s)),(15,.d (.int .i64 s.length)),(16,.d (.int .i64 k))],[]⟩) ?_ ?_
  ·refine⟨_,_,Wk.less ?_,0,Nat.zero_le _,rfl,rfl,rfl⟩;simp[go_sem]
  ·rintro r st ⟨k,hk,rfl,hinv,rfl⟩;by_cases hlt:k<s.length
   ·have hd:=dT hlt;have hg:s.getD k 0=s[k]:=by simp[List.getD,Vl hlt]
    rw[Vq hlt,cnGo]at hinv;simp only[go_sem,hd,hg,Vv,simprocAttr];generalize((s[k].toNat:Nat):Int)=c at*;refine⟨⟨oM,oM⟩,?_⟩;refine sq (decide (c≤122)) ?_ ?_
    ·exact zz trivial
    refine zz ?_;refine sq ((k:Int)==0||(c !=95&&(decide (c<48)||decide (c>57)))) ?_ ?_
    ·refine zz ?_;refine sq (c !=95&&(decide (c<48)||decide (c>57))) ?_ ?_
     ·refine zz ?_;refine sq (decide (c<48)||decide (c>57)) ?_ ?_
      ·refine zz ?_;refine sq (decide (c>57)) ?_ ?_
       ·exact zz trivial
       exact zz trivial
      exact zz trivial
     exact zz trivial
    refine zz ?_;cases hq:cnBad k c with
    |true=>
     rw[hq]at hinv;unfold cnBad at hq;simp only[Vr,Bool.false_and]at hinv;rw[←hinv];simp only[go_sem,hq,simprocAttr]
    |false=>
     rw[hq]at hinv;unfold cnBad at hq;simp only[Vs,Vt]at hinv;simp only[go_sem,hq,simprocAttr];refine⟨s.length-(k+1),_,oM,Wk.less ?_,k+1,oM,rfl,hinv,rfl⟩;exact zz7 trivial
   ·have hd:=dF hlt;obtain rfl:k=s.length:=oM;rw[List.drop_length,cnGo]at hinv;rw[←hinv];exact zz5 trivial
def isN(k:Int):Bool:=((decide (k≥1)&&decide (k≤12))||k==14)||(decide (k≥21)&&decide (k≤23))
theorem walk26(k:Int):PT 26 [.int .i64 k] (.d (.bool (isN k))):=by
 refine ok26.pc ?_;unfold isN;simp only[go_sem,ir26,Vv,Vc,simprocAttr];refine sq (decide (k≤12)) ?_ ?_
 ·simp only[go_sem,Vv,Vc,simprocAttr]
 simp only[go_sem,Vv,Vc,simprocAttr];refine sq (k==14) ?_ ?_
 ·simp only[go_sem,Vv,Vc,simprocAttr]
 simp only[go_sem,Vv,Vc,simprocAttr];refine sq (decide (k≥21)&&decide (k≤23)) ?_ ?_
 ·simp only[go_sem,Vv,Vc,simprocAttr];refine sq (decide (k≤23)) ?_ ?_
  ·simp only[go_sem,Vv,Vc,simprocAttr]
  simp only[go_sem,Vv,Vc,simprocAttr]
 simp only[go_sem,Vv,Vc,simprocAttr]
theorem walk32(k:Int):PT 32 [.int .i64 k] (.d (.bool (isN k))):=by
 refine ok32.pc ?_;unfold isN;simp only[go_sem,ir32,Vv,Vc,simprocAttr];refine sq (decide (k≤12)) ?_ ?_
 ·simp only[go_sem,Vv,Vc,simprocAttr]
 simp only[go_sem,Vv,Vc,simprocAttr];refine sq (k==14) ?_ ?_
 ·simp only[go_sem,Vv,Vc,simprocAttr]
 simp only[go_sem,Vv,Vc,simprocAttr];refine sq (decide (k≥21)&&decide (k≤23)) ?_ ?_
 ·simp only[go_sem,Vv,Vc,simprocAttr];refine sq (decide (k≤23)) ?_ ?_
  ·simp only[go_sem,Vv,Vc,simprocAttr]
  simp only[go_sem,Vv,Vc,simprocAttr]
 simp only[go_sem,Vv,Vc,simprocAttr]
def exN(n:Nd):Bool:=if n.kind==1||n.kind==6 then(n.exprs.length:Int)==1 else if n.kind==4 then(n.exprs.length:Int)==1||(n.exprs.length:Int)==2 else if n.kind==5 then(n.exprs.length:Int)==2 else if n.kind==11 then decide ((n.exprs.length:Int)≥1)else(n.exprs.length:Int)==0
def caN(n:Nd):Bool:=if n.kind==9 then(n.calls.length:Int)==1 else if n.kind==10 then decide ((n.calls.length:Int)≥1)else(n.calls.length:Int)==0
def cntN(n:Nd):Bool:=(exN n&&caN n)&&(n.types.length:Int)==2*(n.calls.length:Int)
def prtN(n:Nd):Int:=if n.kind==14||n.kind==22||n.kind==23 then 0 else if n.kind==11 then n.exprs.length else if n.kind==12 then n.number else 1
theorem kinds7(k:Int):k=1∨k=6∨k=4∨k=5∨k=11∨k=9∨k=10∨((k==1)=false∧(k==6)=false∧(k==4)=false∧(k==5)=false∧(k==11)=false∧(k==9)=false∧(k==10)=false):=by
 simp only[beq_eq_false_iff_ne];omega
theorem kinds5(k:Int):k=14∨k=22∨k=23∨k=11∨k=12∨((k==14)=false∧(k==22)=false∧(k==23)=false∧(k==11)=false∧(k==12)=false):=by
 simp only[beq_eq_false_iff_ne];omega
theorem walk33(n:Nd)(hc:n.calls.length≤5000000000):PT 33 [Uh n] (.d (.bool (cntN n))):=by
 refine ok33.pc ?_;have hw:IntKind.i64.wrap (2*(n.calls.length:Int))=2*(n.calls.length:Int):=wrap64 oM oM;unfold cntN exN caN;rcases kinds7 n.kind with hk|hk|hk|hk|hk|hk|hk|⟨g1,g2,g3,g4,g5,g6,g7⟩
 ·simp only[go_sem,ir33,Uh,hk,Int.reduceBEq,Bool.true_or,Bool.or_true,Bool.or_false,Vu,Vv,Vc,simprocAttr];refine sq ((n.calls.length:Int)==0) ?_ ?_
  ·simp only[go_sem,Vv,Vc,simprocAttr]
  simp only[go_sem,Vv,Vc,simprocAttr];refine sq ((n.types.length:Int)==2*(n.calls.length:Int)) ?_ ?_
  ·simp only[go_sem,hw,Vv,Vc,simprocAttr]
  simp only[go_sem,Vv,Vc,simprocAttr]
 ·simp only[go_sem,ir33,Uh,hk,Int.reduceBEq,Bool.true_or,Bool.or_true,Bool.or_false,Vu,Vv,Vc,simprocAttr];refine sq ((n.calls.length:Int)==0) ?_ ?_
  ·simp only[go_sem,Vv,Vc,simprocAttr]
  simp only[go_sem,Vv,Vc,simprocAttr];refine sq ((n.types.length:Int)==2*(n.calls.length:Int)) ?_ ?_
  ·simp only[go_sem,hw,Vv,Vc,simprocAttr]
  simp only[go_sem,Vv,Vc,simprocAttr]
 ·simp only[go_sem,ir33,Uh,hk,Int.reduceBEq,Bool.true_or,Bool.or_true,Bool.or_false,Vu,Vv,Vc,simprocAttr];refine sq ((n.exprs.length:Int)==2) ?_ ?_
  ·simp only[go_sem,Vv,Vc,simprocAttr]
  simp only[go_sem,Vv,Vc,simprocAttr];refine sq ((n.calls.length:Int)==0) ?_ ?_
  ·simp only[go_sem,Vv,Vc,simprocAttr]
  simp only[go_sem,Vv,Vc,simprocAttr];refine sq ((n.types.length:Int)==2*(n.calls.length:Int)) ?_ ?_
  ·simp only[go_sem,hw,Vv,Vc,simprocAttr]
  simp only[go_sem,Vv,Vc,simprocAttr]
 ·simp only[go_sem,ir33,Uh,hk,Int.reduceBEq,Bool.true_or,Bool.or_true,Bool.or_false,Vu,Vv,Vc,simprocAttr];refine sq ((n.calls.length:Int)==0) ?_ ?_
  ·simp only[go_sem,Vv,Vc,simprocAttr]
  simp only[go_sem,Vv,Vc,simprocAttr];refine sq ((n.types.length:Int)==2*(n.calls.length:Int)) ?_ ?_
  ·simp only[go_sem,hw,Vv,Vc,simprocAttr]
  simp only[go_sem,Vv,Vc,simprocAttr]
 ·simp only[go_sem,ir33,Uh,hk,Int.reduceBEq,Bool.true_or,Bool.or_true,Bool.or_false,Vu,Vv,Vc,simprocAttr];refine sq ((n.calls.length:Int)==0) ?_ ?_
  ·simp only[go_sem,Vv,Vc,simprocAttr]
  simp only[go_sem,Vv,Vc,simprocAttr];refine sq ((n.types.length:Int)==2*(n.calls.length:Int)) ?_ ?_
  ·simp only[go_sem,hw,Vv,Vc,simprocAttr]
  simp only[go_sem,Vv,Vc,simprocAttr]
 ·simp only[go_sem,ir33,Uh,hk,Int.reduceBEq,Bool.true_or,Bool.or_true,Bool.or_false,Vu,Vv,Vc,simprocAttr];refine sq ((n.calls.length:Int)==1) ?_ ?_
  ·simp only[go_sem,Vv,Vc,simprocAttr]
  simp only[go_sem,Vv,Vc,simprocAttr];refine sq ((n.types.length:Int)==2*(n.calls.length:Int)) ?_ ?_
  ·simp only[go_sem,hw,Vv,Vc,simprocAttr]
  simp only[go_sem,Vv,Vc,simprocAttr]
 ·simp only[go_sem,ir33,Uh,hk,Int.reduceBEq,Bool.true_or,Bool.or_true,Bool.or_false,Vu,Vv,Vc,simprocAttr];refine sq (decide ((n.calls.length:Int)≥1)) ?_ ?_
  ·simp only[go_sem,Vv,Vc,simprocAttr]
  simp only[go_sem,Vv,Vc,simprocAttr];refine sq ((n.types.length:Int)==2*(n.calls.length:Int)) ?_ ?_
  ·simp only[go_sem,hw,Vv,Vc,simprocAttr]
  simp only[go_sem,Vv,Vc,simprocAttr]
 ·simp only[go_sem,ir33,Uh,g1,g2,g3,g4,g5,g6,g7,Bool.or_false,Vu,Vv,Vc,simprocAttr];refine sq ((n.calls.length:Int)==0) ?_ ?_
  ·simp only[go_sem,Vv,Vc,simprocAttr]
  simp only[go_sem,Vv,Vc,simprocAttr];refine sq ((n.types.length:Int)==2*(n.calls.length:Int)) ?_ ?_
  ·simp only[go_sem,hw,Vv,Vc,simprocAttr]
  simp only[go_sem,Vv,Vc,simprocAttr]
theorem walk27(n:Nd)(hc:n.calls.length≤5000000000):PT 27 [Uh n] (.d (.bool (cntN n))):=by
 refine ok27.pc ?_;have hw:IntKind.i64.wrap (2*(n.calls.length:Int))=2*(n.calls.length:Int):=wrap64 oM oM;unfold cntN exN caN;rcases kinds7 n.kind with hk|hk|hk|hk|hk|hk|hk|⟨g1,g2,g3,g4,g5,g6,g7⟩
 ·simp only[go_sem,ir27,Uh,hk,Int.reduceBEq,Bool.true_or,Bool.or_true,Bool.or_false,Vu,Vv,Vc,simprocAttr];refine sq ((n.calls.length:Int)==0) ?_ ?_
  ·simp only[go_sem,Vv,Vc,simprocAttr]
  simp only[go_sem,Vv,Vc,simprocAttr];refine sq ((n.types.length:Int)==2*(n.calls.length:Int)) ?_ ?_
  ·simp only[go_sem,hw,Vv,Vc,simprocAttr]
  simp only[go_sem,Vv,Vc,simprocAttr]
 ·simp only[go_sem,ir27,Uh,hk,Int.reduceBEq,Bool.true_or,Bool.or_true,Bool.or_false,Vu,Vv,Vc,simprocAttr];refine sq ((n.calls.length:Int)==0) ?_ ?_
  ·simp only[go_sem,Vv,Vc,simprocAttr]
  simp only[go_sem,Vv,Vc,simprocAttr];refine sq ((n.types.length:Int)==2*(n.calls.length:Int)) ?_ ?_
  ·simp only[go_sem,hw,Vv,Vc,simprocAttr]
  simp only[go_sem,Vv,Vc,simprocAttr]
 ·simp only[go_sem,ir27,Uh,hk,Int.reduceBEq,Bool.true_or,Bool.or_true,Bool.or_false,Vu,Vv,Vc,simprocAttr];refine sq ((n.exprs.length:Int)==2) ?_ ?_
  ·simp only[go_sem,Vv,Vc,simprocAttr]
  simp only[go_sem,Vv,Vc,simprocAttr];refine sq ((n.calls.length:Int)==0) ?_ ?_
  ·simp only[go_sem,Vv,Vc,simprocAttr]
  simp only[go_sem,Vv,Vc,simprocAttr];refine sq ((n.types.length:Int)==2*(n.calls.length:Int)) ?_ ?_
  ·simp only[go_sem,hw,Vv,Vc,simprocAttr]
  simp only[go_sem,Vv,Vc,simprocAttr]
 ·simp only[go_sem,ir27,Uh,hk,Int.reduceBEq,Bool.true_or,Bool.or_true,Bool.or_false,Vu,Vv,Vc,simprocAttr];refine sq ((n.calls.length:Int)==0) ?_ ?_
  ·simp only[go_sem,Vv,Vc,simprocAttr]
  simp only[go_sem,Vv,Vc,simprocAttr];refine sq ((n.types.length:Int)==2*(n.calls.length:Int)) ?_ ?_
  ·simp only[go_sem,hw,Vv,Vc,simprocAttr]
  simp only[go_sem,Vv,Vc,simprocAttr]
 ·simp only[go_sem,ir27,Uh,hk,Int.reduceBEq,Bool.true_or,Bool.or_true,Bool.or_false,Vu,Vv,Vc,simprocAttr];refine sq ((n.calls.length:Int)==0) ?_ ?_
  ·simp only[go_sem,Vv,Vc,simprocAttr]
  simp only[go_sem,Vv,Vc,simprocAttr];refine sq ((n.types.length:Int)==2*(n.calls.length:Int)) ?_ ?_
  ·simp only[go_sem,hw,Vv,Vc,simprocAttr]
  simp only[go_sem,Vv,Vc,simprocAttr]
 ·simp only[go_sem,ir27,Uh,hk,Int.reduceBEq,Bool.true_or,Bool.or_true,Bool.or_false,Vu,Vv,Vc,simprocAttr];refine sq ((n.calls.length:Int)==1) ?_ ?_
  ·simp only[go_sem,Vv,Vc,simprocAttr]
  simp only[go_sem,Vv,Vc,simprocAttr];refine sq ((n.types.length:Int)==2*(n.calls.length:Int)) ?_ ?_
  ·simp only[go_sem,hw,Vv,Vc,simprocAttr]
  simp only[go_sem,Vv,Vc,simprocAttr]
 ·simp only[go_sem,ir27,Uh,hk,Int.reduceBEq,Bool.true_or,Bool.or_true,Bool.or_false,Vu,Vv,Vc,simprocAttr];refine sq (decide ((n.calls.length:Int)≥1)) ?_ ?_
  ·simp only[go_sem,Vv,Vc,simprocAttr]
  simp only[go_sem,Vv,Vc,simprocAttr];refine sq ((n.types.length:Int)==2*(n.calls.length:Int)) ?_ ?_
  ·simp only[go_sem,hw,Vv,Vc,simprocAttr]
  simp only[go_sem,Vv,Vc,simprocAttr]
 ·simp only[go_sem,ir27,Uh,g1,g2,g3,g4,g5,g6,g7,Bool.or_false,Vu,Vv,Vc,simprocAttr];refine sq ((n.calls.length:Int)==0) ?_ ?_
  ·simp only[go_sem,Vv,Vc,simprocAttr]
  simp only[go_sem,Vv,Vc,simprocAttr];refine sq ((n.types.length:Int)==2*(n.calls.length:Int)) ?_ ?_
  ·simp only[go_sem,hw,Vv,Vc,simprocAttr]
  simp only[go_sem,Vv,Vc,simprocAttr]
theorem walk34(n:Nd):PT 34 [Uh n] (.d (.int .i64 (prtN n))):=by
 refine ok34.pc ?_;unfold prtN;rcases kinds5 n.kind with hk|hk|hk|hk|hk|⟨g1,g2,g3,g4,g5⟩
 ·simp only[go_sem,ir34,Uh,hk,Int.reduceBEq,Bool.true_or,Bool.or_true,Bool.or_false,Vu,Vv,Vc,simprocAttr]
 ·simp only[go_sem,ir34,Uh,hk,Int.reduceBEq,Bool.true_or,Bool.or_true,Bool.or_false,Vu,Vv,Vc,simprocAttr]
 ·simp only[go_sem,ir34,Uh,hk,Int.reduceBEq,Bool.true_or,Bool.or_true,Bool.or_false,Vu,Vv,Vc,simprocAttr]
 ·simp only[go_sem,ir34,Uh,hk,Int.reduceBEq,Bool.true_or,Bool.or_true,Bool.or_false,Vu,Vv,Vc,simprocAttr]
 ·simp only[go_sem,ir34,Uh,hk,Int.reduceBEq,Bool.true_or,Bool.or_true,Bool.or_false,Vu,Vv,Vc,simprocAttr]
 ·simp only[go_sem,ir34,Uh,g1,g2,g3,g4,g5,Bool.or_false,Vu,Vv,Vc,simprocAttr]
theorem walk28(n:Nd):PT 28 [Uh n] (.d (.int .i64 (prtN n))):=by
 refine ok28.pc ?_;unfold prtN;rcases kinds5 n.kind with hk|hk|hk|hk|hk|⟨g1,g2,g3,g4,g5⟩
 ·simp only[go_sem,ir28,Uh,hk,Int.reduceBEq,Bool.true_or,Bool.or_true,Bool.or_false,Vu,Vv,Vc,simprocAttr]
 ·simp only[go_sem,ir28,Uh,hk,Int.reduceBEq,Bool.true_or,Bool.or_true,Bool.or_false,Vu,Vv,Vc,simprocAttr]
 ·simp only[go_sem,ir28,Uh,hk,Int.reduceBEq,Bool.true_or,Bool.or_true,Bool.or_false,Vu,Vv,Vc,simprocAttr]
 ·simp only[go_sem,ir28,Uh,hk,Int.reduceBEq,Bool.true_or,Bool.or_true,Bool.or_false,Vu,Vv,Vc,simprocAttr]
 ·simp only[go_sem,ir28,Uh,hk,Int.reduceBEq,Bool.true_or,Bool.or_true,Bool.or_false,Vu,Vv,Vc,simprocAttr]
 ·simp only[go_sem,ir28,Uh,g1,g2,g3,g4,g5,Bool.or_false,Vu,Vv,Vc,simprocAttr]
def twN(n m:Nd):Bool:=m.name==n.name&& !((m.kind==21&&n.kind==22)||(m.kind==22&&n.kind==21))
theorem walk59(m n:Nd):PT 59 [Uh m,.ptr (Uh n).cells] (.d (.bool (twN n m))):=by
 refine ok59.pc ?_;unfold twN;simp only[go_sem,ir59,Uh,Dat.cells,Vv,Vc,Nat.reduceAdd,Nat.reduceEqDiff,Nat.reduceBEq,Nat.reduceLeDiff,reduceCtorEq,↓reduceIte];refine sq (n.kind==22) ?_ ?_
 ·simp only[go_sem,Vv,Vc,Nat.reduceAdd,Nat.reduceEqDiff,Nat.reduceBEq,Nat.reduceLeDiff,reduceCtorEq,↓reduceIte];decide
 simp only[go_sem,Vv,Vc,Nat.reduceAdd,Nat.reduceEqDiff,Nat.reduceBEq,Nat.reduceLeDiff,reduceCtorEq,↓reduceIte];refine sq (m.kind==22&&n.kind==21) ?_ ?_
 ·simp only[go_sem,Vv,Vc,Nat.reduceAdd,Nat.reduceEqDiff,Nat.reduceBEq,Nat.reduceLeDiff,reduceCtorEq,↓reduceIte];refine sq (n.kind==21) ?_ ?_
  ·simp only[go_sem,Vv,Vc,Nat.reduceAdd,Nat.reduceEqDiff,Nat.reduceBEq,Nat.reduceLeDiff,reduceCtorEq,↓reduceIte];decide
  simp only[go_sem,Vv,Vc,Nat.reduceAdd,Nat.reduceEqDiff,Nat.reduceBEq,Nat.reduceLeDiff,reduceCtorEq,↓reduceIte]
 simp only[go_sem,Vv,Vc,Nat.reduceAdd,Nat.reduceEqDiff,Nat.reduceBEq,Nat.reduceLeDiff,reduceCtorEq,↓reduceIte];refine⟨dC,?_⟩;refine sq (!((m.kind==21&&n.kind==22)||(m.kind==22&&n.kind==21))) ?_ ?_
 ·simp only[go_sem,Vv,Vc,Nat.reduceAdd,Nat.reduceEqDiff,Nat.reduceBEq,Nat.reduceLeDiff,reduceCtorEq,↓reduceIte]
 simp only[go_sem,Vv,Vc,Nat.reduceAdd,Nat.reduceEqDiff,Nat.reduceBEq,Nat.reduceLeDiff,reduceCtorEq,↓reduceIte]
end Go.Proofs
namespace Av
open Go
variable [Glb][Rls]
abbrev cloD2(g:Nat)(cs cs':List Dat):Dat:=.fn (.func g) [] [.ptr cs,.ptr cs']
theorem JQ.clo2{P:Program}{f g:Nat}{ds cs cs':List Dat}{r:Dat}(h:UD P f (ds++[cloD2 g cs cs']) (.d r))(hr:scalar r=true)(i j:Nat)(hij:i≠j):
  JQ P f (ds.map .d++[.clo (.func g) [] [.ref i 0,.ref j 0]]) [(i,some (.box (cs.map .d))),(j,some (.box (cs'.map .d)))] (.d r) []:=by
 intro β A w H vs hT hc hvs;have hi:H i=some (.box (cs.map .d)):=hT _ (Vh);have hj:H j=some (.box (cs'.map .d)):=hT _ (Vn _ Vh);have st1:=Stp.Yu hc hi (JAn cs);have hj1:upd H i (some (.fbox cs)) j=some (.box (cs'.map .d)):=by simp[upd,Ne.symm hij,hj]
 have st2:=Stp.Yu st1.core hj1 (JAn cs');have hc0:Core β (fun k=>(A k∨β i=some k)∨β j=some k) w (get []):=⟨(by intro i o hi;cases hi),(by intro i j o o' b hi;cases hi),(by intro i o b hi;cases hi),st2.core.old,st2.core.glob⟩;refine .inl ⟨h.1,(h.2 β (fun k=>(A k∨β i=some k)∨β j=some k) w vs hc0 ⟨by have:=hvs.1;simp at this⊢;omega,?_⟩).mono ?_⟩
 ·intro k c v h1 h2;rw[Vo]at h1;cases e:(ds++[cloD2 g cs cs'])[k]? with
  |none=>simp[e]at h1
  |some x=>
   simp only[e,Vj,Vd]at h1;subst h1;refine .d _ _ ?_;by_cases hk:k<ds.length
   ·rw[Vz hk]at e;have:=hvs.2 k (.d x) v (by rw[Vz (sX hk),Vo,e];rfl) h2;exact(st2.vals _ _ (st1.vals _ _ this)).Jc
   ·rw[Vy oM]at e;have hk0:k-ds.length=0:=by
     rcases Nat.eq_zero_or_pos (k-ds.length)with h|h
     ·exact h
     ·rw[List.getElem?_eq_none sO]at e;cases e
    rw[hk0]at e;cases e;have hlen:(ds.map Av.d).length=ds.length:=sP;have:=hvs.2 k (.clo (.func g) [] [.ref i 0,.ref j 0]) v (by rw[Vy sO,hlen,hk0];rfl) h2;have h3:=st2.vals _ _ (st1.vals _ _ this);cases h3 with
    |clo _ _ _ a1 a2 l1 l2 hf hvv=>
     refine .fn _ _ _ a1 a2 l1 (sX l2) (by intro j c v hj;cases hj) ?_;intro q c v hq hqv
     match q,hq with
     |0,hq=>
      cases hq;have hrf:=hvv 0 _ v rfl hqv;cases hrf with
      |ref _ _ _ _ _ hu g0 g1 g2=>
       have:=g2 cs (by simp[upd,hij]);simpa using this
     |1,hq=>
      cases hq;have hrf:=hvv 1 _ v rfl hqv;cases hrf with
      |ref _ _ _ _ _ hu g0 g1 g2=>
       have:=g2 cs' sU;simpa using this
     |q+2,hq=>cases hq
 ·rintro e w' ⟨v,β1,A1,rfl,hsince,hc1,hv⟩;obtain⟨s1,s2,s3,s4,s5,sl,s6,s7,s8⟩:=hsince;dsimp only at s1 s2 s3 s4 s5 sl;have hsame:∀b,b<w.heap.size→w'.heap[b]? =w.heap[b]? :=fun b hb=>s5 b hb (by intro i o hi;cases hi)
  have hst:Stp β A w H β A w' H:=Stp.new hc s1 s2 s3 s4 hsame (fun _ h=>h) (fun _ h=>.inl h) (fun b hb=>by have:=hc.old b hb;omega);exact⟨v,rfl,β,A,hst,.d _ _ (hv.Jc.scalar hr)⟩
end Av
namespace Go.Proofs
open Go Av
theorem ix60{g:Nat}{cs:List Dat}{q:Int→Bool}(l:List Int)(hq:∀x∈l,PT g (.int .i64 x::cs) (.d (.bool (q x))))(hl:l.length≤68719476736):
  PT 60 [.list 1 (l.map (.int .i64)),.fn (.func g) [] cs] (.d (.int .i64 (ixQ q l))):=by
 refine ok60.pc ?_;simp only[go_sem,ir60,Vv,Vc,simprocAttr];refine JK (fun n s=>∃k:Nat,k≤l.length∧n=l.length-k∧(∀(j:Nat) (h1:j<l.length),j<k→q l[j]=false)∧
  s=⟨[(0,.d (.list 1 (l.map (.int .i64)))),(1,.d (.fn (.func g) [] cs)),(7,.d (.int .i64 l.length)),(8,.d (.int .i64 k))],[]⟩) ?_ ?_
 ·exact⟨_,_,Wk.refl _,0,Nat.zero_le _,rfl,sP,rfl⟩
 ·rintro n s ⟨k,hk,rfl,hinv,rfl⟩;by_cases hlt:k<l.length
  ·have hx:=JU (fun n=>Dat.int .i64 n) hlt;have hd:=dT hlt;have hc:=(hq l[k] (Vk _)).call trivial;simp only[Va]at hc;refine zz6 ?_;refine⟨⟨oM,oM⟩,dC,wn hc ?_⟩;simp only[go_sem,Vv,Vc,simprocAttr];apply ik<;>intro hf
   ·rw[ZC hlt hf hinv]
   ·refine⟨l.length-(k+1),_,oM,Wk.less ?_,k+1,oM,rfl,fun j h1 hj=>?_,rfl⟩
    ·simp only[go_sem,JE k oM,Vv,Vc,simprocAttr]
    ·by_cases e:j=k
     ·subst e;exact hf
     ·exact hinv j h1 oM
  ·have hd:=dF hlt;simp only[go_sem,hd,Vv,Vc,simprocAttr];rw[ZD (fun j h=>hinv j h oM)]
theorem walk29{g:Nat}{cs:List Dat}{q:Int→Bool}(l:List Int)(hq:∀x∈l,PT g (.int .i64 x::cs) (.d (.bool (q x))))(hl:l.length≤68719476736):
  PT 29 [.list 1 (l.map (.int .i64)),.fn (.func g) [] cs] (.d (.bool (l.any q))):=by
 refine ok29.pc ?_;have c:=(ix60 l hq hl).call trivial;rw[←Z8];simp only[go_sem,ir29,Vv,Vc,simprocAttr];refine wn c ?_;simp only[go_sem,Vv,Vc,simprocAttr]
def bkI(q:Pn)(i k:Int):Bool:=decide (k≤i)||decide (k≥(q.nodes.length:Int))
theorem walk30(q:Pn)(i k:Int):PT 30 [.int .i64 k,.ptr [.int .i64 i],.ptr (Zo q).cells] (.d (.bool (bkI q i k))):=by
 refine ok30.pc ?_;unfold bkI;simp only[go_sem,ir30,Zo,Dat.cells,Vv,Vc,Nat.reduceAdd,Nat.reduceEqDiff,Nat.reduceBEq,Nat.reduceLeDiff,reduceCtorEq,↓reduceIte];refine⟨dC,?_⟩;refine sq (decide (k≥(q.nodes.length:Int))) ?_ ?_
 ·simp only[go_sem,Vv,Vc,Nat.reduceAdd,Nat.reduceEqDiff,Nat.reduceBEq,Nat.reduceLeDiff,reduceCtorEq,↓reduceIte];decide
 simp only[go_sem,Vv,Vc,Nat.reduceAdd,Nat.reduceEqDiff,Nat.reduceBEq,Nat.reduceLeDiff,reduceCtorEq,↓reduceIte]
def srN(q:Pn)(k:Int):Bool:=match q.nodes[k.toNat]? with|some m=>m.kind==21||m.kind==23|none=>false
theorem walk31(q:Pn)(k:Int)(h0:0≤k)(h1:k<(q.nodes.length:Int)):PT 31 [.int .i64 k,.ptr (Zo q).cells] (.d (.bool (srN q k))):=by
 obtain⟨m,rfl⟩:∃m:Nat,k=(m:Int):=⟨k.toNat,oM⟩;have hm:m<q.nodes.length:=oM;refine ok31.pc ?_;have hx:=JU Uh hm;unfold srN;rw[Vv,Vl hm];generalize q.nodes[m]=tn at*;simp only[Uh]at hx;simp only[go_sem,ir31,Zo,Dat.cells,hx,Vv,Vc,Nat.reduceAdd,Nat.reduceEqDiff,Nat.reduceBEq,Nat.reduceLeDiff,reduceCtorEq,↓reduceIte];refine⟨dC,⟨oM,oM⟩,dC,?_⟩;refine sq (tn.kind==23) ?_ ?_
 ·refine zz24 ?_;exact⟨dC,⟨oM,oM⟩,dC⟩
 simp only[go_sem,Vv,Vc,Nat.reduceAdd,Nat.reduceEqDiff,Nat.reduceBEq,Nat.reduceLeDiff,reduceCtorEq,↓reduceIte]
theorem walk25(q:Pn)(hB:PnC q)(i:Nat)(hi:i<q.nodes.length):PT 25 [Zo q,.int .i64 i] (.d (.bool ((q.nodes.take i).any (twN q.nodes[i])))):=by
 refine ok25.pc ?_;have hn0:=hB.n0;have hx:=JU Uh hi;have cu:=JQ.clo (ds:=[.list 20 ((q.nodes.take i).map Uh)]) (walk22 (q.nodes.take i) (fun x _=>walk59 x q.nodes[i]) sO) rfl 5;have hsl:(List.drop (Int.toNat 0) (q.nodes.map Uh)).take ((i:Int)-0).toNat=(q.nodes.take i).map Uh:=by
  have:((i:Int)-0).toNat=i:=oM;rw[this,List.map_take];rfl
 generalize q.nodes[i]=tn at*;simp only[Uh,Dat.cells,Va,Vb,List.cons_append,List.nil_append]at cu hx;simp only[go_sem,ir25,Zo,hx,Vv,Vc,Nat.reduceAdd,Nat.reduceEqDiff,Nat.reduceBEq,Nat.reduceLeDiff,reduceCtorEq,↓reduceIte];refine⟨⟨oM,oM⟩,?_⟩;simp only[go_sem,hsl,Vv,Vc,Nat.reduceAdd,Nat.reduceEqDiff,Nat.reduceBEq,Nat.reduceLeDiff,reduceCtorEq,↓reduceIte];refine⟨⟨oM,oM,oM⟩,?_⟩;refine wn cu ?_;simp only[go_sem,Vv,Vc,Nat.reduceAdd,Nat.reduceEqDiff,Nat.reduceBEq,Nat.reduceLeDiff,reduceCtorEq,↓reduceIte]
end Go.Proofs
namespace Go.Proofs
open Go Av
variable {R:Int}
def rgN(q:Pn)(n:Nd):Bool:=((decide (n.schema<0)||decide (n.schema≥(q.schemas.length:Int)))||decide (n.result< -1))||decide (n.result≥(q.schemas.length:Int))
def ckN(q:Pn)(i:Nat)(n:Nd):Int:=
 if(!cnS n.name)=true then 12 else if((q.nodes.take i).any (twN n))=true then 7 else if(!isN n.kind)=true then 11 else if(rgN q n)=true then 2
 else if(!cntN n)=true then 3 else if((n.next.length:Int)!=prtN n)=true then 25 else if(n.next.any (bkI q i))=true then 24 else if(n.next.any (srN q))=true then 25 else 0
def ckL(q:Pn):List Nd→Nat→Int
 |[],_=>0
 |n::r,i=>if ckN q i n=0 then ckL q r (i+1)else ckN q i n
def chkP(q:Pn):Int:=if(q.nodes.length:Int)>128 then 9 else ckL q q.nodes 0
theorem ckL_at{q:Pn}{k:Nat}(h:k<q.nodes.length)(hR:ckL q (q.nodes.drop k) k=R):(if ckN q k q.nodes[k]=0 then ckL q (q.nodes.drop (k+1)) (k+1)else ckN q k q.nodes[k])=R:=by
 rw[Vq h]at hR;simpa only[ckL]using hR
theorem ck_pos{c:Prop}[Decidable c]{e X RS:Int}(hE:(if(if c then e else X)=0 then RS else(if c then e else X))=R)(h:c)(he:e≠0):R=e:=by
 rw[if_pos h,if_neg he]at hE;exact hE.symm
theorem ck_neg{c:Prop}[Decidable c]{e X RS:Int}(hE:(if(if c then e else X)=0 then RS else(if c then e else X))=R)(h:¬c):(if X=0 then RS else X)=R:=by
 rw[if_neg h]at hE;exact hE
theorem walk10(q:Pn)(hB:PnC q):PT 10 [Zo q] (.d (.int .i64 (chkP q))):=by
 refine ok10.pc ?_;have hn0:=hB.n0;generalize hR0:chkP q=R0;unfold chkP at hR0;simp only[go_sem,ir10,Zo,Vv,Vc,simprocAttr];apply ik<;>intro h
 ·rw[if_pos (of_decide_eq_true h)]at hR0;subst hR0;simp only[go_sem,Vv,Vc,simprocAttr]
 rw[if_neg (of_decide_eq_false h)]at hR0;refine JK (fun n st=>∃k:Nat,k≤q.nodes.length∧n=q.nodes.length-k∧ckL q (q.nodes.drop k) k=R0∧
  st=⟨[(1,.ref 1 0),(10,.d (.list 20 (q.nodes.map Uh))),(11,.d (.int .i64 q.nodes.length)),(12,.d (.int .i64 k))],[(1,.box [.d (.int .i64 q.version),.d (.list 9 (q.schemas.map Uc)),.d (.list 7 (q.endpoints.map J8)),.d (.list 4 (q.services.map Uk)),.d (.list 20 (q.nodes.map Uh))])]⟩) ?_ ?_
 ·exact⟨_,_,Wk.refl _,0,Nat.zero_le _,rfl,hR0,rfl⟩
 ·rintro n st ⟨k,hk,rfl,hR,rfl⟩;by_cases hlt:k<q.nodes.length
  ·have hd:=dT hlt;have hx:=JU Uh hlt;have hnd:=hB.nd _ (Vk hlt);have hE:=ckL_at hlt hR;have cN:=(walk24 q.nodes[k].name).call trivial;have cT:=(walk25 q hB k hlt).call trivial;have cK:=(walk26 q.nodes[k].kind).call trivial;have cC:=(walk27 q.nodes[k] hnd.1).call trivial;have cP:=(walk28 q.nodes[k]).call trivial;have c71:=JQ.clo2 (ds:=[.list 1 (q.nodes[k].next.map (.int .i64))]) (walk29 q.nodes[k].next (fun x _=>walk30 q k x) (by have:=hnd.2;omega)) rfl 3 1 dC;have c76:q.nodes[k].next.any (bkI q k)=false→CT (.fn 29) [.d (.list 1 (q.nodes[k].next.map (.int .i64))),.clo (.func 31) [] [.ref 1 0]] [(1,some (.box ((Zo q).cells.map .d)))] (.d (.bool (q.nodes[k].next.any (srN q)))) []:=fun hb=>
    JQ.clo (ds:=[.list 1 (q.nodes[k].next.map (.int .i64))]) (walk29 q.nodes[k].next (fun x hx=>walk31 q x (by
     have:=List.any_eq_false.1 hb x hx;simp[bkI]at this
     omega) (by
     have:=List.any_eq_false.1 hb x hx;simp[bkI]at this
     omega)) (by have:=hnd.2;omega)) rfl 1
   generalize hRS:ckL q (q.nodes.drop (k+1)) (k+1)=RS at hE;unfold ckN rgN at hE;generalize q.nodes[k]=y at*;simp only[Uh,Zo,Dat.cells,Va,Vb,List.cons_append,List.nil_append]at cC cP hx c71 c76 cT;simp only[go_sem,hd,hx,Uh,Dat.cells,Vv,Vc,simprocAttr];refine⟨⟨oM,oM⟩,?_⟩;refine wn cN ?_;simp only[go_sem,Vv,Vc,simprocAttr];apply ik<;>intro h
   ·obtain rfl:=ck_pos hE h dC;simp only[go_sem,Vv,Vc,simprocAttr]
   replace hE:=ck_neg hE (nF h)
   refine wn cT ?_;simp only[go_sem,Vv,Vc,simprocAttr];apply ik<;>intro h
   ·obtain rfl:=ck_pos hE h dC;simp only[go_sem,Vv,Vc,simprocAttr]
   replace hE:=ck_neg hE (nF h)
   refine wn cK ?_;simp only[go_sem,Vv,Vc,simprocAttr];apply ik<;>intro h
   ·obtain rfl:=ck_pos hE h dC;simp only[go_sem,Vv,Vc,simprocAttr]
   replace hE:=ck_neg hE (nF h)
   refine sq (decide (y.schema≥(q.schemas.length:Int))) ?_ ?_
   ·simp only[go_sem,Vv,Vc,simprocAttr]
   simp only[go_sem,Vv,Vc,simprocAttr];refine sq (decide (y.result< -1)) ?_ ?_
   ·simp only[go_sem,Vv,Vc,simprocAttr]
   simp only[go_sem,Vv,Vc,simprocAttr];refine sq (decide (y.result≥(q.schemas.length:Int))) ?_ ?_
   ·simp only[go_sem,Vv,Vc,simprocAttr]
   simp only[go_sem,Vv,Vc,simprocAttr];apply ik<;>intro h
   ·obtain rfl:=ck_pos hE h dC;simp only[go_sem,Vv,Vc,simprocAttr]
   replace hE:=ck_neg hE (nF h)
   refine wn cC ?_;simp only[go_sem,Vv,Vc,simprocAttr];apply ik<;>intro h
   ·obtain rfl:=ck_pos hE h dC;simp only[go_sem,Vv,Vc,simprocAttr]
   replace hE:=ck_neg hE (nF h)
   refine JG rfl cP trivial ?_;simp only[go_sem,Vv,Vc,simprocAttr];refine⟨dC,?_⟩;apply ik<;>intro h
   ·obtain rfl:=ck_pos hE h dC;simp only[go_sem,Vv,Vc,simprocAttr]
   replace hE:=ck_neg hE (nF h)
   refine wn c71 ?_;simp only[go_sem,Vv,Vc,simprocAttr];refine⟨fun h=>?_,fun h71=>?_⟩
   ·obtain rfl:=ck_pos hE h dC;simp only[go_sem,Vv,Vc,simprocAttr]
   replace hE:=ck_neg hE (nF h71)
   have c76:=c76 h71;refine wn c76 ?_;simp only[go_sem,Vv,Vc,simprocAttr];apply ik<;>intro h
   ·obtain rfl:=ck_pos hE h dC;simp only[go_sem,Vv,Vc,simprocAttr]
   replace hE:=ck_neg hE (nF h)
   rw[if_pos rfl]at hE;refine⟨q.nodes.length-(k+1),_,oM,Wk.less ?_,k+1,oM,rfl,hRS.trans hE,rfl⟩;simp only[JE k oM];simp[go_sem]
  ·have hd:=dF hlt;obtain rfl:k=q.nodes.length:=oM;rw[List.drop_length]at hR;simp only[ckL]at hR;subst hR;simp only[go_sem,hd,Vv,Vc,simprocAttr]
end Go.Proofs
namespace Go.Proofs
open Go Av
theorem tw_both(n m:Nd):(m.name==n.name&& !((n.kind==21&&m.kind==22)||(n.kind==22&&m.kind==21)))=twN n m:=by
 unfold twN;cases n.kind==21<;>cases m.kind==22<;>cases n.kind==22<;>cases m.kind==21<;>rfl
def plO(q:Pn):Av.Obj:=.box [.d (.int .i64 q.version),.d (.list 9 (q.schemas.map Uc)),.d (.list 7 (q.endpoints.map J8)),.d (.list 4 (q.services.map Uk)),.d (.list 20 (q.nodes.map Uh))]
def ndO(n:Nd):Av.Obj:=.box ((Uh n).cells.map .d)
theorem walk11(q:Pn)(hB:PnC q):PT 11 [Zo q] (.d (.int .i64 (chkP q))):=by
 refine ok11.pc ?_;have hn0:=hB.n0;generalize hR0:chkP q=R0;unfold chkP at hR0;simp only[go_sem,ir11,Zo,Vv,Vc,Nat.reduceAdd,Nat.reduceEqDiff,Nat.reduceBEq,Nat.reduceLeDiff,reduceCtorEq,↓reduceIte];apply ik<;>intro h
 ·rw[if_pos (of_decide_eq_true h)]at hR0;subst hR0;simp only[go_sem,Vv,Vc,Nat.reduceAdd,Nat.reduceEqDiff,Nat.reduceBEq,Nat.reduceLeDiff,reduceCtorEq,↓reduceIte]
 rw[if_neg (of_decide_eq_false h)]at hR0;refine JK (fun n st=>∃k:Nat,k≤q.nodes.length∧n=q.nodes.length-k∧ckL q (q.nodes.drop k) k=R0∧
  st=⟨[(1,.ref 1 0),(3,.d (.int .i64 k))],[(1,plO q)]⟩) ?_ ?_
 ·exact⟨_,_,Wk.refl _,0,Nat.zero_le _,rfl,hR0,rfl⟩
 ·rintro n st ⟨k,hk,rfl,hR,rfl⟩;by_cases hlt:k<q.nodes.length
  ·have hd:=dT hlt;have hx:=JU Uh hlt;have hnd:=hB.nd _ (Vk hlt);have hE:=ckL_at hlt hR;have cN:=(walk24 q.nodes[k].name).call trivial;have cK:=(walk32 q.nodes[k].kind).call trivial;have cC:=(walk33 q.nodes[k] hnd.1).call trivial;have cP:=(walk34 q.nodes[k]).call trivial;generalize hRS:ckL q (q.nodes.drop (k+1)) (k+1)=RS at hE;unfold ckN rgN at hE;generalize q.nodes[k]=y at*;simp only[Uh]at cC cP hx;simp only[go_sem,plO,hd,hx,Uh,Vv,Vc,Nat.reduceAdd,Nat.reduceEqDiff,Nat.reduceBEq,Nat.reduceLeDiff,reduceCtorEq,↓reduceIte];refine⟨⟨oM,oM⟩,?_⟩;refine wn cN ?_;simp only[go_sem,Vv,Vc,Nat.reduceAdd,Nat.reduceEqDiff,Nat.reduceBEq,Nat.reduceLeDiff,reduceCtorEq,↓reduceIte];apply ik<;>intro h
   ·obtain rfl:=ck_pos hE h dC;simp only[go_sem,Vv,Vc,Nat.reduceAdd,Nat.reduceEqDiff,Nat.reduceBEq,Nat.reduceLeDiff,reduceCtorEq,↓reduceIte]
   replace hE:=ck_neg hE (nF h)
   refine JK (fun n st=>∃j:Nat,j≤k∧n=k-j∧(q.nodes.take j).any (twN y)=false∧
    st=⟨[(1,.ref 1 0),(3,.d (.int .i64 k)),(4,.ref 4 0),(5,.d (.int .i64 j))],[(1,plO q),(4,ndO y)]⟩) ?_ ?_
   ·refine⟨_,_,Wk.less ?_,0,Nat.zero_le _,rfl,sP,rfl⟩;simp[go_sem,plO,ndO,Uh]
   rintro n st ⟨j,hj,rfl,hinv,rfl⟩;by_cases hjk:j<k
   ·have hdj:decide ((j:Int)<(k:Int))=true:=sO;have hjl:j<q.nodes.length:=oM;have hxj:=JU Uh hjl;have hs:=any_take_succ (twN y) hjl;have hmem:q.nodes[j]∈q.nodes.take k:=List.mem_of_getElem? (by rw[List.getElem?_take_of_lt hjk,Vl hjl]);generalize q.nodes[j]=m at*;simp only[Uh]at hxj;simp only[go_sem,plO,ndO,hdj,hxj,Uh,Dat.cells,Va,Vb,Vv,Vc,Nat.reduceAdd,Nat.reduceEqDiff,Nat.reduceBEq,Nat.reduceLeDiff,reduceCtorEq,↓reduceIte];refine⟨⟨oM,oM⟩,?_⟩;refine sq (m.kind==22) ?_ ?_
    ·simp only[go_sem,Vv,Vc,Nat.reduceAdd,Nat.reduceEqDiff,Nat.reduceBEq,Nat.reduceLeDiff,reduceCtorEq,↓reduceIte]
    simp only[go_sem,Vv,Vc,Nat.reduceAdd,Nat.reduceEqDiff,Nat.reduceBEq,Nat.reduceLeDiff,reduceCtorEq,↓reduceIte];refine sq (y.kind==22&&m.kind==21) ?_ ?_
    ·simp only[go_sem,Vv,Vc,Nat.reduceAdd,Nat.reduceEqDiff,Nat.reduceBEq,Nat.reduceLeDiff,reduceCtorEq,↓reduceIte];refine sq (m.kind==21) ?_ ?_
     ·simp only[go_sem,Vv,Vc,Nat.reduceAdd,Nat.reduceEqDiff,Nat.reduceBEq,Nat.reduceLeDiff,reduceCtorEq,↓reduceIte]
     simp only[go_sem,Vv,Vc,Nat.reduceAdd,Nat.reduceEqDiff,Nat.reduceBEq,Nat.reduceLeDiff,reduceCtorEq,↓reduceIte]
    simp only[go_sem,Vv,Vc,Nat.reduceAdd,Nat.reduceEqDiff,Nat.reduceBEq,Nat.reduceLeDiff,reduceCtorEq,↓reduceIte];refine sq (!((y.kind==21&&m.kind==22)||(y.kind==22&&m.kind==21))) ?_ ?_
    ·simp only[go_sem,Vv,Vc,Nat.reduceAdd,Nat.reduceEqDiff,Nat.reduceBEq,Nat.reduceLeDiff,reduceCtorEq,↓reduceIte]
    simp only[go_sem,tw_both,Vv,Vc,Nat.reduceAdd,Nat.reduceEqDiff,Nat.reduceBEq,Nat.reduceLeDiff,reduceCtorEq,↓reduceIte];apply ik<;>intro h
    ·obtain rfl:=ck_pos hE (List.any_eq_true.2 ⟨m,hmem,h⟩) dC;simp only[go_sem,Vv,Vc,Nat.reduceAdd,Nat.reduceEqDiff,Nat.reduceBEq,Nat.reduceLeDiff,reduceCtorEq,↓reduceIte]
    refine⟨k-(j+1),_,oM,Wk.less ?_,j+1,oM,rfl,by rw[hs,hinv,h];rfl,rfl⟩;simp only[JE j oM,plO,ndO,Uh,Dat.cells,Va,Vb];simp[go_sem]
   have hdj:decide ((j:Int)<(k:Int))=false:=sO;obtain rfl:j=k:=oM
   replace hE:=ck_neg hE (nF hinv)
   simp only[go_sem,plO,ndO,hdj,Uh,Dat.cells,Va,Vb,Vv,Vc,Nat.reduceAdd,Nat.reduceEqDiff,Nat.reduceBEq,Nat.reduceLeDiff,reduceCtorEq,↓reduceIte];refine wn cK ?_;simp only[go_sem,Vv,Vc,Nat.reduceAdd,Nat.reduceEqDiff,Nat.reduceBEq,Nat.reduceLeDiff,reduceCtorEq,↓reduceIte];apply ik<;>intro h
   ·obtain rfl:=ck_pos hE h dC;simp only[go_sem,Vv,Vc,Nat.reduceAdd,Nat.reduceEqDiff,Nat.reduceBEq,Nat.reduceLeDiff,reduceCtorEq,↓reduceIte]
   replace hE:=ck_neg hE (nF h)
   refine sq (decide (y.schema≥(q.schemas.length:Int))) ?_ ?_
   ·simp only[go_sem,Vv,Vc,Nat.reduceAdd,Nat.reduceEqDiff,Nat.reduceBEq,Nat.reduceLeDiff,reduceCtorEq,↓reduceIte]
   simp only[go_sem,Vv,Vc,Nat.reduceAdd,Nat.reduceEqDiff,Nat.reduceBEq,Nat.reduceLeDiff,reduceCtorEq,↓reduceIte];refine sq (decide (y.result< -1)) ?_ ?_
   ·simp only[go_sem,Vv,Vc,Nat.reduceAdd,Nat.reduceEqDiff,Nat.reduceBEq,Nat.reduceLeDiff,reduceCtorEq,↓reduceIte]
   simp only[go_sem,Vv,Vc,Nat.reduceAdd,Nat.reduceEqDiff,Nat.reduceBEq,Nat.reduceLeDiff,reduceCtorEq,↓reduceIte];refine sq (decide (y.result≥(q.schemas.length:Int))) ?_ ?_
   ·simp only[go_sem,Vv,Vc,Nat.reduceAdd,Nat.reduceEqDiff,Nat.reduceBEq,Nat.reduceLeDiff,reduceCtorEq,↓reduceIte]
   simp only[go_sem,Vv,Vc,Nat.reduceAdd,Nat.reduceEqDiff,Nat.reduceBEq,Nat.reduceLeDiff,reduceCtorEq,↓reduceIte];apply ik<;>intro h
   ·obtain rfl:=ck_pos hE h dC;simp only[go_sem,Vv,Vc,Nat.reduceAdd,Nat.reduceEqDiff,Nat.reduceBEq,Nat.reduceLeDiff,reduceCtorEq,↓reduceIte]
   replace hE:=ck_neg hE (nF h)
   refine wn cC ?_;simp only[go_sem,Vv,Vc,Nat.reduceAdd,Nat.reduceEqDiff,Nat.reduceBEq,Nat.reduceLeDiff,reduceCtorEq,↓reduceIte];apply ik<;>intro h
   ·obtain rfl:=ck_pos hE h dC;simp only[go_sem,Vv,Vc,Nat.reduceAdd,Nat.reduceEqDiff,Nat.reduceBEq,Nat.reduceLeDiff,reduceCtorEq,↓reduceIte]
   replace hE:=ck_neg hE (nF h)
   refine JG rfl cP trivial ?_;simp only[go_sem,Vv,Vc,Nat.reduceAdd,Nat.reduceEqDiff,Nat.reduceBEq,Nat.reduceLeDiff,reduceCtorEq,↓reduceIte];refine⟨dC,?_⟩;apply ik<;>intro h
   ·obtain rfl:=ck_pos hE h dC;simp only[go_sem,Vv,Vc,Nat.reduceAdd,Nat.reduceEqDiff,Nat.reduceBEq,Nat.reduceLeDiff,reduceCtorEq,↓reduceIte]
   replace hE:=ck_neg hE (nF h)
   refine JK (fun n st=>∃i:Nat,i≤y.next.length∧n=y.next.length-i∧(y.next.take i).any (bkI q j)=false∧
    st=⟨[(1,.ref 1 0),(3,.d (.int .i64 j)),(4,.ref 4 0),(8,.d (.int .i64 i))],[(1,plO q),(4,ndO y)]⟩) ?_ ?_
   ·refine⟨_,_,Wk.less ?_,0,Nat.zero_le _,rfl,sP,rfl⟩;simp[go_sem,plO,ndO,Uh]
   rintro n st ⟨i,hi,rfl,hinv5,rfl⟩;by_cases hil:i<y.next.length
   ·have hdi:decide ((i:Int)<(y.next.length:Int))=true:=sO;have hxi:=JU (fun n=>Dat.int .i64 n) hil;have hs:=any_take_succ (bkI q j) hil;have hmem:y.next[i]∈y.next:=Vk hil;generalize y.next[i]=x at*;simp only[go_sem,plO,ndO,hdi,hxi,Uh,Dat.cells,Va,Vb,Vv,Vc,Nat.reduceAdd,Nat.reduceEqDiff,Nat.reduceBEq,Nat.reduceLeDiff,reduceCtorEq,↓reduceIte];refine⟨⟨oM,oM⟩,dC,?_⟩;refine sq (decide (x≥(q.nodes.length:Int))) ?_ ?_
    ·simp only[go_sem,hxi,Vv,Vc,Nat.reduceAdd,Nat.reduceEqDiff,Nat.reduceBEq,Nat.reduceLeDiff,reduceCtorEq,↓reduceIte];exact⟨⟨oM,oM⟩,dC⟩
    simp only[go_sem,Vv,Vc,Nat.reduceAdd,Nat.reduceEqDiff,Nat.reduceBEq,Nat.reduceLeDiff,reduceCtorEq,↓reduceIte];apply ik<;>intro h
    ·obtain rfl:=ck_pos hE (List.any_eq_true.2 ⟨x,hmem,h⟩) dC;simp only[go_sem,Vv,Vc,Nat.reduceAdd,Nat.reduceEqDiff,Nat.reduceBEq,Nat.reduceLeDiff,reduceCtorEq,↓reduceIte]
    refine⟨y.next.length-(i+1),_,oM,Wk.less ?_,i+1,oM,rfl,by rw[hs,hinv5];exact h,rfl⟩;simp only[JE i oM,plO,ndO,Uh,Dat.cells,Va,Vb];simp[go_sem]
   have hdi:decide ((i:Int)<(y.next.length:Int))=false:=sO;obtain rfl:i=y.next.length:=oM;rw[List.take_length]at hinv5
   replace hE:=ck_neg hE (nF hinv5)
   simp only[go_sem,plO,ndO,hdi,Uh,Dat.cells,Va,Vb,Vv,Vc,Nat.reduceAdd,Nat.reduceEqDiff,Nat.reduceBEq,Nat.reduceLeDiff,reduceCtorEq,↓reduceIte];refine JK (fun n st=>∃i:Nat,i≤y.next.length∧n=y.next.length-i∧(y.next.take i).any (srN q)=false∧
    st=⟨[(1,.ref 1 0),(3,.d (.int .i64 j)),(4,.ref 4 0),(9,.d (.int .i64 i))],[(1,plO q),(4,ndO y)]⟩) ?_ ?_
   ·refine⟨_,_,Wk.less ?_,0,Nat.zero_le _,rfl,sP,rfl⟩;simp[go_sem,plO,ndO,Uh]
   rintro n st ⟨i,hi,rfl,hinv7,rfl⟩;by_cases hil:i<y.next.length
   ·have hdi':decide ((i:Int)<(y.next.length:Int))=true:=sO;have hxi:=JU (fun n=>Dat.int .i64 n) hil;have hs:=any_take_succ (srN q) hil;have hmem:y.next[i]∈y.next:=Vk hil;generalize y.next[i]=x at*;have hb:=List.any_eq_false.1 hinv5 x hmem;simp[bkI]at hb;have hx2:=JU Uh (show x.toNat<q.nodes.length by omega);have hsr:srN q x=(q.nodes[x.toNat].kind==21||q.nodes[x.toNat].kind==23):=by
     unfold srN;rw[Vl (show x.toNat<q.nodes.length by omega)]
    generalize q.nodes[x.toNat]=m at*;simp only[Uh]at hx2;simp only[go_sem,plO,ndO,hdi',hxi,hx2,Uh,Dat.cells,Va,Vb,Vv,Vc,Nat.reduceAdd,Nat.reduceEqDiff,Nat.reduceBEq,Nat.reduceLeDiff,reduceCtorEq,↓reduceIte];refine⟨⟨oM,oM⟩,dC,⟨oM,oM⟩,dC,?_⟩;refine sq (m.kind==23) ?_ ?_
    ·simp only[go_sem,Vv,Vc,Nat.reduceAdd,Nat.reduceEqDiff,Nat.reduceBEq,Nat.reduceLeDiff,reduceCtorEq,↓reduceIte]
    simp only[go_sem,Vv,Vc,Nat.reduceAdd,Nat.reduceEqDiff,Nat.reduceBEq,Nat.reduceLeDiff,reduceCtorEq,↓reduceIte];rw[←hsr];apply ik<;>intro h
    ·obtain rfl:=ck_pos hE (List.any_eq_true.2 ⟨x,hmem,h⟩) dC;simp only[go_sem,Vv,Vc,Nat.reduceAdd,Nat.reduceEqDiff,Nat.reduceBEq,Nat.reduceLeDiff,reduceCtorEq,↓reduceIte]
    refine⟨y.next.length-(i+1),_,oM,Wk.less ?_,i+1,oM,rfl,by rw[hs,hinv7];exact h,rfl⟩;simp only[JE i oM,plO,ndO,Uh,Dat.cells,Va,Vb];simp[go_sem]
   have hdi':decide ((i:Int)<(y.next.length:Int))=false:=sO;obtain rfl:i=y.next.length:=oM;rw[List.take_length]at hinv7
   replace hE:=ck_neg hE (nF hinv7)
   rw[if_pos rfl]at hE;simp only[go_sem,plO,ndO,hdi',Uh,Dat.cells,Va,Vb,Vv,Vc,Nat.reduceAdd,Nat.reduceEqDiff,Nat.reduceBEq,Nat.reduceLeDiff,reduceCtorEq,↓reduceIte];refine⟨q.nodes.length-(j+1),_,oM,Wk.less ?_,j+1,oM,rfl,hRS.trans hE,rfl⟩;simp only[JE j oM,plO];simp[go_sem]
  ·have hd:=dF hlt;obtain rfl:k=q.nodes.length:=oM;rw[List.drop_length]at hR;simp only[ckL]at hR;subst hR;simp only[go_sem,plO,hd,Vv,Vc,Nat.reduceAdd,Nat.reduceEqDiff,Nat.reduceBEq,Nat.reduceLeDiff,reduceCtorEq,↓reduceIte]
theorem walk4(rs:List (List S3))(h:JGT rs)(ch:Int)(ev:List Dat)(cs:List Cg)(hcs:∀c∈cs,JJB c):PT 4 [ZJ rs ch ev,.list 4 (cs.map JAL)] (.d (.bool true)):=by
 obtain⟨q0,hB,h7⟩:=con5 rs h;obtain⟨hC,hne⟩:=chgP_C hB cs;refine ok4.pc ?_;have c7:=(h7 ch ev cs hcs).call trivial;generalize JOz q0 cs=q at*;have cA:=(walk10 q hC).call trivial;have cB:=(walk11 q hC).call trivial;have cK:=walk8.call trivial;generalize chkP q=R at*;simp only[Zo,ZJ,Va,Vb]at c7 cA cB⊢;simp only[go_sem,ir4,Vv,Vc,simprocAttr];refine wn c7 ?_;simp only[go_sem,Vv,Vc,simprocAttr];refine JG rfl cK trivial ?_;simp only[go_sem,Vv,Vc,simprocAttr];refine⟨true,[(2,.box [.d (.list 1 (rs.map fun l=>.list 3 (l.map JAq))),.d (.int .u8 ch),.d (.list 6 ev)]),(5,.box [.d (.int .i64 q.version),.d (.list 9 (q.schemas.map Uc)),.d (.list 7 (q.endpoints.map J8)),.d (.list 4 (q.services.map Uk)),.d (.list 20 (q.nodes.map Uh))])],
  [([5],[]),([],[]),([5],[]),([],[]),([],[])],rfl,?_,fun _=>rfl,dC,rfl⟩
 refine JG rfl cA trivial ?_;simp only[go_sem,Vv,Vc,simprocAttr];refine JG rfl cB trivial ?_;simp only[go_sem,Vv,Vc,simprocAttr]
end Go.Proofs
namespace Go.Proofs.YteegbpaakjlodaaGreatDoor
open Go Go.Proofs Av Go.ChangeShapes Go.WideShapes Go.ChangeAt Go.RowKit
theorem JLX(H:Type)(enc:TypeId×Value→H)(W:World)(base:Nat)(args:Array Value)(ds gs:List (DataW H))(before:List MemPlace)
  (hval:∀(j:Nat) t v,Tryz.f4.params[j]? =some t→args[j]? =some v→Value.okWide Tryz.prog W .any base t v)
  (hW:DataW.Whole enc Tryz.prog Tryz.f4.params.toList Rows.compileChecksSpec.vars false W args.toList ds gs before)(hk:Rows.uptoSmall H (ds++gs)=true)(hL:laidMetH Tryz.prog Rows.compileChecksUptoRow.laid W):
  Calls Tryz.prog 4 args W fun e W'=>∃v,e=.returned v∧Rows.compileChecksSpec.post enc Tryz.prog Tryz.f4 false true false false W args v W':=by
 have hW':=hW;have hk':Rows.uptoBulkAll (ds++gs)≤1048576:=of_decide_eq_true hk;rw[JH6]at hk';obtain⟨p,q,hA0,hV,rfl,hfz,hnd⟩:=hW;have hA:DataW.TrodAll enc Tryz.prog W 0 (fun _=>true) true Tryz.f4.params.toList args.toList ds p:=hA0;rw[Tryz.params4]at hA hval;obtain⟨v0,vs0,d0,ds0,p0,q0,hargs0,rfl,rfl,h0,r0⟩:=trodAll_cons hA;obtain⟨v1,vs1,d1,ds1,p1,q1,hargs1,rfl,rfl,h1,r1⟩:=trodAll_cons r0;obtain⟨rfl,rfl,rfl⟩:=trodAll_nil r1;subst hargs1;obtain rfl:args=#[v0,v1]:=by cases args;simp_all
 obtain⟨rfl,rfl⟩:=trodVars_none hV;simp only[Rows.uptoBulkAll]at hk';obtain⟨rs0,ch0,ev0,ok0,r0⟩:=JJD (hval 0 25 v0 rfl rfl) h0 oM;obtain⟨cs1,ok1,r1⟩:=JLW (hval 1 26 v1 rfl rfl) h1 oM;refine(JE7 (walk4 rs0 ok0 ch0 ev0 cs1 ok1) (vs:=#[v0,v1]) (globs hL) rfl ?_).mono ?_
 ·intro i d v hd hv
  match i,hd,hv with
  |0,hd,hv=>cases hd;cases hv;exact r0
  |1,hd,hv=>cases hd;cases hv;exact r1
 ·rintro e W' ⟨rfl,hbel⟩;have hlt:∀x∈p0++(p1++[]),x.block<W.heap.size:=fun x hx=>by simpa using hW'.lt x (sX hx)
  refine⟨.bool true,rfl,[d0,d1],[],_,[],p0++(p1++[]),[],hW',?_,?_,?_,hbel.frame _,fun h=>by cases h⟩
  ·exact trodAll_mk1 (shut_bool kR _)
  ·have a0:=Below.trod laidOut kR (of_decide_eq_true kR) h0 hbel (fun x hx=>hlt x (by simp[hx]));have a1:=Below.trod laidOut kR (of_decide_eq_true kR) h1 hbel (fun x hx=>hlt x (by simp[hx]));show DataW.TrodAll enc Tryz.prog W' 0 _ true Tryz.f4.params.toList [v0,v1] [d0,d1] _;rw[Tryz.params4];exact trodAll_cons_mk a0 (trodAll_cons_mk a1 trodAll_mk0)
  ·rfl
end Go.Proofs.YteegbpaakjlodaaGreatDoor
