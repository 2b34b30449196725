/- Part O of a proof. -/
import Derived.Test.YtpncocdpglfifaaGreatDoorCfN
import Derived.Test.YtpncocdpglfifaaGreatDoorCfC
import Derived.Test.YtpncocdpglfifaaGreatDoorCfA
set_option linter.unusedVariables false
set_option linter.unusedSimpArgs false
set_option linter.unusedSectionVars false
set_option linter.constructorNameAsVariable false
set_option linter.unnecessarySimpa false
set_option maxRecDepth 10000
namespace Go.Proofs
open Go Av
theorem Uu(r:Rc):Xs r=.agg [.str r.n.name,.int .i64 r.n.kind,.int .i64 r.n.schema,.int .i64 r.n.result,.int .i64 r.n.number,.int .i64 r.n.time,.int .i64 r.n.limit,.str r.n.text,.int .i64 r.n.type.kind,.int .i64 r.n.type.min,.int .i64 r.n.type.max,.int .i64 r.n.type.scale,.list 1 (r.n.type.words.map .str),.list 7 (r.n.type.elem.map UX),.list 11 (r.n.type.fields.map XY),.list 7 (r.n.types.map UX),exC r,.list 6 (r.n.rules.map UT),.list 2 (r.ca.map JIF),.list 1 (r.n.next.map (.int .i64))]:=rfl
theorem Uv(s:Str):List.take ((if(40:Int)<(s.length:Int)then 40 else(s.length:Int))-0).toNat (List.drop (Int.toNat 0) s)=JQq s:=by unfold JQq;rw[Int.sub_zero];rfl
theorem JPF{R:List Rc}{i:Nat}(h:i<R.length)(y:Dat):nth ((R.map Xs).set i y) i=y:=by rw[XW (sX h)];simp
set_option maxHeartbeats 4000000 in
theorem walk4(rs:List (List S3))(hrs:JGc rs)(ch:Int)(ev:List Dat)(hsz:nmP (JEh (XE rs 3)))(cs:List Cg)(hcs:∀c∈cs,JIE c)(q:Pn)(hq:PT 15 [UD (mkP rs)] (.d (J8 q)))(hB:PnB q):
  PT 4 [ZK rs ch ev,.list 4 (cs.map Ya)] (.d (J8 {q with nodes:=((cs.take 3).foldl Yb (q.nodes.map JFE)).map JO4})):=by
 refine J3.Jk ok4.has fun hfit=>?_
 have hl:cs.length≤68719476736:=by have:=(hfit (.list 4 (cs.map Ya)) (by simp)).1;simpa using this
 clear hfit;refine ok4.pc ?_;obtain⟨ev2,hmk⟩:=walk14 rs hrs ch ev hsz;have c14:=hmk.call (by simp[Ug]);have c15:=hq.call trivial;generalize mkP rs=p at*;have hR0:q.nodes.map XO=(q.nodes.map JFE).map Xs:=by
  rw[List.map_map];refine List.map_congr_left fun n _=>?_
  simp only[Function.comp,XO,Xs,JFE,exC,Vu,if_false,List.map_map];rfl
 have hok0:∀r∈q.nodes.map JFE,okC 4000000000 r:=by
  intro r hr;obtain⟨n,hn,rfl⟩:=VC.1 hr;have h:=hB.nd n hn;refine⟨fun e=>absurd e (by simp[JFE]),fun x hx e=>?_,h.ts,h.ex,by simpa[JFE]using h.ca,h.nx⟩;obtain⟨k,_,rfl⟩:=VC.1 hx;cases e
 have hn0:(q.nodes.map JFE).length≤4000000000:=by rw[Vc];exact hB.n0
 have hn1:0<(q.nodes.map JFE).length:=by rw[Vc];exact List.length_pos_iff.2 hB.n1
 simp only[UD,ZK,J8,Va,Vb]at c14 c15⊢;rw[hR0]at c15;generalize q.nodes.map JFE=R0 at*;simp only[go_sem,ir4,Vv,Vc,Nat.reduceAdd,Nat.reduceEqDiff,Nat.reduceBEq,Nat.reduceLeDiff,reduceCtorEq,↓reduceIte];refine wn c14 ?_;simp only[go_sem,Vv,Vc,Nat.reduceAdd,Nat.reduceEqDiff,Nat.reduceBEq,Nat.reduceLeDiff,reduceCtorEq,↓reduceIte];refine wn c15 ?_;simp only[go_sem,Vv,Vc,Nat.reduceAdd,Nat.reduceEqDiff,Nat.reduceBEq,Nat.reduceLeDiff,reduceCtorEq,↓reduceIte];have hcl0:∀y∈R0.map Xs,y.cells.length=20:=fun y hy=>by obtain⟨r,_,rfl⟩:=VC.1 hy;rfl
 simp only[Dat.cells]at hcl0;refine⟨by simp,⟨by decide,by omega,hcl0⟩,?_⟩;refine JK (fun n st=>∃(k:Nat) (R:List Rc),k≤cs.length∧k≤3∧n=cs.length-k∧R=(cs.take k).foldl Yb R0∧R.length=R0.length∧(∀r∈R,okC (4000000000+k) r)∧
  st=⟨[(1,.d (.list 4 (cs.map Ya))),(4,.ref 4 0),(7,.ref 7 0),(8,.ms 21 0),(9,.d (.int .i64 k))],
   [(4,.box [.d (.int .i64 0),.d (.nil 9),.d (.nil 7),.d (.nil 4),.d (.nil 20)]),(7,.box [.d (.int .i64 q.version),.d (.list 9 (q.schemas.map UB)),.d (.list 7 (q.endpoints.map Jo)),.d (.list 4 (q.services.map Uy)),.d (.list 20 (R0.map Xs))]),(21,.row 0 20 (R.map Xs))]⟩) ?_ ?_
 ·refine⟨_,_,Wk.less ?_,0,R0,Nat.zero_le _,by omega,rfl,rfl,rfl,hok0,rfl⟩;simp[go_sem]
 rintro n st ⟨k,R,hk,hk3,rfl,hR,hRl,hok,rfl⟩;have hlen:decide ((R.length:Int)>0)=true:=by simp;omega
 by_cases hlt:k<cs.length∧k<3
 ·obtain⟨hlt,hlt3⟩:=hlt;have hd:decide ((k:Int)<(cs.length:Int))=true:=by simp;omega
  have hd3:decide ((k:Int)<3)=true:=by simp;omega
  have hx:=JU Ya hlt;have hR2:(cs.take (k+1)).foldl Yb R0=Yb R cs[k]:=by rw[hR,List.take_succ_eq_append_getElem hlt,List.foldl_append];rfl
  have hoc:=hcs _ (Vk hlt);generalize cs[k]=c at*;obtain⟨o1,o2,o3,o4⟩:=hoc;have hok2:=JQr hok c;have hcl2:=JO5 R c;have gw:IntKind.i64.wrap c.node=c.node:=wrap64 (by omega) (by omega);obtain⟨i,gi,hil⟩:∃i:Nat,c.node.tmod (R.length:Int)=(i:Int)∧i<R.length:=by
   have h1:=Int.tmod_nonneg (R.length:Int) o1;have h2:=Int.tmod_lt_of_pos c.node (show(0:Int)<R.length by omega);exact⟨(c.node.tmod (R.length:Int)).toNat,by omega,by omega⟩
  obtain⟨r,hr⟩:∃r,r=R[i]:=⟨_,rfl⟩;obtain⟨r0,hr0⟩:∃r0,r0=R[0]'(by omega):=⟨_,rfl⟩;have g0:nth (R.map Xs) i=Xs r:=by rw[hr];exact JU Xs hil
  have gz:nth (R.map Xs) (Int.toNat 0)=Xs r0:=by rw[hr0];exact JU Xs _
  have g2:=fun y=>JPF hil y
  have gl:(R.map Xs).length=R.length:=Vc _;have hc1:Yb R c=R.set i (chR r0.n.name c r):=by
   unfold Yb;rw[gi,Vv,Vl hil,Vl (show 0<R.length by omega),←hr,←hr0];rfl
  have hokr:=hok r (by rw[hr];exact Vk _);have hmap:(Yb R c).map Xs=(R.map Xs).set i (Xs (chR r0.n.name c r)):=by rw[hc1,List.map_set]
  rw[Uu]at g0 gz;unfold chR at hmap;have hne:(R.length:Int)≠0:=by omega
  simp only[Ya]at hx;have hl1:=hokr.l1;have hl2:=hokr.l2;have hl3:=hokr.l3;have hl4:=hokr.l4;have hE5:∀y∈r.n.exprs.map Jf,y.cells.length=5:=fun y hy=>by obtain⟨e,_,rfl⟩:=VC.1 hy;rw[Jz];rfl
  have hK2:∀y∈r.ca.map JIF,y.cells.length=2:=fun y hy=>by obtain⟨e,_,rfl⟩:=VC.1 hy;rfl
  have hT7:∀y∈r.n.types.map UX,y.cells.length=7:=fun y hy=>by obtain⟨e,_,rfl⟩:=VC.1 hy;rw[Us];rfl
  have hI1:∀y∈r.n.next.map (Dat.int .i64),y.cells.length=1:=fun y hy=>by obtain⟨e,_,rfl⟩:=VC.1 hy;rfl
  simp only[Dat.cells]at hE5 hK2 hT7 hI1;have c16:=(UE 1).call trivial;have c17:=walk17.call trivial;obtain⟨E1,hE1⟩:∃E,Jf (Jq 1)=E:=⟨_,rfl⟩;obtain⟨W1,hW1⟩:∃E,UX JKL=E:=⟨_,rfl⟩;have hE1a:=hE1;have hW1a:=hW1;rw[Jz]at hE1a;rw[Us]at hW1a;rw[hE1,←hE1a]at c16;rw[hW1,←hW1a]at c17;rw[←hE1a]at hE1;rw[←hW1a]at hW1;simp only[Va,Vb]at c16 c17;obtain⟨f,gf⟩:∃f,c.field.tmod 12=f:=⟨_,rfl⟩;rw[gf]at hmap;dsimp only at hmap;cases h0:f==0
  case true=>
   simp only[h0,Vu,if_false,if_true]at hmap;simp only[go_sem,hd,hd3,hlen,hx,gf,gw,gi,g0,gz,g2,gl,List.length_set,List.set_set,List.set_cons_succ,List.set_cons_zero,Vu,Zx,Uv,h0,Vv,Vc,Nat.reduceAdd,Nat.reduceEqDiff,Nat.reduceBEq,Nat.reduceLeDiff,reduceCtorEq,↓reduceIte]
   iterate 30 (first|refine And.intro (⟨by omega,by omega⟩) ?_|refine And.intro (by decide) ?_|refine And.intro (hne) ?_|refine And.intro (⟨hil,by decide⟩) ?_|refine And.intro (hil) ?_|refine And.intro (⟨rfl,by decide,by decide⟩) ?_|refine And.intro (⟨by omega,by split<;>omega,by split<;>omega⟩) ?_|refine And.intro (⟨by decide,by omega,hE5⟩) ?_|refine And.intro (⟨by decide,by omega,hK2⟩) ?_|refine And.intro (⟨by decide,by omega,hT7⟩) ?_|refine And.intro (⟨by decide,by omega,hI1⟩) ?_|refine And.intro (⟨rfl,by decide⟩) ?_|refine And.intro (rfl) ?_|refine And.intro (by omega) ?_|refine And.intro (by simp) ?_|skip)
   refine⟨cs.length-(k+1),_,by omega,Wk.less ?_,k+1,Yb R c,by omega,by omega,rfl,hR2.symm,by rw[hcl2];exact hRl,fun x hx=>(by have:=hok2 x hx;rwa[Nat.add_assoc]at this),rfl⟩;rw[hmap];simp only[JF k (by omega),Uu,exC];simp[go_sem]
  cases h1:f==1
  case true=>
   simp only[h0,h1,Vu,if_false,if_true]at hmap;simp only[go_sem,hd,hd3,hlen,hx,gf,gw,gi,g0,gz,g2,gl,List.length_set,List.set_set,List.set_cons_succ,List.set_cons_zero,Vu,Zx,Uv,h0,h1,Vv,Vc,Nat.reduceAdd,Nat.reduceEqDiff,Nat.reduceBEq,Nat.reduceLeDiff,reduceCtorEq,↓reduceIte]
   iterate 30 (first|refine And.intro (⟨by omega,by omega⟩) ?_|refine And.intro (by decide) ?_|refine And.intro (hne) ?_|refine And.intro (⟨hil,by decide⟩) ?_|refine And.intro (hil) ?_|refine And.intro (⟨rfl,by decide,by decide⟩) ?_|refine And.intro (⟨by omega,by split<;>omega,by split<;>omega⟩) ?_|refine And.intro (⟨by decide,by omega,hE5⟩) ?_|refine And.intro (⟨by decide,by omega,hK2⟩) ?_|refine And.intro (⟨by decide,by omega,hT7⟩) ?_|refine And.intro (⟨by decide,by omega,hI1⟩) ?_|refine And.intro (⟨rfl,by decide⟩) ?_|refine And.intro (rfl) ?_|refine And.intro (by omega) ?_|refine And.intro (by simp) ?_|skip)
   refine⟨cs.length-(k+1),_,by omega,Wk.less ?_,k+1,Yb R c,by omega,by omega,rfl,hR2.symm,by rw[hcl2];exact hRl,fun x hx=>(by have:=hok2 x hx;rwa[Nat.add_assoc]at this),rfl⟩;rw[hmap];simp only[JF k (by omega),Uu,exC];simp[go_sem]
  cases h2:f==2
  case true=>
   simp only[h0,h1,h2,Vu,if_false,if_true]at hmap;simp only[go_sem,hd,hd3,hlen,hx,gf,gw,gi,g0,gz,g2,gl,List.length_set,List.set_set,List.set_cons_succ,List.set_cons_zero,Vu,Zx,Uv,h0,h1,h2,Vv,Vc,Nat.reduceAdd,Nat.reduceEqDiff,Nat.reduceBEq,Nat.reduceLeDiff,reduceCtorEq,↓reduceIte]
   iterate 30 (first|refine And.intro (⟨by omega,by omega⟩) ?_|refine And.intro (by decide) ?_|refine And.intro (hne) ?_|refine And.intro (⟨hil,by decide⟩) ?_|refine And.intro (hil) ?_|refine And.intro (⟨rfl,by decide,by decide⟩) ?_|refine And.intro (⟨by omega,by split<;>omega,by split<;>omega⟩) ?_|refine And.intro (⟨by decide,by omega,hE5⟩) ?_|refine And.intro (⟨by decide,by omega,hK2⟩) ?_|refine And.intro (⟨by decide,by omega,hT7⟩) ?_|refine And.intro (⟨by decide,by omega,hI1⟩) ?_|refine And.intro (⟨rfl,by decide⟩) ?_|refine And.intro (rfl) ?_|refine And.intro (by omega) ?_|refine And.intro (by simp) ?_|skip)
   refine⟨cs.length-(k+1),_,by omega,Wk.less ?_,k+1,Yb R c,by omega,by omega,rfl,hR2.symm,by rw[hcl2];exact hRl,fun x hx=>(by have:=hok2 x hx;rwa[Nat.add_assoc]at this),rfl⟩;rw[hmap];simp only[JF k (by omega),Uu,exC];simp[go_sem]
  cases h3:f==3
  case true=>
   simp only[h0,h1,h2,h3,Vu,if_false,if_true]at hmap;simp only[go_sem,hd,hd3,hlen,hx,gf,gw,gi,g0,gz,g2,gl,List.length_set,List.set_set,List.set_cons_succ,List.set_cons_zero,Vu,Zx,Uv,h0,h1,h2,h3,Vv,Vc,Nat.reduceAdd,Nat.reduceEqDiff,Nat.reduceBEq,Nat.reduceLeDiff,reduceCtorEq,↓reduceIte]
   iterate 30 (first|refine And.intro (⟨by omega,by omega⟩) ?_|refine And.intro (by decide) ?_|refine And.intro (hne) ?_|refine And.intro (⟨hil,by decide⟩) ?_|refine And.intro (hil) ?_|refine And.intro (⟨rfl,by decide,by decide⟩) ?_|refine And.intro (⟨by omega,by split<;>omega,by split<;>omega⟩) ?_|refine And.intro (⟨by decide,by omega,hE5⟩) ?_|refine And.intro (⟨by decide,by omega,hK2⟩) ?_|refine And.intro (⟨by decide,by omega,hT7⟩) ?_|refine And.intro (⟨by decide,by omega,hI1⟩) ?_|refine And.intro (⟨rfl,by decide⟩) ?_|refine And.intro (rfl) ?_|refine And.intro (by omega) ?_|refine And.intro (by simp) ?_|skip)
   refine⟨cs.length-(k+1),_,by omega,Wk.less ?_,k+1,Yb R c,by omega,by omega,rfl,hR2.symm,by rw[hcl2];exact hRl,fun x hx=>(by have:=hok2 x hx;rwa[Nat.add_assoc]at this),rfl⟩;rw[hmap];simp only[JF k (by omega),Uu,exC];simp[go_sem]
  cases h4:f==4
  case true=>
   simp only[h0,h1,h2,h3,h4,Vu,if_false,if_true]at hmap;cases hxn:r.exn
   case false=>
    have e:exC r=.list 5 (r.n.exprs.map Jf):=by unfold exC;rw[hxn];rfl
    rw[e]at g0;simp only[go_sem,hd,hd3,hlen,hx,gf,gw,gi,g0,gz,g2,gl,List.length_set,List.set_set,List.set_cons_succ,List.set_cons_zero,Vu,Zx,Uv,h0,h1,h2,h3,h4,Vv,Vc,Nat.reduceAdd,Nat.reduceEqDiff,Nat.reduceBEq,Nat.reduceLeDiff,reduceCtorEq,↓reduceIte]
    iterate 30 (first|refine And.intro (⟨by omega,by omega⟩) ?_|refine And.intro (by decide) ?_|refine And.intro (hne) ?_|refine And.intro (⟨hil,by decide⟩) ?_|refine And.intro (hil) ?_|refine And.intro (⟨rfl,by decide,by decide⟩) ?_|refine And.intro (⟨by omega,by split<;>omega,by split<;>omega⟩) ?_|refine And.intro (⟨by decide,by omega,hE5⟩) ?_|refine And.intro (⟨by decide,by omega,hK2⟩) ?_|refine And.intro (⟨by decide,by omega,hT7⟩) ?_|refine And.intro (⟨by decide,by omega,hI1⟩) ?_|refine And.intro (⟨rfl,by decide⟩) ?_|refine And.intro (rfl) ?_|refine And.intro (by omega) ?_|refine And.intro (by simp) ?_|skip)
    refine wn c16 ?_;simp only[go_sem,hd,hd3,hlen,hx,gf,gw,gi,g0,gz,g2,gl,List.length_set,List.set_set,List.set_cons_succ,List.set_cons_zero,Vu,Zx,Uv,Vv,Vc,Nat.reduceAdd,Nat.reduceEqDiff,Nat.reduceBEq,Nat.reduceLeDiff,reduceCtorEq,↓reduceIte]
    iterate 30 (first|refine And.intro (⟨by omega,by omega⟩) ?_|refine And.intro (by decide) ?_|refine And.intro (hne) ?_|refine And.intro (⟨hil,by decide⟩) ?_|refine And.intro (hil) ?_|refine And.intro (⟨rfl,by decide,by decide⟩) ?_|refine And.intro (⟨by omega,by split<;>omega,by split<;>omega⟩) ?_|refine And.intro (⟨by decide,by omega,hE5⟩) ?_|refine And.intro (⟨by decide,by omega,hK2⟩) ?_|refine And.intro (⟨by decide,by omega,hT7⟩) ?_|refine And.intro (⟨by decide,by omega,hI1⟩) ?_|refine And.intro (⟨rfl,by decide⟩) ?_|refine And.intro (rfl) ?_|refine And.intro (by omega) ?_|refine And.intro (by simp) ?_|skip)
    refine⟨cs.length-(k+1),_,by omega,Wk.less ?_,k+1,Yb R c,by omega,by omega,rfl,hR2.symm,by rw[hcl2];exact hRl,fun x hx=>(by have:=hok2 x hx;rwa[Nat.add_assoc]at this),rfl⟩;rw[hmap];simp only[JF k (by omega),Uu,exC,Vu,if_false,Vw,Va,Vb,hE1];simp[go_sem]
   have e:exC r=.nil 5:=by unfold exC;rw[hxn];rfl
   have e0:=hokr.ex hxn;rw[e]at g0;simp only[go_sem,hd,hd3,hlen,hx,gf,gw,gi,g0,gz,g2,gl,List.length_set,List.set_set,List.set_cons_succ,List.set_cons_zero,Vu,Zx,Uv,h0,h1,h2,h3,h4,Vv,Vc,Nat.reduceAdd,Nat.reduceEqDiff,Nat.reduceBEq,Nat.reduceLeDiff,reduceCtorEq,↓reduceIte]
   iterate 30 (first|refine And.intro (⟨by omega,by omega⟩) ?_|refine And.intro (by decide) ?_|refine And.intro (hne) ?_|refine And.intro (⟨hil,by decide⟩) ?_|refine And.intro (hil) ?_|refine And.intro (⟨rfl,by decide,by decide⟩) ?_|refine And.intro (⟨by omega,by split<;>omega,by split<;>omega⟩) ?_|refine And.intro (⟨by decide,by omega,hE5⟩) ?_|refine And.intro (⟨by decide,by omega,hK2⟩) ?_|refine And.intro (⟨by decide,by omega,hT7⟩) ?_|refine And.intro (⟨by decide,by omega,hI1⟩) ?_|refine And.intro (⟨rfl,by decide⟩) ?_|refine And.intro (rfl) ?_|refine And.intro (by omega) ?_|refine And.intro (by simp) ?_|skip)
   refine wn c16 ?_;simp only[go_sem,hd,hd3,hlen,hx,gf,gw,gi,g0,gz,g2,gl,List.length_set,List.set_set,List.set_cons_succ,List.set_cons_zero,Vu,Zx,Uv,Vv,Vc,Nat.reduceAdd,Nat.reduceEqDiff,Nat.reduceBEq,Nat.reduceLeDiff,reduceCtorEq,↓reduceIte]
   iterate 30 (first|refine And.intro (⟨by omega,by omega⟩) ?_|refine And.intro (by decide) ?_|refine And.intro (hne) ?_|refine And.intro (⟨hil,by decide⟩) ?_|refine And.intro (hil) ?_|refine And.intro (⟨rfl,by decide,by decide⟩) ?_|refine And.intro (⟨by omega,by split<;>omega,by split<;>omega⟩) ?_|refine And.intro (⟨by decide,by omega,hE5⟩) ?_|refine And.intro (⟨by decide,by omega,hK2⟩) ?_|refine And.intro (⟨by decide,by omega,hT7⟩) ?_|refine And.intro (⟨by decide,by omega,hI1⟩) ?_|refine And.intro (⟨rfl,by decide⟩) ?_|refine And.intro (rfl) ?_|refine And.intro (by omega) ?_|refine And.intro (by simp) ?_|skip)
   refine⟨cs.length-(k+1),_,by omega,Wk.less ?_,k+1,Yb R c,by omega,by omega,rfl,hR2.symm,by rw[hcl2];exact hRl,fun x hx=>(by have:=hok2 x hx;rwa[Nat.add_assoc]at this),rfl⟩;rw[hmap];simp only[JF k (by omega),Uu,exC,Vu,if_false,e0,List.nil_append,Va,Vb,hE1];simp[go_sem]
  cases h5:f==5
  case true=>
   simp only[h0,h1,h2,h3,h4,h5,Vu,if_false,if_true]at hmap;simp only[go_sem,hd,hd3,hlen,hx,gf,gw,gi,g0,gz,g2,gl,List.length_set,List.set_set,List.set_cons_succ,List.set_cons_zero,Vu,Zx,Uv,h0,h1,h2,h3,h4,h5,Vv,Vc,Nat.reduceAdd,Nat.reduceEqDiff,Nat.reduceBEq,Nat.reduceLeDiff,reduceCtorEq,↓reduceIte]
   iterate 30 (first|refine And.intro (⟨by omega,by omega⟩) ?_|refine And.intro (by decide) ?_|refine And.intro (hne) ?_|refine And.intro (⟨hil,by decide⟩) ?_|refine And.intro (hil) ?_|refine And.intro (⟨rfl,by decide,by decide⟩) ?_|refine And.intro (⟨by omega,by split<;>omega,by split<;>omega⟩) ?_|refine And.intro (⟨by decide,by omega,hE5⟩) ?_|refine And.intro (⟨by decide,by omega,hK2⟩) ?_|refine And.intro (⟨by decide,by omega,hT7⟩) ?_|refine And.intro (⟨by decide,by omega,hI1⟩) ?_|refine And.intro (⟨rfl,by decide⟩) ?_|refine And.intro (rfl) ?_|refine And.intro (by omega) ?_|refine And.intro (by simp) ?_|skip)
   refine⟨cs.length-(k+1),_,by omega,Wk.less ?_,k+1,Yb R c,by omega,by omega,rfl,hR2.symm,by rw[hcl2];exact hRl,fun x hx=>(by have:=hok2 x hx;rwa[Nat.add_assoc]at this),rfl⟩;rw[hmap];simp only[JF k (by omega),Uu,exC,if_true];simp[go_sem]
  cases h6:f==6
  case true=>
   simp only[h0,h1,h2,h3,h4,h5,h6,Vu,if_false,if_true]at hmap;simp only[go_sem,hd,hd3,hlen,hx,gf,gw,gi,g0,gz,g2,gl,List.length_set,List.set_set,List.set_cons_succ,List.set_cons_zero,Vu,Zx,Uv,h0,h1,h2,h3,h4,h5,h6,Vv,Vc,Nat.reduceAdd,Nat.reduceEqDiff,Nat.reduceBEq,Nat.reduceLeDiff,reduceCtorEq,↓reduceIte]
   iterate 30 (first|refine And.intro (⟨by omega,by omega⟩) ?_|refine And.intro (by decide) ?_|refine And.intro (hne) ?_|refine And.intro (⟨hil,by decide⟩) ?_|refine And.intro (hil) ?_|refine And.intro (⟨rfl,by decide,by decide⟩) ?_|refine And.intro (⟨by omega,by split<;>omega,by split<;>omega⟩) ?_|refine And.intro (⟨by decide,by omega,hE5⟩) ?_|refine And.intro (⟨by decide,by omega,hK2⟩) ?_|refine And.intro (⟨by decide,by omega,hT7⟩) ?_|refine And.intro (⟨by decide,by omega,hI1⟩) ?_|refine And.intro (⟨rfl,by decide⟩) ?_|refine And.intro (rfl) ?_|refine And.intro (by omega) ?_|refine And.intro (by simp) ?_|skip)
   refine⟨cs.length-(k+1),_,by omega,Wk.less ?_,k+1,Yb R c,by omega,by omega,rfl,hR2.symm,by rw[hcl2];exact hRl,fun x hx=>(by have:=hok2 x hx;rwa[Nat.add_assoc]at this),rfl⟩;rw[hmap];simp only[JF k (by omega),Uu,exC,Vw,Va,Vb,JIF,if_true];simp[go_sem]
  cases h7:f==7
  case true=>
   simp only[h0,h1,h2,h3,h4,h5,h6,h7,Vu,if_false,if_true]at hmap;simp only[go_sem,hd,hd3,hlen,hx,gf,gw,gi,g0,gz,g2,gl,List.length_set,List.set_set,List.set_cons_succ,List.set_cons_zero,Vu,Zx,Uv,h0,h1,h2,h3,h4,h5,h6,h7,Vv,Vc,Nat.reduceAdd,Nat.reduceEqDiff,Nat.reduceBEq,Nat.reduceLeDiff,reduceCtorEq,↓reduceIte]
   iterate 30 (first|refine And.intro (⟨by omega,by omega⟩) ?_|refine And.intro (by decide) ?_|refine And.intro (hne) ?_|refine And.intro (⟨hil,by decide⟩) ?_|refine And.intro (hil) ?_|refine And.intro (⟨rfl,by decide,by decide⟩) ?_|refine And.intro (⟨by omega,by split<;>omega,by split<;>omega⟩) ?_|refine And.intro (⟨by decide,by omega,hE5⟩) ?_|refine And.intro (⟨by decide,by omega,hK2⟩) ?_|refine And.intro (⟨by decide,by omega,hT7⟩) ?_|refine And.intro (⟨by decide,by omega,hI1⟩) ?_|refine And.intro (⟨rfl,by decide⟩) ?_|refine And.intro (rfl) ?_|refine And.intro (by omega) ?_|refine And.intro (by simp) ?_|skip)
   refine wn c17 ?_;simp only[go_sem,hd,hd3,hlen,hx,gf,gw,gi,g0,gz,g2,gl,List.length_set,List.set_set,List.set_cons_succ,List.set_cons_zero,Vu,Zx,Uv,Vv,Vc,Nat.reduceAdd,Nat.reduceEqDiff,Nat.reduceBEq,Nat.reduceLeDiff,reduceCtorEq,↓reduceIte]
   iterate 30 (first|refine And.intro (⟨by omega,by omega⟩) ?_|refine And.intro (by decide) ?_|refine And.intro (hne) ?_|refine And.intro (⟨hil,by decide⟩) ?_|refine And.intro (hil) ?_|refine And.intro (⟨rfl,by decide,by decide⟩) ?_|refine And.intro (⟨by omega,by split<;>omega,by split<;>omega⟩) ?_|refine And.intro (⟨by decide,by omega,hE5⟩) ?_|refine And.intro (⟨by decide,by omega,hK2⟩) ?_|refine And.intro (⟨by decide,by omega,hT7⟩) ?_|refine And.intro (⟨by decide,by omega,hI1⟩) ?_|refine And.intro (⟨rfl,by decide⟩) ?_|refine And.intro (rfl) ?_|refine And.intro (by omega) ?_|refine And.intro (by simp) ?_|skip)
   refine⟨cs.length-(k+1),_,by omega,Wk.less ?_,k+1,Yb R c,by omega,by omega,rfl,hR2.symm,by rw[hcl2];exact hRl,fun x hx=>(by have:=hok2 x hx;rwa[Nat.add_assoc]at this),rfl⟩;rw[hmap];simp only[JF k (by omega),Uu,exC,Vw,Va,Vb,hW1];simp[go_sem]
  cases h8:f==8
  case true=>
   simp only[h0,h1,h2,h3,h4,h5,h6,h7,h8,Vu,if_false,if_true]at hmap;simp only[go_sem,hd,hd3,hlen,hx,gf,gw,gi,g0,gz,g2,gl,List.length_set,List.set_set,List.set_cons_succ,List.set_cons_zero,Vu,Zx,Uv,h0,h1,h2,h3,h4,h5,h6,h7,h8,Vv,Vc,Nat.reduceAdd,Nat.reduceEqDiff,Nat.reduceBEq,Nat.reduceLeDiff,reduceCtorEq,↓reduceIte]
   iterate 30 (first|refine And.intro (⟨by omega,by omega⟩) ?_|refine And.intro (by decide) ?_|refine And.intro (hne) ?_|refine And.intro (⟨hil,by decide⟩) ?_|refine And.intro (hil) ?_|refine And.intro (⟨rfl,by decide,by decide⟩) ?_|refine And.intro (⟨by omega,by split<;>omega,by split<;>omega⟩) ?_|refine And.intro (⟨by decide,by omega,hE5⟩) ?_|refine And.intro (⟨by decide,by omega,hK2⟩) ?_|refine And.intro (⟨by decide,by omega,hT7⟩) ?_|refine And.intro (⟨by decide,by omega,hI1⟩) ?_|refine And.intro (⟨rfl,by decide⟩) ?_|refine And.intro (rfl) ?_|refine And.intro (by omega) ?_|refine And.intro (by simp) ?_|skip)
   refine⟨cs.length-(k+1),_,by omega,Wk.less ?_,k+1,Yb R c,by omega,by omega,rfl,hR2.symm,by rw[hcl2];exact hRl,fun x hx=>(by have:=hok2 x hx;rwa[Nat.add_assoc]at this),rfl⟩;rw[hmap];simp only[JF k (by omega),Uu,exC,Vw,Va,Vb];simp[go_sem]
  cases h9:f==9
  case true=>
   simp only[h0,h1,h2,h3,h4,h5,h6,h7,h8,h9,Vu,if_false,if_true]at hmap;simp only[go_sem,hd,hd3,hlen,hx,gf,gw,gi,g0,gz,g2,gl,List.length_set,List.set_set,List.set_cons_succ,List.set_cons_zero,Vu,Zx,Uv,h0,h1,h2,h3,h4,h5,h6,h7,h8,h9,Vv,Vc,Nat.reduceAdd,Nat.reduceEqDiff,Nat.reduceBEq,Nat.reduceLeDiff,reduceCtorEq,↓reduceIte]
   iterate 30 (first|refine And.intro (⟨by omega,by omega⟩) ?_|refine And.intro (by decide) ?_|refine And.intro (hne) ?_|refine And.intro (⟨hil,by decide⟩) ?_|refine And.intro (hil) ?_|refine And.intro (⟨rfl,by decide,by decide⟩) ?_|refine And.intro (⟨by omega,by split<;>omega,by split<;>omega⟩) ?_|refine And.intro (⟨by decide,by omega,hE5⟩) ?_|refine And.intro (⟨by decide,by omega,hK2⟩) ?_|refine And.intro (⟨by decide,by omega,hT7⟩) ?_|refine And.intro (⟨by decide,by omega,hI1⟩) ?_|refine And.intro (⟨rfl,by decide⟩) ?_|refine And.intro (rfl) ?_|refine And.intro (by omega) ?_|refine And.intro (by simp) ?_|skip)
   refine⟨cs.length-(k+1),_,by omega,Wk.less ?_,k+1,Yb R c,by omega,by omega,rfl,hR2.symm,by rw[hcl2];exact hRl,fun x hx=>(by have:=hok2 x hx;rwa[Nat.add_assoc]at this),rfl⟩;rw[hmap];simp only[JF k (by omega),Uu,exC,Va,Vb];simp[go_sem]
  cases h10:f==10
  case true=>
   simp only[h0,h1,h2,h3,h4,h5,h6,h7,h8,h9,h10,Vu,if_false,if_true]at hmap;simp only[go_sem,hd,hd3,hlen,hx,gf,gw,gi,g0,gz,g2,gl,List.length_set,List.set_set,List.set_cons_succ,List.set_cons_zero,Vu,Zx,Uv,h0,h1,h2,h3,h4,h5,h6,h7,h8,h9,h10,Vv,Vc,Nat.reduceAdd,Nat.reduceEqDiff,Nat.reduceBEq,Nat.reduceLeDiff,reduceCtorEq,↓reduceIte]
   iterate 30 (first|refine And.intro (⟨by omega,by omega⟩) ?_|refine And.intro (by decide) ?_|refine And.intro (hne) ?_|refine And.intro (⟨hil,by decide⟩) ?_|refine And.intro (hil) ?_|refine And.intro (⟨rfl,by decide,by decide⟩) ?_|refine And.intro (⟨by omega,by split<;>omega,by split<;>omega⟩) ?_|refine And.intro (⟨by decide,by omega,hE5⟩) ?_|refine And.intro (⟨by decide,by omega,hK2⟩) ?_|refine And.intro (⟨by decide,by omega,hT7⟩) ?_|refine And.intro (⟨by decide,by omega,hI1⟩) ?_|refine And.intro (⟨rfl,by decide⟩) ?_|refine And.intro (rfl) ?_|refine And.intro (by omega) ?_|refine And.intro (by simp) ?_|skip)
   refine⟨cs.length-(k+1),_,by omega,Wk.less ?_,k+1,Yb R c,by omega,by omega,rfl,hR2.symm,by rw[hcl2];exact hRl,fun x hx=>(by have:=hok2 x hx;rwa[Nat.add_assoc]at this),rfl⟩;rw[hmap];simp only[JF k (by omega),Uu,exC];simp[go_sem]
  simp only[h0,h1,h2,h3,h4,h5,h6,h7,h8,h9,h10,Vu,if_false]at hmap;simp only[go_sem,hd,hd3,hlen,hx,gf,gw,gi,g0,gz,g2,gl,List.length_set,List.set_set,List.set_cons_succ,List.set_cons_zero,Vu,Zx,Uv,h0,h1,h2,h3,h4,h5,h6,h7,h8,h9,h10,Vv,Vc,Nat.reduceAdd,Nat.reduceEqDiff,Nat.reduceBEq,Nat.reduceLeDiff,reduceCtorEq,↓reduceIte]
  iterate 30 (first|refine And.intro (⟨by omega,by omega⟩) ?_|refine And.intro (by decide) ?_|refine And.intro (hne) ?_|refine And.intro (⟨hil,by decide⟩) ?_|refine And.intro (hil) ?_|refine And.intro (⟨rfl,by decide,by decide⟩) ?_|refine And.intro (⟨by omega,by split<;>omega,by split<;>omega⟩) ?_|refine And.intro (⟨by decide,by omega,hE5⟩) ?_|refine And.intro (⟨by decide,by omega,hK2⟩) ?_|refine And.intro (⟨by decide,by omega,hT7⟩) ?_|refine And.intro (⟨by decide,by omega,hI1⟩) ?_|refine And.intro (⟨rfl,by decide⟩) ?_|refine And.intro (rfl) ?_|refine And.intro (by omega) ?_|refine And.intro (by simp) ?_|skip)
  refine⟨cs.length-(k+1),_,by omega,Wk.less ?_,k+1,Yb R c,by omega,by omega,rfl,hR2.symm,by rw[hcl2];exact hRl,fun x hx=>(by have:=hok2 x hx;rwa[Nat.add_assoc]at this),rfl⟩;rw[hmap];simp only[JF k (by omega),Uu,exC];simp[go_sem]
 ·have hcan:JG (R.map Xs)=(R.map JO4).map XO:=by
   rw[Jw,List.map_map,List.map_map];exact List.map_congr_left fun x hx=>JIG (hok x hx)
  have htake:(cs.take 3).foldl Yb R0=R:=by
   rw[hR];by_cases h3:k=3
   ·rw[h3]
   ·have h4:k=cs.length:=by omega
    rw[h4,List.take_length,List.take_of_length_le (by omega)]
  rw[htake];by_cases h1:k<cs.length
  ·have hd:decide ((k:Int)<(cs.length:Int))=true:=by simp;omega
   have hd3:decide ((k:Int)<3)=false:=by simp;omega
   simp(maxSteps:=3000000) only[go_sem,hd,hd3,hlen,Vu,hcan,Bool.and_false,Bool.false_and,Bool.and_true,Vv,Vc,Nat.reduceAdd,Nat.reduceEqDiff,Nat.reduceBEq,Nat.reduceLeDiff,reduceCtorEq,↓reduceIte]
  ·have hd:decide ((k:Int)<(cs.length:Int))=false:=by simp;omega
   simp(maxSteps:=3000000) only[go_sem,hd,hlen,Vu,hcan,Bool.and_false,Bool.false_and,Bool.and_true,Vv,Vc,Nat.reduceAdd,Nat.reduceEqDiff,Nat.reduceBEq,Nat.reduceLeDiff,reduceCtorEq,↓reduceIte]
end Go.Proofs
