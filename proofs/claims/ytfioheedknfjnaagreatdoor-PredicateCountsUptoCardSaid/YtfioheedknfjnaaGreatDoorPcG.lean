/- Part G of a proof. -/
import Derived.Test.YtfioheedknfjnaaGreatDoorPcF
import Derived.Test.YtfioheedknfjnaaGreatDoorPcC
import Derived.Test.YtfioheedknfjnaaGreatDoorPcA
import Derived.Shelf.SlGeneric
import Derived.Shelf.Sort.Plain
import Derived.Shelf.Slices.In.SortNone
import Derived.Shelf.Slices.CompactS
import Derived.Ground.Names2Prog
import Derived.Test.YtfioheedknfjnaaGreatDoorProg
import Derived.Lib.RuneLoops
import Derived.WalkKit
import Derived.Laws.CopyRow
import Derived.Shelf.Spec.SlicesInsertGrow
import Derived.Laws.AppendOwn
import Derived.Shelf.Slices.Clone
import Derived.Laws.IdiomStrings
import Derived.Shelf.Strings.OnBuilder
import Derived.Lib.Bytealg
set_option linter.unusedVariables false
set_option linter.unusedSimpArgs false
set_option linter.unusedSectionVars false
set_option linter.constructorNameAsVariable false
set_option linter.unnecessarySimpa false
set_option maxRecDepth 100000
namespace Go.Proofs
open Go Av
theorem Xp{xs:List Exp}{k:Nat}(h:k<xs.length):nth (xs.map JL) k=.agg [.int .i64 xs[k].op,.int .i64 xs[k].int,.str xs[k].text,.list 6 (xs[k].value.map JM),.list 5 (xs[k].args.map JL)]:=by
 rw[Uc (sX h),List.getElem_map,JF]
theorem Con.twoU{P:Program}{f:Nat}{args:List Av}{o1 o2 o':Av.Obj}{r:Dat}(h:Con P f args [(1000,o1),(1001,o2)] (.d r) [(1000,o')])(i j:Nat)(hij:i≠j)
  (hargs:∀c∈args,inT (get [(1000,o1),(1001,o2)]) c)(hcl:closed (get [(1000,o1),(1001,o2)]))(hcl':closed (get [(1000,o'),(1001,o2)])):
  JR P f (args.map (Av.ren fun n=>if n=1000 then i else j)) [(i,some (o1.ren fun n=>if n=1000 then i else j)),(j,some (o2.ren fun n=>if n=1000 then i else j))] (.d r) [(i,o'.ren fun n=>if n=1000 then i else j)]:=by
 have e:JB (get [(1000,o1),(1001,o2)]) [(1000,o')]=get [(1000,o'),(1001,o2)]:=by
  rw[←Jr];rfl
 have:=h.call (fun n=>if n=1000 then i else j) (fun k hk=>by rcases JAn hk with rfl|rfl<;>decide) (fun a b ha hb e'=>?_) hargs hcl [] (by simp[Av.get]) (by rw[e];exact hcl') trivial
 ·simpa[Av.ren]using this
 ·rw[e]at ha hb;rcases JAn ha with rfl|rfl<;>rcases JAn hb with rfl|rfl
  ·rfl
  ·simp at e';exact absurd e' hij
  ·simp at e';exact absurd e'.symm hij
  ·rfl
def JA4(f:Int→Exp→Int×Int):Int→List Exp→Int×Int
 |n,[]=>(0,n)
 |n,v::r=>if(f n v).1≠0 then f n v else JA4 f (f n v).2 r
noncomputable def eF:Nat→Int→Exp→Int×Int
 |0,n,e=>if n=256 then(9,n)else(23,n+1)
 |k+1,n,e=>if n=256 then(9,n)else if JBR e≠0 then(JBR e,n+1)else JA4 (eF k) (n+1) e.args
theorem JK3{f:Int→Exp→Int×Int}(hf:∀n v,0≤n→n≤256→0≤(f n v).2∧(f n v).2≤256):∀(l:List Exp) (n:Int),0≤n→n≤256→0≤(JA4 f n l).2∧(JA4 f n l).2≤256
 |[],n,h0,h1=>⟨h0,h1⟩
 |v::r,n,h0,h1=>by
  simp only[JA4];split
  ·exact hf n v h0 h1
  ·exact JK3 hf r _ (hf n v h0 h1).1 (hf n v h0 h1).2
theorem eF_n:∀(k:Nat) (n:Int) (e:Exp),0≤n→n≤256→0≤(eF k n e).2∧(eF k n e).2≤256
 |0,n,e,h0,h1=>by
  simp only[eF];split
  ·exact⟨h0,h1⟩
  ·simp only;omega
 |k+1,n,e,h0,h1=>by
  simp only[eF];split
  ·exact⟨h0,h1⟩
  ·split
   ·simp only;omega
   ·exact JK3 (eF_n k) _ _ oM oM
abbrev TE(n:Int):List (Nat×Av.Obj):=[(1000,.box [.d (.int .i64 n)]),(1001,.box [.clo (.func 51) [] [.ref 1000 0,.ref 1001 0]])]
theorem JCj(n:Int):closed (get (TE n)):=by
 refine U4 ?_;simp[Jc,J0,JN,JT,Av.get]
theorem JOE(n m:Int):closed (JB (get (TE n)) [(1000,.box [.d (.int .i64 m)])]):=by
 have e:JB (get (TE n)) [(1000,.box [.d (.int .i64 m)])]=get (TE m):=by rw[←Jr];rfl
 rw[e];exact JCj m
theorem call51{e:Exp}{level n m x:Int}(h:KT 51 [.d (JL e),.d (.int .i64 level),.ref 1000 0,.ref 1001 0] (TE n) (.d (.int .i64 x)) [(1000,.box [.d (.int .i64 m)])])(i j:Nat)(hij:i≠j):
  CT 51 [.d (JL e),.d (.int .i64 level),.ref i 0,.ref j 0] [(i,some (.box [.d (.int .i64 n)])),(j,some (.box [.clo (.func 51) [] [.ref i 0,.ref j 0]]))] (.d (.int .i64 x)) [(i,.box [.d (.int .i64 m)])]:=by
 have:=Con.twoU h i j hij (by simp[JT,Av.get]) (JCj n) (JCj m);simp[Av.ren,Obj.ren,J7]at this;exact this
theorem walk51:∀(k:Nat) (n:Int) (e:Exp),k≤8→0≤n→n≤256→
  KT 51 [.d (JL e),.d (.int .i64 (9-k)),.ref 1000 0,.ref 1001 0] (TE n) (.d (.int .i64 (eF k n e).1)) [(1000,.box [.d (.int .i64 (eF k n e).2)])]:=by
 intro k
 induction k with
 |zero=>
  intro n e hk h0 h1;refine ok51.co (k:=false) (JOE _ _) trivial ?_;rw[JF];have hd:decide ((9:Int)-((0:Nat):Int)>8)=true:=rfl;simp only[TE,go_sem,ir51,hd,Nat.reduceAdd,Nat.reduceEqDiff,Nat.reduceBEq,Nat.reduceLeDiff,reduceCtorEq,↓reduceIte];apply ik<;>intro h
  ·have:n=256:=sX h;simp only[eF,if_pos this];exact⟨trivial,trivial⟩
  ·have hn:¬n=256:=sX h;have hw:IntKind.i64.wrap (n+1)=n+1:=wrap64 oM oM;simp only[eF,if_neg hn,hw];exact⟨trivial,trivial⟩
 |succ k ih=>
  intro n e hk h0 h1;have hl:9-((k+1:Nat):Int)=8-k:=oM;rw[hl];refine Con.Jg ok51.has fun hfit=>?_
  obtain⟨_,_,f3,_⟩:=YI (hfit (JL e) sP);refine ok51.co (k:=false) (JOE _ _) trivial ?_;have h179:=(walk52 e).call trivial;generalize hF:eF (k+1) n e=F;rw[JF]at h179⊢;have hd:decide (8-(k:Int)>8)=false:=sO;simp only[TE,go_sem,ir51,hd,Nat.reduceAdd,Nat.reduceEqDiff,Nat.reduceBEq,Nat.reduceLeDiff,reduceCtorEq,↓reduceIte];refine⟨fun h=>?_,fun h=>wn h179 ?_⟩
  ·have:n=256:=sX h;rw[eF,if_pos this]at hF;subst hF;exact zz trivial
  have hn:¬n=256:=sX h;have hw:IntKind.i64.wrap (n+1)=n+1:=wrap64 oM oM;rw[eF,if_neg hn]at hF;refine zz27 ?_;apply ik<;>intro h2
  ·have h2:JBR e≠0:=sX h2;rw[if_pos h2]at hF;subst hF;exact⟨rfl,rfl⟩
  have h2:JBR e=0:=sX h2;rw[if_neg (by simp[h2])]at hF;clear h179 hfit;generalize hP:e.args=ps at*;simp only[Vc];refine JJ (fun r s=>∃(j:Nat) (m:Int),j≤ps.length∧r=ps.length-j∧0≤m∧m≤256∧JA4 (eF k) m (ps.drop j)=F∧
   s=⟨[(1,.d (.int .i64 (8-k))),(2,.ref 1000 0),(3,.ref 1001 0),(23,.d (.list 5 (ps.map JL))),(24,.d (.int .i64 ps.length)),(25,.d (.int .i64 j))],
    [(1000,.box [.d (.int .i64 m)]),(1001,.box [.clo (.func 51) [] [.ref 1000 0,.ref 1001 0]])]⟩) ?_ ?_
  ·refine⟨_,_,Wk.less ?_,0,n+1,Nat.zero_le _,rfl,oM,oM,hF,rfl⟩;simp[go_sem]
  ·rintro r s ⟨j,m,hj,rfl,hm0,hm1,hinv,rfl⟩;by_cases hlt:j<ps.length
   ·have hx':=Xp hlt;have hd':decide ((j:Int)<(ps.length:Int))=true:=sO;have hw':IntKind.i64.wrap (8-(k:Int)+1)=9-k:=by rw[wrap64 oM oM];omega
    have hc:=call51 (ih m ps[j] oM hm0 hm1) 1000 1001 dC;have hn':=eF_n k m ps[j] hm0 hm1;rw[Vq hlt,JA4]at hinv;generalize hV:eF k m ps[j]=V at*;rw[JF]at hc;simp only[go_sem,hx',hd',hw',Vv,Vc,Nat.reduceAdd,Nat.reduceEqDiff,Nat.reduceBEq,Nat.reduceLeDiff,reduceCtorEq,↓reduceIte];refine⟨oM,wn hc ?_⟩;refine zz ?_;apply ik<;>intro h0
    ·have h0:V.1≠0:=sX h0;rw[if_pos h0]at hinv;subst hinv;exact⟨rfl,rfl⟩
    ·have h0:V.1=0:=sX h0;rw[if_neg (by simp[h0])]at hinv;refine⟨ps.length-(j+1),_,oM,Wk.less ?_,j+1,V.2,oM,rfl,hn'.1,hn'.2,hinv,rfl⟩;simp[go_sem,JS j oM]
   ·have hd':decide ((j:Int)<(ps.length:Int))=false:=sO;obtain rfl:j=ps.length:=oM;rw[List.drop_length,JA4]at hinv;subst hinv;simp only[go_sem,hd',Nat.reduceAdd,Nat.reduceEqDiff,Nat.reduceBEq,Nat.reduceLeDiff,reduceCtorEq,↓reduceIte]
noncomputable def JGq(e:Exp):Int:=(eF 8 0 e).1
theorem walk33(e:Exp):PT 33 [JL e] (.d (.int .i64 (JGq e))):=by
 refine ok33.pc ?_;have hc:=call51 (walk51 8 0 e dC dC dC) 3 4 dC;have e1:(9:Int)-((8:Nat):Int)=1:=rfl;rw[e1]at hc;rw[JF]at hc⊢;simp only[go_sem,ir33,simprocAttr];refine wn hc ?_;simp only[go_sem,JGq,simprocAttr]
end Go.Proofs
namespace Go.Proofs
open Go.Shelf
def Tryz.JHC:Go.Shelf.Ren:=⟨fun|190=>117|125=>173|258=>172|128=>236|129=>237|302=>227|303=>228|304=>229|305=>230|306=>231|307=>232|308=>233|309=>234|310=>235|333=>258|329=>259|330=>260|334=>261|335=>262|336=>263|344=>295|n=>n,fun|31=>22|9=>9|3=>3|46=>231|0=>0|51=>285|53=>287|4=>4|183=>279|182=>278|131=>201|5=>5|218=>310|222=>83|228=>343|229=>143|n=>n,fun|n=>n⟩
theorem Tryz.JCL:Go.Proofs.Lays.n190 Tryz.prog Tryz.JHC:={
 mixed:=kR
 f125:=Tryz.func173.trans (congrArg some kR)
 f128:=Tryz.func236.trans (congrArg some kR)
 f129:=Tryz.func237.trans (congrArg some kR)
 f190:=Tryz.func117.trans (congrArg some kR)
 f258:=Tryz.func172.trans (congrArg some kR)
 f302:=Tryz.func227.trans (congrArg some kR)
 f303:=Tryz.func228.trans (congrArg some kR)
 f304:=Tryz.func229.trans (congrArg some kR)
 f305:=Tryz.func230.trans (congrArg some kR)
 f306:=Tryz.func231.trans (congrArg some kR)
 f307:=Tryz.func232.trans (congrArg some kR)
 f308:=Tryz.func233.trans (congrArg some kR)
 f309:=Tryz.func234.trans (congrArg some kR)
 f310:=Tryz.func235.trans (congrArg some kR)
 f329:=Tryz.func259.trans (congrArg some kR)
 f330:=Tryz.func260.trans (congrArg some kR)
 f333:=Tryz.func258.trans (congrArg some kR)
 f334:=Tryz.func261.trans (congrArg some kR)
 f335:=Tryz.func262.trans (congrArg some kR)
 f336:=Tryz.func263.trans (congrArg some kR)
 f344:=Tryz.func295.trans (congrArg some kR)
 t0:=Tryz.underlying0
 a0:=Tryz.isAgg0
 z0:=Tryz.sizeOf0
 v0:=Tryz.zeroValue0
 t3:=Tryz.underlying3
 a3:=Tryz.isAgg3
 z3:=Tryz.sizeOf3
 v3:=Tryz.zeroValue3
 t4:=Tryz.underlying4
 a4:=Tryz.isAgg4
 z4:=Tryz.sizeOf4
 v4:=Tryz.zeroValue4
 t5:=Tryz.underlying5
 a5:=Tryz.isAgg5
 z5:=Tryz.sizeOf5
 v5:=Tryz.zeroValue5
 t9:=Tryz.underlying9
 a9:=Tryz.isAgg9
 z9:=Tryz.sizeOf9
 v9:=Tryz.zeroValue9
 t31:=Tryz.underlying22
 a31:=Tryz.isAgg22
 z31:=Tryz.sizeOf22
 v31:=Tryz.zeroValue22
 t46:=Tryz.underlying231
 a46:=Tryz.isAgg231
 z46:=Tryz.sizeOf231
 v46:=Tryz.zeroValue231
 t51:=Tryz.underlying285
 a51:=Tryz.isAgg285
 z51:=Tryz.sizeOf285
 v51:=Tryz.zeroValue285
 t53:=Tryz.underlying287
 a53:=Tryz.isAgg287
 z53:=Tryz.sizeOf287
 v53:=Tryz.zeroValue287
 t131:=Tryz.underlying201
 a131:=Tryz.isAgg201
 z131:=Tryz.sizeOf201
 v131:=Tryz.zeroValue201
 t182:=Tryz.underlying278
 a182:=Tryz.isAgg278
 z182:=Tryz.sizeOf278
 v182:=Tryz.zeroValue278
 t183:=Tryz.underlying279
 a183:=Tryz.isAgg279
 z183:=Tryz.sizeOf279
 v183:=Tryz.zeroValue279
 t218:=Tryz.underlying310
 a218:=Tryz.isAgg310
 z218:=Tryz.sizeOf310
 v218:=Tryz.zeroValue310
 t222:=Tryz.underlying83
 a222:=Tryz.isAgg83
 z222:=Tryz.sizeOf83
 v222:=Tryz.zeroValue83
 t228:=Tryz.underlying343
 a228:=Tryz.isAgg343
 z228:=Tryz.sizeOf343
 v228:=Tryz.zeroValue343
 t229:=Tryz.underlying143
 a229:=Tryz.isAgg143
 z229:=Tryz.sizeOf143
 v229:=Tryz.zeroValue143}
def Tryz.JDc:Go.Shelf.Ren:=⟨fun|194=>151|n=>n,fun|31=>22|9=>9|3=>3|4=>4|0=>0|n=>n,fun|n=>n⟩
theorem Tryz.JDU:Go.Proofs.Lays.n194 Tryz.prog Tryz.JDc:={
 mixed:=kR
 f194:=Tryz.func151.trans (congrArg some kR)
 t0:=Tryz.underlying0
 a0:=Tryz.isAgg0
 z0:=Tryz.sizeOf0
 v0:=Tryz.zeroValue0
 t3:=Tryz.underlying3
 a3:=Tryz.isAgg3
 z3:=Tryz.sizeOf3
 v3:=Tryz.zeroValue3
 t4:=Tryz.underlying4
 a4:=Tryz.isAgg4
 z4:=Tryz.sizeOf4
 v4:=Tryz.zeroValue4
 t9:=Tryz.underlying9
 a9:=Tryz.isAgg9
 z9:=Tryz.sizeOf9
 v9:=Tryz.zeroValue9
 t31:=Tryz.underlying22
 a31:=Tryz.isAgg22
 z31:=Tryz.sizeOf22
 v31:=Tryz.zeroValue22}
end Go.Proofs
namespace Go.Proofs
open Go Av
def JAO:Option Str→List Str→List Str
 |_,[]=>[]
 |p,x::r=>if p=some x then JAO (some x) r else x::JAO (some x) r
def uniq(l:List Str):List Str:=JAO none l
theorem JFt:∀(l:List Str) (p:Option Str) (x:Str),JAO p (l++[x])=JAO p l++(if(l.getLast?.or p)=some x then[]else[x])
 |[],p,x=>by
  have e:(([]:List Str).getLast?.or p)=p:=sP;rw[e];simp only[List.nil_append,JAO]
 |y::r,p,x=>by
  have e:((y::r).getLast?.or p)=(r.getLast?.or (some y)):=by
   cases r with
   |nil=>simp
   |cons z q=>simp[List.getLast?_cons_cons,List.getLast?_cons]
  rw[e];simp only[List.cons_append,JAO,JFt r (some y) x];split<;>simp
theorem JCk:∀(l:List Str) (p:Option Str),(JAO p l).Sublist l
 |[],p=>by simp[JAO]
 |x::r,p=>by
  simp only[JAO];split
  ·exact(JCk r _).cons x
  ·exact(JCk r _).cons_cons x
theorem ZL(zs:List Str):∀m,m≤zs.length→Lib.compactUpTo zs.toArray m=uniq (zs.take m)
 |0,_=>by simp[Lib.compactUpTo,uniq,JAO]
 |m+1,h=>by
  rw[Lib.compactUpTo_succ,ZL zs m oM,List.take_succ_eq_append_getElem oM];unfold uniq;rw[JFt];congr 1;have e1:zs.toArray[m]! =zs[m]:=by rw[getElem!_pos _ _ sO];simp
  rw[e1];cases m with
  |zero=>
   have:Lib.keeps zs.toArray 0=true:=by simp[Lib.keeps]
   simp[this]
  |succ k=>
   have e2:zs.toArray[k]! =zs[k]:=by rw[getElem!_pos _ _ sO];simp
   have e3:(zs.take (k+1)).getLast? =some zs[k]:=by
    rw[List.take_succ_eq_append_getElem oM,List.getLast?_concat]
   rw[e3];simp only[Lib.keeps,e1,Nat.add_sub_cancel,e2,Option.some_or,Vd];by_cases hq:zs[k]=zs[k+1]
   ·simp[hq]
   ·have:zs[k+1]≠zs[k]:=fun e=>hq e.symm
    simp[hq,this]
theorem JB7(zs:List Str):Lib.compact zs=uniq zs:=by
 rw[Lib.compact,ZL zs _ (Nat.le_refl _),List.take_length]
theorem call117(i v:Nat)(ss:List Str):CT 117 [.ms i v] [(i,some (.row v 1 (ss.map .str)))] (.tup []) [(i,.row v 1 ((JEZ ss).map .str))]:=
 JR.sort (JL1 Tryz.func117 kR kR) (fun b cap ss w h1 h2 h3=>Any.slices_Sort_string Tryz.JCL b 0 cap ss w h1 h2 h3) (fun a cap w=>Any.slices_Sort_string_none Tryz.JCL a cap w) i v ss
theorem call151(i v:Nat)(ss:List Str):CT 151 [.ms i v] [(i,some (.row v 1 (ss.map .str)))] (.ms i (v+1)) [(i,.row (v+1) 1 ((uniq ss).map .str))]:=by
 rw[←JB7];exact JR.compact (JL1 Tryz.func151 kR kR) (fun b cap ss w h1 h2 h3=>Any.slices_Compact_string Tryz.JDU b 0 cap ss w h1 h2 h3) (fun a cap w=>Any.slices_Compact_string_empty Tryz.JDU a cap w)
  (fun ss=>by rw[JB7];exact JCk ss none) i v ss
end Go.Proofs
namespace Go.Proofs
open Go Av Go.RowKit
end Go.Proofs
namespace Go.Proofs
open Go Av
end Go.Proofs
namespace Go.Proofs
open Go Av Go.RowKit Go.Shelf
end Go.Proofs
namespace Av
open Go
end Av
namespace Go.Proofs
open Go Av Go.RowKit Go.Shelf
theorem JII{α:Type}{l:List α}{m j:Nat}{v:α}(h:(l.take m)[j]? =some v):l[j]? =some v:=by
 rw[List.getElem?_take]at h;split at h
 ·exact h
 ·cases h
end Go.Proofs
namespace Go.Proofs
open Go Av Go.RowKit Go.Shelf
variable {A:Nat→Prop}{w:World}{F:List Dat}{V:List Value}
def Pt(A:Nat→Prop)(w:World)(F:List Dat)(V:List Value):Prop:=F.length=V.length∧∀(j:Nat) c v,F[j]? =some c→V[j]? =some v→Rep A w c v∧v.oneCell'=true
theorem Pt.app{F':List Dat}{V':List Value}(h:Pt A w F V)(h':Pt A w F' V'):Pt A w (F++F') (V++V'):=by
 refine⟨by rw[Vg,Vg,h.1,h'.1],fun j c v hc hv=>?_⟩;by_cases hj:j<F.length
 ·rw[Vz hj]at hc;rw[Vz (by rw[←h.1];exact hj)]at hv;exact h.2 j c v hc hv
 ·rw[Vy oM]at hc;rw[Vy (by rw[←h.1];omega),←h.1]at hv;exact h'.2 _ c v hc hv
theorem Pt.take(h:Pt A w F V)(k:Nat):Pt A w (F.take k) (V.take k):=
 ⟨by simp[h.1],fun j c v hc hv=>h.2 j c v (JII hc) (JII hv)⟩
theorem Pt.drop(h:Pt A w F V)(k:Nat):Pt A w (F.drop k) (V.drop k):=
 ⟨by simp[h.1],fun j c v hc hv=>by
  rw[List.getElem?_drop]at hc hv;exact h.2 _ c v hc hv⟩
theorem Pt.one{R:List Value}(h:Pt A w F V)(j:Nat)(v:Value)(hj:j<F.length)(hv:((V++R).toArray)[j]? =some v):v.oneCell'=true:=by
 rw[List.getElem?_toArray,Vz (by rw[←h.1];exact hj)]at hv;exact(h.2 j _ v (Vl hj) hv).2
theorem Pt.rep{R:List Value}(h:Pt A w F V)(j:Nat)(c:Dat)(v:Value)(hc:F[j]? =some c)(hv:((V++R).toArray)[j]? =some v):Rep A w c v:=by
 have hj:j<F.length:=(VB.1 hc).1;rw[List.getElem?_toArray,Vz (by rw[←h.1];exact hj)]at hv;exact(h.2 j c v hc hv).1
end Go.Proofs
namespace Go.Proofs
open Go Av
open Av.Y
def ir55:Ic:=q (R (ox 1 0<|oN 2 yG<|N) [0])<|q (R (of 6 1 3<|oL 7 7 6<|cl 8 35 [t 7]<|of 9 1 3<|oS 7 9 8<|N) [6,7,8,9])<|q (R (of 10 1 10<|ol 11 10<|oh 12 11<|oo 13 (.mks 6 [.int .i64 0,.int .i64 0,.int .i64 0,.str [],.nil 6,.nil 7] (i 0) (t 12))<|om 3 13<|N) [10,11,12,13])<|q (q (R (of 14 1 10<|ol 15 14<|oh 16 15<|oz 17 0<|N) [14])<|D (.block 0<|.loop (q (.reg (ot 18 .lss 17 16<|N))<|q (D (I 18 S (E 0)) [18])<|q (D (.block 1<|q (R (oa true 19 6 15 17<|oL 20 6 19<|oN 5 y6<|oS 6 5 20<|N) [19,20])<|R (om 21 3<|oL 22 6 5<|cl 23 30 [t 22]<|oo 24 (.bls 6 [t 23])<|oo 25 (.app 6 (t 21) (t 24))<|om 3 25<|N) [5,21,22,23,24,25]) [])<|R (oi 26 .add 17 1<|om 17 26<|N) [26])) [15,16,17,18,5])<|q (R (om 27 3<|of 28 1 10<|os 28 27<|N) [3,27,28])<|q (R (oL 29 11 1<|oS 11 2 29<|N) [1,29])<|.ret
theorem ok55:FT 55 30 ir55 [.cell 2 (some 11)]:=.o Tryz.func55
def ir35:Ic:=q (R (ox 1 0<|oN 2 yT<|N) [0])<|q (R (of 9 1 5<|ol 10 9<|oh 11 10<|oo 12 (.mks 7 [.int .i64 0,.int .i64 0,.int .i64 0,.int .i64 0,.nil 1,.nil 7,.nil 11] (i 0) (t 11))<|om 3 12<|N) [9,10,11,12])<|q (q (R (of 13 1 5<|ol 14 13<|oh 15 14<|oz 16 0<|N) [13])<|D (.block 0<|.loop (q (.reg (ot 17 .lss 16 15<|N))<|q (D (I 17 S (E 0)) [17])<|q (D (.block 1<|q (R (oa true 18 7 14 16<|oL 19 7 18<|oN 5 yT<|oS 7 5 19<|N) [18,19])<|R (om 20 3<|oL 21 7 5<|cl 22 35 [t 21]<|oo 23 (.bls 7 [t 22])<|oo 24 (.app 7 (t 20) (t 23))<|om 3 24<|N) [5,20,21,22,23,24]) [])<|R (oi 25 .add 16 1<|om 16 25<|N) [25])) [14,15,16,17,5])<|q (R (of 26 1 6<|ol 27 26<|oh 28 27<|oo 29 (.mks 11 [.int .i64 0,.str [],.int .i64 0,.int .i64 0,.int .i64 0,.int .i64 0,.int .i64 0,.nil 1,.nil 7,.nil 11,.nil 6] (i 0) (t 28))<|om 6 29<|N) [26,27,28,29])<|q (q (R (of 30 1 6<|ol 31 30<|oh 32 31<|oz 33 0<|N) [30])<|D (.block 2<|.loop (q (.reg (ot 34 .lss 33 32<|N))<|q (D (I 34 S (E 2)) [34])<|q (D (.block 3<|q (R (oa true 35 11 31 33<|oL 36 11 35<|oN 8 yG<|oS 11 8 36<|N) [35,36])<|R (om 37 6<|oL 38 11 8<|cl 39 55 [t 38]<|oo 40 (.bls 11 [t 39])<|oo 41 (.app 11 (t 37) (t 40))<|om 6 41<|N) [8,37,38,39,40,41]) [])<|R (oi 42 .add 33 1<|om 33 42<|N) [42])) [31,32,33,34,8])<|q (R (of 43 1 4<|ol 44 43<|cl 45 56 [t 44]<|om 46 3<|om 47 6<|of 48 1 4<|os 48 45<|of 49 1 5<|os 49 46<|of 50 1 6<|os 50 47<|N) [3,6,43,44,45,46,47,48,49,50])<|q (R (oL 51 7 1<|oS 7 2 51<|N) [1,51])<|.ret
theorem ok35:FT 35 52 ir35 [.cell 2 (some 7)]:=.o Tryz.func35
end Go.Proofs
namespace Go.Proofs
open Go Av
mutual
theorem JAP:∀v:Val,fits (JM v)→okV v
 |.mk k i s t l f,h=>by
  have h':l.length≤68719476736∧f.length≤68719476736:=(JGl h).2;rw[JI]at h;simp only[fits,XA,and_true,Val.list,Val.fields]at h;simp only[okV];exact⟨h'.1,h'.2,JFu l fun x hx=>J5.1 h.2.2.2.2.1.2 _ (VC.2 ⟨x,hx,rfl⟩),JFv f fun x hx=>J5.1 h.2.2.2.2.2.2 _ (VC.2 ⟨x,hx,rfl⟩)⟩
theorem JFu:∀l:List Val,(∀x∈l,fits (JM x))→JDZ l
 |[],_=>by simp[JDZ]
 |v::r,h=>by
  simp only[JDZ];exact⟨JAP v (h v (Vh)),JFu r fun x hx=>h x (Vn _ hx)⟩
theorem JFv:∀l:List Fld,(∀x∈l,fits (UP x))→JDa l
 |[],_=>by simp[JDa]
 |.mk n v::r,h=>by
  have h1:=h (.mk n v) (Vh);rw[Xc]at h1;have h2:fits (JM v):=by
   rw[JI];simp only[fits,XA,and_true,Fld.value]at h1⊢;exact h1.2
  simp only[JDa];exact⟨JAP v h2,JFv r fun x hx=>h x (Vn _ hx)⟩
end
theorem p30(a:Val):PT 30 [JM a] (.d (JM a)):=J3.Jg ok30.has fun h=>JJS a (JAP a (h _ (Vh)))
theorem p29(v:Val)(n:Str):PT 29 [JM v,.str n] (.d (.int .i64 (ixN n v.fields))):=J3.Jg ok29.has fun h=>walk29 v n (JGl (h _ (Vh))).2.2
theorem p153(s:Str):PT 153 [.str s] (.d (.bool (Xe s))):=J3.Jg JNq.has fun h=>JDl s (by have:=h _ (Vh);simpa[fits]using this)
def JQb(n:Str)(l:List Fld):Option Nat:=l.findIdx? fun f=>f.name==n
theorem ixN_eq(n:Str)(l:List Fld):ixN n l=match JQb n l with|some k=>(k:Int)|none=> -1:=rfl
def JCl(v:Val)(n:Str):Val×Bool:=if v.kind≠9 then(zeroV,false)else match JQb n v.fields with
 |some i=>((v.fields[i]?.map Fld.value).getD zeroV,true)
 |none=>(zeroV,false)
theorem walk16(v:Val)(n:Str):PT 16 [JM v,.str n] (.tup [.d (JM (JCl v n).1),.d (.bool (JCl v n).2)]):=by
 refine ok16.pc ?_;have c:=(p29 v n).call trivial;have hbd:=ixF_bd (q:=fun f=>f.name==n) (l:=v.fields);generalize hR:JCl v n=R;rw[JI v]at c⊢;unfold JCl at hR;have hix:=ixN_eq n v.fields;generalize hI:ixN n v.fields=I at*;rw[JI R.1];simp only[go_sem,ir16,simprocAttr];refine wc c ?_;refine sq (decide (I<0)) ?_ ?_
 ·exact zz trivial
 refine zz ?_;apply ik<;>intro h
 ·have:R=(zeroV,false):=by
   rw[←hR];by_cases hk:v.kind=9
   ·rw[if_neg (sX hk)];cases e:JQb n v.fields with
    |none=>rfl
    |some i=>
     rw[e]at hix;simp only at hix;simp[hk]at h;omega
   ·rw[if_pos hk]
  rw[this];rfl
 ·simp only[Bool.or_eq_false_iff,bne_eq_false_iff_eq,decide_eq_false_iff_not]at h;obtain⟨h1,h2⟩:=h;rw[if_neg (sX h1)]at hR;cases e:JQb n v.fields with
  |none=>rw[e]at hix;simp only at hix;omega
  |some i=>
   rw[e]at hix hR;simp only at hix hR;have hil:i<v.fields.length:=by
    obtain⟨h,_⟩:=List.findIdx?_eq_some_iff_getElem.1 e;exact h
   rw[Vl hil]at hR;subst hix;subst hR;have hx:=Xd hil;have c2:=(p30 v.fields[i].value).call trivial;rw[JI v.fields[i].value]at c2;refine JFG ?_;refine⟨⟨oM,oM⟩,wn c2 ?_⟩;exact zz trivial
def ixG(q:TFl→Bool)(l:List TFl):Int:=match l.findIdx? q with
 |some k=>(k:Int)
 |none=> -1
theorem JQc{g:Nat}{cs:List Dat}{q:TFl→Bool}(hq:∀x,PT g [Jn x,.ptr cs] (.d (.bool (q x))))(l:List TFl)(hl:l.length≤68719476736):
  PT 198 [.list 11 (l.map Jn),JBO g cs] (.d (.int .i64 (ixG q l))):=by
 refine JTH.pc ?_;simp only[go_sem,JN9,Vc,simprocAttr];refine JJ (fun n s=>∃k:Nat,k≤l.length∧n=l.length-k∧(∀(j:Nat) (h1:j<l.length),j<k→q l[j]=false)∧
  s=⟨[(0,.d (.list 11 (l.map Jn))),(1,.d (JBO g cs)),(7,.d (.int .i64 l.length)),(8,.d (.int .i64 k))],[]⟩) ?_ ?_
 ·exact⟨_,_,Wk.refl _,0,Nat.zero_le _,rfl,sP,rfl⟩
 ·rintro n s ⟨k,hk,rfl,hinv,rfl⟩;by_cases hlt:k<l.length
  ·have hx:=Ug hlt;have hd:=dT hlt;have hc:=(hq l[k]).call trivial;rw[Jw]at hc;refine zz6 ?_;refine⟨oM,wn hc ?_⟩;refine zz ?_;apply ik<;>intro hf
   ·have:l.findIdx? q=some k:=by
     rw[List.findIdx?_eq_some_iff_getElem];exact⟨hlt,hf,fun j hj=>by rw[hinv j oM hj];decide⟩
    simp only[ixG,this]
   ·refine⟨l.length-(k+1),_,oM,Wk.less ?_,k+1,oM,rfl,?_,rfl⟩
    ·exact zz7 trivial
    ·intro j h1 hj;by_cases e:j=k
     ·subst e;exact hf
     ·exact hinv j h1 oM
  ·have hd:=dF hlt;refine zz5 ?_;have:l.findIdx? q=none:=by
    rw[List.findIdx?_eq_none_iff];intro x hx;obtain⟨j,hj,rfl⟩:=List.getElem_of_mem hx;exact hinv j hj oM
   simp only[ixG,this]
theorem JQd(x:TFl)(n:Str):PT 131 [Jn x,.ptr [.str n]] (.d (.bool (x.name==n))):=by
 refine ok131.pc ?_;rw[Jw];simp only[go_sem,JSh,Nat.reduceAdd,Nat.reduceEqDiff,Nat.reduceBEq,Nat.reduceLeDiff,reduceCtorEq,↓reduceIte];exact Nat.one_pos
def JOF(n:Str)(l:List TFl):Option Nat:=l.findIdx? fun f=>f.name==n
def ixM(n:Str)(l:List TFl):Int:=ixG (fun f=>f.name==n) l
theorem ixM_eq(n:Str)(l:List TFl):ixM n l=match JOF n l with|some k=>(k:Int)|none=> -1:=rfl
def ty0:Typ:=.mk 0 0 0 0 [] [] []
def tf0:TFl:=.mk 0 [] 0 ty0 []
theorem Y5{t:Typ}(h:fits (JH t)):t.words.length≤68719476736∧t.elem.length≤68719476736∧t.fields.length≤68719476736:=by
 rw[JA]at h;simp only[fits,XA,Vc,and_true]at h;exact⟨h.2.2.2.2.1.1,h.2.2.2.2.2.1.1,h.2.2.2.2.2.2.1⟩
def tfR(t:Typ)(n:Str):TFl×Bool:=match JOF n t.fields with
 |some i=>((t.fields[i]?).getD tf0,true)
 |none=>(tf0,false)
end Go.Proofs
namespace Av
open Go Go.RowKit
variable [Glb][Rls]
theorem JR.JMT{P:Program}{f:Nat}{ds:List Dat}{x:Dat}(hh:Has P f)
  (h:∀(A:Nat→Prop) (w:World) (vs:Array Value),ds.length=vs.size→(∀(i:Nat) d u,ds[i]? =some d→vs[i]? =some u→Rep A w d u)→
   Calls P f vs w fun e w'=>∃u,e=.returned u∧Below w.heap.size w w'∧Rep (fun b=>A b∨(w.heap.size≤b∧b<w'.heap.size)) w' x u):JR P f (ds.map .d) [] (.d x) []:=by
 intro β A w H vs _ hc hvs;have hl:ds.length=vs.size:=sX hvs.1;refine .inl ⟨hh,(h A w vs hl ?_).mono ?_⟩
 ·intro i d u hd hu;have:=hvs.2 i (.d d) u (by rw[Vo,hd];rfl) hu;exact this.JZ
 ·rintro e w' ⟨u,rfl,hb,hr⟩;refine⟨u,rfl,β,fun b=>A b∨(w.heap.size≤b∧b<w'.heap.size),?_,.d _ _ hr⟩;refine Stp.new hc hb.os hb.tape hb.output hb.size hb.block (fun _ h=>.inl h) ?_ ?_
  ·rintro b (h|h)
   ·exact .inl h
   ·exact .inr h.1
  ·rintro b (h|h)
   ·exact Nat.lt_of_lt_of_le (hc.old b h) hb.size
   ·exact h.2
theorem JEg{A:Nat→Prop}{w w':World}{e:TypeId}{v:Value}{n:Nat}{ss:List (List UInt8)}(hn:n=ss.length)(hs:∀s∈ss,s.length≤68719476736)(hl:ss.length≤68719476736)
  (h:w'.ownsRow w.heap.size e 1 v n (ss.map fun s=>Value.string ⟨s.toArray⟩)):Rep (fun b=>A b∨(w.heap.size≤b∧b<w'.heap.size)) w' (.list 1 (ss.map .str)) v:=by
 obtain⟨h1,⟨rfl,h0⟩|⟨g,cap,cur,rfl,hg,hh,hcap,_,hcur,htake⟩⟩:=h
 ·have:ss=[]:=by cases ss with
   |nil=>rfl
   |cons a r=>simp at hn;omega
  subst this;exact .emp 1 none 0
 ·have hlt:g<w'.heap.size:=(Array.getElem?_eq_some_iff.1 hh).1;refine .list 1 _ g 0 n cap (ss.map fun s=>Value.string ⟨s.toArray⟩) (sX hn) (.inr ⟨hg,hlt⟩) sO (sX hl) ?_ ?_ ?_ ?_ ?_
  ·intro u hu;obtain⟨s,_,rfl⟩:=VC.1 hu;rfl
  ·intro x hx;obtain⟨s,_,rfl⟩:=VC.1 hx;rfl
  ·intro i u hu;have:(cur.toList.take (n*1))[i]? =some u:=by rw[htake];exact hu
   rw[List.getElem?_take]at this;split at this
   ·simp only[World.cell?,hh,Nat.zero_add];simpa using this
   ·cases this
  ·rw[X9];simp
  ·intro i c u hc hu;rw[X9,Vo]at hc;rw[Vo]at hu;cases q:ss[i]? with
   |none=>rw[q]at hc;cases hc
   |some s=>
    rw[q]at hc hu;cases hc;cases hu;exact .str s (hs s (List.mem_of_getElem? q))
end Av
namespace Go.Proofs
open Go.Shelf
def Tryz.JFO:Go.Shelf.Ren:=⟨fun|16=>56|n=>n,fun|24=>22|9=>9|4=>4|n=>n,fun|n=>n⟩
theorem Tryz.JCu:Go.Proofs.Lays2.n16 Tryz.prog Tryz.JFO:={
 mixed:=kR
 f16:=Tryz.func56.trans (congrArg some kR)
 t4:=Tryz.underlying4
 a4:=Tryz.isAgg4
 z4:=Tryz.sizeOf4
 v4:=Tryz.zeroValue4
 t9:=Tryz.underlying9
 a9:=Tryz.isAgg9
 z9:=Tryz.sizeOf9
 v9:=Tryz.zeroValue9
 t24:=Tryz.underlying22
 a24:=Tryz.isAgg22
 z24:=Tryz.sizeOf22
 v24:=Tryz.zeroValue22
 i9:=by kernel_rfl}
end Go.Proofs
namespace Go.Proofs
open Go Av Go.RowKit
theorem JIJ(ss:List Str):CT 56 [.d (.list 1 (ss.map .str))] [] (.d (.list 1 (ss.map .str))) []:=by
 refine JR.JMT (ds:=[.list 1 (ss.map .str)]) ⟨_,Tryz.func56,kR,kR⟩ fun A w vs hl hv=>?_
 obtain⟨v,rfl⟩:=JB4 (sX hl);have hr:=hv 0 _ v rfl rfl;have hf:=hr.fits;simp only[fits,Vc]at hf;have hfl:(flat (ss.map Dat.str))=ss.map .str:=X9 ss;have hs:∀s∈ss,s.length≤68719476736:=fun s h=>J5.1 hf.2 (.str s) (VC.2 ⟨s,h,rfl⟩)
 generalize hD:ss.map Dat.str=D at hr hfl;cases hr with
 |emp _ a cap=>
  obtain rfl:ss=[]:=List.map_eq_nil_iff.1 hD;cases a with
  |none=>exact(Any.slices_Clone_string_nil Tryz.JCu 0 cap w).mono fun e w' ⟨h1,h2⟩=>⟨_,h1,by rw[h2];exact Below.refl _ _,.emp 1 none 0⟩
  |some a=>
   refine(Any.slices_Clone_string_zero Tryz.JCu a cap w).mono ?_;rintro e w' ⟨v',rfl,h,_,hb⟩;exact⟨_,rfl,hb,JEg (ss:=[]) rfl sP sP h⟩
 |list _ _ b o n cap vs hn hA hcap hc h1 hsz hh hvl hvv=>
  subst hD;have hlen:n=ss.length:=sX hn;have hcell:∀j (h:j<ss.length),vs[j]? =some (.string ⟨ss[j].toArray⟩):=by
   intro j h;rw[X9]at hvl;have hj:j<vs.length:=by simp at hvl;omega
   have:=hvv j (.str ss[j]) vs[j] (by rw[X9];simp[h]) (by simp[hj]);rw[Vl hj];generalize vs[j]=z at this;cases this;rfl
  refine(Any.slices_Clone_string Tryz.JCu b o n cap (ss.map fun s=>⟨s.toArray⟩) w sO oM ?_).mono ?_
  ·intro j hj;have hj':j<ss.length:=sX hj;have:=hh j _ (hcell j hj');rw[this];simp[hj']
  ·rintro e w' ⟨v',rfl,h,_,hb⟩;rw[List.take_of_length_le sO,List.map_map]at h;exact⟨_,rfl,hb,JEg hlen hs hf.1 h⟩
end Go.Proofs
namespace Av
open Go
variable [Glb][Rls]
theorem J3.JR7{P:Program}{f g:Nat}{d:Dat}{cs:List Dat}{r:Av}(h:J3 P f [d,JBO g cs] r)(hr:Jl r)(i:Nat):
  JR P f [.d d,.clo (.func g) [] [.ref i 0]] [(i,some (.box (cs.map .d)))] r [(i,.fbox cs)]:=by
 intro β A w H vs hT hc hvs;have hi:H i=some (.box (cs.map .d)):=hT _ (List.mem_singleton.2 rfl);have st:=Stp.JAo hc hi (JH9 cs);obtain⟨x1,x2,rfl⟩:∃x y,vs=#[x,y]:=by
  have h2:2=vs.size:=sX hvs.1;refine⟨vs[0],vs[1],?_⟩;apply Array.ext
  ·simp[←h2]
  ·intro i h1 h2;have:i=0∨i=1:=oM;rcases this with rfl|rfl<;>rfl
 have v1:=st.vals _ _ (hvs.2 0 _ x1 rfl rfl);have v2:=st.vals _ _ (hvs.2 1 _ x2 rfl rfl);have hv2:Rep (fun k=>A k∨β i=some k) w (JBO g cs) x2:=by
  cases v2 with
  |clo _ _ _ a1 a2 l1 l2 hf hvv=>
   refine .fn _ _ _ a1 a2 l1 (sX l2) (by intro j c v hj;cases hj) ?_;intro k c v hk hkv
   match k,hk with
   |0,hk=>
    cases hk;have hrf:=hvv 0 _ v rfl hkv;cases hrf with
    |ref _ _ _ _ _ hu g0 g1 g2=>
     have:=g2 cs sU;simpa using this
   |k+1,hk=>cases hk
 have:=h.call hr β _ w _ #[x1,x2] sP st.core ⟨rfl,fun k c u h1 h2=>by
  match k,h1,h2 with
  |0,h1,h2=>cases h1;cases h2;exact v1
  |1,h1,h2=>cases h1;cases h2;exact .d _ _ hv2
  |k+2,h1,h2=>cases h1⟩
 rcases this with⟨a1,a2⟩|⟨u,w',a1,β',A',a2,a3⟩
 ·refine .inl ⟨a1,a2.mono ?_⟩;rintro e w' ⟨u,rfl,β',A',b1,b2⟩;exact⟨u,rfl,β',A',st.trans b1,b2⟩
 ·exact .inr ⟨u,w',a1,β',A',st.trans a2,a3⟩
end Av
namespace Go.Proofs
open Go Av
theorem step55(g:TFl)(h:PT 35 [JH g.type] (.d (JH g.type))):PT 55 [Jn g] (.d (Jn g)):=by
 refine J3.Jg ok55.has fun hfit=>?_
 have hdl:g.dflt.length≤68719476736:=by
  have:=hfit _ (Vh);rw[Jw]at this;simp only[fits,XA,Vc,and_true]at this;exact this.2.2.2.2.2.2.2.2.2.2.1
 refine ok55.pc ?_;have c:=h.call trivial;rw[JA]at c;rw[Jw];simp only[go_sem,ir55,simprocAttr];refine wc c ?_;refine⟨⟨Int.le_refl _,sP,sO⟩,?_⟩;refine JJ (fun n s=>∃k:Nat,k≤g.dflt.length∧n=g.dflt.length-k∧
  s=⟨[(1,.ref 1 0),(2,.ref 2 0),(3,.ms 13 k),(15,.d (.list 6 (g.dflt.map JM))),(16,.d (.int .i64 g.dflt.length)),(17,.d (.int .i64 k))],
   [(1,.box [.d (.int .i64 g.number),.d (.str g.name),.d (.int .i64 g.need),.d (.int .i64 g.type.kind),.d (.int .i64 g.type.min),.d (.int .i64 g.type.max),.d (.int .i64 g.type.scale),.d (.list 1 (g.type.words.map .str)),.d (.list 7 (g.type.elem.map JH)),.d (.list 11 (g.type.fields.map Jn)),.d (.list 6 (g.dflt.map JM))]),(2,.box [.d (.int .i64 0),.d (.str []),.d (.int .i64 0),.d (.int .i64 0),.d (.int .i64 0),.d (.int .i64 0),.d (.int .i64 0),.d (.nil 1),.d (.nil 7),.d (.nil 11),.d (.nil 6)]),(13,.row k 6 ((g.dflt.take k).map JM))]⟩) ?_ ?_
 ·exact⟨_,_,Wk.refl _,0,Nat.zero_le _,rfl,sP⟩
 ·rintro n s ⟨k,hk,rfl,rfl⟩;by_cases hlt:k<g.dflt.length
  ·have hx:=Uf hlt;have hd:=dT hlt;have hc:=(p30 g.dflt[k]).call trivial;rw[JI]at hc;refine zz6 ?_;refine⟨oM,wn hc ?_⟩;refine zz ?_;refine⟨sP,sO,?_⟩;refine⟨g.dflt.length-(k+1),_,oM,Wk.less ?_,k+1,oM,rfl,rfl⟩;rw[List.take_succ_eq_append_getElem hlt,Vw];simp only[go_sem,JS k oM,Va,Vb,JI g.dflt[k],Nat.reduceAdd,Nat.reduceEqDiff,Nat.reduceBEq,Nat.reduceLeDiff,reduceCtorEq,↓reduceIte]
  ·have hd:=dF hlt;obtain rfl:k=g.dflt.length:=oM;exact JLq trivial
theorem step35(t:Typ)(h1:∀x∈t.elem,PT 35 [JH x] (.d (JH x)))(h2:∀g∈t.fields,PT 55 [Jn g] (.d (Jn g))):PT 35 [JH t] (.d (JH t)):=by
 refine J3.Jg ok35.has fun hfit=>?_
 obtain⟨f1,f2,f3⟩:=Y5 (hfit _ (Vh));refine ok35.pc ?_;rw[JA];simp only[go_sem,ir35,Nat.reduceAdd,Nat.reduceEqDiff,Nat.reduceBEq,Nat.reduceLeDiff,reduceCtorEq,↓reduceIte];refine⟨⟨Int.le_refl _,sP,sO⟩,?_⟩;refine JJ (fun n s=>∃k:Nat,k≤t.elem.length∧n=t.elem.length-k∧
  s=⟨[(1,.ref 1 0),(2,.ref 2 0),(3,.ms 12 k),(14,.d (.list 7 (t.elem.map JH))),(15,.d (.int .i64 t.elem.length)),(16,.d (.int .i64 k))],
   [(1,.box [.d (.int .i64 t.kind),.d (.int .i64 t.min),.d (.int .i64 t.max),.d (.int .i64 t.scale),.d (.list 1 (t.words.map .str)),.d (.list 7 (t.elem.map JH)),.d (.list 11 (t.fields.map Jn))]),(2,.box [.d (.int .i64 0),.d (.int .i64 0),.d (.int .i64 0),.d (.int .i64 0),.d (.nil 1),.d (.nil 7),.d (.nil 11)]),(12,.row k 7 ((t.elem.take k).map JH))]⟩) ?_ ?_
 ·exact⟨_,_,Wk.refl _,0,Nat.zero_le _,rfl,sP⟩
 ·rintro n s ⟨k,hk,rfl,rfl⟩;by_cases hlt:k<t.elem.length
  ·have hx:=YA hlt;have hd:=dT hlt;have hc:=(h1 t.elem[k] (Vk _)).call trivial;rw[JA]at hc;refine zz6 ?_;refine⟨oM,wn hc ?_⟩;refine zz ?_;refine⟨sP,sO,?_⟩;refine⟨t.elem.length-(k+1),_,oM,Wk.less ?_,k+1,oM,rfl,rfl⟩;rw[List.take_succ_eq_append_getElem hlt,Vw];simp only[go_sem,JS k oM,Va,Vb,JA t.elem[k],Nat.reduceAdd,Nat.reduceEqDiff,Nat.reduceBEq,Nat.reduceLeDiff,reduceCtorEq,↓reduceIte]
  ·have hd:=dF hlt;obtain rfl:k=t.elem.length:=oM;refine JLq ?_;refine⟨⟨Int.le_refl _,sP,sO⟩,?_⟩;refine JJ (fun n s=>∃k:Nat,k≤t.fields.length∧n=t.fields.length-k∧
    s=⟨[(1,.ref 1 0),(2,.ref 2 0),(3,.ms 12 t.elem.length),(6,.ms 29 k),(31,.d (.list 11 (t.fields.map Jn))),(32,.d (.int .i64 t.fields.length)),(33,.d (.int .i64 k))],
     [(1,.box [.d (.int .i64 t.kind),.d (.int .i64 t.min),.d (.int .i64 t.max),.d (.int .i64 t.scale),.d (.list 1 (t.words.map .str)),.d (.list 7 (t.elem.map JH)),.d (.list 11 (t.fields.map Jn))]),(2,.box [.d (.int .i64 0),.d (.int .i64 0),.d (.int .i64 0),.d (.int .i64 0),.d (.nil 1),.d (.nil 7),.d (.nil 11)]),(12,.row t.elem.length 7 (t.elem.map JH)),(29,.row k 11 ((t.fields.take k).map Jn))]⟩) ?_ ?_
   ·refine⟨_,_,Wk.less ?_,0,Nat.zero_le _,rfl,rfl⟩;simp[go_sem]
   ·rintro n s ⟨k,hk,rfl,rfl⟩;by_cases hlt:k<t.fields.length
    ·have hx:=Ug hlt;have hd:=dT hlt;have hc:=(h2 t.fields[k] (Vk _)).call trivial;rw[Jw]at hc;refine zz6 ?_;refine⟨oM,wn hc ?_⟩;refine zz ?_;refine⟨sP,sO,?_⟩;refine⟨t.fields.length-(k+1),_,oM,Wk.less ?_,k+1,oM,rfl,rfl⟩;rw[List.take_succ_eq_append_getElem hlt,Vw];simp only[go_sem,JS k oM,Va,Vb,Jw t.fields[k],Nat.reduceAdd,Nat.reduceEqDiff,Nat.reduceBEq,Nat.reduceLeDiff,reduceCtorEq,↓reduceIte]
    ·have hd:=dF hlt;obtain rfl:k=t.fields.length:=oM;refine JLq ?_;refine wc (JIJ t.words) trivial
mutual
theorem p35:∀t:Typ,PT 35 [JH t] (.d (JH t))
 |.mk k a b s w e f=>step35 _ (p35s e) (p55s f)
theorem p35s:∀l:List Typ,∀x∈l,PT 35 [JH x] (.d (JH x))
 |[],x,h=>by cases h
 |t::r,x,h=>by
  have h0:=p35 t;have h1:=p35s r x;rcases VA.1 h with e|h
  ·rw[e];exact h0
  ·exact h1 h
theorem p55:∀g:TFl,PT 55 [Jn g] (.d (Jn g))
 |.mk n m d t v=>step55 _ (p35 t)
theorem p55s:∀l:List TFl,∀x∈l,PT 55 [Jn x] (.d (Jn x))
 |[],x,h=>by cases h
 |t::r,x,h=>by
  have h0:=p55 t;have h1:=p55s r x;rcases VA.1 h with e|h
  ·rw[e];exact h0
  ·exact h1 h
end
def UY(t:Typ)(n:Str):TFl×Bool:=if t.kind≠9∧t.kind≠10 then(tf0,false)else tfR t n
theorem fnd_at{cs:List Dat}{g:Nat}(n:Str)(t:Typ)(hq:∀x,PT g [Jn x,.ptr cs] (.d (.bool (x.name==n)))):PT 130 [JH t,JBO g cs] (.tup [.d (Jn (UY t n).1),.d (.bool (UY t n).2)]):=by
 refine J3.Jg JSg.has fun hfit=>?_
 have hl:=(Y5 (hfit _ (Vh))).2.2;refine JSg.pc ?_;have c:=(JQc hq t.fields hl).call trivial;have hix:=ixM_eq n t.fields;unfold ixM at hix;generalize hR:UY t n=R;unfold UY tfR at hR;rw[JA,Jw R.1];simp only[go_sem,JSf,simprocAttr];refine sq (t.kind !=10) ?_ ?_
 ·exact zz trivial
 refine zz ?_;apply ik<;>intro h
 ·rw[if_pos (sX h)]at hR;rw[←hR];rfl
 rw[if_neg (sX h)]at hR;refine wc c ?_;apply ik<;>intro h
 ·simp only[decide_eq_true_eq]at h;cases e:JOF n t.fields with
  |none=>
   rw[e]at hR;rw[←hR];rfl
  |some i=>rw[e]at hix;simp only at hix;omega
 ·simp only[decide_eq_false_iff_not]at h;cases e:JOF n t.fields with
  |none=>rw[e]at hix;simp only at hix;omega
  |some i=>
   have hil:i<t.fields.length:=by
    obtain⟨h,_⟩:=List.findIdx?_eq_some_iff_getElem.1 e;exact h
   rw[e]at hix hR;simp only at hix hR;rw[Vl hil]at hR;subst hR;have hx:=Ug hil;have c2:=(p55 t.fields[i]).call trivial;rw[Jw]at c2;rw[hix];refine JFG ?_;refine⟨⟨oM,oM⟩,wn c2 ?_⟩;exact zz trivial
theorem JEh(t:Typ)(n:Str):PT 72 [JH t,.str n] (.tup [.d (Jn (UY t n).1),.d (.bool (UY t n).2)]):=by
 refine ok72.pc ?_;have c:=(fnd_at n t fun x=>JQd x n).JR7 (by simp[Jl]) 3;generalize UY t n=R at*;rw[JA,Jw]at c;rw[JA,Jw];simp only[go_sem,ir72,simprocAttr];refine wc c trivial
def JHI(a b:Int):Typ:=.mk 2 a b 0 [] [] []
def recG(k:Nat)(p:Str×Typ):TFl:=.mk ((k:Int)+1) p.1 1 p.2 []
def JTL:Nat→List (Str×Typ)→List TFl
 |_,[]=>[]
 |k,p::r=>recG k p::JTL (k+1) r
def recT(l:List (Str×Typ)):Typ:=.mk 9 0 0 0 [] [] (JTL 0 l)
@[instance_reducible] def rls0:Rls:={rl:=fun _=>false}
def sBody:Str:=[98,111,100,121]
def sReply:Str:=[114,101,112,108,121]
def JNG(b x:Typ):Typ:=recT [(sBody,b),(sReply,x)]
theorem JK4(n:Int):∃x:Int,True∧PT 142 [.int .i64 n] (.d (.int .i64 x)):=by
 refine ok142.pex (fun x:Int=>.d (.int .i64 x)) (fun x:Int=>True) (Nat.le_of_ble_eq_true rfl) (fun _ _=>by simp[Uv,JT,JN]) ?_;simp only[go_sem,JSk,Vv,Vc,simprocAttr];exact⟨_,rfl⟩
theorem JQe(n:Int):CT 142 [.d (.int .i64 n)] [] (.d (.int .i64 (PA (JK4 n)))) []:=(UQ (JK4 n)).call (by simp[Jl])
theorem walk89(t:Typ):PT 89 [JH t] (.d (.bool (t.kind==2||t.kind==3))):=by
 refine ok89.pc ?_;rw[JA];simp only[go_sem,ir89,Vv,Vc,simprocAttr];refine sq (t.kind==3) ?_ ?_
 ·simp only[go_sem,Vv,Vc,simprocAttr]
 ·simp only[go_sem,Vv,Vc,simprocAttr]
theorem c89(t:Typ):CT 89 [.d (JH t)] [] (.d (.bool (t.kind==2||t.kind==3))) []:=(walk89 t).call trivial
theorem JFw(a b:Int):∃x:Int×Bool,True∧PT 134 [.int .i64 a,.int .i64 b] (.tup [.d (.int .i64 x.1),.d (.bool x.2)]):=by
 refine ok134.JIu (fun x:Int×Bool=>.tup [.d (.int .i64 x.1),.d (.bool x.2)]) (fun x:Int×Bool=>True) (default) (trivial) (Nat.le_of_ble_eq_true rfl) (fun _ _=>by simp[Uv,JT,JN]) fun hfit=>?_
 have hb: -9223372036854775808≤b∧b≤9223372036854775807:=by have:=hfit (.int .i64 b) sP;simpa[fits,IntKind.min,IntKind.max,IntKind.signed,IntKind.bits]using this
 simp only[go_sem,JSi,Vv,Vc,simprocAttr];refine sq (b==0) ?_ ?_
 ·simp only[go_sem,Vv,Vc,simprocAttr]
 simp only[go_sem,Vv,Vc,simprocAttr];refine JD (fun h=>?_) (fun h=>?_)
 ·exact⟨(_,_),rfl⟩
 simp only[Bool.or_eq_false_iff,beq_eq_false_iff_ne]at h;refine⟨?_,?_⟩
 ·by_cases hn:b= -9223372036854775808
  ·subst hn;decide
  ·rw[wrap64 oM oM];split<;>omega
 repeat' (first|exact⟨_,rfl⟩|exact⟨(_,_),rfl⟩|exact⟨_,trivial,rfl⟩|exact⟨(_,_),trivial,rfl⟩|refine JD (fun _=>?_) (fun _=>?_))
theorem c134(a b:Int):CT 134 [.d (.int .i64 a),.d (.int .i64 b)] [] (.tup [.d (.int .i64 (PA (JFw a b)).1),.d (.bool (PA (JFw a b)).2)]) []:=(UQ (JFw a b)).call (by simp[Jl])
theorem JFx(a b:Int):∃x:Int×Bool,True∧PT 136 [.int .i64 a,.int .i64 b] (.tup [.d (.int .i64 x.1),.d (.bool x.2)]):=by
 refine ok136.JIu (fun x:Int×Bool=>.tup [.d (.int .i64 x.1),.d (.bool x.2)]) (fun x:Int×Bool=>True) (default) (trivial) (Nat.le_of_ble_eq_true rfl) (fun _ _=>by simp[Uv,JT,JN]) fun hfit=>?_
 have hb:b≤9223372036854775807:=by have:=hfit (.int .i64 b) sP;simp[fits,IntKind.min,IntKind.max,IntKind.signed,IntKind.bits]at this;omega
 simp only[go_sem,JSj,Vv,Vc,simprocAttr];refine JJ (fun n s=>∃(m k:Int),0≤k∧(k≤b∨k=0)∧n=(b-k).toNat∧s=⟨[(0,.d (.int .i64 m)),(6,.d (.int .i64 b)),(7,.d (.int .i64 k))],[]⟩) ?_ ?_
 ·exact⟨_,_,Wk.refl _,a,0,oM,oM,rfl,rfl⟩
 rintro n s ⟨m,k,h0,h1,rfl,rfl⟩;by_cases hlt:k<b
 ·have hd:decide (k<b)=true:=by simp[hlt]
  simp only[go_sem,hd,Vv,Vc,simprocAttr];refine Jt (fun _=>?_) (fun z=>?_)
  ·simp only[go_sem,Vv,Vc,simprocAttr];exact⟨_,rfl⟩
  cases z with
  |true=>
   simp only[go_sem,Vv,Vc,simprocAttr]
   repeat' (first|exact⟨_,rfl⟩|exact⟨(_,_),rfl⟩|exact⟨_,trivial,rfl⟩|exact⟨(_,_),trivial,rfl⟩|refine JD (fun _=>?_) (fun _=>?_))
  |false=>
   simp only[go_sem,wrap64 (n:=k+1) oM oM,Vv,Vc,simprocAttr];exact⟨(b-(k+1)).toNat,_,oM,Wk.refl _,_,k+1,oM,oM,rfl,rfl⟩
 ·have hd:decide (k<b)=false:=sO;simp only[go_sem,hd,Vv,Vc,simprocAttr];refine wn (JQe _) ?_;simp only[go_sem,Vv,Vc,simprocAttr];refine wn (JQe _) ?_;simp only[go_sem,Vv,Vc,simprocAttr]
  repeat' (first|exact⟨_,rfl⟩|exact⟨(_,_),rfl⟩|exact⟨_,trivial,rfl⟩|exact⟨(_,_),trivial,rfl⟩|refine JD (fun _=>?_) (fun _=>?_))
theorem c136(a b:Int):CT 136 [.d (.int .i64 a),.d (.int .i64 b)] [] (.tup [.d (.int .i64 (PA (JFx a b)).1),.d (.bool (PA (JFx a b)).2)]) []:=(UQ (JFx a b)).call (by simp[Jl])
theorem JOG(a b:Int):∃x:Int,True∧PT 146 [.int .i64 a,.int .i64 b] (.d (.int .i64 x)):=by
 refine ok146.JIu (fun x:Int=>.d (.int .i64 x)) (fun x:Int=>True) (default) (trivial) (Nat.le_of_ble_eq_true rfl) (fun _ _=>by simp[Uv,JT,JN]) fun hfit=>?_
 have hb:b≤9223372036854775807:=by have:=hfit (.int .i64 b) sP;simp[fits,IntKind.min,IntKind.max,IntKind.signed,IntKind.bits]at this;omega
 simp only[go_sem,JSm,Vv,Vc,simprocAttr];refine JJ (fun n s=>∃(m k:Int),0≤k∧(k≤b∨k=0)∧n=(b-k).toNat∧s=⟨[(0,.d (.int .i64 m)),(5,.d (.int .i64 b)),(6,.d (.int .i64 k))],[]⟩) ?_ ?_
 ·exact⟨_,_,Wk.refl _,a,0,oM,oM,rfl,rfl⟩
 rintro n s ⟨m,k,h0,h1,rfl,rfl⟩;by_cases hlt:k<b
 ·have hd:decide (k<b)=true:=by simp[hlt]
  simp only[go_sem,hd,Vv,Vc,simprocAttr];refine Jt (fun _=>?_) (fun z=>?_)
  ·simp only[go_sem,Vv,Vc,simprocAttr];exact⟨_,rfl⟩
  cases z with
  |true=>
   simp only[go_sem,Vv,Vc,simprocAttr]
   repeat' (first|exact⟨_,rfl⟩|exact⟨(_,_),rfl⟩|exact⟨_,trivial,rfl⟩|exact⟨(_,_),trivial,rfl⟩|refine JD (fun _=>?_) (fun _=>?_))
  |false=>
   simp only[go_sem,wrap64 (n:=k+1) oM oM,Vv,Vc,simprocAttr];exact⟨(b-(k+1)).toNat,_,oM,Wk.refl _,_,k+1,oM,oM,rfl,rfl⟩
 ·have hd:decide (k<b)=false:=sO;simp only[go_sem,hd,Vv,Vc,simprocAttr]
  repeat' (first|exact⟨_,rfl⟩|exact⟨(_,_),rfl⟩|exact⟨_,trivial,rfl⟩|exact⟨(_,_),trivial,rfl⟩|refine JD (fun _=>?_) (fun _=>?_))
theorem c146(a b:Int):CT 146 [.d (.int .i64 a),.d (.int .i64 b)] [] (.d (.int .i64 (PA (JOG a b)))) []:=(UQ (JOG a b)).call (by simp[Jl])
theorem JQf(a b:Typ)(s:Int):PT 143 [JH a,JH b,.int .i64 s] (.d (.int .i64 (if a.kind==2&&b.kind==2 then-1 else s))):=by
 refine ok143.pc ?_;rw[JA,JA];simp only[go_sem,JSl,Vv,Vc,simprocAttr];refine sq (b.kind==2) ?_ ?_
 ·simp only[go_sem,Vv,Vc,simprocAttr]
 simp only[go_sem,Vv,Vc,simprocAttr];refine JD (fun h=>?_) (fun h=>?_)<;>simp only[h,if_true,if_false,Vu]
theorem c143(a b:Typ)(s:Int):CT 143 [.d (JH a),.d (JH b),.d (.int .i64 s)] [] (.d (.int .i64 (if a.kind==2&&b.kind==2 then-1 else s))) []:=(JQf a b s).call trivial
def JJa(s a b:Int):Typ:=if s<0 then .mk 2 a b 0 [] [] []else .mk 3 a b s [] [] []
theorem walk91(s a b:Int):PT 91 [.int .i64 s,.int .i64 a,.int .i64 b] (.d (JH (JJa s a b))):=by
 refine ok91.pc ?_;generalize hT:JJa s a b=T;rw[JA];simp only[go_sem,ir91,Vv,Vc,simprocAttr];refine JD (fun h=>?_) (fun h=>?_)
 ·rw[JJa,if_pos (sX h)]at hT;subst hT;simp only[go_sem,Typ.kind,Typ.min,Typ.max,Typ.scale,Typ.words,Typ.elem,Typ.fields,Vv,Vc,simprocAttr]
 ·rw[JJa,if_neg (sX h)]at hT;subst hT;simp only[go_sem,Typ.kind,Typ.min,Typ.max,Typ.scale,Typ.words,Typ.elem,Typ.fields,Vv,Vc,simprocAttr]
theorem c91(s a b:Int):CT 91 [.d (.int .i64 s),.d (.int .i64 a),.d (.int .i64 b)] [] (.d (JH (JJa s a b))) []:=(walk91 s a b).call trivial
theorem JFy(a b:Typ):∃x:Bool,True∧PT 87 [JH a,JH b] (.d (.bool x)):=by
 refine ok87.pex (fun x:Bool=>.d (.bool x)) (fun x:Bool=>True) (Nat.le_of_ble_eq_true rfl) (fun _ _=>by simp[Uv,JT,JN]) ?_;have h1:=c89 a;have h2:=c89 b;rw[JA]at h1 h2;rw[JA,JA];simp only[go_sem,ir87,Vv,Vc,simprocAttr];refine wn h1 ?_;simp only[go_sem,Vv,Vc,simprocAttr];refine Jt (fun _=>?_) (fun z=>?_)
 ·simp only[go_sem,Vv,Vc,simprocAttr];refine wn h2 ?_;simp only[go_sem,Vv,Vc,simprocAttr];exact⟨_,rfl⟩
 simp only[go_sem,Vv,Vc,simprocAttr];refine Jt (fun _=>?_) (fun z=>?_)
 ·simp only[go_sem,Vv,Vc,simprocAttr]
  repeat' (first|exact⟨_,rfl⟩|(refine Jt (fun _=>?_) (fun z=>?_))|(simp only[go_sem,simprocAttr]))
 simp only[go_sem,Vv,Vc,simprocAttr]
 repeat' (first|exact⟨_,rfl⟩|exact⟨(_,_),rfl⟩|exact⟨_,trivial,rfl⟩|exact⟨(_,_),trivial,rfl⟩|refine JD (fun _=>?_) (fun _=>?_))
theorem c87(a b:Typ):CT 87 [.d (JH a),.d (JH b)] [] (.d (.bool (PA (JFy a b)))) []:=(UQ (JFy a b)).call (by simp[Jl])
end Go.Proofs
namespace Go.Proofs
open Go Av
open Av.Y
def JIK:Ic:=q (R (ox 2 0<|ox 3 1<|oN 4 yT<|ow 5 false<|oz 6 0<|N) [0,1,5,6])<|q (R (oo 10 (.bld [.int .i64 0,.int .i64 0,.int .i64 0,.int .i64 0,.int .i64 0] [(1,1,i 9),(2,1,i 8),(3,1,i 8),(4,1,i 10)])<|of 11 3 0<|ol 12 11<|oo 13 (.ixv none 5 1 (t 10) (t 12))<|om 7 13<|N) [10,11,12,13])<|q (q (R (of 14 2 0<|ol 15 14<|om 16 7<|ot 17 .neq 15 16<|N) [7,14,15,16])<|D (I 17 (q (R (oo 18 (.bld yT [])<|oS 7 4 18<|ow 5 false<|oz 6 11<|N) [2,3,17,18])<|.ret) S) [17])<|q (q (R (of 19 3 0<|ol 20 19<|N) [19])<|D (.block 0<|q (R (oi 22 .eql 20 3<|om 21 22<|N) [22])<|D (I 21 (q (D (.regd [(5,7)] (of 23 2 5<|ol 24 23<|oo 25 (.ixa true 7 (t 24) (i 0))<|oL 26 7 25<|of 27 2 1<|ol 28 27<|oi 29 .eql 28 0<|oS 7 4 26<|om 5 29<|oz 6 0<|N)) [2,3,20,21,23,24,25,26,27,28,29])<|.ret) (q (R (oi 31 .eql 20 2<|om 30 31<|N) [20,21,31])<|D (I 30 (q (q (R (of 32 3 1<|ol 33 32<|of 34 2 2<|ol 35 34<|ot 36 .geq 33 35<|N) [30,32,33,34,35])<|D (I 36 (q (R (oo 37 (.bld yT [])<|oS 7 4 37<|ow 5 false<|oz 6 2<|N) [2,3,36,37])<|.ret) S) [36])<|q (D (.regd [(5,9),(7,9)] (of 38 2 5<|ol 39 38<|oo 40 (.ixa true 7 (t 39) (i 0))<|oL 41 7 40<|of 42 3 1<|ol 43 42<|of 44 2 1<|ol 45 44<|ot 46 .geq 43 45<|oS 7 4 41<|om 5 46<|oz 6 0<|N)) [2,3,38,39,40,41,42,43,44,45,46])<|.ret) S) [30])) []) [])<|q (R (oL 48 7 2<|of 49 3 2<|ol 50 49<|cl 51 72 [t 48,t 50]<|om 47 51<|oe 52 47 0<|oe 53 47 1<|oN 8 yG<|oS 11 8 52<|om 9 53<|N) [48,49,50,51,47,52,53])<|q (q (R (om 54 9<|og 55 54<|N) [9,54])<|D (I 55 (q (R (oo 56 (.bld yT [])<|oS 7 4 56<|ow 5 false<|oz 6 21<|N) [2,3,8,55,56])<|.ret) S) [55])<|q (q (R (of 57 3 0<|ol 58 57<|oi 59 .eql 58 4<|N) [3,57,58])<|D (I 59 (q (D (.regd [(3,6),(4,6)] (of 60 8 3<|oL 61 7 60<|of 62 2 6<|ol 63 62<|oh 64 63<|oi 65 .gtr 64 1<|oS 7 4 61<|om 5 65<|oz 6 0<|N)) [2,8,59,60,61,62,63,64,65])<|.ret) S) [2,59])<|q (D (.regd [(3,5)] (of 66 8 3<|oL 67 7 66<|of 68 8 2<|ol 69 68<|oi 70 .eql 69 2<|oS 7 4 67<|om 5 70<|oz 6 0<|N)) [8,66,67,68,69,70])<|.ret
theorem ok197:FT 197 71 JIK [.cell 4 (some 7),.tmp 5,.tmp 6]:=.o Tryz.func197
def JTM:Ic:=q (R (ox 2 0<|oN 4 yT<|ow 5 false<|oz 6 0<|N) [0,6])<|q (q (R (oL 14 7 2<|cl 15 23 [t 14]<|om 7 15<|N) [14,15])<|q (R (om 16 7<|oi 17 .neq 16 0<|N) [16])<|D (I 17 (q (R (oo 18 (.bld yT [])<|om 19 7<|oS 7 4 18<|ow 5 false<|om 6 19<|N) [1,2,7,17,18,19])<|.ret) S) [7,17])<|q (q (R (om 20 1<|cl 21 196 [t 20]<|om 8 21<|N) [20,21])<|q (R (om 22 8<|oi 23 .neq 22 0<|N) [22])<|D (I 23 (q (R (oo 24 (.bld yT [])<|om 25 8<|oS 7 4 24<|ow 5 false<|om 6 25<|N) [1,2,8,23,24,25])<|.ret) S) [8,23])<|q (R (oL 26 7 2<|oS 7 4 26<|N) [2,26])<|q (q (R (om 27 1<|oh 28 27<|oz 29 0<|N) [1])<|D (.block 0<|.loop (q (.reg (ot 30 .lss 29 28<|N))<|q (D (I 30 S (E 0)) [30])<|q (D (.block 1<|q (R (oa true 31 3 27 29<|oL 32 3 31<|oN 10 [.int .i64 0,.int .i64 0,.str []]<|oS 3 10 32<|N) [31,32])<|q (R (oL 34 7 4<|oL 35 3 10<|cl 36 197 [t 34,t 35]<|om 33 36<|oe 37 33 0<|oe 38 33 1<|oe 39 33 2<|oN 11 yT<|oS 7 11 37<|om 12 38<|om 13 39<|N) [10,34,35,36,33,37,38,39])<|q (q (R (om 40 13<|oi 41 .neq 40 0<|N) [40])<|D (I 41 (q (R (oo 42 (.bld yT [])<|om 43 13<|oS 7 4 42<|ow 5 false<|om 6 43<|N) [27,28,29,11,12,13,41,42,43])<|.ret) S) [13,41])<|R (oL 44 7 11<|om 45 5<|om 46 45<|.sc 46 false (om 47 12<|N) (t 47) 48 (oS 7 4 44<|om 5 48<|N)) [11,12,44,45,46,48]) [])<|R (oi 49 .add 29 1<|om 29 49<|N) [49])) [27,28,29,30,10,11])<|q (R (oL 50 7 4<|cl 51 35 [t 50]<|om 52 5<|oS 7 4 51<|om 5 52<|oz 6 0<|N) [50,51,52])<|.ret
theorem JTN:FT 129 53 JTM [.cell 4 (some 7),.tmp 5,.tmp 6]:=.o Tryz.func129
end Go.Proofs
namespace Go.Proofs
open Go Av
open Av.Y
def ir95:Ic:=q (R (ow 6 false<|N) [6])<|q (R (om 7 0<|om 8 1<|ot 9 .geq 7 8<|om 10 9<|.sc 10 true (om 11 0<|om 12 2<|ot 13 .leq 11 12<|N) (t 13) 14 (om 6 14<|N)) [0,1,2,7,8,9,10,14])<|.ret
theorem ok95:FT 95 15 ir95 [.tmp 6]:=.o Tryz.func95
def ir97:Ic:=q (R (ox 2 0<|ox 3 1<|oz 4 0<|N) [0,1,4])<|q (D (.block 0<|q (q (R (of 6 3 3<|ol 7 6<|og 8 7<|om 9 8<|.sc 9 true (of 10 2 1<|ol 11 10<|oi 12 .neq 11 0<|om 13 12<|.sc 13 false (of 14 2 2<|ol 15 14<|oi 16 .neq 15 0<|N) (t 16) 17 N) (t 17) 18 (om 5 18<|N)) [6,7,8,9,18])<|D (I 5 S (q (R (of 19 3 4<|ol 20 19<|og 21 20<|om 22 21<|.sc 22 true (of 23 2 3<|ol 24 23<|oi 25 .neq 24 0<|N) (t 25) 26 (om 5 26<|N)) [19,20,21,22,26])<|D (I 5 S (q (R (of 27 3 5<|ol 28 27<|og 29 28<|om 30 29<|.sc 30 true (of 31 2 4<|ol 32 31<|oh 33 32<|oi 34 .gtr 33 0<|N) (t 34) 35 (om 5 35<|N)) [27,28,29,30,35])<|D (I 5 S (q (R (of 36 3 6<|ol 37 36<|og 38 37<|om 39 38<|.sc 39 true (of 40 2 5<|ol 41 40<|oh 42 41<|oi 43 .gtr 42 0<|N) (t 43) 44 (om 5 44<|N)) [36,37,38,39,44])<|D (I 5 S (R (of 45 3 7<|ol 46 45<|og 47 46<|om 48 47<|.sc 48 true (of 49 2 6<|ol 50 49<|oh 51 50<|oi 52 .gtr 51 0<|N) (t 52) 53 (om 5 53<|N)) [2,3,45,46,47,48,53])) [2,3])) [2,3])) [2,3])) [2,3])<|D (I 5 (q (R (oz 4 3<|N) [5])<|.ret) S) [5]) [])<|q (.reg (oz 4 0<|N))<|.ret
theorem ok97:FT 97 54 ir97 [.tmp 4]:=.o Tryz.func97
def ir58:Ic:=q (R (ox 1 0<|ok 2 (.k (.nil 7))<|N) [0,2])<|q (q (R (of 6 1 0<|ol 7 6<|N) [6])<|D (.block 0<|q (R (oi 9 .eql 7 8<|om 8 9<|N) [9])<|D (I 8 (q (R (of 10 1 5<|ol 11 10<|om 2 11<|N) [1,7,8,10,11])<|.ret) (q (q (R (oi 13 .eql 7 9<|om 12 13<|N) [8,13])<|D (I 12 S (R (oi 14 .eql 7 10<|om 12 14<|N) [7,14])) [7])<|D (I 12 (q (R (of 15 1 6<|ol 16 15<|oh 17 16<|oo 18 (.mks 7 [.int .i64 0,.int .i64 0,.int .i64 0,.int .i64 0,.nil 1,.nil 7,.nil 11] (i 0) (t 17))<|om 3 18<|N) [12,15,16,17,18])<|q (q (R (of 19 1 6<|ol 20 19<|oh 21 20<|oz 22 0<|N) [1,19])<|D (.block 1<|.loop (q (.reg (ot 23 .lss 22 21<|N))<|q (D (I 23 S (E 1)) [23])<|q (D (.block 2<|q (R (oa true 24 11 20 22<|oL 25 11 24<|oN 5 yG<|oS 11 5 25<|N) [24,25])<|R (om 26 3<|of 27 5 3<|oL 28 7 27<|oo 29 (.bls 7 [t 28])<|oo 30 (.app 7 (t 26) (t 29))<|om 3 30<|N) [5,26,27,28,29,30]) [])<|R (oi 31 .add 22 1<|om 22 31<|N) [31])) [20,21,22,23,5])<|q (R (om 32 3<|om 2 32<|N) [3,32])<|.ret) S) [1,12])) []) [10,11,3,5])<|q (.reg (ok 2 (.k (.nil 7))<|N))<|.ret
theorem ok58:FT 58 33 ir58 [.tmp 2]:=.o Tryz.func58
def ir98:Ic:=q (R (ox 1 0<|oz 2 0<|N) [0,2])<|q (D (.block 0<|q (R (of 7 1 1<|ol 8 7<|oi 9 .neq 8 0<|om 10 9<|.sc 10 false (of 11 1 2<|ol 12 11<|oi 13 .neq 12 0<|N) (t 13) 14 (om 6 14<|N)) [7,8,9,10,14])<|D (I 6 (q (R (oz 2 3<|N) [1,6])<|.ret) (q (R (of 16 1 4<|ol 17 16<|oh 18 17<|oi 19 .gtr 18 64<|om 15 19<|N) [6,16,17,18,19])<|D (I 15 (q (R (oz 2 9<|N) [1,15])<|.ret) S) [15])) []) [])<|q (q (R (of 20 1 4<|ol 21 20<|oh 22 21<|oz 23 0<|N) [20])<|D (.block 1<|.loop (q (.reg (ot 24 .lss 23 22<|N))<|q (D (I 24 S (E 1)) [24])<|q (D (.block 2<|q (R (om 25 23<|oa false 26 1 21 23<|ol 27 26<|om 3 25<|om 4 27<|N) [25,26,27])<|q (q (R (om 28 4<|cl 29 152 [t 28]<|cl 30 100 [t 29]<|om 5 30<|N) [28,29,30])<|q (R (om 31 5<|oi 32 .neq 31 0<|N) [31])<|D (I 32 (q (R (om 33 5<|om 2 33<|N) [1,21,22,23,3,4,5,32,33])<|.ret) S) [5,32])<|q (q (R (om 34 3<|oi 35 .gtr 34 0<|om 36 35<|.sc 36 true (om 37 4<|of 38 1 4<|ol 39 38<|om 40 3<|oi 41 .sub 40 1<|oa false 42 1 39 41<|ol 43 42<|ot 44 .seq 37 43<|N) (t 44) 45 N) [34,35,36])<|D (I 45 (q (R (oz 2 7<|N) [1,21,22,23,3,4,45])<|.ret) S) [45])<|q (R (om 46 3<|oi 47 .gtr 46 0<|om 48 47<|.sc 48 true (om 49 4<|of 50 1 4<|ol 51 50<|om 52 3<|oi 53 .sub 52 1<|oa false 54 1 51 53<|ol 55 54<|ot 56 .slt 49 55<|N) (t 56) 57 N) [3,4,46,47,48])<|D (I 57 (q (R (oz 2 24<|N) [1,21,22,23,57])<|.ret) S) [57]) [])<|R (oi 58 .add 23 1<|om 23 58<|N) [58])) [1,21,22,23,24,3,4,5])<|q (.reg (oz 2 0<|N))<|.ret
theorem ok98:FT 98 59 ir98 [.tmp 2]:=.o Tryz.func98
def ir99:Ic:=q (R (ox 2 0<|oz 4 0<|N) [0,4])<|q (R (of 6 2 6<|ol 7 6<|om 8 1<|oa true 9 11 7 8<|oL 10 11 9<|oN 5 yG<|oS 11 5 10<|N) [6,7,8,9,10])<|q (D (.block 0<|q (R (of 12 5 1<|ol 13 12<|cl 14 153 [t 13]<|og 15 14<|om 11 15<|N) [12,13,14,15])<|D (I 11 (q (R (oz 4 12<|N) [1,2,5,11])<|.ret) (q (R (of 17 5 0<|ol 18 17<|cl 19 95 [t 18,i 1,i 9999]<|og 20 19<|om 16 20<|N) [11,17,18,19,20])<|D (I 16 (q (R (oz 4 2<|N) [1,2,5,16])<|.ret) (q (R (of 22 2 6<|ol 23 22<|om 24 1<|oo 25 (.slc 11 (t 23) none (some (t 24)) none)<|oo 26 (.fnv (.func 155) [] [t 5])<|cl 27 154 [t 25,t 26]<|om 21 27<|N) [1,16,22,23,24,25,26,27])<|D (I 21 (q (R (oz 4 7<|N) [2,5,21])<|.ret) (q (R (of 29 5 2<|ol 30 29<|cl 31 95 [t 30,i 1,i 3]<|og 32 31<|om 33 32<|.sc 33 false (of 34 2 0<|ol 35 34<|oi 36 .eql 35 10<|om 37 36<|.sc 37 true (of 38 5 2<|ol 39 38<|oi 40 .neq 39 1<|N) (t 40) 41 N) (t 41) 42 (om 28 42<|N)) [2,21,29,30,31,32,33,42])<|D (I 28 (q (R (oz 4 11<|N) [5,28])<|.ret) (q (R (of 44 5 2<|ol 45 44<|oi 46 .eql 45 3<|om 47 46<|.sc 47 true (of 48 5 10<|ol 49 48<|oh 50 49<|oi 51 .eql 50 0<|N) (t 51) 52 (om 43 52<|N)) [28,44,45,46,47,52])<|D (I 43 (q (R (oz 4 4<|N) [5,43])<|.ret) (q (R (of 54 5 10<|ol 55 54<|oh 56 55<|oi 57 .gtr 56 1<|om 58 57<|.sc 58 false (of 59 5 2<|ol 60 59<|oi 61 .neq 60 3<|om 62 61<|.sc 62 true (of 63 5 10<|ol 64 63<|oh 65 64<|oi 66 .gtr 65 0<|N) (t 66) 67 N) (t 67) 68 (om 53 68<|N)) [5,43,54,55,56,57,58,68])<|D (I 53 (q (R (oz 4 3<|N) [53])<|.ret) S) [53])) [])) [])) [])) [])) []) [])<|q (.reg (oz 4 0<|N))<|.ret
theorem ok99:FT 99 69 ir99 [.tmp 4]:=.o Tryz.func99
def JTO:Ic:=q (R (ox 2 0<|ow 3 false<|N) [0,3])<|q (R (of 4 2 1<|ol 5 4<|of 6 1 1<|ol 7 6<|ot 8 .seq 5 7<|om 9 8<|.sc 9 false (of 10 2 0<|ol 11 10<|of 12 1 0<|ol 13 12<|ot 14 .eql 11 13<|N) (t 14) 15 (om 3 15<|N)) [2,4,5,6,7,8,9,15])<|.ret
theorem ok155:FT 155 16 JTO [.tmp 3]:=.o Tryz.func155
def ir57:Ic:=q (R (ox 1 0<|oz 2 0<|N) [0,2])<|q (q (R (of 8 1 0<|ol 9 8<|cl 10 95 [t 9,i 1,i 10]<|og 11 10<|N) [8,9,10])<|D (I 11 (q (R (oz 2 11<|N) [1,11])<|.ret) S) [11])<|q (D (.regd [(0,2),(0,4),(2,4)] (cl 12 96 []<|of 13 1 0<|ol 14 13<|oo 15 (.ixv (some 8) 11 8 (t 12) (t 14))<|oN 3 [.str [],.int .i64 0,.int .i64 0,.bool false,.bool false,.bool false,.bool false,.bool false]<|oS 8 3 15<|N)) [12,13,14,15])<|q (q (R (oL 16 7 1<|oL 17 8 3<|cl 18 97 [t 16,t 17]<|om 4 18<|N) [16,17,18])<|q (R (om 19 4<|oi 20 .neq 19 0<|N) [19])<|D (I 20 (q (R (om 21 4<|om 2 21<|N) [1,3,4,20,21])<|.ret) S) [4,20])<|q (D (.block 0<|q (R (of 23 1 0<|ol 24 23<|oi 25 .eql 24 4<|om 26 25<|.sc 26 true (of 27 1 4<|ol 28 27<|oh 29 28<|oi 30 .gtr 29 0<|N) (t 30) 31 (om 22 31<|N)) [23,24,25,26,31])<|I 22 (q (R (oL 32 7 1<|cl 33 98 [t 32]<|om 5 33<|N) [3,22,32,33])<|q (R (om 34 5<|oi 35 .neq 34 0<|N) [34])<|D (I 35 (q (R (om 36 5<|om 2 36<|N) [1,5,35,36])<|.ret) S) [5,35]) (q (q (R (of 38 3 3<|ol 39 38<|om 40 39<|.sc 40 true (of 41 1 1<|ol 42 41<|of 43 1 2<|ol 44 43<|ot 45 .gtr 42 44<|om 46 45<|.sc 46 false (of 47 1 1<|ol 48 47<|of 49 3 1<|ol 50 49<|ot 51 .lss 48 50<|N) (t 51) 52 (om 53 52<|.sc 53 false (of 54 1 2<|ol 55 54<|of 56 3 2<|ol 57 56<|ot 58 .gtr 55 57<|N) (t 58) 59 N)) (t 59) 60 (om 37 60<|N)) [22,38,39,40,60])<|D (I 37 S (R (of 61 3 4<|ol 62 61<|om 63 62<|.sc 63 true (of 64 1 3<|ol 65 64<|cl 66 95 [t 65,i 0,i 12]<|og 67 66<|N) (t 67) 68 (om 37 68<|N)) [3,61,62,63,68])) [3])<|D (I 37 (q (R (oz 2 2<|N) [1,37])<|.ret) S) [37])) [5])<|q (D (.block 1<|q (q (R (of 70 1 0<|ol 71 70<|oi 72 .eql 71 8<|om 73 72<|.sc 73 true (of 74 1 5<|ol 75 74<|oh 76 75<|oi 77 .eql 76 0<|N) (t 77) 78 (om 69 78<|N)) [70,71,72,73,78])<|I 69 S (R (of 79 1 0<|ol 80 79<|oi 81 .eql 80 10<|om 82 81<|.sc 82 true (of 83 1 6<|ol 84 83<|oh 85 84<|oi 86 .eql 85 0<|N) (t 86) 87 (om 69 87<|N)) [79,80,81,82,87]))<|D (I 69 (q (R (oz 2 4<|N) [1,69])<|.ret) (q (R (of 89 1 0<|ol 90 89<|oi 91 .eql 90 8<|om 92 91<|.sc 92 true (of 93 1 5<|ol 94 93<|oh 95 94<|oi 96 .gtr 95 1<|N) (t 96) 97 (om 88 97<|N)) [69,89,90,91,92,97])<|D (I 88 (q (R (oz 2 3<|N) [1,88])<|.ret) (q (R (of 99 1 6<|ol 100 99<|oh 101 100<|oi 102 .gtr 101 64<|om 98 102<|N) [88,99,100,101,102])<|D (I 98 (q (R (oz 2 9<|N) [1,98])<|.ret) S) [98])) [])) []) [])<|q (q (R (of 103 1 6<|ol 104 103<|oh 105 104<|oz 106 0<|N) [103,104])<|D (.block 2<|.loop (q (.reg (ot 107 .lss 106 105<|N))<|q (D (I 107 S (E 2)) [107])<|q (D (.block 3<|q (R (om 108 106<|om 6 108<|N) [108])<|q (R (oL 109 7 1<|om 110 6<|cl 111 99 [t 109,t 110]<|om 7 111<|N) [6,109,110,111])<|q (R (om 112 7<|oi 113 .neq 112 0<|N) [112])<|D (I 113 (q (R (om 114 7<|om 2 114<|N) [1,105,106,7,113,114])<|.ret) S) [7,113]) [])<|R (oi 115 .add 106 1<|om 106 115<|N) [115])) [1,105,106,107,6,7])<|q (.reg (oz 2 0<|N))<|.ret
theorem ok57:FT 57 116 ir57 [.tmp 2]:=.o Tryz.func57
def ir36:Ic:=q (R (ox 3 0<|oz 6 0<|N) [0,6])<|q (D (.block 0<|q (R (om 12 2<|oc 13 12<|ol 14 13<|oi 15 .eql 14 0<|om 11 15<|N) [12,13,14,15])<|D (I 11 (q (R (oz 6 9<|N) [1,2,3,11])<|.ret) (q (R (om 17 1<|oi 18 .gtr 17 8<|om 16 18<|N) [11,17,18])<|D (I 16 (q (R (oz 6 23<|N) [1,2,3,16])<|.ret) S) [16])) []) [])<|q (R (om 19 2<|oc 20 19<|ol 21 20<|oi 22 .sub 21 1<|oc 23 19<|os 23 22<|N) [19,20,21,22,23])<|q (q (R (oL 24 7 3<|cl 25 57 [t 24]<|om 7 25<|N) [24,25])<|q (R (om 26 7<|oi 27 .neq 26 0<|N) [26])<|D (I 27 (q (R (om 28 7<|om 6 28<|N) [1,2,3,7,27,28])<|.ret) S) [7,27])<|q (q (R (oL 29 7 3<|cl 30 58 [t 29]<|oh 31 30<|oz 32 0<|N) [29])<|D (.block 1<|.loop (q (.reg (ot 33 .lss 32 31<|N))<|q (D (I 33 S (E 1)) [33])<|q (D (.block 2<|q (R (om 34 32<|oa true 35 7 30 32<|oL 36 7 35<|oN 9 yT<|om 8 34<|oS 7 9 36<|N) [34,35,36])<|q (q (R (oL 37 7 9<|om 38 1<|oi 39 .add 38 1<|om 40 2<|cl 41 36 [t 37,t 39,t 40]<|om 10 41<|N) [37,38,39,40,41])<|q (R (om 42 10<|oi 43 .neq 42 0<|N) [42])<|D (I 43 (q (R (om 44 10<|om 6 44<|N) [1,2,3,30,31,32,9,8,10,43,44])<|.ret) S) [10,43])<|q (R (of 45 3 0<|ol 46 45<|oi 47 .eql 46 9<|om 48 47<|.sc 48 true (of 49 3 6<|ol 50 49<|om 51 8<|oa true 52 11 50 51<|of 53 52 2<|ol 54 53<|oi 55 .eql 54 3<|N) (t 55) 56 (om 57 56<|.sc 57 true (oL 58 7 9<|of 59 3 6<|ol 60 59<|om 61 8<|oa true 62 11 60 61<|of 63 62 10<|ol 64 63<|oo 65 (.ixa true 6 (t 64) (i 0))<|oL 66 6 65<|cl 67 59 [t 58,t 66]<|og 68 67<|N) (t 68) 69 N)) [9,8,45,46,47,48,56,57])<|D (I 69 (q (R (oz 6 18<|N) [1,2,3,30,31,32,69])<|.ret) S) [69]) [])<|R (oi 70 .add 32 1<|om 32 70<|N) [70])) [1,2,3,30,31,32,33,9,8,10])<|q (.reg (oz 6 0<|N))<|.ret
theorem JQg:FT 36 71 ir36 [.tmp 6]:=.o Tryz.func36
def ir37:Ic:=q (R (ox 1 0<|oz 2 0<|N) [0,2])<|q (R (oL 8 7 1<|cl 9 60 [t 8]<|om 3 9<|N) [8,9])<|q (q (R (of 10 1 5<|ol 11 10<|oh 12 11<|oz 13 0<|N) [10])<|D (.block 0<|.loop (q (.reg (ot 14 .lss 13 12<|N))<|q (D (I 14 S (E 0)) [14])<|q (D (.block 1<|q (R (oa true 15 7 11 13<|oL 16 7 15<|oN 5 yT<|oS 7 5 16<|N) [15,16])<|R (om 17 3<|oL 18 7 5<|cl 19 37 [t 18]<|oo 20 (.mx (t 17) (t 19))<|om 3 20<|N) [5,17,18,19,20]) [])<|R (oi 21 .add 13 1<|om 13 21<|N) [21])) [11,12,13,14,5])<|q (q (R (of 22 1 6<|ol 23 22<|oh 24 23<|oz 25 0<|N) [1,22])<|D (.block 2<|.loop (q (.reg (ot 26 .lss 25 24<|N))<|q (D (I 26 S (E 2)) [26])<|q (D (.block 3<|q (R (oa true 27 11 23 25<|oL 28 11 27<|oN 7 yG<|oS 11 7 28<|N) [27,28])<|R (om 29 3<|of 30 7 3<|oL 31 7 30<|cl 32 37 [t 31]<|oo 33 (.mx (t 29) (t 32))<|om 3 33<|N) [7,29,30,31,32,33]) [])<|R (oi 34 .add 25 1<|om 25 34<|N) [34])) [23,24,25,26,7])<|q (R (om 35 3<|om 2 35<|N) [3,35])<|.ret
theorem ok37:FT 37 36 ir37 [.tmp 2]:=.o Tryz.func37
def JOH:Ic:=q (R (ox 1 0<|oz 2 0<|N) [0,2])<|q (.reg (oz 3 1<|N))<|q (q (R (of 6 1 0<|ol 7 6<|N) [6])<|D (.block 0<|q (R (oi 9 .eql 7 8<|om 8 9<|N) [9])<|I 8 (q (R (of 10 1 1<|ol 11 10<|oi 12 .gtr 11 0<|N) [7,8,10,11])<|D (I 12 (D (.regd [(2,7)] (om 13 3<|of 14 1 1<|ol 15 14<|of 16 1 5<|ol 17 16<|oo 18 (.ixa true 7 (t 17) (i 0))<|oL 19 7 18<|cl 20 60 [t 19]<|ot 21 .mul 15 20<|ot 22 .add 13 21<|om 3 22<|N)) [1,12,13,14,15,16,17,18,19,20,21,22]) S) [1,12]) (q (R (oi 24 .eql 7 10<|om 23 24<|N) [8,24])<|I 23 (R (om 25 3<|of 26 1 6<|ol 27 26<|oo 28 (.ixa true 11 (t 27) (i 0))<|of 29 28 3<|oL 30 7 29<|cl 31 60 [t 30]<|ot 32 .add 25 31<|om 3 32<|N) [1,7,23,25,26,27,28,29,30,31,32]) (q (R (oi 34 .eql 7 9<|om 33 34<|N) [7,23,34])<|D (I 33 (q (R (of 35 1 6<|ol 36 35<|oh 37 36<|oz 38 0<|N) [1,33,35])<|D (.block 1<|.loop (q (.reg (ot 39 .lss 38 37<|N))<|q (D (I 39 S (E 1)) [39])<|q (D (.block 2<|q (R (oa true 40 11 36 38<|oL 41 11 40<|oN 5 yG<|oS 11 5 41<|N) [40,41])<|q (R (of 42 5 2<|ol 43 42<|N) [42])<|D (.block 3<|q (R (oi 45 .eql 43 1<|om 44 45<|N) [45])<|I 44 (R (om 46 3<|of 47 5 3<|oL 48 7 47<|cl 49 60 [t 48]<|ot 50 .add 46 49<|om 3 50<|N) [5,43,44,46,47,48,49,50]) (q (R (oi 52 .eql 43 3<|om 51 52<|N) [43,44,52])<|D (I 51 (R (om 53 3<|of 54 5 10<|ol 55 54<|oo 56 (.ixa true 6 (t 55) (i 0))<|oL 57 6 56<|cl 58 102 [t 57]<|ot 59 .add 53 58<|om 3 59<|N) [5,51,53,54,55,56,57,58,59]) S) [5,51])) []) [])<|R (oi 60 .add 38 1<|om 38 60<|N) [60])) [36,37,38,39,5]) S) [1,33]))) [10,11,5])<|q (R (om 61 3<|oo 62 (.mn (t 61) (i 4097))<|om 2 62<|N) [3,61,62])<|.ret
theorem ok60:FT 60 63 JOH [.tmp 2]:=.o Tryz.func60
def ir59:Ic:=q (R (ox 2 0<|ox 3 1<|ow 4 false<|N) [0,1,4])<|q (R (oL 5 6 3<|cl 6 100 [t 5]<|oi 7 .eql 6 0<|om 8 7<|.sc 8 true (oL 9 7 2<|oL 10 6 3<|cl 11 101 [t 9,t 10]<|N) (t 11) 12 (om 4 12<|N)) [2,3,5,6,7,8,12])<|.ret
theorem ok59:FT 59 13 ir59 [.tmp 4]:=.o Tryz.func59
def JTP:Ic:=q (R (ox 2 0<|ox 3 1<|ow 4 false<|N) [0,1,4])<|q (q (R (of 11 3 0<|ol 12 11<|of 13 2 0<|ol 14 13<|ot 15 .neq 12 14<|N) [11,12,13,14])<|D (I 15 (q (R (ow 4 false<|N) [2,3,15])<|.ret) S) [15])<|q (q (R (of 16 2 0<|ol 17 16<|N) [16])<|D (.block 0<|q (q (R (oi 19 .eql 17 2<|om 18 19<|N) [19])<|I 18 S (q (R (oi 20 .eql 17 6<|om 18 20<|N) [20])<|I 18 S (q (R (oi 21 .eql 17 7<|om 18 21<|N) [21])<|I 18 S (R (oi 22 .eql 17 3<|om 18 22<|N) [22]))))<|D (I 18 (q (R (of 23 3 1<|ol 24 23<|of 25 2 1<|ol 26 25<|of 27 2 2<|ol 28 27<|cl 29 95 [t 24,t 26,t 28]<|om 30 29<|.sc 30 true (of 31 3 2<|ol 32 31<|of 33 2 3<|ol 34 33<|ot 35 .eql 32 34<|N) (t 35) 36 (om 4 36<|N)) [2,3,17,18,23,24,25,26,27,28,29,30,36])<|.ret) (q (R (oi 38 .eql 17 4<|om 37 38<|N) [18,38])<|D (I 37 (q (q (R (of 39 2 4<|ol 40 39<|oh 41 40<|oi 42 .gtr 41 0<|N) [17,37,39,40,41])<|D (I 42 (q (R (of 43 2 4<|ol 44 43<|of 45 3 3<|ol 46 45<|cl 47 160 [t 44,t 46]<|om 4 47<|N) [2,3,42,43,44,45,46,47])<|.ret) S) [42])<|q (R (of 48 3 3<|ol 49 48<|oj 50 49<|of 51 2 1<|ol 52 51<|of 53 2 2<|ol 54 53<|cl 55 95 [t 50,t 52,t 54]<|om 4 55<|N) [2,3,48,49,50,51,52,53,54,55])<|.ret) (q (R (oi 57 .eql 17 5<|om 56 57<|N) [37,57])<|D (I 56 (q (R (of 58 3 3<|ol 59 58<|oj 60 59<|of 61 2 1<|ol 62 61<|of 63 2 2<|ol 64 63<|cl 65 95 [t 60,t 62,t 64]<|om 4 65<|N) [2,3,17,56,58,59,60,61,62,63,64,65])<|.ret) (q (R (oi 67 .eql 17 8<|om 66 67<|N) [56,67])<|D (I 66 (q (R (of 68 3 4<|ol 69 68<|oh 70 69<|of 71 2 1<|ol 72 71<|of 73 2 2<|ol 74 73<|cl 75 95 [t 70,t 72,t 74]<|om 76 75<|.sc 76 true (of 77 3 4<|ol 78 77<|oo 79 (.fnv (.func 162) [] [t 2])<|cl 80 161 [t 78,t 79]<|og 81 80<|N) (t 81) 82 (om 4 82<|N)) [2,3,17,66,68,69,70,71,72,73,74,75,76,82])<|.ret) (q (R (oi 84 .eql 17 10<|om 83 84<|N) [66,84])<|D (I 83 (q (R (oL 86 7 2<|of 87 3 3<|ol 88 87<|cl 89 72 [t 86,t 88]<|om 85 89<|oe 90 85 0<|oe 91 85 1<|oN 5 yG<|oS 11 5 90<|om 6 91<|N) [2,17,83,86,87,88,89,85,90,91])<|q (R (om 92 6<|om 93 92<|.sc 93 true (of 94 5 3<|oL 95 7 94<|of 96 3 4<|ol 97 96<|oo 98 (.ixa true 6 (t 97) (i 0))<|oL 99 6 98<|cl 100 101 [t 95,t 99]<|N) (t 100) 101 (om 4 101<|N)) [3,5,6,92,93,101])<|.ret) (q (R (oi 103 .eql 17 9<|om 102 103<|N) [17,83,103])<|D (I 102 (q (q (R (of 104 3 5<|ol 105 104<|oh 106 105<|oz 107 0<|N) [102,104])<|D (.block 1<|.loop (q (.reg (ot 108 .lss 107 106<|N))<|q (D (I 108 S (E 1)) [108])<|q (D (.block 2<|q (R (oa true 109 7 105 107<|oL 110 7 109<|oN 8 y7<|oS 7 8 110<|N) [109,110])<|q (R (oL 112 7 2<|of 113 8 0<|ol 114 113<|cl 115 72 [t 112,t 114]<|om 111 115<|oe 116 111 0<|oe 117 111 1<|oN 9 yG<|oS 11 9 116<|om 10 117<|N) [112,113,114,115,111,116,117])<|q (R (om 118 10<|og 119 118<|om 120 119<|.sc 120 false (of 121 9 3<|oL 122 7 121<|of 123 8 1<|oL 124 6 123<|cl 125 101 [t 122,t 124]<|og 126 125<|N) (t 126) 127 N) [8,9,10,118,119,120])<|D (I 127 (q (R (ow 4 false<|N) [2,3,105,106,107,127])<|.ret) S) [127]) [])<|R (oi 128 .add 107 1<|om 107 128<|N) [128])) [105,106,107,108,8,9,10])<|q (R (of 129 2 6<|ol 130 129<|oo 131 (.fnv (.func 163) [] [t 3])<|cl 132 154 [t 130,t 131]<|og 133 132<|om 4 133<|N) [2,3,129,130,131,132,133])<|.ret) S) [2,3,102])) [])) [])) [])) [])) []) [5,6,8,9,10])<|q (.reg (ow 4 true<|N))<|.ret
theorem JTQ:FT 101 134 JTP [.tmp 4]:=.o Tryz.func101
def JTR:Ic:=q (R (ox 2 0<|ow 3 false<|N) [0,3])<|q (R (of 4 1 5<|ol 5 4<|oo 6 (.ixa true 7 (t 5) (i 0))<|oL 7 7 6<|oL 8 6 2<|cl 9 101 [t 7,t 8]<|og 10 9<|om 3 10<|N) [2,4,5,6,7,8,9,10])<|.ret
theorem ok162:FT 162 11 JTR [.tmp 3]:=.o Tryz.func162
def JTS:Ic:=q (R (ox 2 0<|ow 3 false<|N) [0,3])<|q (R (oL 7 6 1<|of 8 2 1<|ol 9 8<|cl 10 16 [t 7,t 9]<|om 6 10<|oe 11 6 0<|oe 12 6 1<|oN 4 y6<|oS 6 4 11<|om 5 12<|N) [7,8,9,10,6,11,12,4])<|q (R (om 13 5<|og 14 13<|om 15 14<|.sc 15 true (of 16 2 2<|ol 17 16<|oi 18 .neq 17 2<|N) (t 18) 19 (om 3 19<|N)) [2,5,13,14,15,19])<|.ret
theorem ok163:FT 163 20 JTS [.tmp 3]:=.o Tryz.func163
def ir23:Ic:=q (R (ox 1 0<|oz 2 0<|N) [0,2])<|q (.reg (oN 3 [.int .i64 0]<|on (.sto none (t 3) (i 4096))<|N))<|q (q (R (oL 5 7 1<|cl 6 36 [t 5,i 1,t 3]<|om 4 6<|N) [3,5,6])<|q (R (om 7 4<|oi 8 .neq 7 0<|N) [7])<|D (I 8 (q (R (om 9 4<|om 2 9<|N) [1,4,8,9])<|.ret) S) [4,8])<|q (q (R (oL 10 7 1<|cl 11 37 [t 10]<|oi 12 .gtr 11 4096<|N) [1,10,11])<|D (I 12 (q (R (oz 2 9<|N) [12])<|.ret) S) [12])<|q (.reg (oz 2 0<|N))<|.ret
theorem ok23:FT 23 13 ir23 [.tmp 2]:=.o Tryz.func23
def ir154:Ic:=q (R (ow 4 false<|N) [4])<|q (R (om 5 0<|om 6 1<|cl 7 198 [t 5,t 6]<|oi 8 .geq 7 0<|om 4 8<|N) [0,1,5,6,7,8])<|.ret
theorem ok154:FT 154 9 ir154 [.tmp 4]:=.o Tryz.func154
end Go.Proofs
namespace Go.Proofs
open Go Av
def inI(n a b:Int):Bool:=decide (n≥a)&&decide (n≤b)
theorem JBS(n a b:Int):PT 95 [.int .i64 n,.int .i64 a,.int .i64 b] (.d (.bool (inI n a b))):=by
 refine ok95.pc ?_;simp only[go_sem,ir95,simprocAttr];refine sq (decide (n≤b)) ?_ ?_
 all_goals simp only[go_sem,inI,simprocAttr]
structure Lim where
 name:Str
 low:Int
 high:Int
 bounds:Bool
 scale:Bool
 text:Bool
 list:Bool
 fields:Bool
def JEi(l:Lim):List Dat:=[.str l.name,.int .i64 l.low,.int .i64 l.high,.bool l.bounds,.bool l.scale,.bool l.text,.bool l.list,.bool l.fields]
def lim0:Lim:=⟨[],0,0,false,false,false,false,false⟩
def limA:List Lim:=[lim0,
 ⟨[98,111,111,108],0,0,false,false,false,false,false⟩,
 ⟨[105,110,116],-999999999999999,999999999999999,true,false,false,false,false⟩,
 ⟨[100,101,99,105,109,97,108],-999999999999999,999999999999999,true,true,false,false,false⟩,
 ⟨[116,101,120,116],0,1024,true,false,true,false,false⟩,
 ⟨[98,121,116,101,115],0,1024,true,false,false,false,false⟩,
 ⟨[100,97,116,101],-719162,2932896,true,false,false,false,false⟩,
 ⟨[116,105,109,101],-62135596800000,253402300799999,true,false,false,false,false⟩,
 ⟨[108,105,115,116],0,256,true,false,false,true,false⟩,
 ⟨[114,101,99,111,114,100],0,0,false,false,false,false,true⟩,
 ⟨[118,97,114,105,97,110,116],0,0,false,false,false,false,true⟩]
def JJb:List Dat:=limA.flatMap JEi
theorem walk96:PT 96 [] (.d (.agg JJb)):=JGd JKe kR
def JJc(k:Int):Lim:=limA.getD k.toNat lim0
theorem JJd:JJb.length=88:=rfl
theorem JL7{k:Int}(h0:1≤k)(h1:k≤10):(JJb.drop (k.toNat*8)).take 8=JEi (JJc k):=by
 obtain⟨n,rfl⟩:∃n:Nat,k=n:=⟨k.toNat,oM⟩;have h:n=1∨n=2∨n=3∨n=4∨n=5∨n=6∨n=7∨n=8∨n=9∨n=10:=oM;rcases h with rfl|rfl|rfl|rfl|rfl|rfl|rfl|rfl|rfl|rfl<;>rfl
def JEj(t:Typ)(L:Lim):Bool:=((((!L.bounds&&(t.min !=0||t.max !=0))||(!L.scale&&t.scale !=0))||(!L.text&&decide (((t.words.length:Nat):Int)>0)))||(!L.list&&decide (((t.elem.length:Nat):Int)>0)))||(!L.fields&&decide (((t.fields.length:Nat):Int)>0))
theorem walk97(t:Typ)(L:Lim):PT 97 [JH t,.agg (JEi L)] (.d (.int .i64 (if JEj t L=true then 3 else 0))):=by
 refine ok97.pc ?_;generalize hR:(if JEj t L=true then(3:Int)else 0)=R;unfold JEj at hR;rw[JA];simp only[go_sem,ir97,JEi,simprocAttr];refine sq (t.min !=0||t.max !=0) ?_ ?_
 ·refine zz ?_;refine sq (t.max !=0) ?_ ?_
  all_goals simp only[go_sem,simprocAttr]
 refine zz ?_;apply ik<;>intro h
 ·simp only[h,Bool.true_or,↓reduceIte]at hR;subst hR;exact JPk trivial
 rw[h,Bool.false_or]at hR;refine sq (t.scale !=0) ?_ ?_
 ·exact zz4 trivial
 refine zz4 ?_;apply ik<;>intro h
 ·simp only[h,Bool.true_or,↓reduceIte]at hR;subst hR;exact JPk trivial
 rw[h,Bool.false_or]at hR;refine sq (decide (((t.words.length:Nat):Int)>0)) ?_ ?_
 ·exact zz4 trivial
 refine zz4 ?_;apply ik<;>intro h
 ·simp only[h,Bool.true_or,↓reduceIte]at hR;subst hR;exact JPk trivial
 rw[h,Bool.false_or]at hR;refine sq (decide (((t.elem.length:Nat):Int)>0)) ?_ ?_
 ·exact zz4 trivial
 refine zz4 ?_;apply ik<;>intro h
 ·simp only[h,Bool.true_or,↓reduceIte]at hR;subst hR;exact JPk trivial
 rw[h,Bool.false_or]at hR;refine sq (decide (((t.fields.length:Nat):Int)>0)) ?_ ?_
 ·exact zz4 trivial
 refine zz4 ?_;apply ik<;>intro h
 ·simp only[h,↓reduceIte]at hR;subst hR;rfl
 ·simp only[h,Vu,↓reduceIte]at hR;subst hR;rfl
def JCm:Option Str→List Str→Int
 |_,[]=>0
 |p,w::r=>
  if Zu (.mk 4 0 0 w [] [])!=0 then Zu (.mk 4 0 0 w [] [])
  else if(match p with|some q=>w==q|none=>false)=true then 7
  else if(match p with|some q=>strLt w q|none=>false)=true then 24
  else JCm (some w) r
def JBT(t:Typ):Int:=if(t.min !=0||t.max !=0)=true then 3 else if decide (((t.words.length:Nat):Int)>64)=true then 9 else JCm none t.words
def JB8(l:List Str)(k:Nat):Option Str:=if k=0 then none else l[k-1]?
def isP(f:Str→Str→Bool)(w:Str)(p:Option Str):Bool:=match p with|some q=>f w q|none=>false
theorem JIL(p:Option Str)(w:Str)(r:List Str):JCm p (w::r)=if Zu (.mk 4 0 0 w [] [])!=0 then Zu (.mk 4 0 0 w [] [])else if isP (fun a b=>a==b) w p=true then 7 else if isP strLt w p=true then 24 else JCm (some w) r:=by
 cases p<;>rfl
theorem YD{xs:List Str}{k:Nat}(h:k<xs.length):nth (xs.map .str) k=.str xs[k]:=by rw[Uc (sX h),List.getElem_map]
theorem JK5(f:Str→Str→Bool)(w:Str)(l:List Str)(k:Nat):(decide ((k:Int)>0)&&isP f w (JB8 l k))=isP f w (JB8 l k):=by
 by_cases h:k=0
 ·subst h;rfl
 ·have:decide ((k:Int)>0)=true:=sO;rw[this,Vt]
theorem walk98(t:Typ)(hw:t.words.length≤68719476736):PT 98 [JH t] (.d (.int .i64 (JBT t))):=by
 refine ok98.pc ?_;generalize hR:JBT t=R;unfold JBT at hR;rw[JA];simp only[go_sem,ir98,simprocAttr];refine sq (t.max !=0) ?_ ?_
 ·exact zz trivial
 refine zz4 ?_;apply ik<;>intro h
 ·simp only[h,↓reduceIte]at hR;subst hR;rfl
 rw[if_neg (nF h)]at hR;clear h;apply ik<;>intro h
 ·simp only[h,↓reduceIte]at hR;subst hR;rfl
 rw[if_neg (nF h)]at hR;refine JJ (fun n s=>∃k:Nat,k≤t.words.length∧n=t.words.length-k∧JCm (JB8 t.words k) (t.words.drop k)=R∧
  s=⟨[(1,.ref 1 0),(21,.d (.list 1 (t.words.map .str))),(22,.d (.int .i64 t.words.length)),(23,.d (.int .i64 k))],
   [(1,.box [.d (.int .i64 t.kind),.d (.int .i64 t.min),.d (.int .i64 t.max),.d (.int .i64 t.scale),.d (.list 1 (t.words.map .str)),.d (.list 7 (t.elem.map JH)),.d (.list 11 (t.fields.map Jn))])]⟩) ?_ ?_
 ·exact⟨_,_,Wk.refl _,0,Nat.zero_le _,rfl,hR,rfl⟩
 ·clear hR;rintro n s ⟨k,hk,rfl,hinv,rfl⟩;by_cases hlt:k<t.words.length
  ·have hx:=YD hlt;have hd:=dT hlt;have c152:=(JQS t.words[k]).call trivial;have c100:=(JGo (.mk 4 0 0 t.words[k] [] [])).call trivial;rw[Vq hlt,JIL]at hinv;have hp1:JB8 t.words (k+1)=some t.words[k]:=by simp[JB8,Vl hlt]
   have hq:0<k→∃q,JB8 t.words k=some q∧nth (t.words.map .str) ((k:Int)-1).toNat=.str q:=by
    intro h0;have h1:k-1<t.words.length:=oM;refine⟨t.words[k-1],?_,?_⟩
    ·rw[JB8,if_neg oM,Vl h1]
    ·have:((k:Int)-1).toNat=k-1:=oM;rw[this,YD h1]
   have hw1:0<k→IntKind.i64.wrap ((k:Int)-1)=(k:Int)-1:=fun h0=>wrap64 oM oM
   have hdd:=JK5 (fun a b=>a==b) t.words[k] t.words k;have hdl:=JK5 strLt t.words[k] t.words k;generalize Zu (.mk 4 0 0 t.words[k] [] [])=cv at*;rw[JI]at c152 c100;refine zz6 ?_;refine⟨oM,dC,wn c152 ?_⟩;refine zz ?_;refine wc c100 ?_;apply ik<;>intro h
   ·rw[if_pos h]at hinv;subst hinv;rfl
   rw[if_neg (nF h)]at hinv;clear h;refine Jy (isP (fun a b=>a==b) t.words[k] (JB8 t.words k)) (fun h0=>?_) ?_
   ·have h0:0<k:=sX h0;obtain⟨q,e1,e2⟩:=hq h0;refine zz51 ?_;exact⟨oM,dC⟩
   simp only[go_sem,hdd,simprocAttr];apply ik<;>intro h
   ·rw[if_pos h]at hinv;subst hinv;rfl
   rw[if_neg (nF h)]at hinv;clear h
   try refine zz ?_
   refine Jy (isP strLt t.words[k] (JB8 t.words k)) (fun h0=>?_) ?_
   ·have h0:0<k:=sX h0;obtain⟨q,e1,e2⟩:=hq h0;refine zz51 ?_;exact⟨oM,dC⟩
   simp only[go_sem,hdl,simprocAttr];apply ik<;>intro h
   ·rw[if_pos h]at hinv;subst hinv;rfl
   rw[if_neg (nF h),←hp1]at hinv;clear h;refine⟨t.words.length-(k+1),_,oM,Wk.less ?_,k+1,oM,rfl,hinv,rfl⟩;exact zz7 trivial
  ·have hd:=dF hlt;rw[List.drop_eq_nil_of_le oM,JCm]at hinv;subst hinv;exact zz5 trivial
def U1(t:Typ):List Typ:=if t.kind=8 then t.elem else if t.kind=9∨t.kind=10 then t.fields.map TFl.type else[]
theorem JEk(t:Typ):(JH t).cells=[.int .i64 t.kind,.int .i64 t.min,.int .i64 t.max,.int .i64 t.scale,.list 1 (t.words.map .str),.list 7 (t.elem.map JH),.list 11 (t.fields.map Jn)]:=by rw[JA];rfl
theorem walk58(t:Typ)(hf:t.fields.length≤68719476736):PT 58 [JH t] (.d (.list 7 ((U1 t).map JH))):=by
 refine ok58.pc ?_;generalize hR:U1 t=R;unfold U1 at hR;rw[JA];simp only[go_sem,ir58,simprocAttr];apply ik<;>intro h
 ·rw[if_pos (sX h)]at hR;subst hR;exact zz trivial
 rw[if_neg (sX h)]at hR;by_cases h9:t.kind=9∨t.kind=10
 ·rw[if_pos h9]at hR;have e:(t.kind==9)=true∨(t.kind==9)=false∧(t.kind==10)=true:=by
   rcases h9 with h9|h9
   ·exact .inl (by rw[h9];rfl)
   ·exact .inr ⟨by rw[h9];rfl,by rw[h9];rfl⟩
  rcases e with e|⟨e,e'⟩
  all_goals
   simp only[go_sem,e,Vc,simprocAttr]
   try simp only[go_sem,e',Vc,simprocAttr]
   refine⟨oM,?_⟩;refine JJ (fun n s=>∃k:Nat,k≤t.fields.length∧n=t.fields.length-k∧
    s=⟨[(3,.ms 18 k),(20,.d (.list 11 (t.fields.map Jn))),(21,.d (.int .i64 t.fields.length)),(22,.d (.int .i64 k))],[(18,.row k 7 (((t.fields.take k).map TFl.type).map JH))]⟩) ?_ ?_
   ·refine⟨_,_,Wk.less ?_,0,Nat.zero_le _,rfl,rfl⟩;simp[put,go_sem]
   ·rintro n s ⟨k,hk,rfl,rfl⟩;by_cases hlt:k<t.fields.length
    ·have hx:=Ug hlt;have hd:=dT hlt;refine zz6 ?_;refine⟨oM,by simp[Dat.cells],sO,t.fields.length-(k+1),_,oM,Wk.less ?_,k+1,oM,rfl,rfl⟩;rw[List.take_succ_eq_append_getElem hlt,Vw,Vw];simp only[go_sem,JS k oM,Va,Vb,JA t.fields[k].type,Nat.reduceAdd,Nat.reduceEqDiff,Nat.reduceBEq,Nat.reduceLeDiff,reduceCtorEq,↓reduceIte]
    ·have hd:=dF hlt;obtain rfl:k=t.fields.length:=oM;subst hR;exact zz14 trivial
 ·rw[if_neg h9]at hR;subst hR;have e1:(t.kind==9)=false:=sO;have e2:(t.kind==10)=false:=sO;simp only[go_sem,e1,e2,simprocAttr]
theorem ix203{g:Nat}{cs:List Dat}{q:TFl→Bool}(l:List TFl)(hq:∀x∈l,PT g [Jn x,.ptr cs] (.d (.bool (q x))))(hl:l.length≤68719476736):
  PT 198 [.list 11 (l.map Jn),JBO g cs] (.d (.int .i64 (ixG q l))):=by
 refine JTH.pc ?_;simp only[go_sem,JN9,Vc,simprocAttr];refine JJ (fun n s=>∃k:Nat,k≤l.length∧n=l.length-k∧(∀(j:Nat) (h1:j<l.length),j<k→q l[j]=false)∧
  s=⟨[(0,.d (.list 11 (l.map Jn))),(1,.d (JBO g cs)),(7,.d (.int .i64 l.length)),(8,.d (.int .i64 k))],[]⟩) ?_ ?_
 ·exact⟨_,_,Wk.refl _,0,Nat.zero_le _,rfl,sP,rfl⟩
 ·rintro n s ⟨k,hk,rfl,hinv,rfl⟩;by_cases hlt:k<l.length
  ·have hx:=Ug hlt;have hd:=dT hlt;have hc:=(hq l[k] (Vk _)).call trivial;rw[Jw]at hc;refine zz6 ?_;refine⟨oM,wn hc ?_⟩;refine zz ?_;apply ik<;>intro hf
   ·have:l.findIdx? q=some k:=by
     rw[List.findIdx?_eq_some_iff_getElem];exact⟨hlt,hf,fun j hj=>by rw[hinv j oM hj];decide⟩
    simp only[ixG,this]
   ·refine⟨l.length-(k+1),_,oM,Wk.less ?_,k+1,oM,rfl,?_,rfl⟩
    ·exact zz7 trivial
    ·intro j h1 hj;by_cases e:j=k
     ·subst e;exact hf
     ·exact hinv j h1 oM
  ·have hd:=dF hlt;refine zz5 ?_;have:l.findIdx? q=none:=by
    rw[List.findIdx?_eq_none_iff];intro x hx;obtain⟨j,hj,rfl⟩:=List.getElem_of_mem hx;exact hinv j hj oM
   simp only[ixG,this]
theorem JQh(q:TFl→Bool)(l:List TFl):decide (ixG q l≥0)=l.any q:=by
 unfold ixG;cases e:l.findIdx? q with
 |none=>
  rw[List.findIdx?_eq_none_iff]at e;have:l.any q=false:=by rw[List.any_eq_false];intro x hx;rw[e x hx];decide
  rw[this];rfl
 |some k=>
  obtain⟨h1,h2,_⟩:=List.findIdx?_eq_some_iff_getElem.1 e;have:l.any q=true:=List.any_eq_true.2 ⟨_,Vk h1,h2⟩;rw[this];simp
theorem JK6{g:Nat}{cs:List Dat}{q:TFl→Bool}(l:List TFl)(hq:∀x∈l,PT g [Jn x,.ptr cs] (.d (.bool (q x))))(hl:l.length≤68719476736):
  PT 154 [.list 11 (l.map Jn),JBO g cs] (.d (.bool (l.any q))):=by
 refine ok154.pc ?_;have c:=(ix203 l hq hl).call trivial;rw[←JQh];simp only[go_sem,ir154,simprocAttr];refine wc c trivial
theorem JEl(f:TFl):(Jn f).cells=[.int .i64 f.number,.str f.name,.int .i64 f.need,.int .i64 f.type.kind,.int .i64 f.type.min,.int .i64 f.type.max,.int .i64 f.type.scale,
  .list 1 (f.type.words.map .str),.list 7 (f.type.elem.map JH),.list 11 (f.type.fields.map Jn),.list 6 (f.dflt.map JM)]:=by rw[Jw];rfl
def samG(f g:TFl):Bool:=g.name==f.name||g.number==f.number
theorem JQi(g f:TFl):PT 155 [Jn g,.ptr (Jn f).cells] (.d (.bool (samG f g))):=by
 refine ok155.pc ?_;rw[JEl,Jw];simp only[go_sem,JTO,Nat.reduceAdd,Nat.reduceEqDiff,Nat.reduceBEq,Nat.reduceLeDiff,reduceCtorEq,↓reduceIte];refine⟨dC,?_⟩;refine sq (g.number==f.number) ?_ ?_
 ·refine zz ?_;decide
 simp only[go_sem,samG,Nat.reduceAdd,Nat.reduceEqDiff,Nat.reduceBEq,Nat.reduceLeDiff,reduceCtorEq,↓reduceIte]
def JEm(t:Typ)(i:Nat)(f:TFl):Int:=
 if(!Xe f.name)=true then 12 else if(!inI f.number 1 9999)=true then 2 else if((t.fields.take i).any (samG f))=true then 7
 else if(!inI f.need 1 3||(t.kind==10&&f.need !=1))=true then 11
 else if(f.need==3&&((f.dflt.length:Nat):Int)==0)=true then 4
 else if(decide (((f.dflt.length:Nat):Int)>1)||(f.need !=3&&decide (((f.dflt.length:Nat):Int)>0)))=true then 3 else 0
theorem walk99(t:Typ)(i:Nat)(hi:i<t.fields.length)(hf:t.fields.length≤68719476736):PT 99 [JH t,.int .i64 i] (.d (.int .i64 (JEm t i t.fields[i]))):=by
 refine ok99.pc ?_;have hx:=Ug hi;have c153:=(p153 t.fields[i].name).call trivial;have cn:=(JBS t.fields[i].number 1 9999).call trivial;have cd:=(JBS t.fields[i].need 1 3).call trivial;have cu:=JR.clo (ds:=[.list 11 ((t.fields.take i).map Jn)]) (JK6 (t.fields.take i) (fun x _=>JQi x t.fields[i]) sO) rfl 5;have hsl:(List.drop (Int.toNat 0) (t.fields.map Jn)).take ((i:Int)-0).toNat=(t.fields.take i).map Jn:=by
  have:((i:Int)-0).toNat=i:=oM;rw[this,List.map_take];rfl
 generalize hR:JEm t i t.fields[i]=R;unfold JEm at hR;generalize t.fields[i]=f at*;rw[JEl]at cu;simp only[Va,Vb,List.cons_append,List.nil_append]at cu;rw[JA];simp only[go_sem,ir99,hx,Vv,Vc,Nat.reduceAdd,Nat.reduceEqDiff,Nat.reduceBEq,Nat.reduceLeDiff,reduceCtorEq,↓reduceIte];refine⟨oM,wn c153 ?_⟩;refine zz ?_;apply ik<;>intro h
 ·rw[if_pos h]at hR;subst hR;rfl
 rw[if_neg (nF h)]at hR;clear h
 try refine zz ?_
 refine wc cn ?_;apply ik<;>intro h
 ·rw[if_pos h]at hR;subst hR;rfl
 rw[if_neg (nF h)]at hR;clear h
 try simp only[go_sem,hsl,Vv,Vc,Nat.reduceAdd,Nat.reduceEqDiff,Nat.reduceBEq,Nat.reduceLeDiff,reduceCtorEq,↓reduceIte]
 refine⟨oM,wn cu ?_⟩;refine zz ?_;apply ik<;>intro h
 ·rw[if_pos h]at hR;subst hR;rfl
 rw[if_neg (nF h)]at hR;clear h
 try refine zz ?_
 refine wc cd ?_;refine sq (t.kind==10&&f.need !=1) ?_ ?_
 ·refine zz ?_;refine sq (f.need !=1) ?_ ?_
  all_goals simp only[go_sem,Nat.reduceAdd,Nat.reduceEqDiff,Nat.reduceBEq,Nat.reduceLeDiff,reduceCtorEq,↓reduceIte]
 refine zz ?_;apply ik<;>intro h
 ·rw[if_pos h]at hR;subst hR;rfl
 rw[if_neg (nF h)]at hR;clear h
 try refine zz ?_
 refine sq (((f.dflt.length:Nat):Int)==0) ?_ ?_
 ·exact zz4 trivial
 refine zz ?_;apply ik<;>intro h
 ·rw[if_pos h]at hR;subst hR;rfl
 rw[if_neg (nF h)]at hR;clear h
 try refine zz4 ?_
 refine sq (f.need !=3&&decide (((f.dflt.length:Nat):Int)>0)) ?_ ?_
 ·refine zz4 ?_;refine sq (decide (((f.dflt.length:Nat):Int)>0)) ?_ ?_
  all_goals simp only[go_sem,Vc,Nat.reduceAdd,Nat.reduceEqDiff,Nat.reduceBEq,Nat.reduceLeDiff,reduceCtorEq,↓reduceIte]
 refine zz4 ?_;apply ik<;>intro h
 ·rw[if_pos h]at hR;subst hR;rfl
 ·rw[if_neg (nF h)]at hR;subst hR;rfl
def JEn(t:Typ):Nat→List TFl→Int
 |_,[]=>0
 |i,f::r=>if(JEm t i f !=0)=true then JEm t i f else JEn t (i+1) r
def JL8(t:Typ):Int:=
 if((t.kind==8&&((t.elem.length:Nat):Int)==0)||(t.kind==10&&((t.fields.length:Nat):Int)==0))=true then 4
 else if(t.kind==8&&decide (((t.elem.length:Nat):Int)>1))=true then 3
 else if decide (((t.fields.length:Nat):Int)>64)=true then 9 else JEn t 0 t.fields
def bndC(t:Typ)(L:Lim):Bool:=(L.bounds&&((decide (t.min>t.max)||decide (t.min<L.low))||decide (t.max>L.high)))||(L.scale&& !inI t.scale 0 12)
def JDb(t:Typ):Int:=
 if(!inI t.kind 1 10)=true then 11 else if JEj t (JJc t.kind)=true then 3
 else if(t.kind==4&&decide (((t.words.length:Nat):Int)>0))=true then(if(JBT t !=0)=true then JBT t else JL8 t)
 else if bndC t (JJc t.kind)=true then 2 else JL8 t
theorem walk57(t:Typ):PT 57 [JH t] (.d (.int .i64 (JDb t))):=by
 refine J3.Jg ok57.has fun hfit=>?_
 obtain⟨hw,he,hf⟩:=Y5 (hfit _ (Vh));refine ok57.pc ?_;have ci:=(JBS t.kind 1 10).call trivial;have c96:=walk96.call trivial;have c97:=(walk97 t (JJc t.kind)).call trivial;have c98:=(walk98 t hw).call trivial;have cs:=(JBS t.scale 0 12).call trivial;have c99:=fun i (hi:i<t.fields.length)=>(walk99 t i hi hf).call trivial
 have hlen:=JJd;generalize hR:JDb t=R;unfold JDb at hR;have hkk:=fun h0 h1=>JL7 (k:=t.kind) h0 h1
 simp only[JEi]at hkk c97;rw[JA]at c97 c98;simp only[JA t]at c99;rw[JA];simp only[go_sem,ir57,simprocAttr];refine wc ci ?_;apply ik<;>intro h
 ·rw[if_pos h]at hR;subst hR;rfl
 rw[if_neg (nF h)]at hR;have hk:1≤t.kind∧t.kind≤10:=by
  simp only[inI,Bool.not_eq_false',Vi,decide_eq_true_eq]at h;omega
 clear h;have hkk:=hkk hk.1 hk.2;generalize JJc t.kind=L at*
 try refine zz ?_
 refine JE rfl c96 trivial ?_;simp only[go_sem,hkk,hlen,simprocAttr];refine⟨oM,dC,?_⟩;by_cases hc:JEj t L=true
 ·rw[if_pos hc]at c97 hR;subst hR;refine wn c97 ?_;exact zz9 trivial
 rw[if_neg hc]at c97 hR;refine wn c97 ?_;refine zz9 ?_;refine sq (decide (((t.words.length:Nat):Int)>0)) ?_ ?_
 ·exact zz4 trivial
 refine zz9 ?_;apply ik<;>intro h;rw[if_pos h]at hR;clear h
 try refine zz9 ?_
 refine wn c98 ?_;refine zz9 ?_;apply ik<;>intro h
 ·rw[if_pos h]at hR;subst hR;rfl
 rw[if_neg (nF h)]at hR;clear h
 rotate_left
 rw[if_neg (nF h)]at hR;clear h;unfold bndC at hR;refine sq ((decide (t.min>t.max)||decide (t.min<L.low))||decide (t.max>L.high)) ?_ ?_
 ·refine zz9 ?_;refine sq (decide (t.min<L.low)) ?_ ?_
  ·exact zz9 trivial
  refine zz9 ?_;refine sq (decide (t.max>L.high)) ?_ ?_
  all_goals simp only[go_sem,Int.reduceBNe,bne_self_eq_false,simprocAttr]
 refine zz9 ?_;apply ik<;>intro h
 ·simp only[h,Bool.true_or,↓reduceIte]at hR;subst hR;simp only[go_sem,h,↓reduceIte]
 rw[h,Bool.false_or]at hR;clear h;refine sq (!inI t.scale 0 12) ?_ ?_
 ·refine zz9 ?_;refine wn cs ?_;exact zz9 trivial
 refine zz9 ?_;apply ik<;>intro h
 ·rw[if_pos h]at hR;subst hR;simp only[go_sem,h,↓reduceIte]
 rw[if_neg (nF h)]at hR
 try simp only[go_sem,h,Vu,↓reduceIte]
 clear h
 all_goals
  clear c97 c98 cs ci c96 hkk;unfold JL8 at hR;refine sq (((t.elem.length:Nat):Int)==0) ?_ ?_
  ·exact JFF trivial
  refine JFF ?_;apply ik<;>intro h
  ·simp only[h,Bool.true_or,↓reduceIte]at hR;subst hR;simp only[go_sem,h,↓reduceIte]
  rw[h,Bool.false_or]at hR;clear h
  try refine JFF ?_
  refine sq (((t.fields.length:Nat):Int)==0) ?_ ?_
  ·exact JFF trivial
  refine JFF ?_;apply ik<;>intro h
  ·rw[if_pos h]at hR;subst hR;simp only[go_sem,h,↓reduceIte]
  rw[if_neg (nF h)]at hR
  try simp only[go_sem,h,Vu,↓reduceIte]
  clear h;refine sq (decide (((t.elem.length:Nat):Int)>1)) ?_ ?_
  ·exact JFF trivial
  refine JFF ?_;apply ik<;>intro h
  ·rw[if_pos h]at hR;subst hR;rfl
  rw[if_neg (nF h)]at hR;clear h
  try refine JFF ?_
  apply ik<;>intro h
  ·rw[if_pos h]at hR;subst hR;rfl
  rw[if_neg (nF h)]at hR;clear h
  try refine JFF ?_
  refine JJ (fun n s=>∃k:Nat,k≤t.fields.length∧n=t.fields.length-k∧JEn t k (t.fields.drop k)=R∧
   s=⟨[(1,.ref 1 0),(105,.d (.int .i64 t.fields.length)),(106,.d (.int .i64 k))],[(1,.box [.d (.int .i64 t.kind),.d (.int .i64 t.min),.d (.int .i64 t.max),.d (.int .i64 t.scale),.d (.list 1 (t.words.map .str)),.d (.list 7 (t.elem.map JH)),.d (.list 11 (t.fields.map Jn))])]⟩) ?_ ?_
  ·refine⟨_,_,Wk.less ?_,0,Nat.zero_le _,rfl,hR,rfl⟩;simp[put,go_sem]
  ·clear hR;rintro n s ⟨k,hk2,rfl,hinv,rfl⟩;by_cases hlt:k<t.fields.length
   ·have hd:=dT hlt;have c:=c99 k hlt;rw[Vq hlt,JEn]at hinv;generalize JEm t k t.fields[k]=e at*;refine zz5 ?_;refine wn c ?_;refine JFF ?_;apply ik<;>intro h
    ·rw[if_pos h]at hinv;subst hinv;rfl
    rw[if_neg (nF h)]at hinv;clear h;refine⟨t.fields.length-(k+1),_,oM,Wk.less ?_,k+1,oM,rfl,hinv,rfl⟩;exact zz7 trivial
   ·have hd:=dF hlt;rw[List.drop_eq_nil_of_le oM,JEn]at hinv;subst hinv;exact zz5 trivial
end Go.Proofs
namespace Go.Proofs
open Go Av
open Av.Y
def ir161:Ic:=q (R (ow 4 false<|N) [4])<|q (R (om 5 0<|om 6 1<|cl 7 224 [t 5,t 6]<|oi 8 .geq 7 0<|om 4 8<|N) [0,1,5,6,7,8])<|.ret
theorem ok161:FT 161 9 ir161 [.tmp 4]:=.o Tryz.func161
def ir224:Ic:=q (R (oz 4 0<|N) [4])<|q (q (R (om 6 0<|oh 7 6<|oz 8 0<|N) [6])<|D (.block 0<|.loop (q (.reg (ot 9 .lss 8 7<|N))<|q (D (I 9 S (E 0)) [9])<|q (D (.block 1<|q (R (om 10 8<|om 5 10<|N) [10])<|q (R (om 11 1<|om 12 0<|om 13 5<|oa true 14 6 12 13<|oL 15 6 14<|.call (some 16) (.dyn (t 11)) [t 15] N) [11,12,13,14,15])<|D (I 16 (q (R (om 17 5<|om 4 17<|N) [0,1,7,8,5,16,17])<|.ret) S) [5,16]) [])<|R (oi 18 .add 8 1<|om 8 18<|N) [18])) [0,1,7,8,9,10,5,11])<|q (.reg (oz 4 (-1)<|N))<|.ret
theorem ok224:FT 224 19 ir224 [.tmp 4]:=.o Tryz.func224
end Go.Proofs
namespace Go.Proofs
open Go Av
def ixV(q:Val→Bool)(l:List Val):Int:=match l.findIdx? q with
 |some k=>(k:Int)
 |none=> -1
theorem ix419{g:Nat}{cs:List Dat}{q:Val→Bool}(l:List Val)(hq:∀x∈l,PT g [JM x,.ptr cs] (.d (.bool (q x))))(hl:l.length≤68719476736):
  PT 224 [.list 6 (l.map JM),JBO g cs] (.d (.int .i64 (ixV q l))):=by
 refine ok224.pc ?_;simp only[go_sem,ir224,Vc,simprocAttr];refine JJ (fun n s=>∃k:Nat,k≤l.length∧n=l.length-k∧(∀(j:Nat) (h1:j<l.length),j<k→q l[j]=false)∧
  s=⟨[(0,.d (.list 6 (l.map JM))),(1,.d (JBO g cs)),(7,.d (.int .i64 l.length)),(8,.d (.int .i64 k))],[]⟩) ?_ ?_
 ·exact⟨_,_,Wk.refl _,0,Nat.zero_le _,rfl,sP,rfl⟩
 ·rintro n s ⟨k,hk,rfl,hinv,rfl⟩;by_cases hlt:k<l.length
  ·have hx:=Uf hlt;have hd:=dT hlt;have hc:=(hq l[k] (Vk _)).call trivial;rw[JI]at hc;refine zz6 ?_;refine⟨oM,wn hc ?_⟩;refine zz ?_;apply ik<;>intro hf
   ·have:l.findIdx? q=some k:=by
     rw[List.findIdx?_eq_some_iff_getElem];exact⟨hlt,hf,fun j hj=>by rw[hinv j oM hj];decide⟩
    simp only[ixV,this]
   ·refine⟨l.length-(k+1),_,oM,Wk.less ?_,k+1,oM,rfl,?_,rfl⟩
    ·exact zz7 trivial
    ·intro j h1 hj;by_cases e:j=k
     ·subst e;exact hf
     ·exact hinv j h1 oM
  ·have hd:=dF hlt;refine zz5 ?_;have:l.findIdx? q=none:=by
    rw[List.findIdx?_eq_none_iff];intro x hx;obtain⟨j,hj,rfl⟩:=List.getElem_of_mem hx;exact hinv j hj oM
   simp only[ixV,this]
theorem JQj(q:Val→Bool)(l:List Val):decide (ixV q l≥0)=l.any q:=by
 unfold ixV;cases e:l.findIdx? q with
 |none=>
  rw[List.findIdx?_eq_none_iff]at e;have:l.any q=false:=by rw[List.any_eq_false];intro x hx;rw[e x hx];decide
  rw[this];rfl
 |some k=>
  obtain⟨h1,h2,_⟩:=List.findIdx?_eq_some_iff_getElem.1 e;have:l.any q=true:=List.any_eq_true.2 ⟨_,Vk h1,h2⟩;rw[this];simp
theorem JQk{g:Nat}{cs:List Dat}{q:Val→Bool}(l:List Val)(hq:∀x∈l,PT g [JM x,.ptr cs] (.d (.bool (q x))))(hl:l.length≤68719476736):
  PT 161 [.list 6 (l.map JM),JBO g cs] (.d (.bool (l.any q))):=by
 refine ok161.pc ?_;have c:=(ix419 l hq hl).call trivial;rw[←JQj];simp only[go_sem,ir161,simprocAttr];refine wc c trivial
theorem JK7{t:Typ}{n:Str}(h:(tfR t n).2=true):(tfR t n).1∈t.fields:=by
 unfold tfR at h⊢;cases e:JOF n t.fields with
 |none=>rw[e]at h;cases h
 |some i=>
  have hil:i<t.fields.length:=by
   obtain⟨h,_⟩:=List.findIdx?_eq_some_iff_getElem.1 e;exact h
  simp only[Vl hil,Vp];exact Vk hil
mutual
def szT:Typ→Nat
 |.mk _ _ _ _ _ e f=>1+JAt e+JEo f
def JAt:List Typ→Nat
 |[]=>0
 |v::r=>szT v+JAt r
def JEo:List TFl→Nat
 |[]=>0
 |.mk _ _ _ t _::r=>szT t+JEo r
end
theorem Yn(t:Typ):szT t=1+JAt t.elem+JEo t.fields:=by cases t;rfl
theorem JAQ:∀{l:List Typ},∀x∈l,szT x≤JAt l
 |v::r,x,hx=>by
  simp only[JAt];rcases VA.1 hx with rfl|hx
  ·omega
  ·have:=JAQ x hx;omega
theorem ZM:∀{l:List TFl},∀x∈l,szT x.type≤JEo l
 |.mk a b c t d::r,x,hx=>by
  simp only[JEo];rcases VA.1 hx with rfl|hx
  ·show szT t≤_;omega
  ·have:=ZM x hx;omega
end Go.Proofs
namespace Go.Proofs
open Go Av
open Av.Y
end Go.Proofs
namespace Go.Proofs
open Go Av
abbrev TF(b:Bool):List (Nat×Av.Obj):=[(1000,.box [.clo (.func 0) [] [.ref 1001 0],.d (.bool (!b))]),(1001,.box [.d (.bool b)])]
theorem JOI(b c:Bool):closed (JB (Av.get (TF b)) (TF c)):=by
 refine Jj ?_;simp[TF,J6,put,Jc,J0,JN,JT,Av.get]
theorem JOJ(b:Bool):closed (Av.get (TF b)):=by
 refine U4 ?_;simp[TF,Jc,J0,JN,JT,Av.get]
theorem JJe{b:Bool}{i:Nat}(h:(Av.get (TF b) i).isSome=true):i=1000∨i=1001:=by
 simp only[TF,Av.get]at h
 repeat' split at h
 all_goals first|(cases h;done)|skip
 all_goals rename_i e
 all_goals first|omega|skip
theorem TF_put(b c:Bool):J6 (TF b) (TF c)=TF c:=by simp[TF,J6,put]
theorem JQl(b c:Bool):JB (Av.get (TF b)) (TF c)=Av.get (TF c):=by rw[←Jr,TF_put]
abbrev FCon(f:Nat)(ds:List Dat)(b c:Bool):Prop:=KT f (.ref 1000 0::ds.map .d) (TF b) (.tup []) (TF c)
theorem FCon.at{f:Nat}{ds:List Dat}{b c:Bool}(h:FCon f ds b c)(i j:Nat)(hij:i≠j):
  CT f (.ref i 0::ds.map .d) [(i,some (.box [.clo (.func 0) [] [.ref j 0],.d (.bool (!b))])),(j,some (.box [.d (.bool b)]))] (.tup []) [(i,.box [.clo (.func 0) [] [.ref j 0],.d (.bool (!c))]),(j,.box [.d (.bool c)])]:=by
 have:=Con.call h (fun m=>if m=1000 then i else j) (fun m hm=>by rcases JJe hm with rfl|rfl<;>omega)
  (fun a b' ha hb e=>by
   rw[JQl]at ha hb;rcases JJe ha with rfl|rfl<;>rcases JJe hb with rfl|rfl
   ·rfl
   ·simp at e;exact absurd e hij
   ·simp at e;exact absurd e.symm hij
   ·rfl)
  (by
   intro c hc;rcases VA.1 hc with rfl|hc
   ·simp[inT,TF,Av.get,JT]
   ·obtain⟨x,_,rfl⟩:=VC.1 hc;trivial) (JOJ b) [] (by simp[TF,Av.get]) (JOI b c) trivial
 have e:(ds.map Av.d).map (Av.ren fun m=>if m=1000 then i else j)=ds.map Av.d:=by
  rw[List.map_map];exact List.map_congr_left fun x _=>by simp[Av.ren]
 simp only[TF,Va,Vb,Obj.ren,Av.ren,J7,List.append_nil,e,simprocAttr]at this;exact this
def inB(t:Typ)(n:Int):Bool:= !(decide (n<t.min)||decide (n>t.max))
theorem JQm(l:List Str)(s:Str)(hl:l.length≤68719476736):∃n:Int,(n≥0↔s∈l)∧PT 223 [.list 1 (l.map .str),.str s] (.d (.int .i64 n)):=by
 refine⟨match l.findIdx? (fun x=>s==x)with|some k=>(k:Int)|none=> -1,?_,?_⟩
 ·cases e:l.findIdx? (fun x=>s==x)with
  |none=>
   rw[List.findIdx?_eq_none_iff]at e;refine⟨fun h=>absurd h sP,fun h=>?_⟩;have:=e s h;simp at this
  |some k=>
   obtain⟨h1,h2,_⟩:=List.findIdx?_eq_some_iff_getElem.1 e;refine⟨fun _=>?_,fun _=>by simp⟩;have:s=l[k]:=sX h2;rw[this];exact Vk h1
 generalize hR:(match l.findIdx? (fun x=>s==x)with|some k=>(k:Int)|none=> -1)=R;refine ok223.pc ?_;simp only[go_sem,JTJ,Vc,Nat.reduceAdd,Nat.reduceEqDiff,Nat.reduceBEq,Nat.reduceLeDiff,Int.reduceBEq,reduceCtorEq,↓reduceIte];refine JJ (fun n z=>∃k:Nat,k≤l.length∧n=l.length-k∧(∀(j:Nat) (h1:j<l.length),j<k→(s==l[j])=false)∧
  z=⟨[(0,.d (.list 1 (l.map .str))),(1,.d (.str s)),(7,.d (.int .i64 l.length)),(8,.d (.int .i64 k))],[]⟩) ?_ ?_
 ·exact⟨_,_,Wk.refl _,0,Nat.zero_le _,rfl,sP,rfl⟩
 ·rintro n z ⟨k,hk,rfl,hinv,rfl⟩;by_cases hlt:k<l.length
  ·have hx:nth (l.map Dat.str) k=.str l[k]:=by rw[Uc (sX hlt),List.getElem_map]
   have hd:=dT hlt;simp only[go_sem,hx,hd,Vv,Vc,Nat.reduceAdd,Nat.reduceEqDiff,Nat.reduceBEq,Nat.reduceLeDiff,Int.reduceBEq,reduceCtorEq,↓reduceIte];refine⟨oM,dC,?_⟩;apply ik<;>intro hf
   ·have e:l.findIdx? (fun x=>s==x)=some k:=by
     rw[List.findIdx?_eq_some_iff_getElem];exact⟨hlt,hf,fun j hj=>by rw[hinv j oM hj];decide⟩
    rw[e]at hR;rw[←hR]
   ·refine⟨l.length-(k+1),_,oM,Wk.less ?_,k+1,oM,rfl,?_,rfl⟩
    ·simp only[go_sem,JS k oM,Nat.reduceAdd,Nat.reduceEqDiff,Nat.reduceBEq,Nat.reduceLeDiff,Int.reduceBEq,reduceCtorEq,↓reduceIte]
    ·intro j h1 hj;by_cases e:j=k
     ·subst e;exact hf
     ·exact hinv j h1 oM
  ·have hd:=dF hlt;simp only[go_sem,hd,Nat.reduceAdd,Nat.reduceEqDiff,Nat.reduceBEq,Nat.reduceLeDiff,Int.reduceBEq,reduceCtorEq,↓reduceIte];have e:l.findIdx? (fun x=>s==x)=none:=by
    rw[List.findIdx?_eq_none_iff];intro x hx;obtain⟨j,hj,rfl⟩:=List.getElem_of_mem hx;exact hinv j hj oM
   rw[e]at hR;rw[←hR]
theorem JQn(l:List Str)(s:Str)(hl:l.length≤68719476736):PT 160 [.list 1 (l.map .str),.str s] (.d (.bool (decide (s∈l)))):=by
 refine ok160.pc ?_;obtain⟨n,hn,hc⟩:=JQm l s hl;have c:=hc.call trivial;simp only[go_sem,JTI,Nat.reduceAdd,Nat.reduceEqDiff,Nat.reduceBEq,Nat.reduceLeDiff,Int.reduceBEq,reduceCtorEq,↓reduceIte];refine wn c ?_;simp only[go_sem,hn,Nat.reduceAdd,Nat.reduceEqDiff,Nat.reduceBEq,Nat.reduceLeDiff,Int.reduceBEq,reduceCtorEq,↓reduceIte]
theorem JEp(v:Val):(JM v).cells=[.int .i64 v.kind,.int .i64 v.int,.int .i64 v.scale,.str v.text,.list 6 (v.list.map JM),.list 7 (v.fields.map UP)]:=by rw[JI];rfl
def JFz(v:Val)(g:TFl):Bool:= !(JCl v g.name).2&&g.need !=2
theorem JQo(g:TFl)(v:Val):PT 163 [Jn g,.ptr (JM v).cells] (.d (.bool (JFz v g))):=by
 refine ok163.pc ?_;have c:=(walk16 v g.name).call (by simp[Jl]);generalize hR:JFz v g=R;unfold JFz at hR;generalize JCl v g.name=F at*;rw[JI v,JI F.1]at c;rw[Jw,JEp];simp only[go_sem,JTS,simprocAttr];refine wc c ?_;refine sq (g.need !=2) ?_ ?_
 ·exact zz trivial
 simp only[go_sem,hR,simprocAttr]
theorem JQp(e:Typ)(b:Bool)(t:Typ)(x:Val)(he:t.elem=[e])(h:PT 101 [JH e,JM x] (.d (.bool b))):PT 162 [JM x,.ptr (JH t).cells] (.d (.bool (!b))):=by
 refine ok162.pc ?_;have c:=h.call trivial;have h0:0<t.elem.length:=by rw[he];simp
 have hx:=YA h0;have e0:t.elem[0]=e:=by simp[he]
 rw[e0]at hx;rw[JA,JI]at c;rw[JI,JEk];simp only[go_sem,JTR,hx,Int.toNat_zero,Vc,Nat.reduceAdd,Nat.reduceEqDiff,Nat.reduceBEq,Nat.reduceLeDiff,reduceCtorEq,↓reduceIte];refine⟨oM,⟨oM,oM⟩,wn c ?_⟩;exact zz trivial
def JQq(ft:Typ→Val→Bool)(t:Typ)(v:Val):Bool:=
 if(v.kind !=t.kind)=true then false
 else if t.kind=2∨t.kind=6∨t.kind=7∨t.kind=3 then inI v.int t.min t.max&&v.scale==t.scale
 else if t.kind=4 then(if decide (((t.words.length:Nat):Int)>0)=true then decide (v.text∈t.words)else inI v.text.length t.min t.max)
 else if t.kind=5 then inI v.text.length t.min t.max
 else if t.kind=8 then inI v.list.length t.min t.max&& !(v.list.any fun x=> !ft ((t.elem[0]?).getD ty0) x)
 else if t.kind=10 then(UY t v.text).2&&ft (UY t v.text).1.type ((v.list[0]?).getD zeroV)
 else if t.kind=9 then(v.fields.all fun x=> !(!(UY t x.name).2|| !ft (UY t x.name).1.type x.value))&& !(t.fields.any (JFz v))
 else true
theorem JIM{t:Typ}{n:Str}(h:(UY t n).2=true):(UY t n).1∈t.fields:=by
 unfold UY at h⊢;split
 ·rename_i e;rw[if_pos e]at h;cases h
 ·rename_i e;rw[if_neg e]at h;exact JK7 h
theorem JQr(ft:Typ→Val→Bool)(t:Typ)(v:Val)(hk:1≤t.kind∧t.kind≤10)(h8e:t.kind=8→t.elem.length=1)(h10v:v.kind=10→v.list.length=1)
  (h8:t.kind=8→∀e∈t.elem,∀x∈v.list,PT 101 [JH e,JM x] (.d (.bool (ft e x))))
  (h9:t.kind=9→∀g∈t.fields,∀x∈v.fields,PT 101 [JH g.type,JM x.value] (.d (.bool (ft g.type x.value))))
  (h10:t.kind=10→∀g∈t.fields,∀x∈v.list,PT 101 [JH g.type,JM x] (.d (.bool (ft g.type x)))):
  PT 101 [JH t,JM v] (.d (.bool (JQq ft t v))):=by
 refine J3.Jg JTQ.has fun hfit=>?_
 obtain⟨hw,he,hf⟩:=Y5 (hfit (JH t) sP);obtain⟨v1,v2,v3⟩:=JGl (hfit (JM v) sP);refine JTQ.pc ?_;generalize hR:JQq ft t v=R;unfold JQq at hR;rw[JA t,JI v];simp only[go_sem,JTP,simprocAttr];apply ik<;>intro h
 ·rw[if_pos h]at hR;subst hR;rfl
 rw[if_neg (nF h)]at hR;have hvk:v.kind=t.kind:=sX h;clear h;have hks:t.kind=1∨t.kind=2∨t.kind=3∨t.kind=4∨t.kind=5∨t.kind=6∨t.kind=7∨t.kind=8∨t.kind=9∨t.kind=10:=oM;have ci:=(JBS v.int t.min t.max).call trivial;have ct:=(JBS v.text.length t.min t.max).call trivial;have cl:=(JBS v.list.length t.min t.max).call trivial;have c160:=(JQn t.words v.text hw).call trivial;rcases hks with hk|hk|hk|hk|hk|hk|hk|hk|hk|hk
 all_goals
  have e2:(t.kind==2)=decide (t.kind=2):=rfl;have e3:(t.kind==3)=decide (t.kind=3):=rfl;have e4:(t.kind==4)=decide (t.kind=4):=rfl;have e5:(t.kind==5)=decide (t.kind=5):=rfl;have e6:(t.kind==6)=decide (t.kind=6):=rfl;have e7:(t.kind==7)=decide (t.kind=7):=rfl;have e8:(t.kind==8)=decide (t.kind=8):=rfl;have e9:(t.kind==9)=decide (t.kind=9):=rfl;have e10:(t.kind==10)=decide (t.kind=10):=rfl;rw[hk]at e2 e3 e4 e5 e6 e7 e8 e9 e10;simp only[Int.reduceEq,decide_false,decide_true,hk]at e2 e3 e4 e5 e6 e7 e8 e9 e10;simp only[hk,Int.reduceEq,or_false,or_true,false_or,true_or,↓reduceIte]at hR;refine zz34 ?_
  try (subst hR;rfl)
 ·subst hR;refine wn ci ?_;refine zz1 ?_;refine sq (v.scale==t.scale) ?_ ?_
  all_goals simp only[go_sem,Int.reduceBEq,Vc,simprocAttr]
 ·subst hR;refine wn ci ?_;refine zz1 ?_;refine sq (v.scale==t.scale) ?_ ?_
  all_goals simp only[go_sem,Int.reduceBEq,Vc,simprocAttr]
 ·apply ik<;>intro h
  ·rw[if_pos h]at hR;subst hR
   try refine zz1 ?_
   refine wn c160 ?_;exact zz1 trivial
  ·rw[if_neg (nF h)]at hR;subst hR
   try refine zz1 ?_
   refine wn ct ?_;exact zz1 trivial
 ·subst hR;refine wn ct ?_;exact zz1 trivial
 ·subst hR;refine wn ci ?_;refine zz1 ?_;refine sq (v.scale==t.scale) ?_ ?_
  all_goals simp only[go_sem,Int.reduceBEq,Vc,simprocAttr]
 ·subst hR;refine wn ci ?_;refine zz1 ?_;refine sq (v.scale==t.scale) ?_ ?_
  all_goals simp only[go_sem,Int.reduceBEq,Vc,simprocAttr]
 ·have hl1:=h8e hk;obtain⟨e,hee⟩:∃e,t.elem=[e]:=List.length_eq_one_iff.1 hl1;have hmem:e∈t.elem:=by rw[hee];exact List.mem_singleton.2 rfl
  have cw:=JR.clo (ds:=[.list 6 (v.list.map JM)]) (JQk (q:=fun x=> !ft e x) v.list (fun x hx=>JQp e (ft e x) t x hee (h8 hk e hmem x hx)) v2) rfl 2;rw[JEk,hk]at cw;simp only[Va,Vb,List.cons_append,List.nil_append]at cw;have e0:(t.elem[0]?).getD ty0=e:=by simp[hee]
  rw[e0]at hR;subst hR;refine wn cl ?_;refine zz1 ?_;refine sq (!(v.list.any fun x=> !ft e x)) ?_ ?_
  ·refine zz1 ?_;refine wn cw ?_;exact zz1 trivial
  exact zz1 trivial
 ·have cw:=JR.clo (ds:=[.list 11 (t.fields.map Jn)]) (JK6 (q:=JFz v) t.fields (fun g _=>JQo g v) hf) rfl 3;rw[JEp]at cw;simp only[Va,Vb,List.cons_append,List.nil_append]at cw;refine JJ (fun n s=>∃k:Nat,k≤v.fields.length∧n=v.fields.length-k∧(((v.fields.drop k).all fun x=> !(!(UY t x.name).2|| !ft (UY t x.name).1.type x.value))&& !(t.fields.any (JFz v)))=R∧
   s=⟨[(2,.ref 2 0),(3,.ref 3 0),(105,.d (.list 7 (v.fields.map UP))),(106,.d (.int .i64 v.fields.length)),(107,.d (.int .i64 k))],
    [(2,.box [.d (.int .i64 9),.d (.int .i64 t.min),.d (.int .i64 t.max),.d (.int .i64 t.scale),.d (.list 1 (t.words.map .str)),.d (.list 7 (t.elem.map JH)),.d (.list 11 (t.fields.map Jn))]),
     (3,.box [.d (.int .i64 v.kind),.d (.int .i64 v.int),.d (.int .i64 v.scale),.d (.str v.text),.d (.list 6 (v.list.map JM)),.d (.list 7 (v.fields.map UP))])]⟩) ?_ ?_
  ·exact⟨_,_,Wk.refl _,0,Nat.zero_le _,rfl,hR,rfl⟩
  ·clear hR;rintro n s ⟨k,hk2,rfl,hinv,rfl⟩;by_cases hlt:k<v.fields.length
   ·have hx:=Xd hlt;have hd:=dT hlt;have hmem:=Vk hlt;have c72:=(JEh t v.fields[k].name).call (by simp[Jl]);have cr:(UY t v.fields[k].name).2=true→CT 101 [.d (JH (UY t v.fields[k].name).1.type),.d (JM v.fields[k].value)] [] (.d (.bool (ft (UY t v.fields[k].name).1.type v.fields[k].value))) []:=fun h=>(h9 hk _ (JIM h) v.fields[k] hmem).call trivial
    rw[Vq hlt,List.all_cons]at hinv;generalize UY t v.fields[k].name=F at*;generalize hB:ft F.1.type v.fields[k].value=B at*;rw[JA t,Jw F.1,hk]at c72;rw[JA,JI]at cr;refine zz6 ?_;refine⟨oM,wn c72 ?_⟩;refine zz1 ?_;refine Jy (!B) (fun h=>?_) ?_
    ·refine zz1 ?_;refine wn (cr (sX h)) ?_;exact zz1 trivial
    refine zz1 ?_;apply ik<;>intro h
    ·rw[h,Vr,Bool.false_and,Bool.false_and]at hinv;subst hinv;rfl
    ·rw[h,Vs,Vt]at hinv;clear h;refine⟨v.fields.length-(k+1),_,oM,Wk.less ?_,k+1,oM,rfl,hinv,rfl⟩;exact zz7 trivial
   ·have hd:=dF hlt;rw[List.drop_eq_nil_of_le oM,List.all_nil,Vt]at hinv;subst hinv;refine zz5 ?_;refine wn cw ?_;exact zz1 trivial
 ·have hl1:=h10v (hvk.trans hk);have h0:0<v.list.length:=oM;have hx0:=Uf h0;have c72:=(JEh t v.text).call (by simp[Jl]);have cr:(UY t v.text).2=true→CT 101 [.d (JH (UY t v.text).1.type),.d (JM v.list[0])] [] (.d (.bool (ft (UY t v.text).1.type v.list[0]))) []:=fun h=>(h10 hk _ (JIM h) v.list[0] (Vk h0)).call trivial
  rw[Vl h0,Vp]at hR;generalize UY t v.text=F at*;rw[JA t,Jw F.1,hk]at c72;rw[JA,JI]at cr;subst hR;refine wn c72 ?_;refine zz1 ?_;refine Jy (ft F.1.type v.list[0]) (fun h=>?_) ?_
  ·simp only[go_sem,hx0,Int.toNat_zero,Int.reduceBEq,Vc,simprocAttr];refine⟨oM,wn (cr h) ?_⟩;exact zz1 trivial
  exact zz1 trivial
def JL9:Nat→Typ→Val→Bool
 |0,_,_=>true
 |k+1,t,v=>JQq (JL9 k) t v
def flatV(w:Val):Prop:=w.list=[]∧w.fields=[]
mutual
def okT:Val→Prop
 |.mk _ _ _ t l f=>t.length≤4096∧JJf l∧JQs f
def JJf:List Val→Prop
 |[]=>True
 |v::r=>okT v∧JJf r
def JQs:List Fld→Prop
 |[]=>True
 |.mk n v::r=>n.length≤4096∧okT v∧JQs r
end
theorem okT_eq(v:Val):okT v↔v.text.length≤4096∧JJf v.list∧JQs v.fields:=by cases v;rfl
mutual
def nmV:Val→Prop
 |.mk _ _ _ _ l f=>nmVs l∧nmVf f
def nmVs:List Val→Prop
 |[]=>True
 |v::r=>nmV v∧nmVs r
def nmVf:List Fld→Prop
 |[]=>True
 |.mk n v::r=>n.length≤4096∧nmV v∧nmVf r
end
theorem nmV_eq(v:Val):nmV v↔nmVs v.list∧nmVf v.fields:=by cases v;rfl
theorem JQt{v:Val}(h1:v.list=[]∧v.fields=[]):nmV v:=by
 rw[nmV_eq,h1.1,h1.2];exact⟨trivial,trivial⟩
theorem JQu{w:Val}(h:flatV w):szV w≤1000000:=by
 rw[JGi,h.1,h.2];simp[Y4,JIB]
def goodV(B:Nat)(v:Val):Prop:=szV v≤1000000∧v.text.length≤B∧nmV v
theorem goodV.flat{B:Nat}{v:Val}(h:flatV v)(ht:v.text=[]):goodV B v:=⟨JQu h,by rw[ht];exact Nat.zero_le _,JQt h⟩
end Go.Proofs
namespace Go.Proofs
open Go Av
variable {v:Val}
theorem JJg{n m e:Int}(he:e≠0)(h:szE n m e=0):n≤m:=by
 unfold szE at h;split at h
 ·exact absurd h he
 ·rename_i h1;simpa using h1
theorem JK8{n level:Int}(h:YB n level v=0):JEd v=true∧UZ v=0:=by
 unfold YB at h;split at h
 ·cases h
 split at h
 ·cases h
 split at h
 ·cases h
 split at h
 ·cases h
 split at h
 ·cases h
 ·rename_i hu;exact⟨by simpa using hu,h⟩
theorem JBU:∀{l:List Fld} {o:Option Str},JEf o l=0→∀f∈l,Xe f.name=true
 |[],_,_,f,hf=>by cases hf
 |g::r,none,h,f,hf=>by
  simp only[JEf]at h;split at h
  ·cases h
  ·rename_i hn;rcases VA.1 hf with rfl|hf
   ·simpa using hn
   ·exact JBU h f hf
 |g::r,some p,h,f,hf=>by
  simp only[JEf]at h;split at h
  ·cases h
  split at h
  ·cases h
  split at h
  ·cases h
  ·rename_i hn _ _;rcases VA.1 hf with rfl|hf
   ·simpa using hn
   ·exact JBU h f hf
theorem JGr(h:JEd v=true):((v.kind=8∨v.kind=10)∨v.list=[])∧(v.kind=9∨v.fields=[])∧(v.kind=4∨v.kind=5∨v.kind=10∨v.text=[]):=by
 simp only[JEd,JQP,JQQ,Vi,Vx,beq_iff_eq]at h;obtain⟨⟨⟨_,h1⟩,h2⟩,h3⟩:=h;refine⟨?_,?_,?_⟩
 ·rcases h2 with h2|h2
  ·exact .inl h2
  ·exact .inr (List.length_eq_zero_iff.1 oM)
 ·rcases h3 with h3|h3
  ·exact .inl h3
  ·exact .inr (List.length_eq_zero_iff.1 oM)
 ·rcases h1 with((h1|h1)|h1)|h1
  ·exact .inl h1
  ·exact .inr (.inl h1)
  ·exact .inr (.inr (.inl h1))
  ·exact .inr (.inr (.inr h1))
theorem JMA(hu:JEd v=true)(h:UZ v=0):v.text.length≤4096:=by
 obtain⟨_,_,h3⟩:=JGr hu;unfold UZ at h;rcases h3 with e|e|e|e
 ·rw[if_neg oM,if_neg oM,if_neg oM,if_pos e]at h;unfold JFs at h;split at h
  ·cases h
  ·have:=JJg dC h;omega
 ·rw[if_neg oM,if_neg oM,if_neg oM,if_neg oM,if_pos e]at h;have:=JJg dC h;omega
 ·rw[if_neg oM,if_neg oM,if_neg oM,if_neg oM,if_neg oM,if_neg oM,if_neg oM,if_neg oM,if_neg oM]at h;unfold JIH at h;split at h
  ·cases h
  ·rename_i hn;have:=JCf (s:=v.text) (sX hn);omega
 ·rw[e];exact Nat.zero_le _
theorem JJh(e:v.kind=9)(h:UZ v=0):∀f∈v.fields,f.name.length≤4096:=by
 unfold UZ at h;rw[if_neg oM,if_neg oM,if_neg oM,if_neg oM,if_neg oM,if_neg oM,if_neg oM,if_neg oM,if_pos e]at h;unfold JL5 at h;split at h
 ·rename_i h1;rw[h]at h1;cases h1
 ·intro f hf;have:=JCf (JBU h f hf);omega
theorem JIN{f:Int→Val→Int×Int}(hf:∀n v,(f n v).1=0→(f n v).2=n+szV v∧okT v):∀(l:List Val) (n:Int),(YC f n l).1=0→(YC f n l).2=n+Y4 l∧JJf l
 |[],n,_=>by simp[YC,Y4,JJf]
 |v::r,n,h=>by
  simp only[YC]at h⊢;split at h
  ·rename_i hx;exact absurd h hx
  ·rename_i hx;rw[if_neg hx];simp only[ne_eq,Decidable.not_not]at hx;obtain⟨h1,h2⟩:=hf n v hx;obtain⟨h3,h4⟩:=JIN hf r _ h;simp only[Y4,JJf];exact⟨by rw[h3,h1];push_cast;omega,h2,h4⟩
theorem JEq:∀l:List Fld,JIB l=Y4 (l.map Fld.value)
 |[]=>rfl
 |.mk n v::r=>by simp only[JIB,Va,Y4,JEq r,Fld.value]
theorem JK9:∀{l:List Fld},(∀f∈l,f.name.length≤4096)→JJf (l.map Fld.value)→JQs l
 |[],_,_=>trivial
 |.mk n v::r,h,h2=>⟨h _ Vh,h2.1,JK9 (fun f hf=>h f (Vn _ hf)) h2.2⟩
theorem JLA:∀(k:Nat) (n:Int) (v:Val),(XT k n v).1=0→(XT k n v).2=n+szV v∧okT v
 |0,n,v,h=>absurd h (JOA _ _)
 |k+1,n,v,h=>by
  simp only[XT]at h⊢;split at h
  ·rename_i hx;exact absurd h hx
  ·rename_i hx;rw[if_neg hx];simp only[ne_eq,Decidable.not_not]at hx;obtain⟨hu,hr⟩:=JK8 hx;obtain⟨u1,u2,u3⟩:=JGr hu;obtain⟨h1,h2⟩:=JIN (JLA k) _ _ h;have ht:=JMA hu hr;rw[h1,JGi,okT_eq];unfold Uh at h2⊢;by_cases e:v.kind=8∨v.kind=10
   ·have hf:v.fields=[]:=by rcases u2 with u2|u2<;>first|exact u2|omega
    rw[if_pos e]at h2⊢;rw[hf];refine⟨by simp only[JIB];push_cast;omega,ht,h2,trivial⟩
   ·have hl:v.list=[]:=by rcases u1 with u1|u1<;>first|exact u1|exact absurd u1 e
    rw[if_neg e]at h2⊢;rw[hl];by_cases e9:v.kind=9
    ·rw[if_pos e9]at h2⊢;rw[JEq];exact⟨by simp only[Y4];push_cast;omega,ht,trivial,JK9 (JJh e9 hr) h2⟩
    ·have hf:v.fields=[]:=by rcases u2 with u2|u2<;>first|exact u2|omega
     rw[if_neg e9]at h2⊢;rw[hf];exact⟨by simp only[Y4,JIB];push_cast;omega,ht,trivial,trivial⟩
theorem JQv(h:Zu v=0):szV v≤4096∧okT v:=by
 obtain⟨h1,h2⟩:=JLA 8 0 v h;have h3:=(JJY 8 0 v oM oM h).2;exact⟨oM,h2⟩
end Go.Proofs
namespace Go.Proofs
open Go Av
mutual
def okW:Val→Prop
 |.mk k _ _ _ l f=>(k=10→l.length=1)∧JMB l∧JOK f
def JMB:List Val→Prop
 |[]=>True
 |v::r=>okW v∧JMB r
def JOK:List Fld→Prop
 |[]=>True
 |.mk _ v::r=>okW v∧JOK r
end
theorem JOL(v:Val):okW v↔(v.kind=10→v.list.length=1)∧JMB v.list∧JOK v.fields:=by cases v;rfl
theorem JEr:∀{l:List Val},JMB l→∀x∈l,okW x
 |v::r,h,x,hx=>by
  rcases VA.1 hx with rfl|hx
  ·exact h.1
  ·exact JEr h.2 x hx
theorem JIO:∀{l:List Fld},JOK l→∀x∈l,okW x.value
 |.mk n v::r,h,x,hx=>by
  rcases VA.1 hx with rfl|hx
  ·exact h.1
  ·exact JIO h.2 x hx
theorem JLB:∀{l:List Fld},JMB (l.map Fld.value)→JOK l
 |[],_=>trivial
 |.mk n v::r,h=>⟨h.1,JLB h.2⟩
theorem JIP{f:Int→Val→Int×Int}(hf:∀n v,(f n v).1=0→okW v):∀(l:List Val) (n:Int),(YC f n l).1=0→JMB l
 |[],n,_=>trivial
 |v::r,n,h=>by
  simp only[YC]at h;split at h
  ·rename_i hx;exact absurd h hx
  ·rename_i hx;simp only[ne_eq,Decidable.not_not]at hx;exact⟨hf n v hx,JIP hf r _ h⟩
theorem JOM{v:Val}(e:v.kind=10)(h:UZ v=0):v.list.length=1:=by
 unfold UZ at h;rw[if_neg oM,if_neg oM,if_neg oM,if_neg oM,if_neg oM,if_neg oM,if_neg oM,if_neg oM,if_neg oM]at h;unfold JIH at h;split at h
 ·cases h
 split at h
 ·cases h
 ·rename_i h2;have:=JJg dC h;simp only[beq_iff_eq]at h2;omega
theorem JLC:∀(k:Nat) (n:Int) (v:Val),(XT k n v).1=0→okW v
 |0,n,v,h=>absurd h (JOA _ _)
 |k+1,n,v,h=>by
  simp only[XT]at h;split at h
  ·rename_i hx;exact absurd h hx
  ·rename_i hx;simp only[ne_eq,Decidable.not_not]at hx;obtain⟨hu,hr⟩:=JK8 hx;obtain⟨u1,u2,u3⟩:=JGr hu;have h2:=JIP (JLC k) _ _ h;rw[JOL];refine⟨fun e=>JOM e hr,?_⟩;unfold Uh at h2;by_cases e:v.kind=8∨v.kind=10
   ·have hf:v.fields=[]:=by rcases u2 with u2|u2<;>first|exact u2|omega
    rw[if_pos e]at h2;rw[hf];exact⟨h2,trivial⟩
   ·have hl:v.list=[]:=by rcases u1 with u1|u1<;>first|exact u1|exact absurd u1 e
    rw[if_neg e]at h2;rw[hl];by_cases e9:v.kind=9
    ·rw[if_pos e9]at h2;exact⟨trivial,JLB h2⟩
    ·have hf:v.fields=[]:=by rcases u2 with u2|u2<;>first|exact u2|omega
     rw[hf];exact⟨trivial,trivial⟩
theorem JON{v:Val}(h:Zu v=0):okW v:=JLC 8 0 v h
mutual
def vT:Typ→Prop
 |.mk k _ _ s _ e f=>(1≤k∧k≤10)∧(k=8→e.length=1)∧(k=10→f≠[])∧(0≤s∧s≤12)∧vTs e∧vTf k f
def vTs:List Typ→Prop
 |[]=>True
 |v::r=>vT v∧vTs r
def vTf:Int→List TFl→Prop
 |_,[]=>True
 |k,.mk _ _ d t df::r=>((d=3→df.length=1∧∀x∈df,Zu x=0)∧(k=10→d=1)∧vT t)∧vTf k r
end
theorem JA5(t:Typ):vT t↔(1≤t.kind∧t.kind≤10)∧(t.kind=8→t.elem.length=1)∧(t.kind=10→t.fields≠[])∧(0≤t.scale∧t.scale≤12)∧vTs t.elem∧vTf t.kind t.fields:=by cases t;rfl
theorem JB9:∀{l:List Typ},vTs l→∀x∈l,vT x
 |v::r,h,x,hx=>by
  rcases VA.1 hx with rfl|hx
  ·exact h.1
  ·exact JB9 h.2 x hx
theorem Zi:∀{k:Int} {l:List TFl},vTf k l→∀x∈l,(x.need=3→x.dflt.length=1∧∀y∈x.dflt,Zu y=0)∧(k=10→x.need=1)∧vT x.type
 |k,.mk a n d t df::r,h,x,hx=>by
  rcases VA.1 hx with rfl|hx
  ·exact h.1
  ·exact Zi h.2 x hx
theorem JOO:∀{l:List Typ},(∀x∈l,vT x)→vTs l
 |[],_=>trivial
 |v::r,h=>⟨h _ Vh,JOO fun x hx=>h x (Vn _ hx)⟩
theorem JOP:∀{k:Int} {l:List TFl},(∀x∈l,(x.need=3→x.dflt.length=1∧∀y∈x.dflt,Zu y=0)∧(k=10→x.need=1)∧vT x.type)→vTf k l
 |_,[],_=>trivial
 |_,.mk a n d t df::r,h=>⟨h _ Vh,JOP fun x hx=>h x (Vn _ hx)⟩
theorem JDo:∀(k:Nat) (t:Typ) (v:Val),szT t≤k→vT t→okW v→PT 101 [JH t,JM v] (.d (.bool (JL9 k t v)))
 |0,t,v,h,_,_=>by rw[Yn]at h;omega
 |k+1,t,v,h,ht,hv=>by
  have e:=Yn t;obtain⟨t1,t2,t3,t4,t5,t6⟩:=(JA5 t).1 ht;obtain⟨v1,v2,v3⟩:=(JOL v).1 hv;refine JQr (JL9 k) t v t1 t2 v1 (fun h8 e he x hx=>?_) (fun h9 g hg x hx=>?_) (fun h10 g hg x hx=>?_)
  ·have:=JAQ e he;exact JDo k e x oM (JB9 t5 e he) (JEr v2 x hx)
  ·have:=ZM g hg;exact JDo k g.type x.value oM (Zi t6 g hg).2.2 (JIO v3 x hx)
  ·have:=ZM g hg;exact JDo k g.type x oM (Zi t6 g hg).2.2 (JEr v2 x hx)
def JJi(t:Typ)(v:Val):Bool:=Zu v==0&&JL9 (szT t) t v
theorem walk59(t:Typ)(v:Val)(ht:vT t):PT 59 [JH t,JM v] (.d (.bool (JJi t v))):=by
 refine ok59.pc ?_;have c100:=(JGo v).call trivial;have c101:Zu v=0→CT 101 [.d (JH t),.d (JM v)] [] (.d (.bool (JL9 (szT t) t v))) []:=fun h=>(JDo (szT t) t v (Nat.le_refl _) ht (JON h)).call trivial
 generalize hR:JJi t v=R;unfold JJi at hR;generalize JL9 (szT t) t v=H at*;generalize Zu v=E at*;rw[JI v]at c100 c101;rw[JA t]at c101;rw[JA t,JI v];simp only[go_sem,ir59,simprocAttr];refine wc c100 ?_;refine Jy H (fun h=>?_) ?_
 ·refine zz ?_;refine wc (c101 (sX h)) trivial
 simp only[go_sem,hR,simprocAttr]
end Go.Proofs
namespace Go.Proofs
open Go Av
variable {t:Typ}
theorem JIQ:∀(l:List TFl) (i:Nat),JEn t i l=0→∀(j:Nat) (hj:j<l.length),JEm t (i+j) l[j]=0
 |[],_,_,j,hj=>by simp at hj
 |f::r,i,h,j,hj=>by
  rw[JEn]at h;split at h
  ·rename_i h1;rw[h]at h1;cases h1
  ·rename_i h1;cases j with
   |zero=>simpa using h1
   |succ j=>
    have:=JIQ r (i+1) h j (sX hj);rw[Nat.add_assoc,Nat.add_comm 1 j]at this;simpa using this
theorem JQw(h:JL8 t=0):(t.kind=8→t.elem.length=1)∧(t.kind=10→t.fields≠[])∧t.fields.length≤64∧∀(j:Nat) (hj:j<t.fields.length),JEm t j t.fields[j]=0:=by
 unfold JL8 at h;split at h
 ·cases h
 rename_i h1;split at h
 ·cases h
 rename_i h2;split at h
 ·cases h
 rename_i h3;simp only[Vx,Vi,beq_iff_eq,decide_eq_true_eq,not_or,not_and]at h1 h2 h3;refine⟨fun e=>?_,fun e e2=>?_,oM,fun j hj=>?_⟩
 ·have a:=h1.1 e;have b:=h2 e;omega
 ·have:=h1.2 e;rw[e2]at this;exact this rfl
 ·have:=JIQ t.fields 0 h j hj;rwa[Nat.zero_add]at this
theorem len0{α:Type}{l:List α}(h:¬((l.length:Nat):Int)>0):l=[]:=by
 apply List.eq_nil_of_length_eq_zero;omega
theorem JJj(h:JDb t=0):(1≤t.kind∧t.kind≤10)∧(t.kind=8→t.elem.length=1)∧(t.kind≠8→t.elem=[])∧(t.kind=10→t.fields≠[])∧(t.kind≠9→t.kind≠10→t.fields=[])∧
  (0≤t.scale∧t.scale≤12)∧t.fields.length≤64∧∀(j:Nat) (hj:j<t.fields.length),JEm t j t.fields[j]=0:=by
 unfold JDb at h;split at h
 ·cases h
 rename_i h1;split at h
 ·cases h
 rename_i h2;have hk:1≤t.kind∧t.kind≤10:=by
  simp only[inI,Bool.not_eq_true',Bool.and_eq_false_iff,decide_eq_false_iff_not,not_or]at h1;omega
 have key:JL8 t=0∧(t.kind=3→inI t.scale 0 12=true):=by
  split at h
  ·rename_i h3;simp only[Vi,beq_iff_eq]at h3;split at h
   ·rename_i h4;rw[h]at h4;cases h4
   ·exact⟨h,fun e=>by omega⟩
  ·split at h
   ·cases h
   ·rename_i h4;refine⟨h,fun e=>?_⟩;unfold bndC at h4;rw[e]at h4;simp only[Vx,not_or]at h4;have:=h4.2;simpa[JJc,limA]using this
 obtain⟨o1,o2,o3,o4⟩:=JQw key.1;have hsc:=key.2;unfold JEj at h2;simp only[Vx,Vi,not_or,not_and,bne_iff_ne,ne_eq,Decidable.not_not,decide_eq_true_eq,Bool.not_eq_true',Bool.not_eq_eq_eq_not,Vr]at h2;obtain⟨⟨⟨⟨f1,f2⟩,f3⟩,f4⟩,f5⟩:=h2;have hks:t.kind=1∨t.kind=2∨t.kind=3∨t.kind=4∨t.kind=5∨t.kind=6∨t.kind=7∨t.kind=8∨t.kind=9∨t.kind=10:=oM;refine⟨hk,o1,fun e=>?_,o2,fun e e2=>?_,?_,o3,o4⟩
 ·refine len0 (f4 ?_);rcases hks with h|h|h|h|h|h|h|h|h|h<;>first|omega|(rw[h];rfl)
 ·refine len0 (f5 ?_);rcases hks with h|h|h|h|h|h|h|h|h|h<;>first|omega|(rw[h];rfl)
 ·by_cases e:t.kind=3
  ·have:=hsc e;simp only[inI,Vi,decide_eq_true_eq]at this;omega
  ·have:=f2 (by rcases hks with h|h|h|h|h|h|h|h|h|h<;>first|omega|(rw[h];rfl));omega
def JEs(g:TFl):Val:=(g.dflt[0]?).getD zeroV
def Zq(f:Int→Typ→Int×Int)(t:Typ):Nat→Int→List Typ→Int×Int
 |_,n,[]=>(0,n)
 |i,n,p::r=>
  if((f n p).1 !=0)=true then f n p
  else if((t.kind==9&&(t.fields.getD i tf0).need==3)&& !JJi p (JEs (t.fields.getD i tf0)))=true then(18,(f n p).2)
  else Zq f t (i+1) (f n p).2 r
def Yp:Nat→Int→Typ→Int×Int
 |0,n,t=>if(n==0)=true then(9,n)else(23,n)
 |k+1,n,t=>if(n==0)=true then(9,n)else if(JDb t !=0)=true then(JDb t,n-1)else Zq (Yp k) t 0 (n-1) (U1 t)
theorem JIR{f:Int→Typ→Int×Int}(hf:∀n p,0≤n→(f n p).1=0→vT p∧(f n p).2+szT p=n∧0≤(f n p).2):∀(l:List Typ) (i:Nat) (n:Int),0≤n→(Zq f t i n l).1=0→
  (∀x∈l,vT x)∧(Zq f t i n l).2+JAt l=n∧0≤(Zq f t i n l).2∧∀(j:Nat) (hj:j<l.length),t.kind=9→(t.fields.getD (i+j) tf0).need=3→JJi l[j] (JEs (t.fields.getD (i+j) tf0))=true
 |[],i,n,hn,h=>⟨sP,by simp[Zq,JAt],by simpa[Zq]using hn,fun j hj=>by simp at hj⟩
 |p::r,i,n,hn,h=>by
  rw[Zq]at h⊢;split at h
  ·rename_i h1;rw[h]at h1;cases h1
  rename_i h1;split at h
  ·cases h
  rename_i h2;rw[if_neg h1,if_neg h2];obtain⟨a1,a2,a3⟩:=hf n p hn (sX h1);obtain⟨b1,b2,b3,b4⟩:=JIR hf r (i+1) (f n p).2 a3 h;refine⟨fun x hx=>?_,?_,b3,fun j hj e9 hn3=>?_⟩
  ·rcases VA.1 hx with rfl|hx
   ·exact a1
   ·exact b1 x hx
  ·simp only[JAt];push_cast;omega
  ·cases j with
   |zero=>
    simp only[Nat.add_zero]at hn3⊢;simp only[e9,beq_self_eq_true,Vt,Vi,beq_iff_eq,Bool.not_eq_true',not_and,Bool.not_eq_false]at h2;exact h2 hn3
   |succ j=>
    have:=b4 j (sX hj) e9;rw[Nat.add_assoc,Nat.add_comm 1 j]at this;exact this hn3
theorem JIS:∀l:List TFl,JAt (l.map TFl.type)≤JEo l∧JEo l≤JAt (l.map TFl.type)
 |[]=>by simp[JAt,JEo]
 |.mk a n d t df::r=>by
  have:=JIS r;simp only[Va,JAt,JEo,TFl.type];omega
theorem JOQ{i:Nat}{f:TFl}(h:JEm t i f=0):Xe f.name=true∧(1≤f.need∧f.need≤3)∧(t.kind=10→f.need=1)∧(f.need=3→f.dflt.length=1)∧(f.need≠3→f.dflt=[]):=by
 unfold JEm at h;split at h
 ·cases h
 rename_i h1;split at h
 ·cases h
 split at h
 ·cases h
 split at h
 ·cases h
 rename_i h4;split at h
 ·cases h
 rename_i h5;split at h
 ·cases h
 rename_i h6;simp only[inI,Vx,Vi,Bool.not_eq_true',Bool.and_eq_false_iff,decide_eq_false_iff_not,beq_iff_eq,bne_iff_ne,ne_eq,decide_eq_true_eq,not_or,not_and,Decidable.not_not]at h4 h5 h6;refine⟨by simpa using h1,oM,h4.2,fun e=>?_,fun e=>?_⟩
 ·have:=h5 e;omega
 ·exact len0 (h6.2 e)
theorem JCA:∀(k:Nat) (n:Int) (t:Typ),0≤n→(Yp k n t).1=0→vT t∧(Yp k n t).2+szT t=n∧0≤(Yp k n t).2
 |0,n,t,hn,h=>by
  rw[Yp]at h;split at h<;>cases h
 |k+1,n,t,hn,h=>by
  rw[Yp]at h⊢;split at h
  ·cases h
  rename_i h1;split at h
  ·rename_i h2;rw[show JDb t=0 from h]at h2;cases h2
  rename_i h2;rw[if_neg h1,if_neg h2];obtain⟨o1,o2,o3,o4,o5,o6,o7,o8⟩:=JJj (t:=t) (sX h2);have hn0:n≠0:=sX h1;obtain⟨b1,b2,b3,b4⟩:=JIR (JCA k) (U1 t) 0 (n-1) oM h;have e:=Yn t;have hsz:JAt (U1 t)+1=szT t:=by
   unfold U1;by_cases e8:t.kind=8
   ·rw[if_pos e8,e,o5 oM oM];simp[JEo];omega
   ·rw[if_neg e8,e,o3 e8];by_cases e9:t.kind=9∨t.kind=10
    ·rw[if_pos e9];have:=JIS t.fields;simp[JAt];omega
    ·rw[if_neg e9,o5 oM oM];simp[JAt,JEo]
  refine⟨(JA5 t).2 ⟨o1,o2,o4,o6,?_,?_⟩,oM,b3⟩
  ·by_cases e8:t.kind=8
   ·refine JOO fun x hx=>b1 x ?_
    rw[U1,if_pos e8];exact hx
   ·rw[o3 e8];trivial
  ·by_cases e9:t.kind=9∨t.kind=10
   case neg=>rw[o5 oM oM];trivial
   have hp:U1 t=t.fields.map TFl.type:=by rw[U1,if_neg oM,if_pos e9]
   refine JOP fun x hx=>?_
   obtain⟨j,hj,rfl⟩:=List.getElem_of_mem hx;obtain⟨g1,g2,g3,g4,g5⟩:=JOQ (o8 j hj);refine⟨fun hn3=>⟨g4 hn3,fun y hy=>?_⟩,g3,b1 _ (by rw[hp];exact List.mem_map_of_mem (Vk hj))⟩;have h9:t.kind=9:=by
    rcases e9 with h|h
    ·exact h
    ·have:=g3 h;omega
   have hgd:t.fields.getD j tf0=t.fields[j]:=by rw[List.getD_eq_getElem?_getD,Vl hj];rfl
   have:=b4 j (by rw[hp,Vc];exact hj) h9 (by rw[Nat.zero_add,hgd];exact hn3);rw[Nat.zero_add,hgd]at this;have hl:=g4 hn3;obtain⟨d,hd⟩:=List.length_eq_one_iff.1 hl;rw[hd]at hy;rw[List.mem_singleton.1 hy];unfold JJi JEs at this;rw[hd]at this;simp only[List.getElem?_cons_zero,Vp,Vi,beq_iff_eq]at this;exact this.1
theorem JOR:∀(k:Nat) (n:Int) (t:Typ),k≤8→0≤n→n≤4096→
  KT 36 [.d (JH t),.d (.int .i64 (9-k)),.ref 1000 0] [(1000,.box [.d (.int .i64 n)])] (.d (.int .i64 (Yp k n t).1)) [(1000,.box [.d (.int .i64 (Yp k n t).2)])]
 |0,n,t,hk,h0,h1=>by
  refine Con.Jg JQg.has fun hfit=>?_
  refine JQg.co (k:=false) (Jj (by simp[J6,put,Jc,J0,JN,JT])) trivial ?_;generalize hR:Yp 0 n t=R;rw[Yp]at hR;rw[JA];simp only[go_sem,ir36,Nat.reduceAdd,Nat.reduceEqDiff,Nat.reduceBEq,Nat.reduceLeDiff,reduceCtorEq,↓reduceIte];apply ik<;>intro h
  ·rw[if_pos h]at hR;subst hR;exact zz trivial
  ·rw[if_neg (nF h)]at hR;subst hR;have h9:decide ((9:Int)-((0:Nat):Int)>8)=true:=dC;simp only[go_sem,h9,Nat.reduceAdd,Nat.reduceEqDiff,Nat.reduceBEq,Nat.reduceLeDiff,reduceCtorEq,↓reduceIte]
 |k+1,n,t,hk,h0,h1=>by
  refine Con.Jg JQg.has fun hfit=>?_
  obtain⟨hw,he,hf⟩:=Y5 (hfit (JH t) sP);refine JQg.co (k:=false) (Jj (by simp[J6,put,Jc,J0,JN,JT])) trivial ?_;have c57:=(walk57 t).call trivial;have c58:=(walk58 t hf).call trivial;generalize hR:Yp (k+1) n t=R;rw[Yp]at hR;have hown:= @JJj t;have h9:decide ((9:Int)-((k+1:Nat):Int)>8)=false:=sO;rw[JA t]at c57 c58;rw[JA];simp only[go_sem,ir36,Nat.reduceAdd,Nat.reduceEqDiff,Nat.reduceBEq,Nat.reduceLeDiff,reduceCtorEq,↓reduceIte];apply ik<;>intro h
  ·rw[if_pos h]at hR;subst hR;exact zz trivial
  rw[if_neg (nF h)]at hR;have hn0:n≠0:=sX h;have hw1:IntKind.i64.wrap (n-1)=n-1:=wrap64 oM oM;clear h;simp only[go_sem,h9,hw1,Nat.reduceAdd,Nat.reduceEqDiff,Nat.reduceBEq,Nat.reduceLeDiff,reduceCtorEq,↓reduceIte];refine wn c57 ?_;refine zz1 ?_;apply ik<;>intro h
  ·rw[if_pos h]at hR;subst hR;exact zz1 trivial
  rw[if_neg (nF h)]at hR;obtain⟨o1,o2,o3,o4,o5,o6,o7,o8⟩:=hown (sX h);clear h hown
  try refine zz1 ?_
  refine wn c58 ?_;refine zz1 ?_;have hpl:(U1 t).length≤68719476736:=by
   unfold U1;split
   ·exact he
   split
   ·rw[Vc];exact hf
   ·exact Nat.zero_le _
  have hp9:t.kind=9→(U1 t).length=t.fields.length:=by
   intro e9;rw[U1,if_neg oM,if_pos (.inl e9),Vc]
  generalize U1 t=ps at*;refine JJ (fun r s=>∃(j:Nat) (m:Int),j≤ps.length∧r=ps.length-j∧0≤m∧m≤4096∧Zq (Yp k) t j m (ps.drop j)=R∧
   s=⟨[(1,.d (.int .i64 (9-((k+1:Nat):Int)))),(2,.ref 1000 0),(3,.ref 3 0),(30,.d (.list 7 (ps.map JH))),(31,.d (.int .i64 ps.length)),(32,.d (.int .i64 j))],
    [(1000,.box [.d (.int .i64 m)]),(3,.box [.d (.int .i64 t.kind),.d (.int .i64 t.min),.d (.int .i64 t.max),.d (.int .i64 t.scale),.d (.list 1 (t.words.map .str)),.d (.list 7 (t.elem.map JH)),.d (.list 11 (t.fields.map Jn))])]⟩) ?_ ?_
  ·exact⟨_,_,Wk.refl _,0,n-1,Nat.zero_le _,rfl,oM,oM,hR,rfl⟩
  ·clear hR;rintro r s ⟨j,m,hj,rfl,hm0,hm1,hinv,rfl⟩;by_cases hlt:j<ps.length
   ·have hx:=YA hlt;have hd:=dT hlt;have hwl:IntKind.i64.wrap (9-((k+1:Nat):Int)+1)=9-k:=by rw[wrap64 oM oM];push_cast;omega
    have hc:=(JOR k m ps[j] oM hm0 hm1).cnt (ds:=[JH ps[j],.int .i64 (9-k)]) 1000;have hok:=JCA k m ps[j] hm0;rw[Vq hlt,Zq]at hinv;have c59:=fun(h:vT ps[j])=>(walk59 ps[j] (JEs (t.fields.getD j tf0)) h).call trivial
    have hfd:t.kind=9→∃h:j<t.fields.length,t.fields.getD j tf0=t.fields[j]:=by
     intro e9;have:=hp9 e9;exact⟨oM,by rw[List.getD_eq_getElem?_getD,Vl oM];rfl⟩
    generalize hX:Yp k m ps[j]=X at*;generalize hB:JJi ps[j] (JEs (t.fields.getD j tf0))=B at*;simp only[Va,Vb,List.cons_append,List.nil_append]at hc;rw[JA]at hc c59;simp only[go_sem,hx,hd,hwl,Vv,Vc,Nat.reduceAdd,Nat.reduceEqDiff,Nat.reduceBEq,Nat.reduceLeDiff,reduceCtorEq,↓reduceIte];refine⟨oM,wn hc ?_⟩;refine zz1 ?_;apply ik<;>intro h
    ·rw[if_pos h]at hinv;subst hinv;exact zz1 trivial
    rw[if_neg (nF h)]at hinv;obtain⟨w1,w2,w3⟩:=hok (sX h);clear h hok
    try refine zz1 ?_
    refine Jy ((t.fields.getD j tf0).need==3) (fun h=>?_) ?_
    ·obtain⟨hjf,hgd⟩:=hfd (sX h);have hx2:=Ug hjf;simp only[go_sem,hgd,hx2,Vv,Vc,Nat.reduceAdd,Nat.reduceEqDiff,Nat.reduceBEq,Nat.reduceLeDiff,reduceCtorEq,↓reduceIte];omega
    refine zz1 ?_;refine Jy (!B) (fun h=>?_) ?_
    ·simp only[Vi,beq_iff_eq]at h;obtain⟨hjf,hgd⟩:=hfd h.1;have hx2:=Ug hjf;have hn3:=h.2;rw[hgd]at hn3;have hl1:=(JOQ (o8 j hjf)).2.2.2.1 hn3;have h0:0<t.fields[j].dflt.length:=oM;have hx3:=Uf h0;have hc2:=c59 w1;rw[hgd]at hc2;have hdf:JEs t.fields[j]=t.fields[j].dflt[0]:=by rw[JEs,Vl h0];rfl
     rw[hdf,JI]at hc2;simp only[go_sem,hx2,hx3,Vv,Int.toNat_zero,Vc,Nat.reduceAdd,Nat.reduceEqDiff,Nat.reduceBEq,Nat.reduceLeDiff,reduceCtorEq,↓reduceIte];refine⟨oM,oM,⟨oM,oM⟩,wn hc2 ?_⟩;exact zz1 trivial
    refine zz1 ?_;apply ik<;>intro h
    ·rw[if_pos h]at hinv;subst hinv;exact zz1 trivial
    rw[if_neg (nF h)]at hinv;clear h;refine⟨ps.length-(j+1),_,oM,Wk.less ?_,j+1,X.2,oM,rfl,w3,oM,hinv,rfl⟩;exact JLp trivial
   ·have hd:=dF hlt;rw[List.drop_eq_nil_of_le oM,Zq]at hinv;subst hinv;exact zz5 trivial
end Go.Proofs
namespace Go.Proofs
open Go Av
open Av.Y
def JJk:Ic:=S
def JGs:Ic:=D (.block 1<|R (ol 8 3<|oi 9 .add 8 1<|os 3 9<|N) [2,3,5,6,7,8,9]) [2,3,5,6,7,8,9]
noncomputable def ir102:Ic:=q (R (ox 1 0<|oz 2 0<|N) [0])<|q (.reg (oN 3 [.int .i64 0]<|on (.sto none (t 3) (i 0))<|N))<|q (q (R (oL 4 6 1<|cl 5 157 [t 4]<|N) [1,4])<|D (.block 0<|D (.rng (t 5) 11 17 #[6,7] (Y3 (YG Tryz.f102) [1,1,0,1,0,0]) (Y3 (YG Tryz.f102) [1,1,0,1,0,1]) JJk JGs) [2,5]) [2,5])<|q (R (ol 10 3<|om 2 10<|N) [3,10])<|.ret
theorem ok102:FT 102 11 ir102 [.tmp 2]:=.o Tryz.func102
end Go.Proofs
namespace Go.Proofs
open Go Av
variable {c:Dat}{n:Int}
def JCB:Nat→Val→Nat
 |0,_=>0
 |k+1,v=>1+((Uh v).map (JCB k)).sum
theorem JIT(v:Val):Y4 (Uh v)+1≤szV v:=by
 have e:=JGi v;unfold Uh;split
 ·omega
 split
 ·rw[←JEq];omega
 ·simp only[Y4];omega
theorem JOS{f:Val→Nat}(hf:∀v,f v≤szV v):∀l:List Val,(l.map f).sum≤Y4 l
 |[]=>by simp
 |v::r=>by
  have:=hf v;have:=JOS hf r;simp only[Va,List.sum_cons,Y4];omega
theorem JLD:∀(k:Nat) (v:Val),JCB k v≤szV v
 |0,v=>Nat.zero_le _
 |k+1,v=>by
  have:=JOS (JLD k) (Uh v);have:=JIT v;rw[JCB];omega
noncomputable def lpS(tm:List (Nat×Av))(s:LoopState)(j:Option Code):Lp:=⟨tm,11,#[6,7],Y3 (YG Tryz.f102) [1,1,0,1,0,0],Y3 (YG Tryz.f102) [1,1,0,1,0,1],s,j⟩
def tmS(c:Dat):List (Nat×Av):=[(2,.d (.int .i64 0)),(3,.ref 1003 0),(5,.d c)]
noncomputable abbrev TS(c:Dat)(n:Int):List (Nat×Av.Obj):=[(1000,.lp (lpS (tmS c) .ready none)),(1003,.box [.d (.int .i64 n)])]
theorem JGt(c:Dat)(n:Int):closed (get (TS c n)):=by
 refine U4 ?_;simp[TS,Jc,J0,JN,JT,Xa,tmS,lpS,Av.get]
theorem ZN(c:Dat)(n m:Int):closed (JB (get (TS c n)) (TS c m)):=by
 refine Jj ?_;simp[TS,J6,put,Jc,J0,JN,JT,Xa,tmS,lpS,Av.get]
theorem JJl{i:Nat}(h:(get (TS c n) i).isSome=true):i=1000∨i=1003:=by
 simp only[TS,Av.get]at h;split at h
 ·rename_i e;exact .inl e.symm
 ·split at h
  ·rename_i e;exact .inr e.symm
  ·cases h
theorem JLE{m:Int}{i:Nat}(h:(JB (get (TS c n)) (TS c m) i).isSome=true):i=1000∨i=1003:=by
 simp only[TS,JB,upd]at h;split at h
 ·exact .inr (by assumption)
 ·split at h
  ·exact .inl (by assumption)
  ·exact JJl h
theorem JOT(c:Dat)(n level:Int)(v:Val)(h0:0≤n)(h1:n≤1000000000000):
  JFC Tryz.prog 1000 [.d (.int .i64 level),.d (JM v)] (TS c n) (.d (.bool true)) (TS c (n+1)):=by
 refine JFC.JAp (asg:=JJk) (body:=JGs) rfl rfl kR kR rfl (show∀p∈[6,7],p<11 by decide) (ZN c n _) ?_;have hw:IntKind.i64.wrap (n+1)=n+1:=wrap64 oM oM;generalize hD:(fun i=>(get (TS c n) i).isSome=true)=D;generalize hK:JCV 1000 (TS c n) D (.d (.bool true)) _=K;have leaf:K .normal ⟨[],[(1000,.lp (lpS (tmS c) .busy none)),(1003,.box [.d (.int .i64 (n+1))])]⟩:=by
  rw[←hK,←hD];refine⟨_,_,rfl,rfl,⟨[],[(1000,.lp (lpS (tmS c) .ready none)),(1003,.box [.d (.int .i64 (n+1))])]⟩,Wk.less ?_,?_⟩
  ·simp[put,tmS,lpS,go_sem]
  ·intro i o h;rw[←h,←Jr];simp[J6,put]
 clear hK hD;simp only[TS,lpS,tmS,JJk,JGs,hw,go_sem,simprocAttr];exact⟨_,rfl,rfl,leaf⟩
theorem JOU(c:Dat)(n level:Int)(v:Val)(h0:0≤n)(h1:n≤1000000000000):
  CT .yld [.mp 1000,.d (.int .i64 level),.d (JM v)] ((TS c n).map fun x=>(x.1,some x.2)) (.d (.bool true)) (TS c (n+1)):=by
 have:=(JOT c n level v h0 h1).call (fun i=>i) ⟨_,rfl⟩ (fun i j _ _ h=>h) (by simp[JT]) (JGt c n) [] (by simp[Av.get]) (ZN c n _) trivial;simp only[TS,Va,Vb]at this;simp only[TS,Va,Vb,Obj.ren,Av.ren,J7,Zh,lpS,tmS,X0,List.append_nil]at this⊢;exact this
theorem JIU{level m:Int}{v:Val}(h:KT 222 [.d (JM v),.d (.int .i64 level),.mp 1000] (TS c n) (.d (.bool true)) (TS c m)):
  CT 222 [.d (JM v),.d (.int .i64 level),.mp 1000] ((TS c n).map fun x=>(x.1,some x.2)) (.d (.bool true)) (TS c m):=by
 have:=h.call (fun i=>i) (fun i hi=>by rcases JJl hi with rfl|rfl<;>decide) (fun i j _ _ h=>h) (by simp[JT,Av.get]) (JGt c n) [] (by simp[Av.get]) (ZN c n _) trivial;simp only[TS,Va,Vb]at this;simp only[TS,Va,Vb,Obj.ren,Av.ren,J7,Zh,lpS,tmS,X0,List.append_nil]at this⊢;exact this
theorem JIV(c:Dat):∀(k:Nat) (level n:Int) (v:Val),szV v≤k→0≤level→level+k≤1000000000000→0≤n→n+szV v≤1000000000000→
  KT 222 [.d (JM v),.d (.int .i64 level),.mp 1000] (TS c n) (.d (.bool true)) (TS c (n+JCB k v))
 |0,level,n,v,h,_,_,_,_=>by have:=JGi v;omega
 |k+1,level,n,v,h,hl,hlk,h0,h1=>by
  refine Con.Jg JIE.has fun hfit=>?_
  obtain⟨_,f2,f3,_⟩:=JJV (hfit (JM v) sP);have hps:=JIT v;generalize hF:n+(JCB (k+1) v:Int)=F;rw[JCB]at hF;refine JIE.co (k:=false) (ZN c n _) trivial ?_;have hy:=JOU c n level v h0 oM;have h217:=(JKx v f3).call trivial;have hpl:=JEe v f2 f3;rw[JI]at hy h217⊢;simp only[TS,go_sem,JKw,simprocAttr];refine wn hy ?_;refine zz19 ?_;refine wc h217 ?_;clear h217 hy hfit;generalize hP:Uh v=ps at*;simp only[Vc];refine JJ (fun r s=>∃(j:Nat) (m:Int),j≤ps.length∧r=ps.length-j∧0≤m∧m+Y4 (ps.drop j)≤1000000000000∧m+(((ps.drop j).map (JCB k)).sum:Nat)=F∧
   s=⟨[(1,.d (.int .i64 level)),(2,.mp 1000),(15,.d (.list 6 (ps.map JM))),(16,.d (.int .i64 ps.length)),(17,.d (.int .i64 j))],
    [(1000,.lp (lpS (tmS c) .ready none)),(1003,.box [.d (.int .i64 m)])]⟩) ?_ ?_
  ·refine⟨_,_,Wk.less ?_,0,n+1,Nat.zero_le _,rfl,oM,by rw[List.drop_zero];omega,by rw[←hF,List.drop_zero];push_cast;omega,rfl⟩;simp[go_sem,lpS,tmS]
  ·rintro r s ⟨j,m,hj,rfl,hm0,hm1,hinv,rfl⟩;by_cases hlt:j<ps.length
   ·have hx':=Uf hlt;have hd:=dT hlt;have hw:IntKind.i64.wrap (level+1)=level+1:=wrap64 oM oM;rw[Vq hlt,Y4]at hm1;rw[Vq hlt,Va,List.sum_cons]at hinv;have hmem:szV ps[j]≤k:=by
     have:szV ps[j]≤Y4 ps:=JIC (Vk hlt);omega
    have hc:=JIU (JIV c k (level+1) m ps[j] hmem oM (by push_cast at hlk;omega) hm0 (by push_cast at hm1;omega));have hle:=JLD k ps[j];generalize JCB k ps[j]=V at*;rw[JI]at hc;refine zz38 ?_;refine⟨oM,wn hc ?_⟩;refine zz19 ?_;refine⟨ps.length-(j+1),_,oM,Wk.less ?_,j+1,m+V,oM,rfl,oM,by push_cast at hm1;omega,by rw[←hinv];push_cast;omega,rfl⟩;simp[go_sem,JS j oM,lpS,tmS]
   ·have hd:=dF hlt;obtain rfl:j=ps.length:=oM;rw[List.drop_length]at hinv;simp only[Vb,List.sum_nil]at hinv;obtain rfl:m=F:=oM;exact zz5 trivial
theorem JOV(v:Val)(c:Dat)(hv:szV v≤1000000):KT 221 [.mp 1000,.d (.ptr (JM v).cells)] (TS c 0) (.tup []) (TS c (0+JCB (szV v) v)):=by
 refine JID.co (k:=false) (ZN c 0 _) trivial ?_;have hc:=JIU (JIV c (szV v) 1 0 v (Nat.le_refl _) dC oM dC oM);generalize JCB (szV v) v=V at*;rw[JI]at hc⊢;simp only[TS,go_sem,JN7,simprocAttr];refine wc hc trivial
noncomputable def lp358(c:Dat):Av.Obj:=.lp ⟨[(2,.d (.int .i64 0)),(3,.ref 3 0),(5,.d c)],11,#[6,7],Y3 (YG Tryz.f102) [1,1,0,1,0,0],Y3 (YG Tryz.f102) [1,1,0,1,0,1],.ready,none⟩
theorem JOW(v:Val)(c:Dat)(hv:szV v≤1000000):
  CT 221 [.mp 17,.d (.ptr (JM v).cells)] [(17,some (lp358 c)),(3,some (.box [.d (.int .i64 0)]))] (.tup []) [(17,lp358 c),(3,.box [.d (.int .i64 (0+JCB (szV v) v))])]:=by
 have:=(JOV v c hv).call (fun i=>if i=1000 then 17 else i-1000) (fun i hi=>by rcases JJl hi with rfl|rfl<;>decide)
  (fun i j hi hj h=>by rcases JLE hi with rfl|rfl<;>rcases JLE hj with rfl|rfl<;>first|rfl|simp at h) (by simp[JT,Av.get]) (JGt c 0) [] (by simp[Av.get]) (ZN c 0 _) trivial
 simp only[TS,Va,Vb]at this;simp only[Obj.ren,Av.ren,J7,lpS,tmS,X0,List.append_nil,Nat.reduceSub,simprocAttr]at this;exact this
theorem JQx(v:Val)(hv:szV v≤1000000):PT 102 [JM v] (.d (.int .i64 (JCB (szV v) v))):=by
 refine ok102.pc ?_;have h91:=(JKy v).call trivial;have h180:=JOW v (.fn (.func 221) [] [.ptr (JM v).cells]) hv;rw[Int.zero_add]at h180;generalize JCB (szV v) v=V at*;rw[JI]at h91 h180⊢;simp only[go_sem,ir102,simprocAttr];refine wc h91 ?_;refine JGn rfl rfl JID.has h180 ⟨rfl,rfl,trivial⟩ rfl sP (.inl ⟨rfl,?_⟩);exact zz trivial
end Go.Proofs
namespace Go.Proofs
open Go Av
abbrev w64(n:Int):Int:=IntKind.i64.wrap n
def szD(g:TFl):Int:=(JCB (szV (JEs g)) (JEs g):Nat)
def lsR(f:Typ→Int):Int→List TFl→Int
 |n,[]=>n
 |n,g::r=>lsR f (if g.need=1 then w64 (n+f g.type)else if g.need=3 then w64 (n+szD g)else n) r
def lsB(f:Typ→Int)(t:Typ):Int:=
 if t.kind=8 then(if decide (t.min>0)=true then w64 (1+w64 (t.min*f ((t.elem[0]?).getD ty0)))else 1)
 else if t.kind=10 then w64 (1+f ((t.fields[0]?).getD tf0).type)
 else if t.kind=9 then lsR f 1 t.fields else 1
def lsF:Nat→Typ→Int
 |0,_=>0
 |k+1,t=>if 4097<lsB (lsF k) t then 4097 else lsB (lsF k) t
theorem JJm:∀(k:Nat) (t:Typ),szT t≤k→vT t→PT 60 [JH t] (.d (.int .i64 (lsF k t)))
 |0,t,h,_=>by rw[Yn]at h;omega
 |k+1,t,h,ht=>by
  refine J3.Jg ok60.has fun hfit=>?_
  obtain⟨hw,he,hf⟩:=Y5 (hfit (JH t) sP);have e:=Yn t;obtain⟨t1,t2,t3,t4,t5,t6⟩:=(JA5 t).1 ht;refine ok60.pc ?_;generalize hR:lsF (k+1) t=R;rw[lsF]at hR;have cE:∀x∈t.elem,CT 60 [.d (JH x)] [] (.d (.int .i64 (lsF k x))) []:=fun x hx=>(JJm k x (by have:=JAQ x hx;omega) (JB9 t5 x hx)).call trivial
  have cG:∀g∈t.fields,CT 60 [.d (JH g.type)] [] (.d (.int .i64 (lsF k g.type))) []:=fun g hg=>(JJm k g.type (by have:=ZM g hg;omega) (Zi t6 g hg).2.2).call trivial
  have hD:=fun g (hg:g∈t.fields)=>(Zi t6 g hg).1
  generalize hB:lsB (lsF k) t=B at*;unfold lsB at hB;rw[JA];have hks:t.kind=8∨t.kind=9∨t.kind=10∨(t.kind≠8∧t.kind≠9∧t.kind≠10):=oM;rcases hks with hk|hk|hk|⟨k8,k9,k10⟩
  ·rw[if_pos hk]at hB;have hl:=t2 hk;have h0:0<t.elem.length:=oM;have hx:=YA h0;rw[Vl h0,Vp]at hB;have c:=cE t.elem[0] (Vk h0);generalize lsF k t.elem[0]=X at*;rw[JA]at c;simp only[go_sem,JOH,hk,hx,Int.reduceBEq,Int.toNat_zero,Vc,Nat.reduceAdd,Nat.reduceEqDiff,Nat.reduceBEq,Nat.reduceLeDiff,reduceCtorEq,↓reduceIte];apply ik<;>intro h
   ·rw[if_pos h]at hB;subst hB;subst hR;refine⟨oM,JE rfl c trivial ?_⟩;refine zz ?_;decide
   ·rw[if_neg (nF h)]at hB;subst hB;subst hR
    try refine zz ?_
    exact zf
  ·rw[if_neg oM,if_neg oM,if_pos hk]at hB;have e8:(t.kind==8)=false:=by rw[hk];rfl
   have e9:(t.kind==9)=true:=by rw[hk];rfl
   have e10:(t.kind==10)=false:=by rw[hk];rfl
   simp only[go_sem,JOH,e8,e9,e10,Vc,Nat.reduceAdd,Nat.reduceEqDiff,Nat.reduceBEq,Nat.reduceLeDiff,reduceCtorEq,↓reduceIte];refine JJ (fun n s=>∃(j:Nat) (m:Int),j≤t.fields.length∧n=t.fields.length-j∧lsR (lsF k) m (t.fields.drop j)=B∧
    s=⟨[(3,.d (.int .i64 m)),(36,.d (.list 11 (t.fields.map Jn))),(37,.d (.int .i64 t.fields.length)),(38,.d (.int .i64 j))],[]⟩) ?_ ?_
   ·refine⟨_,_,Wk.less ?_,0,1,Nat.zero_le _,rfl,hB,rfl⟩;simp[put,go_sem]
   ·clear hB;rintro n s ⟨j,m,hj,rfl,hinv,rfl⟩;by_cases hlt:j<t.fields.length
    ·have hx:=Ug hlt;have hd:=dT hlt;have hmem:=Vk hlt;rw[Vq hlt,lsR]at hinv;have c:=cG t.fields[j] hmem;have hd3:=hD t.fields[j] hmem;generalize t.fields[j]=g at*;generalize lsF k g.type=X at*;rw[JA]at c;refine zz6 ?_;refine⟨oM,⟨fun h=>?_,fun h=>⟨fun h2=>?_,fun h2=>?_⟩⟩⟩
     ·rw[if_pos (sX h)]at hinv;refine wc c ?_;refine⟨t.fields.length-(j+1),_,oM,Wk.less ?_,j+1,_,oM,rfl,hinv,rfl⟩;exact JLp trivial
     ·rw[if_neg (sX h),if_pos (sX h2)]at hinv;obtain⟨q1,q2⟩:=hd3 (sX h2);have h0:0<g.dflt.length:=oM;have hx3:=Uf h0;have hdf:JEs g=g.dflt[0]:=by rw[JEs,Vl h0];rfl
      have hsz:=(JQv (q2 _ (Vk h0))).1;have cs:=(JQx g.dflt[0] oM).call trivial;unfold szD at hinv;rw[hdf]at hinv;rw[JI]at cs;simp only[go_sem,hx3,Int.toNat_zero,Vc,Nat.reduceAdd,Nat.reduceEqDiff,Nat.reduceBEq,Nat.reduceLeDiff,reduceCtorEq,↓reduceIte];refine⟨oM,wn cs ?_⟩;refine zz ?_;refine⟨t.fields.length-(j+1),_,oM,Wk.less ?_,j+1,_,oM,rfl,hinv,rfl⟩;exact JLp trivial
     ·rw[if_neg (sX h),if_neg (sX h2)]at hinv
      try refine zz ?_
      refine⟨t.fields.length-(j+1),_,oM,Wk.less ?_,j+1,_,oM,rfl,hinv,rfl⟩;exact JLp trivial
    ·have hd:=dF hlt;rw[List.drop_eq_nil_of_le oM,lsR]at hinv;subst hinv;subst hR;exact zz5 trivial
  ·rw[if_neg oM,if_pos hk]at hB;have hne:=t3 hk;have h0:0<t.fields.length:=List.length_pos_iff.2 hne;have hx:=Ug h0;rw[Vl h0,Vp]at hB;have c:=cG t.fields[0] (Vk h0);generalize lsF k t.fields[0].type=X at*;rw[JA]at c;have e8:(t.kind==8)=false:=by rw[hk];rfl
   have e10:(t.kind==10)=true:=by rw[hk];rfl
   simp only[go_sem,JOH,e8,e10,hx,Int.toNat_zero,Vc,Nat.reduceAdd,Nat.reduceEqDiff,Nat.reduceBEq,Nat.reduceLeDiff,reduceCtorEq,↓reduceIte];subst hB;subst hR;refine⟨⟨oM,oM⟩,wn c ?_⟩;exact zz trivial
  ·rw[if_neg k8,if_neg k10,if_neg k9]at hB;have e8:(t.kind==8)=false:=sX k8;have e9:(t.kind==9)=false:=sX k9;have e10:(t.kind==10)=false:=sX k10;subst hB;subst hR;simp only[go_sem,JOH,e8,e9,e10,Nat.reduceAdd,Nat.reduceEqDiff,Nat.reduceBEq,Nat.reduceLeDiff,reduceCtorEq,↓reduceIte]
   try rfl
def gsR(f:Typ→Int):Int→List Typ→Int
 |n,[]=>n
 |n,x::r=>gsR f (if f x>n then f x else n) r
def gsF:Nat→Typ→Int
 |0,_=>0
 |k+1,t=>gsR (gsF k) (gsR (gsF k) (lsF (szT t) t) t.elem) (t.fields.map TFl.type)
theorem JJn:∀(k:Nat) (t:Typ),szT t≤k→vT t→PT 37 [JH t] (.d (.int .i64 (gsF k t)))
 |0,t,h,_=>by rw[Yn]at h;omega
 |k+1,t,h,ht=>by
  refine J3.Jg ok37.has fun hfit=>?_
  obtain⟨hw,he,hf⟩:=Y5 (hfit (JH t) sP);have e:=Yn t;obtain⟨t1,t2,t3,t4,t5,t6⟩:=(JA5 t).1 ht;refine ok37.pc ?_;generalize hR:gsF (k+1) t=R;rw[gsF]at hR;have c0:=(JJm (szT t) t (Nat.le_refl _) ht).call trivial;have cE:∀x∈t.elem,CT 37 [.d (JH x)] [] (.d (.int .i64 (gsF k x))) []:=fun x hx=>(JJn k x (by have:=JAQ x hx;omega) (JB9 t5 x hx)).call trivial
  have cG:∀g∈t.fields,CT 37 [.d (JH g.type)] [] (.d (.int .i64 (gsF k g.type))) []:=fun g hg=>(JJn k g.type (by have:=ZM g hg;omega) (Zi t6 g hg).2.2).call trivial
  generalize lsF (szT t) t=L at*;rw[JA]at c0;rw[JA];simp only[go_sem,ir37,Vc,simprocAttr];refine wn c0 ?_;refine zz4 ?_;refine JJ (fun n s=>∃(j:Nat) (m:Int),j≤t.elem.length∧n=t.elem.length-j∧gsR (gsF k) (gsR (gsF k) m (t.elem.drop j)) (t.fields.map TFl.type)=R∧
   s=⟨[(1,.ref 1 0),(3,.d (.int .i64 m)),(11,.d (.list 7 (t.elem.map JH))),(12,.d (.int .i64 t.elem.length)),(13,.d (.int .i64 j))],[(1,.box [.d (.int .i64 t.kind),.d (.int .i64 t.min),.d (.int .i64 t.max),.d (.int .i64 t.scale),.d (.list 1 (t.words.map .str)),.d (.list 7 (t.elem.map JH)),.d (.list 11 (t.fields.map Jn))])]⟩) ?_ ?_
  ·exact⟨_,_,Wk.refl _,0,L,Nat.zero_le _,rfl,hR,rfl⟩
  ·clear hR c0;rintro n s ⟨j,m,hj,rfl,hinv,rfl⟩;by_cases hlt:j<t.elem.length
   ·have hx:=YA hlt;have hd:=dT hlt;rw[Vq hlt,gsR]at hinv;have c:=cE t.elem[j] (Vk hlt);generalize gsF k t.elem[j]=X at*;rw[JA]at c;refine zz6 ?_;refine⟨oM,wn c ?_⟩;refine zz ?_;refine⟨t.elem.length-(j+1),_,oM,Wk.less ?_,j+1,_,oM,rfl,hinv,rfl⟩;exact JLp trivial
   ·have hd:=dF hlt;rw[List.drop_eq_nil_of_le oM,gsR]at hinv;refine zz22 ?_;refine JJ (fun n s=>∃(j:Nat) (m:Int),j≤t.fields.length∧n=t.fields.length-j∧gsR (gsF k) m ((t.fields.drop j).map TFl.type)=R∧
     s=⟨[(3,.d (.int .i64 m)),(23,.d (.list 11 (t.fields.map Jn))),(24,.d (.int .i64 t.fields.length)),(25,.d (.int .i64 j))],[]⟩) ?_ ?_
    ·refine⟨_,_,Wk.less ?_,0,m,Nat.zero_le _,rfl,hinv,rfl⟩;simp[put,go_sem]
    ·clear hinv;rintro n s ⟨j,m,hj,rfl,hinv,rfl⟩;by_cases hlt:j<t.fields.length
     ·have hx:=Ug hlt;have hd:=dT hlt;rw[Vq hlt,Va,gsR]at hinv;have c:=cG t.fields[j] (Vk hlt);generalize gsF k t.fields[j].type=X at*;rw[JA]at c;refine zz6 ?_;refine⟨oM,wn c ?_⟩;refine zz ?_;refine⟨t.fields.length-(j+1),_,oM,Wk.less ?_,j+1,_,oM,rfl,hinv,rfl⟩;exact JLp trivial
     ·have hd:=dF hlt;rw[List.drop_eq_nil_of_le oM,Vb,gsR]at hinv;subst hinv;exact zz5 trivial
def Uw(t:Typ):Int:=if((Yp 8 4096 t).1 !=0)=true then(Yp 8 4096 t).1 else if decide (gsF (szT t) t>4096)=true then 9 else 0
theorem JCn(t:Typ):PT 23 [JH t] (.d (.int .i64 (Uw t))):=by
 refine ok23.pc ?_;have hc:=(JOR 8 4096 t dC dC dC).cnt (ds:=[JH t,.int .i64 1]) 3;have hok:=JCA 8 4096 t dC;have hg:=fun h=>(JJn (szT t) t (Nat.le_refl _) h).call trivial
 generalize hR:Uw t=R;unfold Uw at hR;generalize Yp 8 4096 t=X at*;generalize gsF (szT t) t=G at*;simp only[Va,Vb,List.cons_append,List.nil_append]at hc;rw[JA]at hc hg;rw[JA];simp only[go_sem,ir23,simprocAttr];refine wc hc ?_;apply ik<;>intro h
 ·rw[if_pos h]at hR;subst hR;exact zz trivial
 rw[if_neg (nF h)]at hR;obtain⟨a,b,c⟩:=hok (sX h);clear h
 try refine zz ?_
 refine wc (hg a) ?_;apply ik<;>intro h
 ·rw[if_pos h]at hR;subst hR;rfl
 ·rw[if_neg (nF h)]at hR;subst hR;rfl
end Go.Proofs
namespace Go.Proofs
open Go Av
variable {t:Typ}
def Y7:Typ:=.mk 0 0 0 0 [] [] []
theorem Y8:JH Y7=.agg [.int .i64 0,.int .i64 0,.int .i64 0,.int .i64 0,.list 1 [],.list 7 [],.list 11 []]:=by rw[JA];rfl
theorem JOX{n:Str}(h:vT t)(h2:(UY t n).2=true):vT (UY t n).1.type:=by
 unfold UY at*;split at h2
 ·cases h2
 rename_i hk;rw[if_neg hk];exact(Zi ((JA5 t).1 h).2.2.2.2.2 _ (JK7 h2)).2.2
def plK(p:Part):Prop:=p.kind=1∨p.kind=4
def stS(t:Typ)(p:Part):Option Typ:=if((p.kind==1)==(t.kind==9)&&(UY t p.name).2)=true then some (UY t p.name).1.type else none
def atS:Typ→List Part→Option Typ
 |t,[]=>some t
 |t,p::r=>match stS t p with
  |some T=>atS T r
  |none=>none
def okA(o:Option Typ)(x:Typ×Bool×Int):Prop:=(x.2.2=0∧o=some x.1)∨(x.2.2≠0∧o=none)
theorem fldR_k{n:Str}(h:(UY t n).2=true):t.kind=9∨t.kind=10:=by
 unfold UY at h;split at h
 ·cases h
 ·omega
theorem ex246(t:Typ)(p:Part)(ht:vT t)(hp:UI p=true):∃x:Typ×Bool×Int,((x.2.2=0→vT x.1)∧(plK p→okA (stS t p) x))∧PT 197 [JH t,Ja p] (.tup [.d (JH x.1),.d (.bool x.2.1),.d (.int .i64 x.2.2)]):=by
 refine ok197.pex (fun x:Typ×Bool×Int=>.tup [.d (JH x.1),.d (.bool x.2.1),.d (.int .i64 x.2.2)]) (fun x=>(x.2.2=0→vT x.1)∧(plK p→okA (stS t p) x)) (Nat.le_of_ble_eq_true rfl) (fun _ _=>by simp[Uv,JT,JN]) ?_;have hk:p.kind=1∨p.kind=2∨p.kind=3∨p.kind=4:=by
  unfold UI at hp;split at hp
  ·omega
  split at hp
  ·omega
  split at hp
  ·omega
  ·cases hp
 obtain⟨v1,v2,v3,v4,v5,v6⟩:=(JA5 t).1 ht;have hE:∀h:t.kind=8,0<t.elem.length∧nth (t.elem.map JH) 0=JH (t.elem.getD 0 Y7)∧vT (t.elem.getD 0 Y7):=by
  intro h;have hl:=v2 h;have h0:0<t.elem.length:=oM;have e:t.elem.getD 0 Y7=t.elem[0]:=by simp[List.getD,h0]
  rw[e];exact⟨h0,by rw[YA h0,JA],JB9 v5 _ (Vk h0)⟩
 have c:=(JEh t p.name).call (by simp[Jl]);have hR:= @JOX t p.name ht;have hR2:= @fldR_k t p.name;have hS:stS t p=if((p.kind==1)==(t.kind==9)&&(UY t p.name).2)=true then some (UY t p.name).1.type else none:=rfl;generalize stS t p=S at*;generalize UY t p.name=R at*;rw[JA,Jw]at c;rw[JA t,Ja];generalize t.elem.getD 0 Y7=E at*;rw[JA E]at hE;rcases hk with hk|hk|hk|hk
 all_goals rw[hk]at hS⊢
 ·simp only[go_sem,JIK,Int.reduceToNat,Nat.reduceMul,Int.reduceBEq,Vv,Vc,Nat.reduceAdd,Nat.reduceEqDiff,Nat.reduceBEq,Nat.reduceLeDiff,reduceCtorEq,↓reduceIte];refine⟨dC,JD (fun h=>?_) (fun h=>?_)⟩
  ·exact⟨(Y7,false,11),⟨fun h=>(by cases h),fun _=>.inr ⟨dC,by rw[hS];simp at h;simp[h]⟩⟩,by simp only[Y8]⟩
  have h9:t.kind=9:=sX h;refine wn c ?_;simp only[go_sem,Vv,Vc,Nat.reduceAdd,Nat.reduceEqDiff,Nat.reduceBEq,Nat.reduceLeDiff,reduceCtorEq,↓reduceIte];refine JD (fun h=>?_) (fun h=>?_)
  ·exact⟨(Y7,false,21),⟨fun h=>(by cases h),fun _=>.inr ⟨dC,by rw[hS];simp at h;simp[h]⟩⟩,by simp only[Y8]⟩
  try simp only[go_sem,Int.reduceBEq,Vv,Vc,Nat.reduceAdd,Nat.reduceEqDiff,Nat.reduceBEq,Nat.reduceLeDiff,reduceCtorEq,↓reduceIte]
  exact⟨dC,(R.1.type,R.1.need==2,0),⟨fun _=>hR (sX h),fun _=>.inl ⟨rfl,by rw[hS];simp at h;simp[h,h9]⟩⟩,by rw[JA R.1.type]⟩
 ·simp only[go_sem,JIK,Int.reduceToNat,Nat.reduceMul,Int.reduceBEq,Vv,Vc,Nat.reduceAdd,Nat.reduceEqDiff,Nat.reduceBEq,Nat.reduceLeDiff,reduceCtorEq,↓reduceIte];refine⟨dC,JD (fun h=>?_) (fun h=>?_)⟩
  ·exact⟨(Y7,false,11),⟨fun h=>(by cases h),fun h=>by rcases h with h|h<;>omega⟩,by simp only[Y8]⟩
  obtain⟨h0,h1,h2⟩:=hE (sX h);simp only[go_sem,h1,Vv,Vc,Nat.reduceAdd,Nat.reduceEqDiff,Nat.reduceBEq,Nat.reduceLeDiff,reduceCtorEq,↓reduceIte];refine JD (fun h=>?_) (fun h=>?_)
  ·exact⟨(Y7,false,2),⟨fun h=>(by cases h),fun h=>by rcases h with h|h<;>omega⟩,by simp only[Y8]⟩
  exact⟨⟨dC,by simpa using h0⟩,dC,(E,decide (p.index≥t.min),0),⟨fun _=>h2,fun h=>by rcases h with h|h<;>omega⟩,by rw[JA E]⟩
 ·simp only[go_sem,JIK,Int.reduceToNat,Nat.reduceMul,Int.reduceBEq,Vv,Vc,Nat.reduceAdd,Nat.reduceEqDiff,Nat.reduceBEq,Nat.reduceLeDiff,reduceCtorEq,↓reduceIte];refine⟨dC,JD (fun h=>?_) (fun h=>?_)⟩
  ·exact⟨(Y7,false,11),⟨fun h=>(by cases h),fun h=>by rcases h with h|h<;>omega⟩,by simp only[Y8]⟩
  obtain⟨h0,h1,h2⟩:=hE (sX h);simp only[go_sem,h1,Vv,Vc,Nat.reduceAdd,Nat.reduceEqDiff,Nat.reduceBEq,Nat.reduceLeDiff,reduceCtorEq,↓reduceIte]
  skip
  exact⟨⟨dC,by simpa using h0⟩,dC,(E,t.min==0,0),⟨fun _=>h2,fun h=>by rcases h with h|h<;>omega⟩,by rw[JA E]⟩
 ·simp only[go_sem,JIK,Int.reduceToNat,Nat.reduceMul,Int.reduceBEq,Vv,Vc,Nat.reduceAdd,Nat.reduceEqDiff,Nat.reduceBEq,Nat.reduceLeDiff,reduceCtorEq,↓reduceIte];refine⟨dC,JD (fun h=>?_) (fun h=>?_)⟩
  ·exact⟨(Y7,false,11),⟨fun h=>(by cases h),fun _=>.inr ⟨dC,by rw[hS];simp at h;have:=fun q=>(hR2 q);by_cases h9:t.kind=9<;>simp[h9];cases hr:R.2<;>simp;have:=hR2 hr;omega⟩⟩,by simp only[Y8]⟩
  have h10:t.kind=10:=sX h;refine wn c ?_;simp only[go_sem,Vv,Vc,Nat.reduceAdd,Nat.reduceEqDiff,Nat.reduceBEq,Nat.reduceLeDiff,reduceCtorEq,↓reduceIte];refine JD (fun h=>?_) (fun h=>?_)
  ·exact⟨(Y7,false,21),⟨fun h=>(by cases h),fun _=>.inr ⟨dC,by rw[hS];simp at h;simp[h]⟩⟩,by simp only[Y8]⟩
  try simp only[go_sem,Int.reduceBEq,Vv,Vc,Nat.reduceAdd,Nat.reduceEqDiff,Nat.reduceBEq,Nat.reduceLeDiff,reduceCtorEq,↓reduceIte]
  exact⟨dC,(R.1.type,decide ((t.fields.length:Int)>1),0),⟨fun _=>hR (sX h),fun _=>.inl ⟨rfl,by rw[hS];simp at h;simp[h,h10]⟩⟩,by rw[JA R.1.type]⟩
abbrev tC(t:Typ):List Av:=[.d (.int .i64 t.kind),.d (.int .i64 t.min),.d (.int .i64 t.max),.d (.int .i64 t.scale),.d (.list 1 (t.words.map .str)),.d (.list 7 (t.elem.map JH)),.d (.list 11 (t.fields.map Jn))]
theorem JGu{l:List Part}(h:(JCg l !=0)=false):l.length≤16∧∀p∈l,UI p=true:=by
 simp only[bne_eq_false_iff_eq]at h;unfold JCg at h;split at h
 ·cases h
 rename_i hh;split at h
 ·rename_i h2;simp only[Vi,List.all_eq_true]at h2;simp only[hdP,Vx,decide_eq_true_eq,not_or]at hh;exact⟨oM,h2.1⟩
 ·cases h
theorem JLF{l:List Part}(h:fits (.list 3 (l.map Ja))):l.length≤68719476736∧∀p∈l,p.name.length≤68719476736:=by
 simp only[fits,Vc]at h;refine⟨h.1,fun p hp=>?_⟩;have:=J5.1 h.2 (Ja p) (List.mem_map_of_mem hp);simp only[Ja,fits,XA]at this;exact this.2.2.1
theorem JOY(h:Uw t=0):vT t:=by
 unfold Uw at h;split at h
 ·rename_i h1;exact absurd h (sX h1)
 ·rename_i h1;exact(JCA 8 4096 t dC (sX h1)).1
theorem JAR(t:Typ)(l:List Part):∃x:Typ×Bool×Int,((x.2.2=0→vT x.1)∧((∀d∈[JH t,.list 3 (l.map Ja)],fits d)→Uw t=0→JCg l=0→(∀p∈l,plK p)→okA (atS t l) x))∧PT 129 [JH t,.list 3 (l.map Ja)] (.tup [.d (JH x.1),.d (.bool x.2.1),.d (.int .i64 x.2.2)]):=by
 by_cases hfit:∀d∈[JH t,.list 3 (l.map Ja)],fits d
 case neg=>exact⟨(Y7,false,1),⟨fun h=>(by cases h),fun h=>absurd h hfit⟩,J3.Jg JTN.has fun h=>absurd h hfit⟩
 refine JTN.pex (fun x:Typ×Bool×Int=>.tup [.d (JH x.1),.d (.bool x.2.1),.d (.int .i64 x.2.2)]) (fun x:Typ×Bool×Int=>(x.2.2=0→vT x.1)∧((∀d∈[JH t,.list 3 (l.map Ja)],fits d)→Uw t=0→JCg l=0→(∀p∈l,plK p)→okA (atS t l) x)) (Nat.le_of_ble_eq_true rfl) (fun _ _=>by simp[Uv,JT,JN]) ?_;obtain⟨f1,f2⟩:=JLF (hfit (.list 3 (l.map Ja)) sP);have c23:=(JCn t).call trivial;have c196:=(JKt l f1 f2).call trivial;rw[JA t]at c23⊢;simp only[go_sem,JTM,Vv,Vc,simprocAttr];refine wn c23 ?_;simp only[go_sem,Vv,Vc,simprocAttr];refine JD (fun h=>?_) (fun h=>?_)
 ·exact⟨(Y7,false,Uw t),⟨fun h'=>absurd h' (sX h),fun _ h'=>absurd h' (sX h)⟩,by rw[Y8]⟩
 have ht:vT t:=JOY (sX h);refine wn c196 ?_;simp only[go_sem,Vv,Vc,simprocAttr];refine JD (fun h=>?_) (fun h=>?_)
 ·exact⟨(Y7,false,JCg l),⟨fun h'=>absurd h' (sX h),fun _ _ h'=>absurd h' (sX h)⟩,by rw[Y8]⟩
 have hv:=(JGu h).2;refine JJ (fun n s=>∃(k:Nat) (T:Typ) (b:Bool),k≤l.length∧n=l.length-k∧vT T∧((∀p∈l,plK p)→atS t l=atS T (l.drop k))∧s=⟨[(4,.ref 4 0),(5,.d (.bool b)),(27,.d (.list 3 (l.map Ja))),(28,.d (.int .i64 l.length)),(29,.d (.int .i64 k))],[(4,.box (tC T))]⟩) ?_ ?_
 ·refine⟨_,_,Wk.less ?_,0,t,false,Nat.zero_le _,rfl,ht,fun _=>rfl,rfl⟩;simp[go_sem,tC]
 rintro n s ⟨k,T,b,hk,rfl,hT,hA,rfl⟩;by_cases hlt:k<l.length
 ·have hx:nth (l.map Ja) k=Ja l[k]:=by rw[Uc (sX hlt),List.getElem_map]
  have hd:=dT hlt;have hdr:l.drop k=l[k]::l.drop (k+1):=Vq hlt;obtain⟨x,⟨hx1,hx2⟩,hc⟩:=ex246 T l[k] hT (hv _ (Vk _))
  replace hc:=hc.call (by simp[Jl])
  rw[JA T,JA x.1,Ja]at hc;simp only[go_sem,tC,hx,Ja,hd,Vv,Vc,simprocAttr];refine⟨oM,wn hc ?_⟩;simp only[go_sem,Vv,Vc,simprocAttr];refine JD (fun h=>?_) (fun h=>?_)
  ·exact⟨(Y7,false,x.2.2),⟨fun h'=>absurd h' (sX h),fun _ _ _ hp=>.inr ⟨by simpa using h,by
    rw[hA hp,hdr,atS];rcases hx2 (hp _ (Vk hlt))with⟨h1,_⟩|⟨_,h2⟩
    ·exact absurd h1 (sX h)
    ·rw[h2]⟩⟩,by rw[Y8]⟩
  refine Jt (fun _=>?_) (fun z=>?_)
  ·simp only[go_sem,Vv,Vc,simprocAttr];exact⟨_,rfl⟩
  simp only[go_sem,Vv,Vc,simprocAttr];refine⟨l.length-(k+1),_,oM,Wk.less ?_,k+1,x.1,z,oM,rfl,hx1 (sX h),fun hp=>by
   rw[hA hp,hdr,atS];rcases hx2 (hp _ (Vk hlt))with⟨_,h2⟩|⟨h1,_⟩
   ·rw[h2]
   ·exact absurd (sX h) h1,rfl⟩
  simp[go_sem,tC,JS k oM]
 ·have hd:=dF hlt;simp only[go_sem,tC,hd,Vv,Vc,simprocAttr];have c35:=(p35 T).call trivial;rw[JA T]at c35;refine wn c35 ?_;simp only[go_sem,Vv,Vc,simprocAttr];exact⟨(T,b,0),⟨fun _=>hT,fun _ _ _ hp=>.inl ⟨rfl,by rw[hA hp,List.drop_eq_nil_of_le oM];rfl⟩⟩,by rw[JA T]⟩
theorem c129(t:Typ)(l:List Part):CT 129 [.d (JH t),.d (.list 3 (l.map Ja))] [] (.tup [.d (JH (PA (JAR t l)).1),.d (.bool (PA (JAR t l)).2.1),.d (.int .i64 (PA (JAR t l)).2.2)]) []:=(UQ (JAR t l)).call (by simp[Jl])
theorem g168(t:Typ)(l:List Part)(h:(PA (JAR t l)).2.2=0):vT (PA (JAR t l)).1:=(UW (JAR t l)).1 h
end Go.Proofs
namespace Go.Proofs
open Go Av
open Av.Y
def ir138:Ic:=q (R (ox 2 0<|ox 3 1<|ow 4 false<|N) [0,1,4])<|q (R (of 5 2 0<|ol 6 5<|of 7 3 0<|ol 8 7<|ot 9 .eql 6 8<|om 10 9<|.sc 10 true (of 11 2 1<|ol 12 11<|of 13 3 1<|ol 14 13<|ot 15 .eql 12 14<|N) (t 15) 16 (om 17 16<|.sc 17 true (of 18 2 2<|ol 19 18<|of 20 3 2<|ol 21 20<|ot 22 .eql 19 21<|N) (t 22) 23 (om 24 23<|.sc 24 true (of 25 2 3<|ol 26 25<|of 27 3 3<|ol 28 27<|ot 29 .eql 26 28<|N) (t 29) 30 (om 31 30<|.sc 31 true (of 32 2 4<|ol 33 32<|of 34 3 4<|ol 35 34<|cl 36 199 [t 33,t 35]<|N) (t 36) 37 (om 38 37<|.sc 38 true (of 39 2 5<|ol 40 39<|of 41 3 5<|ol 42 41<|cl 43 200 [t 40,t 42,.k (.fn (.func 138) [] [])]<|N) (t 43) 44 (om 45 44<|.sc 45 true (of 46 2 6<|ol 47 46<|of 48 3 6<|ol 49 48<|cl 50 201 [t 47,t 49,.k (.fn (.func 202) [] [])]<|N) (t 50) 51 (om 4 51<|N))))))) [2,3,5,6,7,8,9,10,16,17,23,24,30,31,37,38,44,45,51])<|.ret
theorem ok138:FT 138 52 ir138 [.tmp 4]:=.o Tryz.func138
def ir202:Ic:=q (R (ox 2 0<|ox 3 1<|ow 4 false<|N) [0,1,4])<|q (R (of 5 2 0<|ol 6 5<|of 7 3 0<|ol 8 7<|ot 9 .eql 6 8<|om 10 9<|.sc 10 true (of 11 2 1<|ol 12 11<|of 13 3 1<|ol 14 13<|ot 15 .seq 12 14<|N) (t 15) 16 (om 17 16<|.sc 17 true (of 18 2 2<|ol 19 18<|of 20 3 2<|ol 21 20<|ot 22 .eql 19 21<|N) (t 22) 23 (om 24 23<|.sc 24 true (of 25 2 3<|oL 26 7 25<|of 27 3 3<|oL 28 7 27<|cl 29 138 [t 26,t 28]<|N) (t 29) 30 (om 31 30<|.sc 31 true (of 32 2 10<|ol 33 32<|of 34 3 10<|ol 35 34<|cl 36 203 [t 33,t 35,.k (.fn (.func 204) [] [])]<|N) (t 36) 37 (om 4 37<|N))))) [2,3,5,6,7,8,9,10,16,17,23,24,30,31,37])<|.ret
theorem ok202:FT 202 38 ir202 [.tmp 4]:=.o Tryz.func202
def ir199:Ic:=q (R (ow 4 false<|N) [4])<|q (q (R (om 6 0<|oh 7 6<|om 8 1<|oh 9 8<|ot 10 .neq 7 9<|N) [6,7,8,9])<|D (I 10 (q (R (ow 4 false<|N) [0,1,10])<|.ret) S) [10])<|q (q (R (om 11 0<|oh 12 11<|oz 13 0<|N) [11])<|D (.block 0<|.loop (q (.reg (ot 14 .lss 13 12<|N))<|q (D (I 14 S (E 0)) [14])<|q (D (.block 1<|q (R (om 15 13<|om 5 15<|N) [15])<|q (R (om 16 0<|om 17 5<|oa false 18 1 16 17<|ol 19 18<|om 20 1<|om 21 5<|oa false 22 1 20 21<|ol 23 22<|ot 24 .sne 19 23<|N) [5,16,17,18,19,20,21,22,23])<|D (I 24 (q (R (ow 4 false<|N) [0,1,12,13,24])<|.ret) S) [24]) [])<|R (oi 25 .add 13 1<|om 13 25<|N) [25])) [0,1,12,13,14,5])<|q (.reg (ow 4 true<|N))<|.ret
theorem ok199:FT 199 26 ir199 [.tmp 4]:=.o Tryz.func199
end Go.Proofs
namespace Go.Proofs
open Go Av
theorem p204(a b:Val):PT 204 [JM a,JM b] (.d (.bool (Zt a b==0))):=J3.Jg JSE.has fun h=>JQD a b (JAP a (h _ (Vh))) (JAP b (h _ (Vn _ (Vh))))
theorem JQy(xs ys:List Str)(hl:xs.length≤68719476736):
  PT 199 [.list 1 (xs.map .str),.list 1 (ys.map .str)] (.d (.bool (eqF (fun(x y:Str)=>x==y) xs ys))):=by
 refine ok199.pc ?_;simp only[go_sem,ir199,simprocAttr];refine⟨fun hne=>?_,fun heq=>?_⟩
 ·simp only[Vc,bne_iff_ne,ne_eq,Int.ofNat_inj]at hne;simp[eqF,hne]
 simp only[Vc,bne_eq_false_iff_eq,Int.ofNat_inj]at heq;refine JJ (fun n s=>∃k:Nat,k≤xs.length∧n=xs.length-k∧(∀(j:Nat) (h1:j<xs.length) (h2:j<ys.length),j<k→(xs[j]==ys[j])=true)∧
  s=⟨[(0,.d (.list 1 (xs.map .str))),(1,.d (.list 1 (ys.map .str))),(12,.d (.int .i64 xs.length)),(13,.d (.int .i64 k))],[]⟩) ?_ ?_
 ·refine⟨_,_,Wk.refl _,0,Nat.zero_le _,rfl,sP,?_⟩;simp
 ·rintro n s ⟨k,hk,rfl,hinv,rfl⟩;by_cases hlt:k<xs.length
  ·have hlty:k<ys.length:=oM;have hx:=YD hlt;have hy:=YD hlty;have hd:=dT hlt;refine JPj ?_;refine⟨sO,dC,sO,dC,?_⟩;refine⟨fun hne=>?_,fun heq'=>?_⟩
   ·have:eqF (fun(x y:Str)=>x==y) xs ys=false:=by
     cases h0:eqF (fun(x y:Str)=>x==y) xs ys with
     |false=>rfl
     |true=>rw[(Yx heq).1 h0 k hlt oM]at hne;cases hne
    rw[this]
   ·refine zz7 ?_;refine⟨xs.length-(k+1),_,oM,Wk.less ?_,k+1,oM,rfl,?_,rfl⟩
    ·exact zz trivial
    ·intro j h1 h2 hj;by_cases e:j=k
     ·subst e;simpa using heq'
     ·exact hinv j h1 h2 oM
  ·have hd:=dF hlt;refine zz5 ?_;rw[(Yx heq).2 fun j h1 h2=>hinv j h1 h2 oM]
theorem JQz(xs ys:List Typ)(eq:Typ→Typ→Bool)(g:Nat)(hl:xs.length≤68719476736)
  (h:∀x∈xs,∀y∈ys,CT g [.d (JH x),.d (JH y)] [] (.d (.bool (eq x y))) []):
  PT 200 [.list 7 (xs.map JH),.list 7 (ys.map JH),.fn (.func g) [] []] (.d (.bool (eqF eq xs ys))):=by
 refine ok200.pc ?_;simp only[go_sem,JSB,simprocAttr];refine⟨fun hne=>?_,fun heq=>?_⟩
 ·simp only[Vc,bne_iff_ne,ne_eq,Int.ofNat_inj]at hne;simp[eqF,hne]
 simp only[Vc,bne_eq_false_iff_eq,Int.ofNat_inj]at heq;refine JJ (fun n s=>∃k:Nat,k≤xs.length∧n=xs.length-k∧(∀(j:Nat) (h1:j<xs.length) (h2:j<ys.length),j<k→eq xs[j] ys[j]=true)∧
  s=⟨[(1,.d (.list 7 (ys.map JH))),(2,.d (.fn (.func g) [] [])),(15,.d (.list 7 (xs.map JH))),(16,.d (.int .i64 xs.length)),(17,.d (.int .i64 k))],[]⟩) ?_ ?_
 ·refine⟨_,_,Wk.refl _,0,Nat.zero_le _,rfl,sP,?_⟩;simp
 ·rintro n s ⟨k,hk,rfl,hinv,rfl⟩;by_cases hlt:k<xs.length
  ·have hlty:k<ys.length:=oM;have hx:=YA hlt;have hy:=YA hlty;have hd:=dT hlt;refine JPj ?_;have hc:=h xs[k] (Vk _) ys[k] (Vk _);rw[JA,JA]at hc;refine⟨sO,sO,wn hc ?_⟩;refine zz ?_;refine⟨fun hne=>?_,fun heq'=>?_⟩
   ·have:eqF eq xs ys=false:=by
     cases h0:eqF eq xs ys with
     |false=>rfl
     |true=>rw[(Yx heq).1 h0 k hlt oM]at hne;cases hne
    rw[this]
   ·refine zz7 ?_;refine⟨xs.length-(k+1),_,oM,Wk.less ?_,k+1,oM,rfl,?_,rfl⟩
    ·exact zz trivial
    ·intro j h1 h2 hj;by_cases e:j=k
     ·subst e;simpa using heq'
     ·exact hinv j h1 h2 oM
  ·have hd:=dF hlt;refine zz5 ?_;rw[(Yx heq).2 fun j h1 h2=>hinv j h1 h2 oM]
theorem JQ0(xs ys:List TFl)(eq:TFl→TFl→Bool)(g:Nat)(hl:xs.length≤68719476736)
  (h:∀x∈xs,∀y∈ys,CT g [.d (Jn x),.d (Jn y)] [] (.d (.bool (eq x y))) []):
  PT 201 [.list 11 (xs.map Jn),.list 11 (ys.map Jn),.fn (.func g) [] []] (.d (.bool (eqF eq xs ys))):=by
 refine ok201.pc ?_;simp only[go_sem,JSC,simprocAttr];refine⟨fun hne=>?_,fun heq=>?_⟩
 ·simp only[Vc,bne_iff_ne,ne_eq,Int.ofNat_inj]at hne;simp[eqF,hne]
 simp only[Vc,bne_eq_false_iff_eq,Int.ofNat_inj]at heq;refine JJ (fun n s=>∃k:Nat,k≤xs.length∧n=xs.length-k∧(∀(j:Nat) (h1:j<xs.length) (h2:j<ys.length),j<k→eq xs[j] ys[j]=true)∧
  s=⟨[(1,.d (.list 11 (ys.map Jn))),(2,.d (.fn (.func g) [] [])),(15,.d (.list 11 (xs.map Jn))),(16,.d (.int .i64 xs.length)),(17,.d (.int .i64 k))],[]⟩) ?_ ?_
 ·refine⟨_,_,Wk.refl _,0,Nat.zero_le _,rfl,sP,?_⟩;simp
 ·rintro n s ⟨k,hk,rfl,hinv,rfl⟩;by_cases hlt:k<xs.length
  ·have hlty:k<ys.length:=oM;have hx:=Ug hlt;have hy:=Ug hlty;have hd:=dT hlt;refine JPj ?_;have hc:=h xs[k] (Vk _) ys[k] (Vk _);rw[Jw,Jw]at hc;refine⟨sO,sO,wn hc ?_⟩;refine zz ?_;refine⟨fun hne=>?_,fun heq'=>?_⟩
   ·have:eqF eq xs ys=false:=by
     cases h0:eqF eq xs ys with
     |false=>rfl
     |true=>rw[(Yx heq).1 h0 k hlt oM]at hne;cases hne
    rw[this]
   ·refine zz7 ?_;refine⟨xs.length-(k+1),_,oM,Wk.less ?_,k+1,oM,rfl,?_,rfl⟩
    ·exact zz trivial
    ·intro j h1 h2 hj;by_cases e:j=k
     ·subst e;simpa using heq'
     ·exact hinv j h1 h2 oM
  ·have hd:=dF hlt;refine zz5 ?_;rw[(Yx heq).2 fun j h1 h2=>hinv j h1 h2 oM]
def eqG(f:Typ→Typ→Bool)(x y:TFl):Bool:=(((x.number==y.number&&x.name==y.name)&&x.need==y.need)&&f x.type y.type)&&eqF (fun a b=>Zt a b==0) x.dflt y.dflt
def eqTs(f:Typ→Typ→Bool)(x y:Typ):Bool:=(((((x.kind==y.kind&&x.min==y.min)&&x.max==y.max)&&x.scale==y.scale)&&eqF (fun(a b:Str)=>a==b) x.words y.words)&&eqF f x.elem y.elem)&&eqF (eqG f) x.fields y.fields
theorem JQ1(f:Typ→Typ→Bool)(x y:TFl)(h:PT 138 [JH x.type,JH y.type] (.d (.bool (f x.type y.type)))):PT 202 [Jn x,Jn y] (.d (.bool (eqG f x y))):=by
 refine J3.Jg ok202.has fun hfit=>?_
 have hdl:x.dflt.length≤68719476736:=by
  have:=hfit _ (Vh);rw[Jw]at this;simp only[fits,XA,Vc,and_true]at this;exact this.2.2.2.2.2.2.2.2.2.2.1
 refine ok202.pc ?_;have c1:=h.call trivial;have c2:=(JQC x.dflt y.dflt (fun a b=>Zt a b==0) 204 hdl (fun a _ b _=>(p204 a b).call trivial)).call trivial;unfold eqG;generalize f x.type y.type=F at*;generalize eqF (fun a b=>Zt a b==0) x.dflt y.dflt=D at*;rw[JA x.type,JA y.type]at c1;rw[Jw,Jw];simp only[go_sem,ir202,simprocAttr];refine sq (x.name==y.name) ?_ ?_
 ·exact zz4 trivial
 refine zz4 ?_;refine sq (x.need==y.need) ?_ ?_
 ·exact zz4 trivial
 refine zz4 ?_;refine Jy F (fun _=>?_) ?_
 ·refine zz4 ?_;refine wn c1 ?_;exact zz4 trivial
 refine zz4 ?_;refine Jy D (fun _=>?_) ?_
 ·refine zz4 ?_;refine wn c2 ?_;exact zz4 trivial
 exact zz4 trivial
theorem JQ2(f:Typ→Typ→Bool)(x y:Typ)(h1:∀a∈x.elem,∀b∈y.elem,PT 138 [JH a,JH b] (.d (.bool (f a b))))
  (h2:∀a∈x.fields,∀b∈y.fields,PT 202 [Jn a,Jn b] (.d (.bool (eqG f a b)))):PT 138 [JH x,JH y] (.d (.bool (eqTs f x y))):=by
 refine J3.Jg ok138.has fun hfit=>?_
 obtain⟨hw,he,hf⟩:=Y5 (hfit (JH x) sP);refine ok138.pc ?_;have c1:=(JQy x.words y.words hw).call trivial;have c2:=(JQz x.elem y.elem f 138 he (fun a ha b hb=>(h1 a ha b hb).call trivial)).call trivial;have c3:=(JQ0 x.fields y.fields (eqG f) 202 hf (fun a ha b hb=>(h2 a ha b hb).call trivial)).call trivial;unfold eqTs;generalize eqF (fun(a b:Str)=>a==b) x.words y.words=A at*;generalize eqF f x.elem y.elem=B at*;generalize eqF (eqG f) x.fields y.fields=C at*;rw[JA,JA];simp only[go_sem,ir138,simprocAttr];refine sq (x.min==y.min) ?_ ?_
 ·exact zz4 trivial
 refine zz4 ?_;refine sq (x.max==y.max) ?_ ?_
 ·exact zz4 trivial
 refine zz4 ?_;refine sq (x.scale==y.scale) ?_ ?_
 ·exact zz4 trivial
 refine zz4 ?_;refine Jy A (fun _=>?_) ?_
 ·refine zz4 ?_;refine wn c1 ?_;exact zz4 trivial
 refine zz4 ?_;refine Jy B (fun _=>?_) ?_
 ·refine zz4 ?_;refine wn c2 ?_;exact zz4 trivial
 refine zz4 ?_;refine Jy C (fun _=>?_) ?_
 ·refine zz4 ?_;refine wn c3 ?_;exact zz4 trivial
 exact zz4 trivial
def JOZ:Nat→Typ→Typ→Bool
 |0,_,_=>true
 |k+1,x,y=>eqTs (JOZ k) x y
theorem JDp:∀(k:Nat) (x y:Typ),szT x≤k→PT 138 [JH x,JH y] (.d (.bool (JOZ k x y)))
 |0,x,y,h=>by rw[Yn]at h;omega
 |k+1,x,y,h=>by
  have e:=Yn x;rw[JOZ];exact JQ2 (JOZ k) x y (fun a ha b _=>JDp k a b (by have:=JAQ a ha;omega)) (fun a ha b _=>JQ1 (JOZ k) a b (JDp k a.type b.type (by have:=ZM a ha;omega)))
end Go.Proofs
namespace Go.Proofs
open Go Av
variable {f:Nat}{ds:List Dat}{env:Typ}{x y k a b s:Int}
structure Rz where
 t:Typ
 ab:Bool
 tot:Bool
def JC(r:Rz):Dat:=.agg [.int .i64 r.t.kind,.int .i64 r.t.min,.int .i64 r.t.max,.int .i64 r.t.scale,.list 1 (r.t.words.map .str),.list 7 (r.t.elem.map JH),.list 11 (r.t.fields.map Jn),.bool r.ab,.bool r.tot]
def rz0:Rz:=⟨Y7,false,false⟩
abbrev tO(env:Typ)(e:Int):Av.Obj:=.box ([.int .i64 env.kind,.int .i64 env.min,.int .i64 env.max,.int .i64 env.scale,.list 1 (env.words.map .str),.list 7 (env.elem.map JH),.list 11 (env.fields.map Jn),.int .i64 e].map .d)
theorem JU(env:Typ)(x y:Int):closed (JB (get [(1000,tO env x)]) [(1000,tO env y)]):=Jj (by simp[J6,put,Jc,J0,JN,JT,Av.get])
abbrev JQ3(f:Nat)(ds:List Dat)(env:Typ)(x:Int)(v:Av)(y:Int):Prop:=KT f (.ref 1000 0::ds.map .d) [(1000,tO env x)] v [(1000,tO env y)]
theorem JQ3.to{v:Av}(h:JQ3 f ds env x v y)(hv:Jl v):CT f (.ref 1000 0::ds.map .d) [(1000,some (tO env x))] v [(1000,tO env y)]:=Con.rw1 h hv 1000
def TEx(f:Nat)(ds:List Dat)(env:Typ)(x:Int):Prop:=∃z:Rz×Int,(z.2=0→1≤z.1.t.kind)∧JQ3 f ds env x (.d (JC z.1)) z.2
noncomputable def TA{f:Nat}{ds:List Dat}{env:Typ}{x:Int}(h:TEx f ds env x):Rz×Int:=Classical.choose h
theorem TEx.JAv(h:TEx f ds env x):(TA h).2=0→1≤(TA h).1.t.kind:=(Classical.choose_spec h).1
theorem TEx.call(h:TEx f ds env x):CT f (.ref 1000 0::ds.map .d) [(1000,some (tO env x))] (.d (JC (TA h).1)) [(1000,tO env (TA h).2)]:=(Classical.choose_spec h).2.to trivial
theorem walk85(e:Int)(env:Typ)(x:Int):JQ3 85 [.int .i64 e] env x (.d (JC rz0)) (if x=0 then e else x):=by
 refine ok85.con (k:=some false) (Nat.le_of_ble_eq_true rfl) (JU _ _ _) trivial ?_;simp only[go_sem,tO,ir85,Vv,Vc,simprocAttr];refine JD (fun h=>?_) (fun h=>?_)
 ·simp only[beq_iff_eq]at h;subst h;simp[rz0,JC,Y7,Typ.kind,Typ.min,Typ.max,Typ.scale,Typ.words,Typ.elem,Typ.fields,go_sem]
 ·have h:¬x=0:=sX h;simp[rz0,JC,Y7,Typ.kind,Typ.min,Typ.max,Typ.scale,Typ.words,Typ.elem,Typ.fields,go_sem,h]
theorem c85(e:Int)(env:Typ)(x:Int):CT 85 [.ref 1000 0,.d (.int .i64 e)] [(1000,some (tO env x))] (.d (JC rz0)) [(1000,tO env (if x=0 then e else x))]:=(walk85 e env x).to trivial
theorem typ_f0(hk:1≤k:=by first|decide|assumption):∃x:Typ,1≤x.kind∧Av.d (.agg [.int .i64 k,.int .i64 a,.int .i64 b,.int .i64 s,.list 1 [],.list 7 [],.list 11 []])=.d (JH x):=⟨.mk k a b s [] [] [],hk,by simp only[JH,JAI,JAJ,Vb]⟩
theorem JOa{w:Str}(hk:1≤k:=by first|decide|assumption):∃x:Typ,1≤x.kind∧Av.d (.agg [.int .i64 k,.int .i64 a,.int .i64 b,.int .i64 s,.list 1 [.str w],.list 7 [],.list 11 []])=.d (JH x):=⟨.mk k a b s [w] [] [],hk,by simp only[JH,JAI,JAJ,Vb,Va]⟩
theorem JLG(v:Val)(hv:1≤v.kind):∃x:Typ,1≤x.kind∧PT 80 [JM v] (.d (JH x)):=by
 refine ok80.pex (fun x:Typ=>.d (JH x)) (fun x:Typ=>1≤x.kind) (Nat.le_of_ble_eq_true rfl) (fun _ _=>by simp[Uv,JT,JN]) ?_;rw[JI];simp only[go_sem,ir80,Vv,Vc,simprocAttr]
 repeat' (first|exact⟨_,rfl⟩|exact typ_f0|exact JOa|exact⟨sP,JOa⟩|refine JD (fun _=>?_) (fun _=>?_))
theorem c80(v:Val)(hv:1≤v.kind):CT 80 [.d (JM v)] [] (.d (JH (PA (JLG v hv)))) []:=(UQ (JLG v hv)).call (by simp[Jl])
theorem JOb(a b c:Int):1≤(JJa a b c).kind:=by unfold JJa;split<;>simp[Typ.kind]
theorem J8{w:List Str}{e:List Typ}{f:List TFl}{ab tot:Bool}(hk:y=0→1≤k:=by first|assumption|exact fun _=>JOb _ _ _|(intro _;decide)|(intro h;exfalso;split at h<;>omega)|(intro h;omega)|(intro _;simp only[beq_iff_eq]at*;omega)|(intro _;simp only[bne_eq_false_iff_eq]at*;omega)):∃z:Rz×Int,(z.2=0→1≤z.1.t.kind)∧Av.d (.agg [.int .i64 k,.int .i64 a,.int .i64 b,.int .i64 s,.list 1 (w.map .str),.list 7 (e.map JH),.list 11 (f.map Jn),.bool ab,.bool tot])=.d (JC z.1)∧
  some (tO env y)=some (tO env z.2):=⟨(⟨.mk k a b s w e f,ab,tot⟩,y),hk,rfl,rfl⟩
theorem Yo{ab tot:Bool}(hk:y=0→1≤k:=by first|assumption|exact fun _=>JOb _ _ _|(intro _;decide)|(intro h;exfalso;split at h<;>omega)|(intro h;omega)|(intro _;simp only[beq_iff_eq]at*;omega)|(intro _;simp only[bne_eq_false_iff_eq]at*;omega)):∃z:Rz×Int,(z.2=0→1≤z.1.t.kind)∧Av.d (.agg [.int .i64 k,.int .i64 a,.int .i64 b,.int .i64 s,.list 1 [],.list 7 [],.list 11 [],.bool ab,.bool tot])=.d (JC z.1)∧
  some (tO env y)=some (tO env z.2):=⟨(⟨.mk k a b s [] [] [],ab,tot⟩,y),hk,rfl,rfl⟩
theorem JF0(s:Str)(env:Typ)(x:Int):TEx 81 [.str s] env x:=by
 refine ok81.Us (k:=some false) (fun z:Rz×Int=>.d (JC z.1)) (fun z:Rz×Int=>[(1000,tO env z.2)]) (fun z:Rz×Int=>z.2=0→1≤z.1.t.kind) (rz0,1) (fun h=>by cases h) (Nat.le_of_ble_eq_true rfl) (fun _ _=>JU _ _ _) (fun _ _=>trivial) fun hfit=>?_
 have c70:=(JEU s (by have:=hfit (.str s) sP;exact this)).call (by simp[Jl]);have c:=c129 env (JO s).1;have g:=g168 env (JO s).1;generalize PA (JAR env (JO s).1)=R at c g;rw[JA env,JA R.1]at c;simp only[go_sem,tO,ir81,Vv,Vc,simprocAttr];refine wn c70 ?_;simp only[go_sem,Vv,Vc,simprocAttr];refine wn c ?_;simp only[go_sem,Vv,Vc,simprocAttr];refine JD (fun h=>?_) (fun h=>?_)
 ·refine wn (c85 22 env x) ?_;simp only[go_sem,JC,Vv,Vc,simprocAttr];exact J8
 ·exact J8 (hk:=fun _=>((JA5 _).1 (g (sX h))).1.1)
abbrev eC(e:Exp):List Av:=[.d (.int .i64 e.op),.d (.int .i64 e.int),.d (.str e.text),.d (.list 6 (e.value.map JM)),.d (.list 5 (e.args.map JL))]
abbrev T265(e:Exp)(t:Typ)(n:Int)(b:Bool):List (Nat×Av.Obj):=[(1000,.box (eC e)),(1001,.box (tC t)),(1002,.box [.d (.int .i64 n)]),(1003,.box [.d (.bool b)])]
theorem ex265(b:Int)(e:Exp)(t:Typ)(n:Int)(x:Bool):∃z:Int×Bool,True∧KT 135 [.d (.int .i64 b),.ref 1000 0,.ref 1001 0,.ref 1002 0,.ref 1003 0] (T265 e t n x) (.d (.int .i64 z.1)) [(1003,.box [.d (.bool z.2)])]:=by
 refine ok135.cex (k:=some false) (fun z:Int×Bool=>.d (.int .i64 z.1)) (fun z:Int×Bool=>[(1003,.box [.d (.bool z.2)])]) (fun _=>True) (Nat.le_of_ble_eq_true rfl) (fun _ _=>Jj (by simp[J6,put,Jc,J0,JN,JT,Av.get])) (fun _ _=>trivial) ?_;simp only[go_sem,T265,eC,tC,JSn,Vv,Vc,simprocAttr];refine wn (c136 b (IntKind.i64.wrap (e.int-t.scale))) ?_;simp only[go_sem,Vv,Vc,simprocAttr];generalize PA (JFx b (IntKind.i64.wrap (e.int-t.scale)))=R;have c:=c134 n R.1;generalize PA (JFw n R.1)=S at*;refine JD (fun h=>?_) (fun h=>?_)
 ·refine JD (fun h=>?_) (fun h=>?_)
  ·exact⟨(0,x),rfl,rfl⟩
  refine wn c ?_;simp only[go_sem,Vv,Vc,simprocAttr];exact⟨(_,false),rfl,rfl⟩
 ·refine wn c ?_;simp only[go_sem,Vv,Vc,simprocAttr];refine Jt (fun _=>?_) (fun z=>?_)
  ·simp only[go_sem,Vv,Vc,simprocAttr];exact⟨_,rfl⟩
  simp only[go_sem,Vv,Vc,simprocAttr];exact⟨(_,z),rfl,rfl⟩
theorem c135(b:Int)(e:Exp)(t:Typ)(n:Int)(x:Bool):∃z:Int×Bool,CT 135 [.d (.int .i64 b),.ref 3 0,.ref 15 0,.ref 7 0,.ref 8 0] [(3,some (.box (eC e))),(15,some (.box (tC t))),(7,some (.box [.d (.int .i64 n)])),(8,some (.box [.d (.bool x)]))] (.d (.int .i64 z.1)) [(8,.box [.d (.bool z.2)])]:=by
 obtain⟨z,-,h⟩:=ex265 b e t n x;have:=h.JIv (fun i=>if i=1000 then 3 else if i=1001 then 15 else if i=1002 then 7 else 8) [1000,1001,1002,1003] rfl dC dC sP (by simp[JT,JN,Av.get]) (by simp[Jc,J0,JN,JT,Av.get]) (by simp[J6,put,Jc,J0,JN,JT,Av.get]) trivial;simp only[T265,Va,Vb,Av.ren,Obj.ren,J7,Nat.reduceEqDiff,↓reduceIte]at this;exact⟨z,this⟩
theorem JIW(a b:Typ):∃x:Bool,True∧PT 86 [JH a,JH b] (.d (.bool x)):=by
 refine ok86.pex (fun x:Bool=>.d (.bool x)) (fun x:Bool=>True) (Nat.le_of_ble_eq_true rfl) (fun _ _=>by simp[Uv,JT,JN]) ?_;have h1:=c89 a;have h2:=c89 b;have h3:=(JDp (szT a) a b (Nat.le_refl _)).call trivial;rw[JA a]at h1 h3;rw[JA b]at h2 h3;rw[JA,JA];simp only[go_sem,ir86,Vv,Vc,simprocAttr];refine wn h1 ?_;simp only[go_sem,Vv,Vc,simprocAttr];refine Jt (fun _=>?_) (fun z=>?_)
 ·simp only[go_sem,Vv,Vc,simprocAttr];refine wn h2 ?_;simp only[go_sem,Vv,Vc,simprocAttr];exact⟨_,rfl⟩
 simp only[go_sem,Vv,Vc,simprocAttr]
 repeat' (first|exact⟨_,rfl⟩|(refine wn h3 ?_)|(refine JD (fun _=>?_) (fun _=>?_)))
 simp only[go_sem,Vv,Vc,simprocAttr]
 repeat' (first|exact⟨_,rfl⟩|exact⟨(_,_),rfl⟩|exact⟨_,trivial,rfl⟩|exact⟨(_,_),trivial,rfl⟩|refine JD (fun _=>?_) (fun _=>?_))
theorem c86(a b:Typ):CT 86 [.d (JH a),.d (JH b)] [] (.d (.bool (PA (JIW a b)))) []:=(UQ (JIW a b)).call (by simp[Jl])
theorem JCC(t:Typ):∃x:Int×Int,True∧PT 90 [JH t] (.tup [.d (.int .i64 x.1),.d (.int .i64 x.2)]):=by
 refine ok90.JIu (fun x:Int×Int=>.tup [.d (.int .i64 x.1),.d (.int .i64 x.2)]) (fun x:Int×Int=>True) (default) (trivial) (Nat.le_of_ble_eq_true rfl) (fun _ _=>by simp[Uv,JT,JN]) fun hfit=>?_
 have f1:=(Y5 (hfit (JH t) sP)).1;rw[JA];simp only[go_sem,ir90,Vv,Vc,Nat.reduceAdd,Nat.reduceEqDiff,Nat.reduceBEq,Nat.reduceLeDiff,reduceCtorEq,↓reduceIte];refine JJ (fun n s=>∃(k:Nat) (a b:Int),k≤t.words.length∧n=t.words.length-k∧s=⟨[(1,.ref 1 0),(2,.d (.int .i64 a)),(3,.d (.int .i64 b)),(7,.d (.list 1 (t.words.map .str))),(8,.d (.int .i64 t.words.length)),(9,.d (.int .i64 k))],[(1,.box (tC t))]⟩) ?_ ?_
 ·exact⟨_,_,Wk.refl _,0,0,0,Nat.zero_le _,rfl,rfl⟩
 rintro n s ⟨k,a,b,hk,rfl,rfl⟩;by_cases hlt:k<t.words.length
 ·have hx:=YD hlt;have hd:=dT hlt;simp only[go_sem,hx,hd,tC,JS k oM,Vv,Vc,Nat.reduceAdd,Nat.reduceEqDiff,Nat.reduceBEq,Nat.reduceLeDiff,reduceCtorEq,↓reduceIte];refine⟨oM,dC,JD (fun h=>?_) (fun h=>?_)⟩
  all_goals exact⟨t.words.length-(k+1),_,oM,Wk.refl _,k+1,_,_,oM,rfl,rfl⟩
 ·have hd:=dF hlt;simp only[go_sem,tC,hd,Vv,Vc,Nat.reduceAdd,Nat.reduceEqDiff,Nat.reduceBEq,Nat.reduceLeDiff,reduceCtorEq,↓reduceIte]
  repeat' (first|exact⟨_,rfl⟩|exact⟨(_,_),rfl⟩|exact⟨_,trivial,rfl⟩|exact⟨(_,_),trivial,rfl⟩|refine JD (fun _=>?_) (fun _=>?_))
theorem c90(t:Typ):CT 90 [.d (JH t)] [] (.tup [.d (.int .i64 (PA (JCC t)).1),.d (.int .i64 (PA (JCC t)).2)]) []:=(UQ (JCC t)).call (by simp[Jl])
theorem JOc(a:Typ)(env:Typ)(x:Int):TEx 92 [JH a] env x:=by
 refine ok92.Us (k:=some false) (fun z:Rz×Int=>.d (JC z.1)) (fun z:Rz×Int=>[(1000,tO env z.2)]) (fun z:Rz×Int=>z.2=0→1≤z.1.t.kind) (rz0,1) (fun h=>by cases h) (Nat.le_of_ble_eq_true rfl) (fun _ _=>JU _ _ _) (fun _ _=>trivial) fun hfit=>?_
 have c:=fun y=>c85 y env x
 rw[JA a];simp only[go_sem,tO,ir92,Vv,Vc,simprocAttr]
 repeat' (first|exact J8|exact Yo|exact⟨sP,J8 (w:=[_,_]) (e:=[]) (f:=[])⟩|refine JD (fun _=>?_) (fun _=>?_)|refine wn (c _) ?_|simp only[JC,go_sem,simprocAttr])
end Go.Proofs
namespace Go.Proofs
open Go Av
theorem JQ4{e:Exp}(h:fits (JL e)):e.text.length≤68719476736:=by
 rw[JF]at h;simp only[fits,XA]at h;exact h.2.2.1
theorem YY(s:Str):(JO s).1.length≤16:=by
 unfold JO;split
 ·simp
 split
 ·simp
 split
 ·split
  ·simp
  ·rename_i h;simp only;omega
 ·simp
abbrev z9:Av.Obj:=.box [.d (.int .i64 0),.d (.int .i64 0),.d (.int .i64 0),.d (.int .i64 0),.d (.nil 1),.d (.nil 7),.d (.nil 11),.d (.bool false),.d (.bool false)]
theorem JOd(e:Exp)(env:Typ)(x:Int):TEx 82 [JL e] env x:=by
 refine ok82.Us (k:=some false) (fun z:Rz×Int=>.d (JC z.1)) (fun z:Rz×Int=>[(1000,tO env z.2)]) (fun z:Rz×Int=>z.2=0→1≤z.1.t.kind) (rz0,1) (fun h=>by cases h) (Nat.le_of_ble_eq_true rfl) (fun _ _=>JU _ _ _) (fun _ _=>trivial) fun hfit=>?_
 have c70:=(JEU e.text (JQ4 (hfit (JL e) sP))).call (by simp[Jl]);have hl:=YY e.text;generalize JO e.text=L at c70 hl;obtain⟨A,cA⟩:∃A:List Part→Typ×Bool×Int,∀l,CT 129 [.d (JH env),.d (.list 3 (l.map Ja))] [] (.tup [.d (JH (A l).1),.d (.bool (A l).2.1),.d (.int .i64 (A l).2.2)]) []:=⟨fun l=>PA (JAR env l),c129 env⟩;simp only[JA]at cA;rw[JF e];simp only[go_sem,tO,ir82,Vv,Vc,Nat.reduceAdd,Nat.reduceEqDiff,Nat.reduceBEq,Nat.reduceLeDiff,reduceCtorEq,↓reduceIte];refine wn c70 ?_;simp only[go_sem,Vv,Vc,Nat.reduceAdd,Nat.reduceEqDiff,Nat.reduceBEq,Nat.reduceLeDiff,reduceCtorEq,↓reduceIte];clear hfit c70;refine JJ (fun n s=>∃(k:Nat) (m:Int) (b:Bool),k≤L.1.length∧n=L.1.length-k∧s=⟨[(0,.ref 1000 0),(3,.ref 3 0),(4,.ref 4 0),(5,.d (.list 3 (L.1.map Ja))),(7,.ref 7 0),(8,.ref 8 0),(28,.d (.list 3 (L.1.map Ja))),(29,.d (.int .i64 L.1.length)),(30,.d (.int .i64 k))],
  [(1000,tO env x),(3,.box (eC e)),(4,z9),(7,.box [.d (.int .i64 m)]),(8,.box [.d (.bool b)])]⟩) ?_ ?_
 ·exact⟨_,_,Wk.refl _,0,1,true,Nat.zero_le _,rfl,rfl⟩
 rintro n s ⟨k,m,b,hk,rfl,rfl⟩;by_cases hlt:k<L.1.length
 ·have hx:nth (L.1.map Ja) k=Ja L.1[k]:=by rw[Uc (sX hlt),List.getElem_map]
  have hd:=dT hlt;have c:=cA (L.1.take k);rw[List.map_take]at c;generalize A (L.1.take k)=R at c;simp only[go_sem,tO,eC,z9,hx,Ja,hd,JS k oM,Vv,Vc,Nat.reduceAdd,Nat.reduceEqDiff,Nat.reduceBEq,Nat.reduceLeDiff,reduceCtorEq,↓reduceIte];refine⟨oM,JD (fun h=>?_) (fun h=>?_)⟩
  ·refine⟨L.1.length-(k+1),_,oM,Wk.less ?_,k+1,m,b,oM,rfl,rfl⟩;simp[go_sem,tO,eC,z9,JS k oM]
  refine⟨⟨oM,oM,oM⟩,?_⟩;refine JE rfl c trivial ?_;simp only[go_sem,Vv,Vc,Nat.reduceAdd,Nat.reduceEqDiff,Nat.reduceBEq,Nat.reduceLeDiff,reduceCtorEq,↓reduceIte];refine⟨dC,JD (fun h=>?_) (fun h=>?_)⟩
  ·refine wn (c85 22 env x) ?_;simp only[go_sem,JC,Vv,Vc,Nat.reduceAdd,Nat.reduceEqDiff,Nat.reduceBEq,Nat.reduceLeDiff,reduceCtorEq,↓reduceIte];exact J8
  have c2:=c134 m R.1.max;generalize PA (JFw m R.1.max)=S at c2;refine wn c2 ?_;simp only[go_sem,Vv,Vc,Nat.reduceAdd,Nat.reduceEqDiff,Nat.reduceBEq,Nat.reduceLeDiff,reduceCtorEq,↓reduceIte];cases b with
  |true=>
   simp only[go_sem,Vv,Vc,Nat.reduceAdd,Nat.reduceEqDiff,Nat.reduceBEq,Nat.reduceLeDiff,reduceCtorEq,↓reduceIte];refine⟨L.1.length-(k+1),_,oM,Wk.less ?_,k+1,S.1,S.2,oM,rfl,rfl⟩;simp[go_sem,tO,eC,z9,JS k oM]
  |false=>
   simp only[go_sem,Vv,Vc,Nat.reduceAdd,Nat.reduceEqDiff,Nat.reduceBEq,Nat.reduceLeDiff,reduceCtorEq,↓reduceIte];refine⟨L.1.length-(k+1),_,oM,Wk.less ?_,k+1,S.1,false,oM,rfl,rfl⟩;simp[go_sem,tO,eC,z9,JS k oM]
 ·have hd:=dF hlt;have c:=cA L.1;generalize A L.1=R at c;simp only[go_sem,tO,eC,z9,hd,Vv,Vc,Nat.reduceAdd,Nat.reduceEqDiff,Nat.reduceBEq,Nat.reduceLeDiff,reduceCtorEq,↓reduceIte];refine wn c ?_;simp only[go_sem,Vv,Vc,Nat.reduceAdd,Nat.reduceEqDiff,Nat.reduceBEq,Nat.reduceLeDiff,reduceCtorEq,↓reduceIte];refine JD (fun h=>?_) (fun h=>?_)
  ·refine wn (c85 22 env x) ?_;simp only[go_sem,JC,Vv,Vc,Nat.reduceAdd,Nat.reduceEqDiff,Nat.reduceBEq,Nat.reduceLeDiff,reduceCtorEq,↓reduceIte];exact J8
  refine Jt (fun _=>?_) (fun z=>?_)
  ·simp only[go_sem,Vv,Vc,Nat.reduceAdd,Nat.reduceEqDiff,Nat.reduceBEq,Nat.reduceLeDiff,reduceCtorEq,↓reduceIte];exact⟨_,rfl⟩
  simp only[go_sem,Vv,Vc,Nat.reduceAdd,Nat.reduceEqDiff,Nat.reduceBEq,Nat.reduceLeDiff,reduceCtorEq,↓reduceIte];refine Jt (fun _=>?_) (fun z=>?_)
  ·simp only[go_sem,Vv,Vc,Nat.reduceAdd,Nat.reduceEqDiff,Nat.reduceBEq,Nat.reduceLeDiff,reduceCtorEq,↓reduceIte];have c2:=c89 R.1;rw[JA]at c2;refine wn c2 ?_;simp only[go_sem,Vv,Vc,Nat.reduceAdd,Nat.reduceEqDiff,Nat.reduceBEq,Nat.reduceLeDiff,reduceCtorEq,↓reduceIte];exact⟨_,rfl⟩
  simp only[go_sem,Vv,Vc,Nat.reduceAdd,Nat.reduceEqDiff,Nat.reduceBEq,Nat.reduceLeDiff,reduceCtorEq,↓reduceIte];refine Jt (fun _=>?_) (fun z=>?_)
  ·simp only[go_sem,Vv,Vc,Nat.reduceAdd,Nat.reduceEqDiff,Nat.reduceBEq,Nat.reduceLeDiff,reduceCtorEq,↓reduceIte];exact⟨_,rfl⟩
  simp only[go_sem,Vv,Vc,Nat.reduceAdd,Nat.reduceEqDiff,Nat.reduceBEq,Nat.reduceLeDiff,reduceCtorEq,↓reduceIte];refine JD (fun h=>?_) (fun h=>?_)
  ·refine wn (c85 18 env x) ?_;simp only[go_sem,JC,Vv,Vc,Nat.reduceAdd,Nat.reduceEqDiff,Nat.reduceBEq,Nat.reduceLeDiff,reduceCtorEq,↓reduceIte];exact J8
  obtain⟨z1,cB⟩:=c135 R.1.min e R.1 m b;obtain⟨z2,cC⟩:=c135 R.1.max e R.1 m z1.2;simp only[eC,tC]at cB cC;refine JD (fun h=>?_) (fun h=>?_)
  ·refine JE rfl cB ⟨rfl,rfl,rfl,rfl,trivial⟩ ?_;simp only[go_sem,Vv,Vc,Nat.reduceAdd,Nat.reduceEqDiff,Nat.reduceBEq,Nat.reduceLeDiff,reduceCtorEq,↓reduceIte];refine JE rfl cC ⟨rfl,rfl,rfl,rfl,trivial⟩ ?_;simp only[go_sem,Vv,Vc,Nat.reduceAdd,Nat.reduceEqDiff,Nat.reduceBEq,Nat.reduceLeDiff,reduceCtorEq,↓reduceIte];refine⟨dC,?_⟩;refine JE rfl (c91 _ _ _) trivial ?_;rw[JA];simp only[go_sem,Vv,Vc,Nat.reduceAdd,Nat.reduceEqDiff,Nat.reduceBEq,Nat.reduceLeDiff,reduceCtorEq,↓reduceIte];refine⟨decide (m≤256),_,[([7],[]),([],[])],rfl,fun _=>⟨rfl,rfl,rfl⟩,fun _=>rfl,?_⟩;simp only[go_sem,Vv,Vc,Nat.reduceAdd,Nat.reduceEqDiff,Nat.reduceBEq,Nat.reduceLeDiff,reduceCtorEq,↓reduceIte];refine⟨dC,J8⟩
  ·refine JE rfl cB ⟨rfl,rfl,rfl,rfl,trivial⟩ ?_;simp only[go_sem,Vv,Vc,Nat.reduceAdd,Nat.reduceEqDiff,Nat.reduceBEq,Nat.reduceLeDiff,reduceCtorEq,↓reduceIte];refine JE rfl cC ⟨rfl,rfl,rfl,rfl,trivial⟩ ?_;simp only[go_sem,Vv,Vc,Nat.reduceAdd,Nat.reduceEqDiff,Nat.reduceBEq,Nat.reduceLeDiff,reduceCtorEq,↓reduceIte];refine⟨dC,?_⟩;refine JE rfl (c91 _ _ _) trivial ?_;rw[JA];simp only[go_sem,Vv,Vc,Nat.reduceAdd,Nat.reduceEqDiff,Nat.reduceBEq,Nat.reduceLeDiff,reduceCtorEq,↓reduceIte];refine⟨decide (m≤256),_,[([7],[]),([],[])],rfl,fun _=>⟨rfl,rfl,rfl⟩,fun _=>rfl,?_⟩;simp only[go_sem,Vv,Vc,Nat.reduceAdd,Nat.reduceEqDiff,Nat.reduceBEq,Nat.reduceLeDiff,reduceCtorEq,↓reduceIte];refine⟨dC,J8⟩
end Go.Proofs
namespace Go.Proofs
open Go Av Go.RowKit Go.Shelf
variable {g N k:Nat}{xs:List UInt8}{w:World}
def sftB(f:Nat)(d:Int)(c:UInt8):UInt8:=if f≤c.toNat∧c.toNat-f<26 then UInt8.ofNat ((c.toNat:Int)+d).toNat else c
def Xq(s:Str)(f:Nat)(d:Int):Str:=s.map (sftB f d)
def Sft0:Prop:=(∀s:Str,CT 206 [.d (.str s),.d (.int .u8 65),.d (.int .i64 32)] [] (.d (.str (Xq s 65 32))) [])∧
 ∀s:Str,CT 206 [.d (.str s),.d (.int .u8 97),.d (.int .i64 (-32))] [] (.d (.str (Xq s 97 (-32)))) []
theorem JQ5(hs:Sft0)(s:Str):PT 149 [.str s] (.d (.str (Xq s 65 32))):=by
 refine ok149.pc ?_;simp only[go_sem,JTF,simprocAttr];refine wc (hs.1 s) trivial
theorem JQ6(hs:Sft0)(s:Str):PT 150 [.str s] (.d (.str (Xq s 97 (-32)))):=by
 refine ok150.pc ?_;simp only[go_sem,JTG,simprocAttr];refine wc (hs.2 s) trivial
def JIX(g:Nat)(xs:List UInt8)(N:Nat)(w:World):Prop:=∃tl:List Value,w.heap[g]? =some (.cells ((xs.map fun b=>Value.int .u8 b.toNat)++tl).toArray 5 (N,N+1))∧N=xs.length+tl.length
theorem JIX.cell(h:JIX g xs N w)(hk:k<xs.length):w.cell? ⟨g,k,none⟩=some (.int .u8 (xs.getD k 0).toNat):=by
 obtain⟨tl,h,_⟩:=h;simp[World.cell?,h,List.getElem?_append,hk,List.getD]
theorem JIX.frozen(h:JIX g xs N w)(hk:k<xs.length):w.frozen? ⟨g,k,none⟩=false:=by
 obtain⟨tl,h,hN⟩:=h;have:k<N:=oM;simp[World.frozen?,h];omega
theorem JIX.set(h:JIX g xs N w)(hk:k<xs.length)(b:UInt8):JIX g (xs.set k b) N (w.setCell ⟨g,k,none⟩ (.int .u8 b.toNat)):=by
 obtain⟨tl,h,hN⟩:=h;refine⟨tl,?_,by simpa using hN⟩;simp only[World.setCell,Array.getElem?_modify,h,if_true,Vj];congr 2;apply Array.ext';simp[List.map_set,List.set_append,hk]
theorem JOe(s:Str)(f:Nat)(d:Int)(hk:k<s.length):
  Xq (s.take (k+1)) f d++s.drop (k+1)=(Xq (s.take k) f d++s.drop k).set k (sftB f d (s.getD k 0)):=by
 have e1:(Xq (s.take k) f d).length=k:=by simp[Xq];omega
 have e2:s.drop k=s.getD k 0::s.drop (k+1):=by
  rw[Vq hk];simp[List.getD,Vl hk]
 rw[List.set_append_right _ _ oM,e1,Nat.sub_self,e2,List.set_cons_zero];have e3:s.take (k+1)=s.take k++[s.getD k 0]:=by
  rw[List.take_add_one,Vl hk];simp[List.getD,Vl hk]
 rw[e3];simp[Xq]
theorem JQ7(s:Str)(f:Nat)(d:Int)(hk:k<s.length):(Xq (s.take k) f d++s.drop k).getD k 0=s.getD k 0:=by
 have e1:(Xq (s.take k) f d).length=k:=by simp[Xq];omega
 rw[List.getD_eq_getElem?_getD,Vy oM,e1,Nat.sub_self];simp[List.getD]
theorem JOf{α:Type}(l:List α)(k:Nat)(z:α)(h:k<l.length):l.set k (l.getD k z)=l:=by
 apply List.ext_getElem sP;intro i h1 h2;rw[List.getElem_set];split
 ·rename_i e;subst e;simp[List.getD,Vl h]
 ·rfl
set_option maxHeartbeats 6400000 in
set_option maxRecDepth 1000000 in
theorem JMC(s:Str)(f:Nat)(d:Int)(w:World)(hf:f<230)(hd:∀c:Nat,f≤c→c<f+26→0≤(c:Int)+d∧(c:Int)+d<256)(hd2: -1000≤d∧d≤1000)(hl:s.length≤68719476736):
  Calls Tryz.prog 206 #[.string ⟨s.toArray⟩,.int .u8 f,.int .i64 d] w fun e w'=>e=.returned (.string ⟨(Xq s f d).toArray⟩)∧Below w.heap.size w w':=by
 have hconv:=run_bytes_of_string (P:=Tryz.prog) w 9 267 5 ⟨s.toArray⟩ Tryz.underlying9 Tryz.underlying267 Tryz.underlying5;have hss:(⟨s.toArray⟩:ByteArray).size=s.length:=rfl;rw[hss]at hconv;generalize hcp:grownCap w s.length 0 5=cap at hconv
 go_enter Tryz.func206,Tryz.ntmps206
 go_wp2
 go_loopw [14] (fun i wr=>∃k:Nat,k≤s.length∧i=.int .i64 k∧(∃N,JIX w.heap.size (Xq (s.take k) f d++s.drop k) N wr)∧Below w.heap.size w wr) (fun i wr=>s.length-(intOf i).toNat)
 case atStart=>
  refine⟨0,Nat.zero_le _,rfl,⟨(bytesRow ⟨s.toArray⟩ cap).size,List.replicate (cap-s.length) (.int .u8 0),?_,?_⟩,((Below.refl _ w).drew).alloc (Nat.le_refl _) _⟩
  ·have e:(((Xq (s.take 0) f d++s.drop 0).map fun b=>Value.int .u8 b.toNat)++List.replicate (cap-s.length) (Value.int .u8 0)).toArray=bytesRow ⟨s.toArray⟩ cap:=by
    apply Array.ext';simp[bytesRow,Xq];rfl
   rw[e];exact UC w _
  ·simp[bytesRow,Xq];rfl
 case round=>
  obtain⟨k,hk,rfl,⟨N,hB⟩,hbw⟩:=hrel;by_cases hlt:k<s.length
  ·have hlen:(Xq (s.take k) f d++s.drop k).length=s.length:=by simp[Xq];omega
   have hkl:k<(Xq (s.take k) f d++s.drop k).length:=oM;have hc:=hB.cell hkl;have hfz:=hB.frozen hkl;have hgd:=JQ7 s f d hlt;have hst:=JOe s f d hlt;rw[hgd]at hc;have hcl:(s.getD k 0).toNat<256:=UInt8.toNat_lt _;have hsb:(sftB f d (s.getD k 0))=if f≤(s.getD k 0).toNat∧(s.getD k 0).toNat-f<26 then UInt8.ofNat (((s.getD k 0).toNat:Int)+d).toNat else s.getD k 0:=rfl;generalize hcc:(s.getD k 0).toNat=c at hc hcl hsb;by_cases hin:f≤c∧c<f+26
   ·have hdd:=hd c hin.1 hin.2;obtain⟨e,he⟩:∃e:Nat,(c:Int)+d=(e:Int):=⟨((c:Int)+d).toNat,oM⟩;rw[if_pos ⟨hin.1,oM⟩,he,Vv]at hsb;have hB2:=hB.set hkl (UInt8.ofNat e);have hen:(UInt8.ofNat e).toNat=e:=by
     rw[UInt8.toNat_ofNat'];omega
    rw[hen,←hsb,←hst]at hB2
    go_wp2
    all_goals first
     |(exfalso;omega)
     |(refine⟨⟨k+1,oM,rfl,⟨N,hB2⟩,hbw.setCell (Nat.le_refl _) _⟩,by simp[intOf];omega⟩)
   ·rw[if_neg oM]at hsb;have hB2:=hB;rw[←JOf _ k 0 hkl,hgd,←hsb,←hst]at hB2
    go_wp2
    all_goals first
     |(exfalso;omega)
     |(refine⟨⟨k+1,oM,rfl,⟨N,hB2⟩,hbw⟩,by simp[intOf];omega⟩)
  ·have hkl:k=s.length:=oM;subst hkl;rw[List.take_length,List.drop_length,List.append_nil]at hB;have hsl:(Xq s f d).length=s.length:=by simp[Xq]
   have hback:=run_convert_bytes_back (P:=Tryz.prog) wr 267 9 5 ⟨w.heap.size,0,none⟩ cap (Xq s f d) Tryz.underlying267 Tryz.underlying5 Tryz.underlying9 (fun j hj=>by
    have:=hB.cell hj;have e1:((⟨w.heap.size,0,none⟩:Addr).add j)=⟨w.heap.size,j,none⟩:=by
     simp only[Addr.add,Nat.zero_add];split
     ·rename_i e;rw[e]
     ·rfl
    rw[e1,this];simp[List.getD,Vl hj])
   rw[hsl]at hback
   go_wp2
   go_ret
   exact⟨rfl,hbw⟩
theorem JOg(s:Str)(f:Nat)(d:Int)(hf:f<230)(hd:∀c:Nat,f≤c→c<f+26→0≤(c:Int)+d∧(c:Int)+d<256)(hd2: -1000≤d∧d≤1000):
  CT 206 [.d (.str s),.d (.int .u8 f),.d (.int .i64 d)] [] (.d (.str (Xq s f d))) []:=by
 refine JR.JIt (ds:=[.str s,.int .u8 f,.int .i64 d]) (JL1 Tryz.func206 kR kR) ?_;intro A w vs hsz hv;obtain⟨x,y,z,rfl⟩:∃x y z,vs=#[x,y,z]:=by
  have h3:3=vs.size:=hsz;refine⟨vs[0],vs[1],vs[2],?_⟩;apply Array.ext
  ·simp[←h3]
  ·intro i h1 h2;have:i=0∨i=1∨i=2:=oM;rcases this with rfl|rfl|rfl<;>rfl
 have hx:=hv 0 _ x rfl rfl;have hy:=hv 1 _ y rfl rfl;have hz:=hv 2 _ z rfl rfl;cases hx with
 |str _ hl=>
  cases hy;cases hz;refine(JMC s f d w hf hd hd2 hl).mono ?_;rintro e w' ⟨rfl,hb⟩;exact⟨_,rfl,hb,fun β H=>.d _ _ (.str _ (by simpa[Xq]using hl))⟩
theorem JLH:Sft0:=⟨fun s=>JOg s 65 32 oM (fun c h1 h2=>by omega) oM,fun s=>JOg s 97 (-32) oM (fun c h1 h2=>by omega) oM⟩
end Go.Proofs
namespace Go.Proofs
open Go Av
theorem JJo(e:Exp)(a b:Rz)(hop:e.op=17)(env:Typ)(x:Int):TEx 94 [JL e,.list 9 [JC a,JC b]] env x:=by
 refine JQE.Us (k:=some false) (fun z:Rz×Int=>.d (JC z.1)) (fun z:Rz×Int=>[(1000,tO env z.2)]) (fun z:Rz×Int=>z.2=0→1≤z.1.t.kind) (rz0,1) (fun h=>by cases h) (Nat.le_of_ble_eq_true rfl) (fun _ _=>JU _ _ _) (fun _ _=>trivial) fun hfit=>?_
 have ca:=c90 a.t;have cb:=c90 b.t;generalize PA (JCC a.t)=A at ca;generalize PA (JCC b.t)=B at cb;rw[JA]at ca cb;rw[JF e,hop];obtain⟨l,hl,h0,h1,hn⟩:∃l,[JC a,JC b]=l∧nth l 0=JC a∧nth l 1=JC b∧l.length=2:=⟨_,rfl,rfl,rfl,rfl⟩;rw[hl];simp only[JC]at h0 h1;simp only[go_sem,tO,JN6,Int.reduceToNat,h0,h1,hn,Vv,Vc,simprocAttr]
 repeat with_reducible refine And.intro (by first|decide|omega|(simp;done)|(simp;omega)) ?_
 refine JD (fun h=>?_) (fun h=>?_)
 ·refine wn (c85 18 env x) ?_;simp only[go_sem,JC,Vv,Vc,simprocAttr];exact J8
 refine wn ca ?_;simp only[go_sem,h1,Int.reduceToNat,Int.reduceBEq,hn,Vv,Vc,simprocAttr]
 repeat with_reducible refine And.intro (by first|decide|omega|(simp;done)|(simp;omega)) ?_
 refine JD (fun h=>?_) (fun h=>?_)
 ·refine wn (c85 18 env x) ?_;simp only[go_sem,JC,Vv,Vc,simprocAttr];exact J8
 try simp only[go_sem,h1,Int.reduceToNat,hn,Vv,Vc,simprocAttr]
 repeat with_reducible refine And.intro (by first|decide|omega|(simp;done)|(simp;omega)) ?_
 refine wn cb ?_;simp only[go_sem,Vv,Vc,simprocAttr];exact Yo
theorem JJp(e:Exp)(a b c:Rz)(hop:e.op=21)(env:Typ)(x:Int):TEx 94 [JL e,.list 9 [JC a,JC b,JC c]] env x:=by
 refine JQE.Us (k:=some false) (fun z:Rz×Int=>.d (JC z.1)) (fun z:Rz×Int=>[(1000,tO env z.2)]) (fun z:Rz×Int=>z.2=0→1≤z.1.t.kind) (rz0,1) (fun h=>by cases h) (Nat.le_of_ble_eq_true rfl) (fun _ _=>JU _ _ _) (fun _ _=>trivial) fun hfit=>?_
 have ca:=c90 a.t;generalize PA (JCC a.t)=A at ca;rw[JA]at ca;rw[JF e,hop];obtain⟨l,hl,h0,h1,h2,hn⟩:∃l,[JC a,JC b,JC c]=l∧nth l 0=JC a∧nth l 1=JC b∧nth l 2=JC c∧l.length=3:=⟨_,rfl,rfl,rfl,rfl,rfl⟩;rw[hl];simp only[JC]at h0 h1 h2;simp only[go_sem,tO,JN6,Int.reduceToNat,h0,h1,h2,hn,Vv,Vc,simprocAttr]
 repeat with_reducible refine And.intro (by first|decide|omega|(simp;done)|(simp;omega)) ?_
 refine JD (fun h=>?_) (fun h=>?_)
 ·refine wn (c85 18 env x) ?_;simp only[go_sem,JC,Vv,Vc,simprocAttr];exact J8
 refine wn ca ?_;simp only[go_sem,h1,h2,Int.reduceToNat,Int.reduceBEq,hn,Vv,Vc,simprocAttr]
 repeat with_reducible refine And.intro (by first|decide|omega|(simp;done)|(simp;omega)) ?_
 refine Jt (fun _=>?_) (fun z=>?_)
 ·simp only[go_sem,Vv,Vc,simprocAttr];exact⟨_,rfl⟩
 simp only[go_sem,Vv,Vc,simprocAttr];refine JD (fun h=>?_) (fun h=>?_)
 ·refine wn (c85 18 env x) ?_;simp only[go_sem,JC,Vv,Vc,simprocAttr];exact J8
 try simp only[go_sem,Vv,Vc,simprocAttr]
 refine Jt (fun _=>?_) (fun z=>?_)
 ·simp only[go_sem,Vv,Vc,simprocAttr];exact⟨_,rfl⟩
 simp only[go_sem,Vv,Vc,simprocAttr];exact Yo
theorem JJq(e:Exp)(a:Rz)(hop:e.op=28)(env:Typ)(x:Int):TEx 94 [JL e,.list 9 [JC a]] env x:=by
 refine JQE.Us (k:=some false) (fun z:Rz×Int=>.d (JC z.1)) (fun z:Rz×Int=>[(1000,tO env z.2)]) (fun z:Rz×Int=>z.2=0→1≤z.1.t.kind) (rz0,1) (fun h=>by cases h) (Nat.le_of_ble_eq_true rfl) (fun _ _=>JU _ _ _) (fun _ _=>trivial) fun hfit=>?_
 have ca:=c90 a.t;generalize PA (JCC a.t)=A at ca;rw[JA]at ca;rw[JF e,hop];obtain⟨l,hl,h0,hn⟩:∃l,[JC a]=l∧nth l 0=JC a∧l.length=1:=⟨_,rfl,rfl,rfl⟩;rw[hl];simp only[JC]at h0;simp only[go_sem,tO,JN6,Int.reduceToNat,h0,hn,Vv,Vc,simprocAttr]
 repeat with_reducible refine And.intro (by first|decide|omega|(simp;done)|(simp;omega)) ?_
 refine JD (fun h=>?_) (fun h=>?_)
 ·refine wn (c85 18 env x) ?_;simp only[go_sem,JC,Vv,Vc,simprocAttr];exact J8
 refine wn ca ?_;simp only[go_sem,Int.reduceBEq,Vv,Vc,simprocAttr];refine wn (c91 _ _ _) ?_;rw[JA];simp only[go_sem,Vv,Vc,simprocAttr];exact J8
theorem JCo(e:Exp)(a:Rz)(h19:e.op=19∨e.op=20)(env:Typ)(x:Int):TEx 94 [JL e,.list 9 [JC a]] env x:=by
 refine JQE.Us (k:=some false) (fun z:Rz×Int=>.d (JC z.1)) (fun z:Rz×Int=>[(1000,tO env z.2)]) (fun z:Rz×Int=>z.2=0→1≤z.1.t.kind) (rz0,1) (fun h=>by cases h) (Nat.le_of_ble_eq_true rfl) (fun _ _=>JU _ _ _) (fun _ _=>trivial) fun hfit=>?_
 have hop:(e.op==17)=false∧(e.op==21)=false∧(e.op==28)=false:=by rcases h19 with h|h<;>rw[h]<;>decide
 obtain⟨q1,q2,q3⟩:=hop;have hw:a.t.words.length≤68719476736∧∀w∈a.t.words,w.length≤68719476736:=by
  have:=hfit (.list 9 [JC a]) sP;simp only[fits,XA,JC,Vc]at this;refine⟨this.2.1.2.2.2.2.1.1,fun w hw=>?_⟩;have h:=J5.1 this.2.1.2.2.2.2.1.2 (.str w) (List.mem_map_of_mem hw);exact h
 have ca:=c90 a.t;generalize PA (JCC a.t)=A at ca;rw[JA]at ca;rw[JF e];obtain⟨l,hl,h0,hn⟩:∃l,[JC a]=l∧nth l 0=JC a∧l.length=1:=⟨_,rfl,rfl,rfl⟩;rw[hl];simp only[JC]at h0;simp only[go_sem,tO,JN6,Int.reduceToNat,h0,hn,Vv,Vc,simprocAttr]
 repeat with_reducible refine And.intro (by first|decide|omega|(simp;done)|(simp;omega)) ?_
 refine JD (fun h=>?_) (fun h=>?_)
 ·refine wn (c85 18 env x) ?_;simp only[go_sem,JC,Vv,Vc,simprocAttr];exact J8
 refine wn ca ?_;simp only[go_sem,q1,q2,q3,Vv,Vc,simprocAttr];refine JD (fun h=>?_) (fun h=>?_)
 ·exact J8
 clear hfit;refine JJ (fun n s=>∃(k:Nat) (ws:List Str),k≤a.t.words.length∧n=a.t.words.length-k∧ws.length=k∧s=⟨[(4,.ref 4 0),(6,.ref 6 0),(15,.ms 18 k),(120,.d (.list 1 (a.t.words.map .str))),(121,.d (.int .i64 a.t.words.length)),(122,.d (.int .i64 k))],
  [(1000,tO env x),(4,.box [.d (.int .i64 e.op),.d (.int .i64 e.int),.d (.str e.text),.d (.list 6 (e.value.map JM)),.d (.list 5 (e.args.map JL))]),(6,z9),(18,.row k 1 (ws.map .str))]⟩) ?_ ?_
 ·refine⟨_,_,(Wk.JG9 15 18 1 rfl rfl dC).trans (Wk.less ?_),0,[],Nat.zero_le _,rfl,rfl,rfl⟩;simp[put,go_sem,tO,z9]
 rintro n s ⟨k,ws,hk,rfl,hws,rfl⟩;by_cases hlt:k<a.t.words.length
 ·have hx:=YD hlt;have hd:=dT hlt;have hm:=hw.2 _ (Vk hlt);have cL:=(JQ5 JLH a.t.words[k]).call trivial;have cU:=(JQ6 JLH a.t.words[k]).call trivial;simp only[go_sem,tO,z9,hx,hd,Vv,Vc,simprocAttr]
  repeat with_reducible refine And.intro (by first|decide|omega|(simp;done)|(simp;omega)) ?_
  refine JD (fun h=>?_) (fun h=>?_)
  ·refine wn cL ?_;simp only[go_sem,Vv,Vc,simprocAttr]
   repeat with_reducible refine And.intro (by first|decide|omega|(simp;done)|(simp;omega)) ?_
   refine⟨a.t.words.length-(k+1),_,oM,Wk.less ?_,k+1,ws++[Xq a.t.words[k] 65 32],oM,rfl,sO,rfl⟩;simp[go_sem,tO,z9,JS k oM]
  ·refine wn cU ?_;simp only[go_sem,Vv,Vc,simprocAttr]
   repeat with_reducible refine And.intro (by first|decide|omega|(simp;done)|(simp;omega)) ?_
   refine⟨a.t.words.length-(k+1),_,oM,Wk.less ?_,k+1,ws++[Xq a.t.words[k] 97 (-32)],oM,rfl,sO,rfl⟩;simp[go_sem,tO,z9,JS k oM]
 ·have hd:=dF hlt;simp only[go_sem,tO,z9,hd,Vv,Vc,simprocAttr];refine wn (call117 18 _ _) ?_;simp only[go_sem,Vv,Vc,simprocAttr];refine wn (call151 18 _ _) ?_;simp only[go_sem,Vv,Vc,simprocAttr];exact J8 (e:=[]) (f:=[])
end Go.Proofs
namespace Av
open Go
variable [Glb]
structure Kal where
 service:Str
 rules:List Rule
def JEt(c:Kal):Dat:=.agg [.str c.service,.list 6 (c.rules.map JHx)]
mutual
inductive Ste where
 |mk (name:Str) (kind number time limit:Int) (text schema:Str) (exprs:List Exp) (rules:List Rule) (calls:List Kal) (branches:List Brn)
inductive Brn where
 |mk (cond:List Exp) (steps:List Ste)
end
namespace Ste
def name:Ste→Str|.mk n _ _ _ _ _ _ _ _ _ _=>n
def kind:Ste→Int|.mk _ n _ _ _ _ _ _ _ _ _=>n
def number:Ste→Int|.mk _ _ n _ _ _ _ _ _ _ _=>n
def time:Ste→Int|.mk _ _ _ n _ _ _ _ _ _ _=>n
def limit:Ste→Int|.mk _ _ _ _ n _ _ _ _ _ _=>n
def text:Ste→Str|.mk _ _ _ _ _ n _ _ _ _ _=>n
def schema:Ste→Str|.mk _ _ _ _ _ _ n _ _ _ _=>n
def exprs:Ste→List Exp|.mk _ _ _ _ _ _ _ n _ _ _=>n
def rules:Ste→List Rule|.mk _ _ _ _ _ _ _ _ n _ _=>n
def calls:Ste→List Kal|.mk _ _ _ _ _ _ _ _ _ n _=>n
def branches:Ste→List Brn|.mk _ _ _ _ _ _ _ _ _ _ n=>n
end Ste
namespace Brn
def cond:Brn→List Exp|.mk w _=>w
def steps:Brn→List Ste|.mk _ s=>s
end Brn
mutual
def JDE:Ste→Dat
 |.mk n k u t l x c e r a b=>.agg [.str n,.int .i64 k,.int .i64 u,.int .i64 t,.int .i64 l,.str x,.str c,.list 5 (e.map JL),.list 6 (r.map JHx),.list 2 (a.map JEt),.list 2 (JCD b)]
def Zj:List Ste→List Dat
 |[]=>[]
 |v::r=>JDE v::Zj r
def JIY:Brn→Dat
 |.mk w s=>.agg [.list 5 (w.map JL),.list 11 (Zj s)]
def JCD:List Brn→List Dat
 |[]=>[]
 |v::r=>JIY v::JCD r
end
theorem JEu:∀l:List Ste,Zj l=l.map JDE
 |[]=>by simp[Zj]
 |v::r=>by simp[Zj,JEu r]
theorem JF1:∀l:List Brn,JCD l=l.map JIY
 |[]=>by simp[JCD]
 |v::r=>by simp[JCD,JF1 r]
structure Sch where
 name:Str
 version:Int
 type:Typ
def JMD(c:Sch):Dat:=.agg [.str c.name,.int .i64 c.version,.int .i64 c.type.kind,.int .i64 c.type.min,.int .i64 c.type.max,.int .i64 c.type.scale,.list 1 (c.type.words.map .str),.list 7 (c.type.elem.map JH),.list 11 (c.type.fields.map Jn)]
structure Epd where
 name:Str
 kind:Int
 schema:Str
 version:Int
 fkind:Int
 sep:Int
 widths:List Int
def JF2(x:Epd):Dat:=.agg [.str x.name,.int .i64 x.kind,.str x.schema,.int .i64 x.version,.int .i64 x.fkind,.int .i64 x.sep,.list 1 (x.widths.map (.int .i64))]
structure Svc where
 name:Str
 request:Str
 reply:Str
 undo:Bool
def JME(x:Svc):Dat:=.agg [.str x.name,.str x.request,.str x.reply,.bool x.undo]
structure Rou where
 name:Str
 src:Str
 steps:List Ste
def JMF(x:Rou):Dat:=.agg [.str x.name,.str x.src,.list 11 (x.steps.map JDE)]
structure Prg where
 version:Int
 schemas:List Sch
 endpoints:List Epd
 services:List Svc
 routes:List Rou
def JOh(p:Prg):Dat:=.agg [.int .i64 p.version,.list 9 (p.schemas.map JMD),.list 7 (p.endpoints.map JF2),.list 4 (p.services.map JME),.list 3 (p.routes.map JMF)]
structure Prb where
 code:Int
 route:Str
 place:List Int
 name:Str
def JOi(x:Prb):Dat:=.agg [.int .i64 x.code,.str x.route,.list 1 (x.place.map (.int .i64)),.str x.name]
structure Wlk where
 route:Int
 place:List Int
 step:Ste
def JIZ(x:Wlk):Dat:=.agg [.int .i64 x.route,.list 1 (x.place.map (.int .i64)),.str x.step.name,.int .i64 x.step.kind,.int .i64 x.step.number,.int .i64 x.step.time,.int .i64 x.step.limit,.str x.step.text,.str x.step.schema,.list 5 (x.step.exprs.map JL),.list 6 (x.step.rules.map JHx),.list 2 (x.step.calls.map JEt),.list 2 (x.step.branches.map JIY)]
theorem Yz{α:Type}(f:α→Dat){xs:List α}{k:Nat}(h:k<xs.length):nth (xs.map f) k=f xs[k]:=by
 rw[Uc (sX h),List.getElem_map]
theorem XR(l:List Int):JQ (l.map (.int .i64))=l.map (.int .i64):=by
 rw[Jv,List.map_map];exact List.map_congr_left fun p _=>by simp[Dat.canon]
theorem JDF(c:Kal):(JEt c).canon=JEt c:=by simp only[JEt,Dat.canon,JQ,YQ]
theorem JAS(l:List Kal):JQ (l.map JEt)=l.map JEt:=by
 rw[Jv,List.map_map];exact List.map_congr_left fun r _=>JDF r
mutual
theorem JDG:∀s:Ste,(JDE s).canon=JDE s
 |.mk n k u t l x c e r a b=>by simp only[JDE,Dat.canon,JQ,Uz,YQ,JAS,JAT b]
theorem Zk:∀l:List Ste,JQ (Zj l)=Zj l
 |[]=>by simp[Zj,JQ]
 |v::r=>by simp only[Zj,JQ,JDG v,Zk r]
theorem JEv:∀b:Brn,(JIY b).canon=JIY b
 |.mk w s=>by simp only[JIY,Dat.canon,JQ,Uz,Zk s]
theorem JAT:∀l:List Brn,JQ (JCD l)=JCD l
 |[]=>by simp[JCD,JQ]
 |v::r=>by simp only[JCD,JQ,JEv v,JAT r]
end
theorem JDH(l:List Ste):JQ (l.map JDE)=l.map JDE:=by rw[←JEu,Zk]
theorem JDI(l:List Brn):JQ (l.map JIY)=l.map JIY:=by rw[←JF1,JAT]
theorem JEw(c:Sch):(JMD c).canon=JMD c:=by simp only[JMD,Dat.canon,JQ,Yy,JAM,JAN]
theorem JDJ(c:Epd):(JF2 c).canon=JF2 c:=by simp only[JF2,Dat.canon,JQ,XR]
theorem JEx(c:Svc):(JME c).canon=JME c:=by simp only[JME,Dat.canon,JQ]
theorem JEy(c:Rou):(JMF c).canon=JMF c:=by simp only[JMF,Dat.canon,JQ,JDH]
theorem JEz(c:Prb):(JOi c).canon=JOi c:=by simp only[JOi,Dat.canon,JQ,XR]
theorem JDK(c:Wlk):(JIZ c).canon=JIZ c:=by simp only[JIZ,Dat.canon,JQ,XR,Uz,YQ,JAS,JDI]
theorem U6{α:Type}(f:α→Dat)(h:∀a,(f a).canon=f a)(l:List α):JQ (l.map f)=l.map f:=by
 rw[Jv,List.map_map];exact List.map_congr_left fun r _=>h r
theorem JDL(l:List Sch):JQ (l.map JMD)=l.map JMD:=U6 _ JEw l
theorem JDM(l:List Epd):JQ (l.map JF2)=l.map JF2:=U6 _ JDJ l
theorem JDN(l:List Svc):JQ (l.map JME)=l.map JME:=U6 _ JEx l
theorem JDO(l:List Rou):JQ (l.map JMF)=l.map JMF:=U6 _ JEy l
theorem JIa(l:List Prb):JQ (l.map JOi)=l.map JOi:=U6 _ JEz l
theorem JIb(l:List Wlk):JQ (l.map JIZ)=l.map JIZ:=U6 _ JDK l
theorem JIc(p:Prg):(JOh p).canon=JOh p:=by simp only[JOh,Dat.canon,JQ,JDL,JDM,JDN,JDO]
attribute [go_sem] XR JDF JAS JDG JEv JDH JDI JEw JDJ JEx JEy JEz JDK JDL JDM JDN JDO JIa JIb JIc
end Av
namespace Go.Proofs
open Go Av
theorem ex274(l:List Int)(hl:1≤l.length)(hl2:l.length≤1000):∃x:Int,True∧PT 144 [.list 1 (l.map (.int .i64))] (.d (.int .i64 x)):=by
 refine ok144.pex (fun x:Int=>.d (.int .i64 x)) (fun x:Int=>True) (Nat.le_of_ble_eq_true rfl) (fun _ _=>by simp[Uv,JT,JN]) ?_;have h1:decide ((l.length:Int)<1)=false:=sO;have h0:nth (l.map (Dat.int .i64)) 0=.int .i64 l[0]:=Yz (Dat.int .i64) (k:=0) oM;simp only[go_sem,JSs,h1,Int.reduceToNat,h0,Vv,Vc,simprocAttr]
 repeat with_reducible refine And.intro (by first|decide|omega|(simp;done)|(simp;omega)) ?_
 refine JJ (fun n s=>∃(k:Nat) (m:Int),k≤l.length∧n=l.length-k∧s=⟨[(0,.d (.list 1 (l.map (.int .i64)))),(3,.d (.int .i64 m)),(4,.d (.int .i64 k))],[]⟩) ?_ ?_
 ·exact⟨_,_,Wk.refl _,1,l[0],hl,rfl,rfl⟩
 rintro n s ⟨k,m,hk,rfl,rfl⟩;by_cases hlt:k<l.length
 ·have hx:=Yz (Dat.int .i64) hlt;have hd:=dT hlt;simp only[go_sem,hx,hd,JS k oM,Vv,Vc,simprocAttr]
  repeat with_reducible refine And.intro (by first|decide|omega|(simp;done)|(simp;omega)) ?_
  exact⟨l.length-(k+1),_,oM,Wk.refl _,k+1,_,oM,rfl,rfl⟩
 ·have hd:=dF hlt;simp only[go_sem,hd,Vv,Vc,simprocAttr];exact⟨_,rfl⟩
theorem ex275(l:List Int)(hl:1≤l.length)(hl2:l.length≤1000):∃x:Int,True∧PT 145 [.list 1 (l.map (.int .i64))] (.d (.int .i64 x)):=by
 refine ok145.pex (fun x:Int=>.d (.int .i64 x)) (fun x:Int=>True) (Nat.le_of_ble_eq_true rfl) (fun _ _=>by simp[Uv,JT,JN]) ?_;have h1:decide ((l.length:Int)<1)=false:=sO;have h0:nth (l.map (Dat.int .i64)) 0=.int .i64 l[0]:=Yz (Dat.int .i64) (k:=0) oM;simp only[go_sem,JSt,h1,Int.reduceToNat,h0,Vv,Vc,simprocAttr]
 repeat with_reducible refine And.intro (by first|decide|omega|(simp;done)|(simp;omega)) ?_
 refine JJ (fun n s=>∃(k:Nat) (m:Int),k≤l.length∧n=l.length-k∧s=⟨[(0,.d (.list 1 (l.map (.int .i64)))),(3,.d (.int .i64 m)),(4,.d (.int .i64 k))],[]⟩) ?_ ?_
 ·exact⟨_,_,Wk.refl _,1,l[0],hl,rfl,rfl⟩
 rintro n s ⟨k,m,hk,rfl,rfl⟩;by_cases hlt:k<l.length
 ·have hx:=Yz (Dat.int .i64) hlt;have hd:=dT hlt;simp only[go_sem,hx,hd,JS k oM,Vv,Vc,simprocAttr]
  repeat with_reducible refine And.intro (by first|decide|omega|(simp;done)|(simp;omega)) ?_
  exact⟨l.length-(k+1),_,oM,Wk.refl _,k+1,_,oM,rfl,rfl⟩
 ·have hd:=dF hlt;simp only[go_sem,hd,Vv,Vc,simprocAttr];exact⟨_,rfl⟩
abbrev T269(b:Bool):List (Nat×Av.Obj):=[(1000,.box [.d (.bool b)])]
theorem ex269(n:Int)(r b:Bool):∃z:Bool,True∧KT 139 [.d (.int .i64 n),.d (.bool r),.ref 1000 0] (T269 b) (.d (.int .i64 n)) [(1000,.box [.d (.bool z)])]:=by
 refine ok139.cex (k:=some false) (fun _=>.d (.int .i64 n)) (fun z:Bool=>[(1000,.box [.d (.bool z)])]) (fun _=>True) (Nat.le_of_ble_eq_true rfl) (fun _ _=>Jj (by simp[J6,put,Jc,J0,JN,JT,Av.get])) (fun _ _=>trivial) ?_;simp only[go_sem,T269,JSo,Vv,Vc,simprocAttr];refine Jt (fun _=>?_) (fun z=>?_)
 ·simp only[go_sem,Vv,Vc,simprocAttr];exact⟨_,rfl⟩
 simp only[go_sem,Vv,Vc,simprocAttr];exact⟨z,rfl⟩
theorem c139(n:Int)(r b:Bool)(i:Nat):∃z:Bool,CT 139 [.d (.int .i64 n),.d (.bool r),.ref i 0] [(i,some (.box [.d (.bool b)]))] (.d (.int .i64 n)) [(i,.box [.d (.bool z)])]:=by
 obtain⟨z,-,h⟩:=ex269 n r b;have:=h.JIv (fun _=>i) [1000] rfl dC sP sP (by simp[JT,JN,Av.get]) (by simp[Jc,J0,JN,JT,Av.get]) (by simp[J6,put,Jc,J0,JN,JT,Av.get]) trivial;simp only[T269,Va,Vb,Av.ren,Obj.ren,J7]at this;exact⟨z,this⟩
abbrev JId(b:Bool):List (Nat×Av.Obj):=[(1000,.box [.clo (.func 139) [] [.ref 1001 0]]),(1001,.box [.d (.bool b)])]
theorem ex270(n k:Int)(b:Bool):∃z:Int×Bool,True∧KT 140 [.d (.int .i64 n),.d (.int .i64 k),.ref 1000 0] (JId b) (.d (.int .i64 z.1)) [(1001,.box [.d (.bool z.2)])]:=by
 refine ok140.cex (k:=some false) (T:=JId b) (fun z:Int×Bool=>.d (.int .i64 z.1)) (fun z:Int×Bool=>[(1001,.box [.d (.bool z.2)])]) (fun _=>True) (Nat.le_of_ble_eq_true rfl) (fun _ _=>Jj (by simp[J6,put,Jc,J0,JN,JT,Av.get])) (fun _ _=>trivial) ?_;simp only[go_sem,JId,JSp,Vv,Vc,simprocAttr];refine JE rfl (c136 n k) trivial ?_;simp only[go_sem,Vv,Vc,simprocAttr];obtain⟨z,c⟩:=c139 (PA (JFx n k)).1 (PA (JFx n k)).2 b 1001;refine JE rfl c ⟨rfl,trivial⟩ ?_;simp only[go_sem,Vv,Vc,simprocAttr];exact⟨dC,(_,z),rfl,rfl⟩
theorem JQ8(n k:Int)(b:Bool):∃z:Int×Bool,CT 140 [.d (.int .i64 n),.d (.int .i64 k),.ref 10 0] [(10,some (.box [.clo (.func 139) [] [.ref 9 0]])),(9,some (.box [.d (.bool b)]))] (.d (.int .i64 z.1)) [(9,.box [.d (.bool z.2)])]:=by
 obtain⟨z,-,h⟩:=ex270 n k b;have:=h.JIv (fun i=>if i=1000 then 10 else 9) [1000,1001] rfl dC dC sP (by simp[JT,JN,Av.get]) (by simp[Jc,J0,JN,JT,Av.get]) (by simp[J6,put,Jc,J0,JN,JT,Av.get]) trivial;simp only[JId,Va,Vb,Av.ren,Obj.ren,J7,Nat.reduceEqDiff,↓reduceIte]at this;exact⟨z,this⟩
theorem d270(n k:Int)(b:Bool):CT 140 [.d (.int .i64 n),.d (.int .i64 k),.ref 10 0] [(10,some (.box [.clo (.func 139) [] [.ref 9 0]])),(9,some (.box [.d (.bool b)]))] (.d (.int .i64 (Classical.choose (JQ8 n k b)).1)) [(9,.box [.d (.bool (Classical.choose (JQ8 n k b)).2)])]:=Classical.choose_spec (JQ8 n k b)
theorem ex271(n k:Int)(b:Bool):∃z:Int×Bool,True∧KT 141 [.d (.int .i64 n),.d (.int .i64 k),.ref 1000 0] (JId b) (.d (.int .i64 z.1)) [(1001,.box [.d (.bool z.2)])]:=by
 refine ok141.cex (k:=some false) (T:=JId b) (fun z:Int×Bool=>.d (.int .i64 z.1)) (fun z:Int×Bool=>[(1001,.box [.d (.bool z.2)])]) (fun _=>True) (Nat.le_of_ble_eq_true rfl) (fun _ _=>Jj (by simp[J6,put,Jc,J0,JN,JT,Av.get])) (fun _ _=>trivial) ?_;simp only[go_sem,JId,JSq,Vv,Vc,simprocAttr];refine JE rfl (JQe _) trivial ?_;simp only[go_sem,Vv,Vc,simprocAttr];refine JE rfl (JQe _) trivial ?_;simp only[go_sem,Vv,Vc,simprocAttr];obtain⟨z,c⟩:=c139 (PA (JK4 (IntKind.i64.wrap (n+k)))) (PA (JK4 (IntKind.i64.wrap (n+k)))==IntKind.i64.wrap (n+k)) b 1001;refine JE rfl c ⟨rfl,trivial⟩ ?_;simp only[go_sem,Vv,Vc,simprocAttr];exact⟨dC,(_,z),rfl,rfl⟩
theorem c141(n k:Int)(b:Bool):∃z:Int×Bool,CT 141 [.d (.int .i64 n),.d (.int .i64 k),.ref 10 0] [(10,some (.box [.clo (.func 139) [] [.ref 9 0]])),(9,some (.box [.d (.bool b)]))] (.d (.int .i64 z.1)) [(9,.box [.d (.bool z.2)])]:=by
 obtain⟨z,-,h⟩:=ex271 n k b;have:=h.JIv (fun i=>if i=1000 then 10 else 9) [1000,1001] rfl dC dC sP (by simp[JT,JN,Av.get]) (by simp[Jc,J0,JN,JT,Av.get]) (by simp[J6,put,Jc,J0,JN,JT,Av.get]) trivial;simp only[JId,Va,Vb,Av.ren,Obj.ren,J7,Nat.reduceEqDiff,↓reduceIte]at this;exact⟨z,this⟩
theorem d271(n k:Int)(b:Bool):CT 141 [.d (.int .i64 n),.d (.int .i64 k),.ref 10 0] [(10,some (.box [.clo (.func 139) [] [.ref 9 0]])),(9,some (.box [.d (.bool b)]))] (.d (.int .i64 (Classical.choose (c141 n k b)).1)) [(9,.box [.d (.bool (Classical.choose (c141 n k b)).2)])]:=Classical.choose_spec (c141 n k b)
theorem JOj(k a b s k' a' b' s':Int)(w w':List Str)(e e':List Typ)(f f':List TFl)(n:Int):CT 143 [.d (.agg [.int .i64 k,.int .i64 a,.int .i64 b,.int .i64 s,.list 1 (w.map .str),.list 7 (e.map JH),.list 11 (f.map Jn)]),
  .d (.agg [.int .i64 k',.int .i64 a',.int .i64 b',.int .i64 s',.list 1 (w'.map .str),.list 7 (e'.map JH),.list 11 (f'.map Jn)]),.d (.int .i64 n)] [] (.d (.int .i64 (if k==2&&k'==2 then-1 else n))) []:=by
 have:=c143 (.mk k a b s w e f) (.mk k' a' b' s' w' e' f') n;simp only[JA,Typ.kind,Typ.min,Typ.max,Typ.scale,Typ.words,Typ.elem,Typ.fields]at this;exact this
theorem Zr(e:Exp)(a b:Typ)(env:Typ)(x:Int):TEx 88 [JL e,JH a,JH b] env x:=by
 refine ok88.Us (k:=some false) (fun z:Rz×Int=>.d (JC z.1)) (fun z:Rz×Int=>[(1000,tO env z.2)]) (fun z:Rz×Int=>z.2=0→1≤z.1.t.kind) (rz0,1) (fun h=>by cases h) (Nat.le_of_ble_eq_true rfl) (fun _ _=>JU _ _ _) (fun _ _=>trivial) fun hfit=>?_
 have n1:=c89 a;have n2:=c89 b;obtain⟨F276,h276⟩:∃F:Int→Int→Int,∀n k,CT 146 [.d (.int .i64 n),.d (.int .i64 k)] [] (.d (.int .i64 (F n k))) []:=⟨fun n k=>PA (JOG n k),c146⟩;rw[JA]at n1 n2;rw[JF e,JA a,JA b];simp only[go_sem,tO,ir88,Vv,Vc,Nat.reduceAdd,Nat.reduceEqDiff,Nat.reduceBEq,Nat.reduceLeDiff,reduceCtorEq,↓reduceIte];refine wn n1 ?_;simp only[go_sem,Vv,Vc,Nat.reduceAdd,Nat.reduceEqDiff,Nat.reduceBEq,Nat.reduceLeDiff,reduceCtorEq,↓reduceIte];refine Jt (fun _=>?_) (fun z=>?_)
 ·simp only[go_sem,Vv,Vc,Nat.reduceAdd,Nat.reduceEqDiff,Nat.reduceBEq,Nat.reduceLeDiff,reduceCtorEq,↓reduceIte];refine wn n2 ?_;simp only[go_sem,Vv,Vc,Nat.reduceAdd,Nat.reduceEqDiff,Nat.reduceBEq,Nat.reduceLeDiff,reduceCtorEq,↓reduceIte];exact⟨_,rfl⟩
 simp only[go_sem,Vv,Vc,Nat.reduceAdd,Nat.reduceEqDiff,Nat.reduceBEq,Nat.reduceLeDiff,reduceCtorEq,↓reduceIte];refine JD (fun h=>?_) (fun h=>?_)
 ·refine wn (c85 18 env x) ?_;simp only[go_sem,JC,Vv,Vc,Nat.reduceAdd,Nat.reduceEqDiff,Nat.reduceBEq,Nat.reduceLeDiff,reduceCtorEq,↓reduceIte];exact J8
 clear hfit
 try simp only[go_sem,Vv,Vc,Nat.reduceAdd,Nat.reduceEqDiff,Nat.reduceBEq,Nat.reduceLeDiff,reduceCtorEq,↓reduceIte]
 refine JD (fun h=>?_) (fun h=>?_)
 ·refine JD (fun h=>?_) (fun h=>?_)
  ·refine wn (c85 14 env x) ?_;simp only[go_sem,JC,Vv,Vc,Nat.reduceAdd,Nat.reduceEqDiff,Nat.reduceBEq,Nat.reduceLeDiff,reduceCtorEq,↓reduceIte];exact J8
  try simp only[go_sem,Vv,Vc,Nat.reduceAdd,Nat.reduceEqDiff,Nat.reduceBEq,Nat.reduceLeDiff,reduceCtorEq,↓reduceIte]
  repeat with_reducible refine And.intro (by first|decide|omega|(simp;done)|(simp;omega)) ?_
  have hl2:nth [Dat.int .i64 a.min,.int .i64 a.max] 0=.int .i64 a.min∧nth [Dat.int .i64 a.min,.int .i64 a.max] 1=.int .i64 a.max:=⟨rfl,rfl⟩;have hm2:nth [Dat.int .i64 b.min,.int .i64 b.max] 0=.int .i64 b.min∧nth [Dat.int .i64 b.min,.int .i64 b.max] 1=.int .i64 b.max:=⟨rfl,rfl⟩;generalize hla:[Dat.int .i64 a.min,.int .i64 a.max]=la at hl2;have hna:la.length=2:=by rw[←hla];rfl
  generalize IntKind.i64.wrap (a.scale+b.scale)=s0;refine JJ (fun n s=>∃(k:Nat) (l:List Int) (w:Bool),k≤2∧n=2-k∧l.length=2*k∧s=⟨[(6,.ref 6 0),(7,.ref 7 0),(8,.ref 8 0),(9,.ref 9 0),(10,.ref 10 0),(13,.d (.int .i64 s0)),(14,.ms 26 (2*k)),(53,.d (.list 1 la)),(54,.d (.int .i64 2)),(55,.d (.int .i64 k))],
   [(6,.box (tC a)),(7,.box (tC b)),(8,z9),(9,.box [.d (.bool w)]),(10,.box [.clo (.func 139) [] [.ref 9 0]]),(26,.row (2*k) 1 (l.map (.int .i64))),(1000,tO env x)]⟩) ?_ ?_
  ·refine⟨_,_,(Wk.JG9 14 26 1 rfl rfl dC).trans (Wk.less ?_),0,[],true,oM,rfl,rfl,rfl⟩;simp[put,go_sem,tO,z9]
  rintro n s ⟨k,l,w,hk,rfl,hl,rfl⟩;by_cases hlt:k<2
  ·have hd:decide ((k:Int)<2)=true:=sO;have hx:∃m,nth la k=.int .i64 m:=by
    have:k=0∨k=1:=oM;rcases this with rfl|rfl
    ·exact⟨_,hl2.1⟩
    ·exact⟨_,hl2.2⟩
   obtain⟨m,hx⟩:=hx;simp only[go_sem,tO,z9,tC,hx,hd,hna,Vv,Vc,Nat.reduceAdd,Nat.reduceEqDiff,Nat.reduceBEq,Nat.reduceLeDiff,reduceCtorEq,↓reduceIte]
   repeat with_reducible refine And.intro (by first|decide|omega|(simp;done)|(simp;omega)) ?_
   generalize hlb:[Dat.int .i64 b.min,.int .i64 b.max]=lb at hm2;have hnb:lb.length=2:=by rw[←hlb];rfl
   refine JJ (fun n s=>∃(j:Nat) (l:List Int) (w:Bool),j≤2∧n=2-j∧l.length=2*k+j∧s=⟨[(6,.ref 6 0),(7,.ref 7 0),(8,.ref 8 0),(9,.ref 9 0),(10,.ref 10 0),(13,.d (.int .i64 s0)),(14,.ms 26 (2*k+j)),(53,.d (.list 1 la)),(54,.d (.int .i64 2)),(55,.d (.int .i64 k)),(16,.d (.int .i64 m)),(63,.d (.list 1 lb)),(64,.d (.int .i64 2)),(65,.d (.int .i64 j))],
    [(6,.box (tC a)),(7,.box (tC b)),(8,z9),(9,.box [.d (.bool w)]),(10,.box [.clo (.func 139) [] [.ref 9 0]]),(26,.row (2*k+j) 1 (l.map (.int .i64))),(1000,tO env x)]⟩) ?_ ?_
   ·refine⟨_,_,Wk.less ?_,0,l,w,oM,rfl,oM,rfl⟩;simp[put,go_sem,tO,z9]
   rintro n s ⟨j,l,w,hj,rfl,hl,rfl⟩;by_cases hjt:j<2
   ·have hd:decide ((j:Int)<2)=true:=sO;have hy:∃m,nth lb j=.int .i64 m:=by
     have:j=0∨j=1:=oM;rcases this with rfl|rfl
     ·exact⟨_,hm2.1⟩
     ·exact⟨_,hm2.2⟩
    obtain⟨m2,hy⟩:=hy;have c1:=c134 m m2;generalize PA (JFw m m2)=R at c1;obtain⟨z,c2⟩:=c139 R.1 R.2 w 9;simp only[go_sem,tO,z9,tC,hy,hd,hnb,JS j oM,Vv,Vc,Nat.reduceAdd,Nat.reduceEqDiff,Nat.reduceBEq,Nat.reduceLeDiff,reduceCtorEq,↓reduceIte]
    repeat with_reducible refine And.intro (by first|decide|omega|(simp;done)|(simp;omega)) ?_
    refine JE rfl c1 trivial ?_;simp only[go_sem,Vv,Vc,Nat.reduceAdd,Nat.reduceEqDiff,Nat.reduceBEq,Nat.reduceLeDiff,reduceCtorEq,↓reduceIte];refine JE rfl c2 ⟨rfl,trivial⟩ ?_;simp only[go_sem,Vv,Vc,Nat.reduceAdd,Nat.reduceEqDiff,Nat.reduceBEq,Nat.reduceLeDiff,reduceCtorEq,↓reduceIte]
    repeat with_reducible refine And.intro (by first|decide|omega|(simp;done)|(simp;omega)) ?_
    refine⟨2-(j+1),_,oM,Wk.less ?_,j+1,l++[R.1],z,oM,rfl,sO,rfl⟩;simp[go_sem,tO,z9,JS j oM,Nat.add_assoc]
   ·have hd:decide ((j:Int)<2)=false:=sO;obtain rfl:j=2:=oM;simp only[go_sem,tO,z9,tC,hd,JS k oM,Vv,Vc,Nat.reduceAdd,Nat.reduceEqDiff,Nat.reduceBEq,Nat.reduceLeDiff,reduceCtorEq,↓reduceIte];refine⟨2-(k+1),_,oM,Wk.less ?_,k+1,l,w,oM,rfl,oM,rfl⟩;simp[go_sem,tO,z9,Nat.mul_add]
  ·have hd:decide ((k:Int)<2)=false:=sO;obtain rfl:k=2:=oM;simp only[go_sem,tO,z9,tC,hd,Vv,Vc,Nat.reduceAdd,Nat.reduceEqDiff,Nat.reduceBEq,Nat.reduceLeDiff,reduceCtorEq,↓reduceIte];refine JE rfl (JOj _ _ _ _ _ _ _ _ _ _ _ _ _ _ _) trivial ?_;simp only[go_sem,Vv,Vc,Nat.reduceAdd,Nat.reduceEqDiff,Nat.reduceBEq,Nat.reduceLeDiff,reduceCtorEq,↓reduceIte];obtain⟨mn,-,hmn⟩:=ex274 l oM oM;obtain⟨mx,-,hmx⟩:=ex275 l oM oM;refine JDD rfl rfl sP (by simp only[Va,Vb,Dat.canon,XR];exact hmn) rfl ?_;simp only[go_sem,Vv,Vc,Nat.reduceAdd,Nat.reduceEqDiff,Nat.reduceBEq,Nat.reduceLeDiff,reduceCtorEq,↓reduceIte];refine JDD rfl rfl sP (by simp only[Va,Vb,Dat.canon,XR];exact hmx) rfl ?_;simp only[go_sem,Vv,Vc,Nat.reduceAdd,Nat.reduceEqDiff,Nat.reduceBEq,Nat.reduceLeDiff,reduceCtorEq,↓reduceIte];refine JE rfl (c91 _ _ _) trivial ?_;rw[JA];simp only[go_sem,Vv,Vc,Nat.reduceAdd,Nat.reduceEqDiff,Nat.reduceBEq,Nat.reduceLeDiff,reduceCtorEq,↓reduceIte];exact⟨rfl,J8⟩
 ·refine JD (fun h=>?_) (fun h=>?_)
  ·refine wn (d270 _ _ _) ?_;simp only[go_sem,Vv,Vc,Nat.reduceAdd,Nat.reduceEqDiff,Nat.reduceBEq,Nat.reduceLeDiff,reduceCtorEq,↓reduceIte];generalize Classical.choose (JQ8 _ _ _)=Z;refine JE rfl (c91 _ _ _) trivial ?_;rw[JA];simp only[go_sem,Vv,Vc,Nat.reduceAdd,Nat.reduceEqDiff,Nat.reduceBEq,Nat.reduceLeDiff,reduceCtorEq,↓reduceIte];refine⟨decide (b.min>0)||decide (b.max<0),_,[([],[]),([7],[]),([],[]),([],[]),([],[]),([7],[]),([],[]),([],[])],rfl,fun _=>⟨decide (b.max<0),_,[([],[]),([7],[]),([],[])],rfl,fun _=>⟨rfl,rfl,rfl⟩,fun _=>rfl,sP⟩,fun _=>rfl,?_⟩;simp only[go_sem,Vv,Vc,Nat.reduceAdd,Nat.reduceEqDiff,Nat.reduceBEq,Nat.reduceLeDiff,reduceCtorEq,↓reduceIte]
   repeat with_reducible refine And.intro (by first|decide|omega|(simp;done)|(simp;omega)) ?_
   exact J8
  refine JE rfl (h276 _ _) trivial ?_;simp only[go_sem,Vv,Vc,Nat.reduceAdd,Nat.reduceEqDiff,Nat.reduceBEq,Nat.reduceLeDiff,reduceCtorEq,↓reduceIte];refine JE rfl (h276 _ _) trivial ?_;simp only[go_sem,Vv,Vc,Nat.reduceAdd,Nat.reduceEqDiff,Nat.reduceBEq,Nat.reduceLeDiff,reduceCtorEq,↓reduceIte];refine JE rfl (h276 _ _) trivial ?_;simp only[go_sem,Vv,Vc,Nat.reduceAdd,Nat.reduceEqDiff,Nat.reduceBEq,Nat.reduceLeDiff,reduceCtorEq,↓reduceIte];refine JE rfl (h276 _ _) trivial ?_;simp only[go_sem,Vv,Vc,Nat.reduceAdd,Nat.reduceEqDiff,Nat.reduceBEq,Nat.reduceLeDiff,reduceCtorEq,↓reduceIte]
  repeat with_reducible refine And.intro (by first|decide|omega|(simp;done)|(simp;omega)) ?_
  refine JD (fun h=>?_) (fun h=>?_)
  ·refine JE rfl (d271 _ _ _) ⟨rfl,rfl,trivial⟩ ?_;simp only[go_sem,Vv,Vc,Nat.reduceAdd,Nat.reduceEqDiff,Nat.reduceBEq,Nat.reduceLeDiff,reduceCtorEq,↓reduceIte];generalize Classical.choose (c141 _ _ _)=Z1;refine JE rfl (d271 _ _ _) ⟨rfl,rfl,trivial⟩ ?_;simp only[go_sem,Vv,Vc,Nat.reduceAdd,Nat.reduceEqDiff,Nat.reduceBEq,Nat.reduceLeDiff,reduceCtorEq,↓reduceIte];generalize Classical.choose (c141 _ _ _)=Z2
   repeat with_reducible refine And.intro (by first|decide|omega|(simp;done)|(simp;omega)) ?_
   refine JE rfl (JOj _ _ _ _ _ _ _ _ _ _ _ _ _ _ _) trivial ?_;simp only[go_sem,Vv,Vc,Nat.reduceAdd,Nat.reduceEqDiff,Nat.reduceBEq,Nat.reduceLeDiff,reduceCtorEq,↓reduceIte];refine JE rfl (c91 _ _ _) trivial ?_;rw[JA];simp only[go_sem,Vv,Vc,Nat.reduceAdd,Nat.reduceEqDiff,Nat.reduceBEq,Nat.reduceLeDiff,reduceCtorEq,↓reduceIte]
   repeat with_reducible refine And.intro (by first|decide|omega|(simp;done)|(simp;omega)) ?_
   exact J8
  ·refine JE rfl (d271 _ _ _) ⟨rfl,rfl,trivial⟩ ?_;simp only[go_sem,Vv,Vc,Nat.reduceAdd,Nat.reduceEqDiff,Nat.reduceBEq,Nat.reduceLeDiff,reduceCtorEq,↓reduceIte];generalize Classical.choose (c141 _ _ _)=Z1;refine JE rfl (d271 _ _ _) ⟨rfl,rfl,trivial⟩ ?_;simp only[go_sem,Vv,Vc,Nat.reduceAdd,Nat.reduceEqDiff,Nat.reduceBEq,Nat.reduceLeDiff,reduceCtorEq,↓reduceIte];generalize Classical.choose (c141 _ _ _)=Z2
   repeat with_reducible refine And.intro (by first|decide|omega|(simp;done)|(simp;omega)) ?_
   refine JE rfl (JOj _ _ _ _ _ _ _ _ _ _ _ _ _ _ _) trivial ?_;simp only[go_sem,Vv,Vc,Nat.reduceAdd,Nat.reduceEqDiff,Nat.reduceBEq,Nat.reduceLeDiff,reduceCtorEq,↓reduceIte];refine JE rfl (c91 _ _ _) trivial ?_;rw[JA];simp only[go_sem,Vv,Vc,Nat.reduceAdd,Nat.reduceEqDiff,Nat.reduceBEq,Nat.reduceLeDiff,reduceCtorEq,↓reduceIte]
   repeat with_reducible refine And.intro (by first|decide|omega|(simp;done)|(simp;omega)) ?_
   exact J8
end Go.Proofs
namespace Go.Proofs
open Go Av
open Av.Y
def ir147:Ic:=q (R (ox 2 0<|ox 3 1<|oz 4 0<|N) [0,1,4])<|q (q (R (oL 6 7 2<|cl 7 23 [t 6]<|om 5 7<|N) [2,6,7])<|q (R (om 8 5<|oi 9 .neq 8 0<|N) [8])<|D (I 9 (q (R (om 10 5<|om 4 10<|N) [3,5,9,10])<|.ret) S) [5,9])<|q (R (oL 11 7 3<|cl 12 23 [t 11]<|om 4 12<|N) [3,11,12])<|.ret
theorem ok147:FT 147 13 ir147 [.tmp 4]:=.o Tryz.func147
def ir255:Ic:=q (R (ox 1 0<|oz 2 0<|oz 3 0<|ok 4 (.k (.nil 1))<|N) [0,2,3,4])<|q (R (of 7 1 4<|ol 8 7<|om 4 8<|N) [7,8])<|q (q (R (om 9 4<|oh 10 9<|oi 11 .eql 10 0<|om 12 11<|.sc 12 true (of 13 1 2<|ol 14 13<|oi 15 .eql 14 0<|N) (t 15) 16 N) [9,10,11,12])<|D (I 16 (R (oo 17 (.bls 1 [.k (.str [])])<|om 4 17<|N) [16,17]) S) [16])<|q (R (of 18 1 1<|ol 19 18<|of 20 1 2<|ol 21 20<|om 2 19<|om 3 21<|N) [18,19,20,21])<|q (q (R (of 22 1 4<|ol 23 22<|oh 24 23<|oz 25 0<|N) [1,22])<|D (.block 0<|.loop (q (.reg (ot 26 .lss 25 24<|N))<|q (D (I 26 S (E 0)) [26])<|q (D (.block 1<|q (R (om 27 25<|oa false 28 1 23 25<|ol 29 28<|om 5 27<|om 6 29<|N) [27,28,29])<|q (q (R (om 30 5<|oi 31 .eql 30 0<|N) [5,30])<|D (I 31 (R (om 32 6<|oj 33 32<|om 34 6<|oj 35 34<|om 2 33<|om 3 35<|N) [31,32,33,34,35]) S) [31])<|R (om 36 2<|om 37 6<|oj 38 37<|oo 39 (.mn (t 36) (t 38))<|om 40 3<|om 41 6<|oj 42 41<|oo 43 (.mx (t 40) (t 42))<|om 2 39<|om 3 43<|N) [6,36,37,38,39,40,41,42,43]) [])<|R (oi 44 .add 25 1<|om 25 44<|N) [44])) [23,24,25,26,5,6])<|q (R (om 45 2<|om 46 3<|om 47 4<|om 2 45<|om 3 46<|om 4 47<|N) [45,46,47])<|.ret
theorem ok255:FT 255 48 ir255 [.tmp 2,.tmp 3,.tmp 4]:=.o Tryz.func255
def ir205:Ic:=q (R (ox 2 0<|ox 3 1<|oN 4 yT<|N) [0,1])<|q (R (oL 14 7 2<|cl 15 255 [t 14]<|om 13 15<|oe 16 13 0<|oe 17 13 1<|oe 18 13 2<|om 5 16<|om 6 17<|om 7 18<|N) [2,14,15,13,16,17,18])<|q (R (oL 20 7 3<|cl 21 255 [t 20]<|om 19 21<|oe 22 19 0<|oe 23 19 1<|oe 24 19 2<|om 8 22<|om 9 23<|om 10 24<|N) [3,20,21,19,22,23,24])<|q (R (oo 25 (.bld yT [(0,1,i 4)])<|oN 11 yT<|oS 7 11 25<|N) [25])<|q (q (R (om 26 7<|oh 27 26<|oi 28 .gtr 27 0<|om 29 28<|.sc 29 true (om 30 10<|oh 31 30<|oi 32 .gtr 31 0<|N) (t 32) 33 N) [26,27,28,29])<|D (I 33 (q (R (om 34 7<|cl 35 56 [t 34]<|om 36 10<|oo 37 (.app 1 (t 35) (t 36))<|om 12 37<|N) [7,10,33,34,35,36,37])<|q (R (om 38 12<|cl 39 117 [t 38]<|N) [38,39])<|q (R (om 40 12<|cl 41 151 [t 40]<|om 12 41<|N) [40,41])<|q (R (om 42 12<|oh 43 42<|oi 44 .leq 43 64<|N) [42,43])<|D (I 44 (q (R (om 45 12<|of 46 11 4<|os 46 45<|N) [5,6,8,9,12,44,45,46])<|q (R (oL 47 7 11<|oS 7 4 47<|N) [11,47])<|.ret) S) [12,44]) S) [7,10,33])<|q (R (om 48 5<|om 49 8<|oo 50 (.mn (t 48) (t 49))<|om 51 6<|om 52 9<|oo 53 (.mx (t 51) (t 52))<|of 54 11 1<|os 54 50<|of 55 11 2<|os 55 53<|N) [5,6,8,9,48,49,50,51,52,53,54,55])<|q (R (oL 56 7 11<|oS 7 4 56<|N) [11,56])<|.ret
theorem ok205:FT 205 57 ir205 [.cell 4 (some 7)]:=.o Tryz.func205
def ir148:Ic:=q (R (ox 2 0<|ox 3 1<|oN 4 yT<|oz 5 0<|N) [0,1,5])<|q (D (.block 0<|q (R (oL 10 7 2<|oL 11 7 3<|cl 12 138 [t 10,t 11]<|om 9 12<|N) [10,11,12])<|D (I 9 (q (R (oL 13 7 2<|cl 14 35 [t 13]<|oS 7 4 14<|oz 5 0<|N) [2,3,9,13,14])<|.ret) (q (R (of 16 2 0<|ol 17 16<|of 18 3 0<|ol 19 18<|ot 20 .neq 17 19<|om 21 20<|.sc 21 false (of 22 2 0<|ol 23 22<|oi 24 .eql 23 9<|N) (t 24) 25 (om 26 25<|.sc 26 false (of 27 2 0<|ol 28 27<|oi 29 .eql 28 10<|N) (t 29) 30 (om 31 30<|.sc 31 false (of 32 2 3<|ol 33 32<|of 34 3 3<|ol 35 34<|ot 36 .neq 33 35<|N) (t 36) 37 (om 15 37<|N)))) [9,16,17,18,19,20,21,25,26,30,31,37])<|D (I 15 (q (R (oo 38 (.bld yT [])<|oS 7 4 38<|oz 5 18<|N) [2,3,15,38])<|.ret) (q (R (of 40 2 0<|ol 41 40<|oi 42 .eql 41 4<|om 39 42<|N) [15,40,41,42])<|D (I 39 (q (R (oL 43 7 2<|oL 44 7 3<|cl 45 205 [t 43,t 44]<|oS 7 4 45<|oz 5 0<|N) [2,3,39,43,44,45])<|.ret) S) [39])) [])) []) [])<|q (R (of 46 2 0<|ol 47 46<|of 48 2 3<|ol 49 48<|of 50 2 1<|ol 51 50<|of 52 3 1<|ol 53 52<|oo 54 (.mn (t 51) (t 53))<|of 55 2 2<|ol 56 55<|of 57 3 2<|ol 58 57<|oo 59 (.mx (t 56) (t 58))<|oo 60 (.bld yT [(0,1,t 47),(3,1,t 49),(1,1,t 54),(2,1,t 59)])<|oN 6 yT<|oS 7 6 60<|N) [46,47,48,49,50,51,52,53,54,55,56,57,58,59,60])<|q (q (R (of 61 2 0<|ol 62 61<|oi 63 .neq 62 8<|N) [61,62])<|D (I 63 (q (R (oL 64 7 6<|oS 7 4 64<|oz 5 0<|N) [2,3,6,63,64])<|.ret) S) [63])<|q (D (.block 1<|q (R (of 85 2 2<|ol 86 85<|oi 87 .eql 86 0<|om 84 87<|N) [85,86,87])<|I 84 (R (of 88 3 5<|ol 89 88<|oo 90 (.ixa true 7 (t 89) (i 0))<|oL 91 7 90<|cl 92 35 [t 91]<|oo 93 (.bls 7 [t 92])<|of 94 6 5<|os 94 93<|N) [2,3,84,88,89,90,91,92,93,94]) (q (R (of 96 3 2<|ol 97 96<|oi 98 .eql 97 0<|om 95 98<|N) [84,96,97,98])<|I 95 (R (of 99 2 5<|ol 100 99<|oo 101 (.ixa true 7 (t 100) (i 0))<|oL 102 7 101<|cl 103 35 [t 102]<|oo 104 (.bls 7 [t 103])<|of 105 6 5<|os 105 104<|N) [2,3,95,99,100,101,102,103,104,105]) (q (D (.regd [(1,12),(2,12),(3,12),(5,12),(6,12),(7,12),(8,12)] (of 66 2 5<|ol 67 66<|oo 68 (.ixa true 7 (t 67) (i 0))<|oL 69 7 68<|of 70 3 5<|ol 71 70<|oo 72 (.ixa true 7 (t 71) (i 0))<|oL 73 7 72<|cl 74 148 [t 69,t 73]<|om 65 74<|oe 75 65 0<|oe 76 65 1<|oN 7 yT<|oS 7 7 75<|om 8 76<|N)) [2,3,95,66,67,68,69,70,71,72,73,74,65,75,76])<|q (q (R (om 77 8<|oi 78 .neq 77 0<|N) [77])<|D (I 78 (q (R (oo 79 (.bld yT [])<|om 80 8<|oS 7 4 79<|om 5 80<|N) [6,7,8,78,79,80])<|.ret) S) [8,78])<|R (oL 81 7 7<|oo 82 (.bls 7 [t 81])<|of 83 6 5<|os 83 82<|N) [7,81,82,83]))) [7,8])<|q (R (oL 106 7 6<|oS 7 4 106<|oz 5 0<|N) [6,106])<|.ret
theorem ok148:FT 148 107 ir148 [.cell 4 (some 7),.tmp 5]:=.o Tryz.func148
def ir93:Ic:=q (R (ox 2 0<|ox 3 1<|oN 4 yT<|oz 5 0<|N) [0,1,5])<|q (q (R (oL 7 7 2<|oL 8 7 3<|cl 9 147 [t 7,t 8]<|om 6 9<|N) [7,8,9])<|q (R (om 10 6<|oi 11 .neq 10 0<|N) [10])<|D (I 11 (q (R (oo 12 (.bld yT [])<|om 13 6<|oS 7 4 12<|om 5 13<|N) [2,3,6,11,12,13])<|.ret) S) [6,11])<|q (R (oL 14 7 2<|oL 15 7 3<|cl 16 148 [t 14,t 15]<|oe 17 16 0<|oe 18 16 1<|oS 7 4 17<|om 5 18<|N) [2,3,14,15,16,17,18])<|.ret
theorem ok93:FT 93 19 ir93 [.cell 4 (some 7),.tmp 5]:=.o Tryz.func93
end Go.Proofs
namespace Go.Proofs
open Go Av
open Av.Y
end Go.Proofs
namespace Go.Proofs
open Go Av
open Av.Y
end Go.Proofs
namespace Go.Proofs
open Go Av
open Av.Y
end Go.Proofs
namespace Go.Proofs
open Go Av
open Av.Y
end Go.Proofs
namespace Go.Proofs
open Go Av
open Av.Y
end Go.Proofs
namespace Go.Proofs
open Go Av
end Go.Proofs
namespace Av
open Go
variable [Glb][Rls]
section
variable {β:JP}{A:Nat→Prop}{w:World}{H:Heap}{D:Nat→Prop}
end
theorem JQ9{α:Type}{cs:List α}{j:Nat}{x y:α}(hj:cs[j]? =some x){i:Nat}{c c':α}(h1:cs[i]? =some c)(h2:(cs.set j y)[i]? =some c'):(i=j∧c=x∧c'=y)∨c'=c:=by
 rw[List.getElem?_set]at h2;split at h2
 ·rename_i e;subst e;split at h2
  ·cases h2;rw[hj]at h1;cases h1;exact .inl ⟨rfl,rfl,rfl⟩
  ·cases h2
 ·rw[h1]at h2;cases h2;exact .inr rfl
end Av
namespace Go.Proofs
open Go Av
variable {d:Nat}
abbrev PO:=Nat×List Int×List Wlk
def JCE(d:Nat)(s t:PO):Prop:=d≤t.2.1.length∧t.2.1.take d=s.2.1.take d
theorem JCE.refl{s:PO}(h:d≤s.2.1.length):JCE d s s:=⟨h,rfl⟩
theorem JCE.trans{s t u:PO}(h1:JCE d s t)(h2:JCE d t u):JCE d s u:=⟨h2.1,h2.2.trans h1.2⟩
theorem JCE.less{s t:PO}{i:Int}{v:Nat}{o:List Wlk}(hd:d≤s.2.1.length)(h:JCE (d+1) (v,s.2.1.take d++[i],o) t):JCE d s t:=by
 obtain⟨h1,h2⟩:=h;refine⟨oM,?_⟩;have h3:=congrArg (List.take d) h2;rw[List.take_take,List.take_take]at h3;have e:min d (d+1)=d:=oM;rw[e]at h3;simp only[]at h3;rw[h3,List.take_append_of_le_length sO,List.take_take,Nat.min_self]
end Go.Proofs
namespace Go.Proofs
open Go Av
end Go.Proofs
namespace Go.Proofs
open Go Av
open Av.Y
end Go.Proofs
namespace Go.Proofs
open Go Av
open Av.Y
end Go.Proofs
namespace Go.Proofs
open Go Av
end Go.Proofs
namespace Go.Proofs
open Go.Shelf
end Go.Proofs
namespace Go.Proofs
open Go Av Go.RowKit Go.Shelf Go.Lib
section
@[instance_reducible] def rlsK:Rls:={rl:=fun n=>n==1,rm:=fun n=>n==11,tr:=fun n=>n==3||(n==11||(n==2||(n==13||n==20)))}
attribute [local instance] rlsK
end
end Go.Proofs
namespace Go.Proofs
open Go Av
@[instance_reducible] def rls7:Rls:={rl:=fun n=>n==1||n==7}
@[instance_reducible] def rls8:Rls:={rl:=fun n=>n==8}
def CL(f:Nat)(caps:List Dat)(φ:List Dat→List Dat):Prop:=∀x0 x1 x2 x3 x4 x5 x6 x7 x8 x9 x10:Dat,
 KT f (.ref 1000 0::caps.map .d) [(1000,.box ([x0,x1,x2,x3,x4,x5,x6,x7,x8,x9,x10].map .d))] (.tup []) [(1000,.box ((φ [x0,x1,x2,x3,x4,x5,x6,x7,x8,x9,x10]).map .d))]
theorem CL.gen{f:Nat}{caps:List Dat}{φ:List Dat→List Dat}(h:CL f caps φ){xs:List Dat}(hx:xs.length=11):
  KT f (.ref 1000 0::caps.map .d) [(1000,.box (xs.map .d))] (.tup []) [(1000,.box ((φ xs).map .d))]:=by
 match xs,hx with
 |[x0,x1,x2,x3,x4,x5,x6,x7,x8,x9,x10],_=>exact h x0 x1 x2 x3 x4 x5 x6 x7 x8 x9 x10
end Go.Proofs
namespace Go.Proofs
open Go Av
variable {t:Typ}{a b s k y:Int}
theorem YZ(h:JDb t=0):t.words.length≤64:=by
 unfold JDb at h;split at h
 ·cases h
 rename_i h1;split at h
 ·cases h
 rename_i h2;have hk:1≤t.kind∧t.kind≤10:=by
  simp only[inI,Bool.not_eq_true',Bool.and_eq_false_iff,decide_eq_false_iff_not,not_or]at h1;omega
 by_cases hw:t.words.length=0
 ·omega
 by_cases h4:t.kind=4
 ·rw[if_pos (by simp[h4];omega)]at h;split at h
  ·rename_i h5;rw[h]at h5;cases h5
  rename_i h5;have h6:JBT t=0:=sX h5;unfold JBT at h6;split at h6
  ·cases h6
  split at h6
  ·cases h6
  ·rename_i h7;simp at h7;omega
 ·exfalso;apply h2
  have hx:(JJc t.kind).text=false:=by
   have:t.kind=1∨t.kind=2∨t.kind=3∨t.kind=5∨t.kind=6∨t.kind=7∨t.kind=8∨t.kind=9∨t.kind=10:=oM;rcases this with h|h|h|h|h|h|h|h|h<;>rw[h]<;>rfl
  have hd:decide (((t.words.length:Nat):Int)>0)=true:=sO;unfold JEj;rw[hx,hd];simp
def cK(t:Typ):Prop:=∃k n,0≤n∧(Yp k n t).1=0
theorem cK.own(h:cK t):JDb t=0:=by
 obtain⟨k,n,h0,h⟩:=h;cases k with
 |zero=>rw[Yp]at h;split at h<;>cases h
 |succ k=>
  rw[Yp]at h;split at h
  ·cases h
  split at h
  ·exact h
  ·rename_i h2;simpa using h2
theorem cK.v(h:cK t):vT t:=by
 obtain⟨k,n,h0,h⟩:=h;exact(JCA k n t h0 h).1
theorem cK.elem{t:Typ}(h:cK t)(h8:t.kind=8):∃x,t.elem=[x]∧cK x:=by
  have ho:=JJj h.own
  obtain⟨k,n,h0,h⟩:=h
  obtain⟨x,hx⟩:=List.length_eq_one_iff.1 (ho.2.1 h8)
  refine⟨x,hx,?_⟩
  cases k with
  |zero=>rw[Yp]at h;split at h<;>cases h
  |succ k=>
    rw[Yp]at h
    split at h
    · cases h
    rename_i hn
    split at h
    · rename_i h2;rw[show JDb t=0 from h]at h2;cases h2
    have hp:U1 t=[x]:=by rw[U1,if_pos h8,hx]
    rw[hp,Zq]at h
    split at h
    · rename_i h3;rw[h]at h3;cases h3
    · rename_i h3
      have hn0:n≠0:=by simpa using hn
      have hn1:0≤n-1:=by omega
      exact⟨k,n-1,hn1,by simpa using h3⟩
theorem JOk(h:Uw t=0):cK t:=by
 unfold Uw at h;split at h
 ·rename_i h1;exact absurd h (sX h1)
 ·rename_i h1;exact⟨8,4096,dC,by simpa using h1⟩
theorem JLI(a b:Typ):∃x:Int,(x=0→Uw a=0∧Uw b=0)∧PT 147 [JH a,JH b] (.d (.int .i64 x)):=by
 refine ok147.pex (fun x:Int=>.d (.int .i64 x)) (fun x:Int=>(x=0→Uw a=0∧Uw b=0)) (Nat.le_of_ble_eq_true rfl) (fun _ _=>by simp[Uv,JT,JN]) ?_;have ca:=(JCn a).call trivial;have cb:=(JCn b).call trivial;rw[JA]at ca cb;rw[JA a,JA b];simp only[go_sem,ir147,Vv,Vc,simprocAttr];refine wn ca ?_;simp only[go_sem,Vv,Vc,simprocAttr];refine JD (fun h=>?_) (fun h=>?_)
 ·exact⟨Uw a,fun h'=>absurd h' (sX h),rfl⟩
 ·refine wn cb ?_;simp only[go_sem,Vv,Vc,simprocAttr];exact⟨Uw b,fun h'=>⟨by simpa using h,h'⟩,rfl⟩
theorem c147(a b:Typ):CT 147 [.d (JH a),.d (JH b)] [] (.d (.int .i64 (PA (JLI a b)))) []:=(UQ (JLI a b)).call (by simp[Jl])
theorem JDP(t:Typ):∃x:Int×Int×List Str,x.2.2.length≤t.words.length+1∧PT 255 [JH t] (.tup [.d (.int .i64 x.1),.d (.int .i64 x.2.1),.d (.list 1 (x.2.2.map .str))]):=by
 refine ok255.JIu (fun x:Int×Int×List Str=>.tup [.d (.int .i64 x.1),.d (.int .i64 x.2.1),.d (.list 1 (x.2.2.map .str))]) (fun x:Int×Int×List Str=>x.2.2.length≤t.words.length+1) ((0,0,[])) (sP) (Nat.le_of_ble_eq_true rfl) (fun _ _=>by simp[Uv,JT,JN]) fun hfit=>?_
 have f1:=(Y5 (hfit (JH t) sP)).1;rw[JA];simp only[go_sem,ir255,Vv,Vc,simprocAttr];refine sq (t.max==0) ?_ ?_
 ·simp only[go_sem,Vv,Vc,simprocAttr]
 simp only[go_sem,Vv,Vc,simprocAttr];refine JD (fun h=>?_) (fun h=>?_)
 ·repeat with_reducible refine And.intro (by first|decide|omega|(simp;done)|(simp;omega)) ?_
  refine JJ (fun n s=>∃(k:Nat) (a b:Int),k≤t.words.length∧n=t.words.length-k∧s=⟨[(4,.ms 17 0),(2,.d (.int .i64 a)),(3,.d (.int .i64 b)),(23,.d (.list 1 (t.words.map .str))),(24,.d (.int .i64 t.words.length)),(25,.d (.int .i64 k))],[(17,.row 0 1 [.str []])]⟩) ?_ ?_
  ·refine⟨_,_,Wk.less ?_,0,t.min,t.max,Nat.zero_le _,rfl,rfl⟩;simp[go_sem]
  rintro n s ⟨k,a,b,hk,rfl,rfl⟩;by_cases hlt:k<t.words.length
  ·have hx:=YD hlt;have hd:=dT hlt;simp only[go_sem,hx,hd,tC,JS k oM,Vv,Vc,simprocAttr]
   repeat with_reducible refine And.intro (by first|decide|omega|(simp;done)|(simp;omega)) ?_
   refine JD (fun h=>?_) (fun h=>?_)
   all_goals exact⟨t.words.length-(k+1),_,oM,Wk.refl _,k+1,_,_,oM,rfl,rfl⟩
  ·have hd:=dF hlt;simp only[go_sem,hd,Vv,Vc,simprocAttr];exact⟨(_,_,[[]]),sP,rfl⟩
 ·try simp only[go_sem,Vv,Vc,simprocAttr]
  refine JJ (fun n s=>∃(k:Nat) (a b:Int),k≤t.words.length∧n=t.words.length-k∧s=⟨[(4,.d (.list 1 (t.words.map .str))),(2,.d (.int .i64 a)),(3,.d (.int .i64 b)),(23,.d (.list 1 (t.words.map .str))),(24,.d (.int .i64 t.words.length)),(25,.d (.int .i64 k))],[]⟩) ?_ ?_
  ·refine⟨_,_,Wk.less ?_,0,t.min,t.max,Nat.zero_le _,rfl,rfl⟩;simp[go_sem]
  rintro n s ⟨k,a,b,hk,rfl,rfl⟩;by_cases hlt:k<t.words.length
  ·have hx:=YD hlt;have hd:=dT hlt;simp only[go_sem,hx,hd,tC,JS k oM,Vv,Vc,simprocAttr]
   repeat with_reducible refine And.intro (by first|decide|omega|(simp;done)|(simp;omega)) ?_
   refine JD (fun h=>?_) (fun h=>?_)
   all_goals exact⟨t.words.length-(k+1),_,oM,Wk.refl _,k+1,_,_,oM,rfl,rfl⟩
  ·have hd:=dF hlt;simp only[go_sem,hd,Vv,Vc,simprocAttr];exact⟨(_,_,t.words),sP,rfl⟩
theorem c255(t:Typ):CT 255 [.d (JH t)] [] (.tup [.d (.int .i64 (PA (JDP t)).1),.d (.int .i64 (PA (JDP t)).2.1),.d (.list 1 ((PA (JDP t)).2.2.map .str))]) []:=(UQ (JDP t)).call (by simp[Jl])
theorem con56f(a:Dat)(r:List Dat)(h1:∀x∈a::r,x.cells.length=1):KT 56 [.d (.list 1 (a::r))] [] (.ms 7 0) [(7,.row 0 1 (a::r))]:=by
 refine Con.Jg ok56.has fun hfit=>?_
 have hl:r.length≤68719476735:=by have:=(hfit (.list 1 (a::r)) sP).1;simpa using this
 clear hfit;refine ok56.con (k:=some true) (Nat.le_of_ble_eq_true rfl) (Jj (by simp[J6,put,Jc,J0])) (by simp[JB,upd,inT,JT]) ?_;simp only[go_sem,ir56,Vv,Vc,Nat.reduceAdd,Nat.reduceEqDiff,Nat.reduceBEq,Nat.reduceLeDiff,reduceCtorEq,↓reduceIte];exact⟨sP,⟨dC,oM,fun y hy=>h1 y hy⟩⟩
theorem JRA{l:List Str}(hl:l≠[])(t:Nat):CT (.fn 56) [.d (.list 1 (l.map .str))] [(t,none)] (.ms t 0) [(t,.row 0 1 (l.map .str))]:=by
 obtain⟨a,r,rfl⟩:∃a r,l=a::r:=by cases l with
  |nil=>exact absurd rfl hl
  |cons a r=>exact⟨a,r,rfl⟩
 have h:=(con56f (.str a) (r.map .str) (fun x hx=>by
   rcases VA.1 hx with rfl|hx
   ·rfl
   ·obtain⟨n,_,rfl⟩:=VC.1 hx;rfl)).call (fun _=>t) (by intro j h;cases h) ?_ ?_ (by intro j o h;cases h) [7] ?_ ?_ ?_
 ·simp only[Av.ren,Obj.ren,J7,Va,Vb,List.nil_append]at h;exact h
 ·intro a b ha hb _;simp only[JB,upd,Av.get]at ha hb;split at ha
  ·split at hb
   ·omega
   ·cases hb
  ·cases ha
 ·intro c hc;simp only[List.mem_singleton]at hc;subst hc;trivial
 ·intro e he;simp only[List.mem_singleton]at he;subst he;exact .inr sP
 ·exact Jj (by simp[J6,put,Jc,J0])
 ·simp[JB,upd,inT,JT]
theorem JJr{w:List Str}:∃x:Typ,x.kind=4∧Av.d (.agg [.int .i64 4,.int .i64 a,.int .i64 b,.int .i64 s,.list 1 (w.map .str),.list 7 [],.list 11 []])=.d (JH x):=⟨.mk 4 a b s w [] [],rfl,by simp only[JA];rfl⟩
theorem JIe{w:List Str}{e:List Typ}{f:List TFl}(hk:y=0→1≤k:=by first|(intro _;decide)|(intro h;exact absurd h dC)|(intro _;omega)):∃x:Typ×Int,(x.2=0→1≤x.1.kind)∧Av.tup [.d (.agg [.int .i64 k,.int .i64 a,.int .i64 b,.int .i64 s,.list 1 (w.map .str),.list 7 (e.map JH),.list 11 (f.map Jn)]),.d (.int .i64 y)]=.tup [.d (JH x.1),.d (.int .i64 x.2)]:=
 ⟨(.mk k a b s w e f,y),hk,by simp only[JA];rfl⟩
theorem JCp(hk:y=0→1≤k:=by first|(intro _;decide)|(intro h;exact absurd h dC)|(intro _;omega)):∃x:Typ×Int,(x.2=0→1≤x.1.kind)∧Av.tup [.d (.agg [.int .i64 k,.int .i64 a,.int .i64 b,.int .i64 s,.list 1 [],.list 7 [],.list 11 []]),.d (.int .i64 y)]=.tup [.d (JH x.1),.d (.int .i64 x.2)]:=JIe (hk:=hk) (w:=[]) (e:=[]) (f:=[])
theorem JJs{x:Typ}(hk:y=0→1≤k:=by first|(intro _;decide)|(intro h;exact absurd h dC)|(intro _;omega)):∃z:Typ×Int,(z.2=0→1≤z.1.kind)∧Av.tup [.d (.agg [.int .i64 k,.int .i64 a,.int .i64 b,.int .i64 s,.list 1 [],.list 7 [JH x],.list 11 []]),.d (.int .i64 y)]=.tup [.d (JH z.1),.d (.int .i64 z.2)]:=JIe (hk:=hk) (w:=[]) (e:=[x]) (f:=[])
theorem JLJ(a b:Typ)(ha:a.words.length≤64)(hb:b.words.length≤64):∃x:Typ,x.kind=4∧PT 205 [JH a,JH b] (.d (JH x)):=by
 refine ok205.pex (fun x:Typ=>.d (JH x)) (fun x:Typ=>x.kind=4) (Nat.le_of_ble_eq_true rfl) (fun _ _=>by simp[Uv,JT,JN]) ?_;have ga:=UW (JDP a);have gb:=UW (JDP b);have ca:=c255 a;have cb:=c255 b;generalize PA (JDP a)=A at ga ca;generalize PA (JDP b)=B at gb cb;rw[JA]at ca cb;rw[JA a,JA b];simp only[go_sem,ir205,Vv,Vc,simprocAttr];refine wn ca ?_;simp only[go_sem,Vv,Vc,simprocAttr];refine wn cb ?_;simp only[go_sem,Vv,Vc,simprocAttr];refine sq (decide ((B.2.2.length:Int)>0)) ?_ ?_
 ·simp only[go_sem,Vv,Vc,simprocAttr]
 simp only[go_sem,Vv,Vc,simprocAttr];refine JD (fun h=>?_) (fun h=>?_)
 ·simp only[Vi,decide_eq_true_eq]at h;have hn:A.2.2≠[]:=by intro e;rw[e]at h;simp at h
  refine wn (JRA hn 35) ?_;simp only[go_sem,Vv,Vc,simprocAttr];refine⟨oM,?_⟩
  try rw[←Vw]
  refine wn (call117 35 _ (A.2.2++B.2.2)) ?_;simp only[go_sem,Vv,Vc,simprocAttr];refine wn (call151 35 _ _) ?_;simp only[go_sem,Vv,Vc,simprocAttr];refine JD (fun h=>?_) (fun h=>?_)
  ·exact JJr
  ·exact JJr (w:=[])
 ·exact JJr (w:=[])
theorem c205(a b:Typ)(ha:a.words.length≤64)(hb:b.words.length≤64):CT 205 [.d (JH a),.d (JH b)] [] (.d (JH (PA (JLJ a b ha hb)))) []:=(UQ (JLJ a b ha hb)).call (by simp[Jl])
theorem ex278:∀(n:Nat) (a b:Typ),szT a≤n→cK a→cK b→∃x:Typ×Int,(x.2=0→1≤x.1.kind)∧PT 148 [JH a,JH b] (.tup [.d (JH x.1),.d (.int .i64 x.2)])
 |0,a,b,h,_,_=>by rw[Yn]at h;omega
 |n+1,a,b,h,ha,hb=>by
  refine ok148.pex (fun x:Typ×Int=>.tup [.d (JH x.1),.d (.int .i64 x.2)]) (fun x:Typ×Int=>x.2=0→1≤x.1.kind) (Nat.le_of_ble_eq_true rfl) (fun _ _=>by simp[Uv,JT,JN]) ?_;have c1:=(JDp (szT a) a b (Nat.le_refl _)).call trivial;have c2:=(p35 a).call trivial;have ka:=((JA5 _).1 ha.v).1.1;have kb:=((JA5 _).1 hb.v).1.1;have c3:=c205 a b (YZ ha.own) (YZ hb.own);have kW:=UW (JLJ a b (YZ ha.own) (YZ hb.own));generalize PA (JLJ a b (YZ ha.own) (YZ hb.own))=W at c3 kW;rw[JA]at c2;simp only[JA]at c1 c3;rw[JA a,JA b];simp only[go_sem,ir148,Vv,Vc,simprocAttr];refine wn c1 ?_;simp only[go_sem,Vv,Vc,simprocAttr];refine JD (fun h=>?_) (fun h=>?_)
  ·refine wn c2 ?_;simp only[go_sem,Vv,Vc,simprocAttr];exact JIe
  by_cases hk:a.kind=b.kind
  case neg=>
   have hq:(a.kind !=b.kind)=true:=by simp[hk]
   simp only[go_sem,hq,Vv,Vc,simprocAttr];exact JCp
  have hq:(a.kind !=b.kind)=false:=by simp[hk]
  simp only[go_sem,hq,Vv,Vc,simprocAttr];refine Jt (fun _=>?_) (fun z=>?_)
  ·simp only[go_sem,Vv,Vc,simprocAttr];exact⟨_,rfl⟩
  simp only[go_sem,Vv,Vc,simprocAttr];refine Jt (fun _=>?_) (fun z=>?_)
  ·simp only[go_sem,Vv,Vc,simprocAttr];exact⟨_,rfl⟩
  simp only[go_sem,Vv,Vc,simprocAttr];refine JD (fun h=>?_) (fun h=>?_)
  ·exact JCp
  refine JD (fun h=>?_) (fun h=>?_)
  ·refine wn c3 ?_;simp only[go_sem,Vv,Vc,simprocAttr];exact JIe
  refine JD (fun h=>?_) (fun h=>?_)
  ·exact JCp
  have h8:a.kind=8:=sX h;obtain⟨x,hx,cx⟩:=ha.elem h8;obtain⟨y,hy,cy⟩:=hb.elem (hk▸h8);have nx:nth (a.elem.map JH) 0=JH x:=by rw[hx];rfl
  have ny:nth (b.elem.map JH) 0=JH y:=by rw[hy];rfl
  have lx:a.elem.length=1:=by rw[hx];rfl
  have ly:b.elem.length=1:=by rw[hy];rfl
  have cX:=(p35 x).call trivial;have cY:=(p35 y).call trivial;have hs:szT x≤n:=by
   have e:=Yn a;rw[hx]at e;simp only[JAt]at e;omega
  obtain⟨R,-,cR⟩:=ex278 n x y hs cx cy
  replace cR:=cR.call (by simp[Jl])
  rw[JA]at nx ny cX cY;simp only[JA]at cR;refine JD (fun h=>?_) (fun h=>?_)
  ·try simp only[go_sem,ny,ly,Int.reduceToNat,Vv,Vc,simprocAttr]
   repeat with_reducible refine And.intro (by first|decide|omega|(simp;done)|(simp;omega)) ?_
   refine wn cY ?_;simp only[go_sem,Vv,Vc,simprocAttr]
   repeat with_reducible refine And.intro (by first|decide|omega|(simp;done)|(simp;omega)) ?_
   rw[←JA y];exact JJs
  refine JD (fun h=>?_) (fun h=>?_)
  ·try simp only[go_sem,nx,lx,Int.reduceToNat,Vv,Vc,simprocAttr]
   repeat with_reducible refine And.intro (by first|decide|omega|(simp;done)|(simp;omega)) ?_
   refine wn cX ?_;simp only[go_sem,Vv,Vc,simprocAttr]
   repeat with_reducible refine And.intro (by first|decide|omega|(simp;done)|(simp;omega)) ?_
   rw[←JA x];exact JJs
  try simp only[go_sem,nx,ny,lx,ly,Int.reduceToNat,Vv,Vc,simprocAttr]
  repeat with_reducible refine And.intro (by first|decide|omega|(simp;done)|(simp;omega)) ?_
  refine JE rfl cR trivial ?_;simp only[go_sem,Vv,Vc,simprocAttr]
  repeat with_reducible refine And.intro (by first|decide|omega|(simp;done)|(simp;omega)) ?_
  refine JD (fun h=>?_) (fun h=>?_)
  ·exact JCp (hk:=fun e=>absurd e (sX h))
  repeat with_reducible refine And.intro (by first|decide|omega|(simp;done)|(simp;omega)) ?_
  rw[←JA R.1];exact JJs
theorem JE0(a b:Typ):∃x:Typ×Int,(x.2=0→1≤x.1.kind)∧PT 93 [JH a,JH b] (.tup [.d (JH x.1),.d (.int .i64 x.2)]):=by
 refine ok93.pex (fun x:Typ×Int=>.tup [.d (JH x.1),.d (.int .i64 x.2)]) (fun x:Typ×Int=>(x.2=0→1≤x.1.kind)) (Nat.le_of_ble_eq_true rfl) (fun _ _=>by simp[Uv,JT,JN]) ?_;have g:=UW (JLI a b);have c1:=c147 a b;generalize PA (JLI a b)=C at g c1;simp only[JA]at c1;by_cases h0:C=0
 ·obtain⟨ga,gb⟩:=g h0;obtain⟨R,gR,cR⟩:=ex278 (szT a) a b (Nat.le_refl _) (JOk ga) (JOk gb)
  replace cR:=cR.call (by simp[Jl])
  simp only[JA]at cR;rw[JA a,JA b];simp only[go_sem,ir93,Vv,Vc,simprocAttr];refine wn c1 ?_;simp only[go_sem,Vv,Vc,simprocAttr];refine JD (fun h=>?_) (fun h=>?_)
  ·exact JCp (hk:=fun e=>absurd e (sX h))
  refine wn cR ?_;simp only[go_sem,Vv,Vc,simprocAttr];exact JIe (hk:=gR)
 ·rw[JA a,JA b];simp only[go_sem,ir93,Vv,Vc,simprocAttr];refine wn c1 ?_;simp only[go_sem,Vv,Vc,simprocAttr];refine JD (fun h=>?_) (fun h=>?_)
  ·exact JCp (hk:=fun h=>absurd h h0)
  ·simp[h0]at h
theorem c93(a b:Typ):CT 93 [.d (JH a),.d (JH b)] [] (.tup [.d (JH (PA (JE0 a b)).1),.d (.int .i64 (PA (JE0 a b)).2)]) []:=(UQ (JE0 a b)).call (by simp[Jl])
end Go.Proofs
namespace Go.Proofs
open Go Av
open Av.Y
def Xf:Ic:=q (R (ox 4 1<|ox 5 2<|oN 6 [.int .i64 0,.int .i64 0,.int .i64 0,.int .i64 0,.nil 1,.nil 7,.nil 11,.bool false,.bool false]<|N) [1,2])<|q (R (oo 17 (.bld yT [(0,1,i 1)])<|oo 18 (.bld [.int .i64 0,.int .i64 0,.int .i64 0,.int .i64 0,.nil 1,.nil 7,.nil 11,.bool false,.bool false] [(0,7,t 17),(7,1,B false),(8,1,B true)])<|oN 7 [.int .i64 0,.int .i64 0,.int .i64 0,.int .i64 0,.nil 1,.nil 7,.nil 11,.bool false,.bool false]<|oS 9 7 18<|N) [17,18])<|q (R (oo 19 (.fnv (.func 79) [] [t 5])<|om 8 19<|N) [19])<|q (q (R (of 20 4 0<|ol 21 20<|N) [20])<|D (.block 0<|q (R (oi 23 .eql 21 1<|om 22 23<|N) [23])<|I 22 (q (R (of 24 4 3<|ol 25 24<|oo 26 (.ixa true 6 (t 25) (i 0))<|oL 27 6 26<|cl 28 80 [t 27]<|oo 29 (.bld [.int .i64 0,.int .i64 0,.int .i64 0,.int .i64 0,.nil 1,.nil 7,.nil 11,.bool false,.bool false] [(0,7,t 28),(7,1,B false),(8,1,B true)])<|oS 9 6 29<|N) [0,4,5,7,8,21,22,24,25,26,27,28,29])<|.ret) (q (R (oi 31 .eql 21 2<|om 30 31<|N) [22,31])<|I 30 (q (R (om 32 0<|of 33 4 2<|ol 34 33<|cl 35 81 [t 32,t 34]<|oS 9 6 35<|N) [0,4,5,7,8,21,30,32,33,34,35])<|.ret) (q (R (oi 37 .eql 21 22<|om 36 37<|N) [30,37])<|I 36 (q (R (om 38 0<|of 39 4 2<|ol 40 39<|cl 41 81 [t 38,t 40]<|N) [0,4,5,8,21,36,38,39,40,41])<|q (R (oL 42 9 7<|oS 9 6 42<|N) [7,42])<|.ret) (q (R (oi 44 .eql 21 26<|om 43 44<|N) [36,44])<|I 43 (q (R (om 45 0<|oL 46 5 4<|cl 47 82 [t 45,t 46]<|oS 9 6 47<|N) [0,4,5,7,8,21,43,45,46,47])<|.ret) (q (q (R (oi 49 .eql 21 3<|om 48 49<|N) [43,49])<|I 48 S (q (R (oi 50 .eql 21 4<|om 48 50<|N) [50])<|I 48 S (R (oi 51 .eql 21 5<|om 48 51<|N) [51])))<|I 48 (q (q (R (ol 52 5<|cl 53 83 [t 52,.k (.fn (.func 84) [] [])]<|N) [4,5,8,21,48,52])<|D (I 53 (q (R (om 54 0<|cl 55 85 [t 54,i 18]<|oS 9 6 55<|N) [0,7,53,54,55])<|.ret) S) [0,53])<|q (R (oL 56 9 7<|oS 9 6 56<|N) [7,56])<|.ret) (q (q (R (oi 58 .eql 21 6<|om 57 58<|N) [48,58])<|I 57 S (q (R (oi 59 .eql 21 7<|om 57 59<|N) [59])<|I 57 S (R (oi 60 .eql 21 25<|om 57 60<|N) [60])))<|I 57 (q (q (R (ol 61 5<|oo 62 (.slc 9 (t 61) (some (i 1)) none none)<|oh 63 62<|oz 64 0<|N) [4,8,21,57,61])<|D (.block 1<|.loop (q (.reg (ot 65 .lss 64 63<|N))<|q (D (I 65 S (E 1)) [65])<|q (D (.block 2<|q (R (oa true 66 9 62 64<|oL 67 9 66<|oN 10 [.int .i64 0,.int .i64 0,.int .i64 0,.int .i64 0,.nil 1,.nil 7,.nil 11,.bool false,.bool false]<|oS 9 10 67<|N) [66,67])<|q (R (ol 68 5<|oo 69 (.ixa true 9 (t 68) (i 0))<|of 70 69 0<|oL 71 7 70<|of 72 10 0<|oL 73 7 72<|cl 74 86 [t 71,t 73]<|og 75 74<|N) [10,68,69,70,71,72,73,74])<|D (I 75 (q (R (om 76 0<|cl 77 85 [t 76,i 18]<|oS 9 6 77<|N) [0,5,7,62,63,64,75,76,77])<|.ret) S) [75]) [])<|R (oi 78 .add 64 1<|om 64 78<|N) [78])) [0,5,62,63,64,65,10])<|q (R (oL 79 9 7<|oS 9 6 79<|N) [7,79])<|.ret) (q (q (R (oi 81 .eql 21 8<|om 80 81<|N) [57,81])<|I 80 S (q (R (oi 82 .eql 21 9<|om 80 82<|N) [82])<|I 80 S (q (R (oi 83 .eql 21 10<|om 80 83<|N) [83])<|I 80 S (R (oi 84 .eql 21 11<|om 80 84<|N) [84]))))<|I 80 (q (q (R (ol 85 5<|oo 86 (.ixa true 9 (t 85) (i 0))<|of 87 86 0<|oL 88 7 87<|ol 89 5<|oo 90 (.ixa true 9 (t 89) (i 1))<|of 91 90 0<|oL 92 7 91<|cl 93 87 [t 88,t 92]<|og 94 93<|N) [4,5,8,21,80,85,86,87,88,89,90,91,92,93])<|D (I 94 (q (R (om 95 0<|cl 96 85 [t 95,i 18]<|oS 9 6 96<|N) [0,7,94,95,96])<|.ret) S) [0,94])<|q (R (oL 97 9 7<|oS 9 6 97<|N) [7,97])<|.ret) (q (q (R (oi 99 .eql 21 12<|om 98 99<|N) [7,80,99])<|I 98 S (q (R (oi 100 .eql 21 13<|om 98 100<|N) [100])<|I 98 S (q (R (oi 101 .eql 21 14<|om 98 101<|N) [101])<|I 98 S (R (oi 102 .eql 21 15<|om 98 102<|N) [102]))))<|I 98 (q (R (om 103 0<|oL 104 5 4<|ol 105 5<|oo 106 (.ixa true 9 (t 105) (i 0))<|of 107 106 0<|oL 108 7 107<|ol 109 5<|oo 110 (.ixa true 9 (t 109) (i 1))<|of 111 110 0<|oL 112 7 111<|cl 113 88 [t 103,t 104,t 108,t 112]<|oS 9 6 113<|N) [0,4,5,8,21,98,103,104,105,106,107,108,109,110,111,112,113])<|.ret) (q (R (oi 115 .eql 21 16<|om 114 115<|N) [98,115])<|I 114 (q (R (ol 116 5<|oo 117 (.ixa true 9 (t 116) (i 0))<|of 118 117 0<|oL 119 7 118<|oN 11 yT<|oS 7 11 119<|N) [4,5,8,21,114,116,117,118,119])<|q (q (R (oL 120 7 11<|cl 121 89 [t 120]<|og 122 121<|N) [120,121])<|D (I 122 (q (R (om 123 0<|cl 124 85 [t 123,i 18]<|oS 9 6 124<|N) [0,11,122,123,124])<|.ret) S) [0,122])<|q (R (of 125 11 2<|ol 126 125<|oo 127 (.neg .i64 (t 126))<|of 128 11 1<|ol 129 128<|oo 130 (.neg .i64 (t 129))<|of 131 11 1<|os 131 127<|of 132 11 2<|os 132 130<|N) [125,126,127,128,129,130,131,132])<|q (R (oL 133 7 11<|oo 134 (.bld [.int .i64 0,.int .i64 0,.int .i64 0,.int .i64 0,.nil 1,.nil 7,.nil 11,.bool false,.bool false] [(0,7,t 133),(7,1,B false),(8,1,B true)])<|oS 9 6 134<|N) [11,133,134])<|.ret) (q (R (oi 136 .eql 21 18<|om 135 136<|N) [114,136])<|I 135 (q (q (R (om 137 8<|.call (some 138) (.dyn (t 137)) [i 0] (oi 139 .neq 138 4<|om 140 139<|.sc 140 true (om 141 8<|.call (some 142) (.dyn (t 141)) [i 0] (oi 143 .neq 142 5<|N)) (t 143) 144 (om 145 144<|.sc 145 true (om 146 8<|.call (some 147) (.dyn (t 146)) [i 0] (oi 148 .neq 147 8<|N)) (t 148) 149 N))) [4,8,21,135,137,138,139,140,144,145])<|D (I 149 (q (R (om 150 0<|cl 151 85 [t 150,i 18]<|oS 9 6 151<|N) [0,5,149,150,151])<|.ret) S) [0,149])<|q (R (ol 153 5<|oo 154 (.ixa true 9 (t 153) (i 0))<|of 155 154 0<|oL 156 7 155<|cl 157 90 [t 156]<|om 152 157<|oe 158 152 0<|oe 159 152 1<|om 12 158<|om 13 159<|N) [5,153,154,155,156,157,152,158,159])<|q (R (om 160 12<|om 161 13<|cl 162 91 [i (-1),t 160,t 161]<|oo 163 (.bld [.int .i64 0,.int .i64 0,.int .i64 0,.int .i64 0,.nil 1,.nil 7,.nil 11,.bool false,.bool false] [(0,7,t 162),(7,1,B false),(8,1,B true)])<|oS 9 6 163<|N) [12,13,160,161,162,163])<|.ret) (q (R (oi 165 .eql 21 27<|om 164 165<|N) [135,165])<|I 164 (q (R (om 166 0<|ol 167 5<|oo 168 (.ixa true 9 (t 167) (i 0))<|of 169 168 0<|oL 170 7 169<|cl 171 92 [t 166,t 170]<|oS 9 6 171<|N) [0,4,5,8,21,164,166,167,168,169,170,171])<|.ret) (q (q (R (oi 173 .eql 21 23<|om 172 173<|N) [164,173])<|D (I 172 S (R (oi 174 .eql 21 24<|om 172 174<|N) [21,174])) [21])<|D (I 172 (q (R (ol 175 5<|oh 176 175<|om 14 176<|N) [172,175,176])<|q (q (R (of 177 4 0<|ol 178 177<|oi 179 .eql 178 24<|om 180 179<|.sc 180 true (om 181 8<|.call (some 182) (.dyn (t 181)) [i 0] (oi 183 .neq 182 1<|N)) (t 183) 184 N) [8,177,178,179,180])<|D (I 184 (q (R (om 185 0<|cl 186 85 [t 185,i 18]<|oS 9 6 186<|N) [0,4,5,14,184,185,186])<|.ret) S) [184])<|q (D (.regd [(0,16),(3,16),(5,16),(6,16),(9,16),(11,16),(12,16)] (ol 188 5<|om 189 14<|oi 190 .sub 189 2<|oa true 191 9 188 190<|of 192 191 0<|oL 193 7 192<|ol 194 5<|om 195 14<|oi 196 .sub 195 1<|oa true 197 9 194 196<|of 198 197 0<|oL 199 7 198<|cl 200 93 [t 193,t 199]<|om 187 200<|oe 201 187 0<|oe 202 187 1<|oN 15 yT<|oS 7 15 201<|om 16 202<|N)) [188,189,190,191,192,193,194,195,196,197,198,199,200,187,201,202])<|q (q (R (om 203 16<|oi 204 .neq 203 0<|N) [16,203])<|D (I 204 (q (R (om 205 0<|cl 206 85 [t 205,i 18]<|oS 9 6 206<|N) [0,4,5,14,15,204,205,206])<|.ret) S) [0,204])<|q (R (oL 207 7 15<|ol 208 5<|om 209 14<|oi 210 .sub 209 1<|oa true 211 9 208 210<|of 212 211 7<|ol 213 212<|om 214 213<|.sc 214 false (of 215 4 0<|ol 216 215<|oi 217 .eql 216 24<|om 218 217<|.sc 218 true (ol 219 5<|om 220 14<|oi 221 .sub 220 2<|oa true 222 9 219 221<|of 223 222 7<|ol 224 223<|N) (t 224) 225 N) (t 225) 226 (oo 227 (.bld [.int .i64 0,.int .i64 0,.int .i64 0,.int .i64 0,.nil 1,.nil 7,.nil 11,.bool false,.bool false] [(0,7,t 207),(7,1,t 226),(8,1,B true)])<|oS 9 6 227<|N)) [4,5,14,15,207,208,209,210,211,212,213,214,226,227])<|.ret) S) [8,172])))))))))))) [10,11])<|q (R (om 228 0<|oL 229 5 4<|ol 230 5<|cl 231 94 [t 228,t 229,t 230]<|oS 9 6 231<|N) [0,4,5,228,229,230,231])<|.ret
theorem Xh:FT 54 232 Xf [.cell 6 (some 9)]:=.o Tryz.func54
end Go.Proofs
