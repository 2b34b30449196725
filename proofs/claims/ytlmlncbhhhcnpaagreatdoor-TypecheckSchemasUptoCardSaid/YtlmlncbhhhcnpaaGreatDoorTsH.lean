/- Part H of a proof. -/
import Derived.Test.YtlmlncbhhhcnpaaGreatDoorTsG
import Derived.Test.YtlmlncbhhhcnpaaGreatDoorTsC
import Derived.Test.YtlmlncbhhhcnpaaGreatDoorTsA
import Derived.Test.YtlmlncbhhhcnpaaGreatDoorTsF
set_option linter.unusedVariables false
set_option linter.unusedSimpArgs false
set_option linter.unusedSectionVars false
set_option linter.constructorNameAsVariable false
set_option linter.unnecessarySimpa false
set_option maxRecDepth 10000
namespace Go.Proofs
open Go Av
variable {n:Nat}
structure Vis where
 route:Int
 place:List Int
 step:Ste
 before:Int
 behind:Int
 differ:Bool
def setB(o:List Vis)(k:Nat)(n:Int):List Vis:=match o[k]? with
 |some v=>o.set k {v with behind:=n}
 |none=>o
def setD(o:List Vis)(k:Nat):List Vis:=match o[k]? with
 |some v=>o.set k {v with differ:=true}
 |none=>o
theorem setB_len(o:List Vis)(k:Nat)(n:Int):(setB o k n).length=o.length:=by unfold setB;split<;>simp
theorem setD_len(o:List Vis)(k:Nat):(setD o k).length=o.length:=by unfold setD;split<;>simp
theorem setB_at(o:List Vis)(k:Nat)(n:Int)(j:Nat):(setB o k n)[j]? =if j=k then o[k]?.map fun v=>{v with behind:=n}else o[j]? :=by
 unfold setB;cases e:o[k]? with
 |none=>
  simp only[Option.map_none];split
  ·rename_i h;rw[h,e]
  ·rfl
 |some v=>
  have hk:k<o.length:=(List.getElem?_eq_some_iff.1 e).1;simp only[Option.map_some];rw[List.getElem?_set];by_cases h:k=j
  ·subst h;simp[hk]
  ·rw[if_neg h,if_neg (Ne.symm h)]
theorem setD_at(o:List Vis)(k:Nat)(j:Nat):(setD o k)[j]? =if j=k then o[k]?.map fun v=>{v with differ:=true}else o[j]? :=by
 unfold setD;cases e:o[k]? with
 |none=>
  simp only[Option.map_none];split
  ·rename_i h;rw[h,e]
  ·rfl
 |some v=>
  have hk:k<o.length:=(List.getElem?_eq_some_iff.1 e).1;simp only[Option.map_some];rw[List.getElem?_set];by_cases h:k=j
  ·subst h;simp[hk]
  ·rw[if_neg h,if_neg (Ne.symm h)]
abbrev VN:=List Vis×Int
def nextV(k:Nat)(fin:Bool)(s:VN)(e:VN):VN:=if fin then(e.1,s.2)else if s.2<0 then(e.1,e.2)else if s.2 !=e.2 then(setD e.1 k,s.2)else(e.1,s.2)
mutual
def viS(r:Int)(p:Prg):Ste→Int→List Int→VN→VN
 |.mk n k u t l x c e ru a b,i,pl,s=>
  let o1:=s.1++[Vis.mk r (pl++[i]) (.mk n k u t l x c e ru a b) s.2 0 false]
  let q:VN:=if(k==13||k==14)then(o1,-1)else if(k==11||k==12)then viBs r p b s.1.length 0 (pl++[i]) s.2 (o1,-1)else if c==[]then(o1,s.2)else(o1,((latF p.schemas c).1:Int))
  (setB q.1 s.1.length q.2,q.2)
def viSs(r:Int)(p:Prg):List Ste→Int→List Int→VN→VN
 |[],_,_,s=>s
 |x::y,i,pl,s=>viSs r p y (i+1) pl (viS r p x i pl s)
def viB(r:Int)(p:Prg):Brn→Nat→Int→List Int→Int→VN→VN
 |.mk _ st,k,b,pl,now,s=>nextV k (finSs st) s (viSs r p st 0 (pl++[b]) (s.1,now))
def viBs(r:Int)(p:Prg):List Brn→Nat→Int→List Int→Int→VN→VN
 |[],_,_,_,_,s=>s
 |x::y,k,b,pl,now,s=>viBs r p y k (b+1) pl now (viB r p x k b pl now s)
end
def viQ(r:Int)(p:Prg)(x:Ste)(pl':List Int)(s:VN):VN:=
 if(x.kind==13||x.kind==14)then(s.1++[Vis.mk r pl' x s.2 0 false],-1)else if(x.kind==11||x.kind==12)then viBs r p x.branches s.1.length 0 pl' s.2 (s.1++[Vis.mk r pl' x s.2 0 false],-1)else if x.schema==[]then(s.1++[Vis.mk r pl' x s.2 0 false],s.2)else(s.1++[Vis.mk r pl' x s.2 0 false],((latF p.schemas x.schema).1:Int))
theorem viS_eq(r:Int)(p:Prg)(x:Ste)(i:Int)(pl:List Int)(s:VN):viS r p x i pl s=(setB (viQ r p x (pl++[i]) s).1 s.1.length (viQ r p x (pl++[i]) s).2,(viQ r p x (pl++[i]) s).2):=by
 cases x;rw[viS];rfl
theorem viB_eq(r:Int)(p:Prg)(x:Brn)(k:Nat)(b:Int)(pl:List Int)(now:Int)(s:VN):viB r p x k b pl now s=nextV k (finSs x.steps) s (viSs r p x.steps 0 (pl++[b]) (s.1,now)):=by
 cases x;simp only[viB,Brn.steps]
structure FN where
 bef:List Int
 beh:List Int
 now:Int
mutual
def flS(p:Prg):Ste→FN→FN
 |.mk n k u t l x c e ru a b,s=>
  let s1:FN:=⟨s.bef++[s.now],s.beh++[s.now],s.now⟩
  let q:FN:=if(k==13||k==14)then{s1 with now:= -1}else if(k==11||k==12)then flBs p b s.now {s1 with now:= -1}else if c==[]then s1 else{s1 with now:=((latF p.schemas c).1:Int)}
  ⟨q.bef,q.beh.set s.bef.length q.now,q.now⟩
def flSs(p:Prg):List Ste→FN→FN
 |[],s=>s
 |x::y,s=>flSs p y (flS p x s)
def flB(p:Prg):Brn→Int→FN→FN
 |.mk _ st,now,s=>
  let e:=flSs p st {s with now:=now}
  ⟨e.bef,e.beh,if decide (s.now<0)&& !finSs st then e.now else s.now⟩
def flBs(p:Prg):List Brn→Int→FN→FN
 |[],_,s=>s
 |x::y,now,s=>flBs p y now (flB p x now s)
end
structure Sim(n:Nat)(s:VN)(f:FN)(s':VN)(f':FN):Prop where
 len:n≤s'.1.length
 lb:f'.bef.length=s'.1.length
 lh:f'.beh.length=s'.1.length
 bef:∀j:Nat,(s'.1[j]?).map Vis.before=f'.bef[j]?
 old:∀j:Nat,j<n→(s'.1[j]?).map Vis.behind=(s.1[j]?).map Vis.behind∧f'.beh[j]? =f.beh[j]?
 new:∀j:Nat,n≤j→(s'.1[j]?).map Vis.behind=f'.beh[j]?
 now:s'.2=f'.now
structure Pre(s:VN)(f:FN):Prop where
 lb:f.bef.length=s.1.length
 lh:f.beh.length=s.1.length
 bef:∀j:Nat,(s.1[j]?).map Vis.before=f.bef[j]?
theorem Sim.pre{s s':VN}{f f':FN}(h:Sim n s f s' f'):Pre s' f':=⟨h.lb,h.lh,h.bef⟩
theorem Sim.refl{s:VN}{f:FN}(h:Pre s f)(hn:s.2=f.now):Sim s.1.length s f s f:=by
 refine⟨Nat.le_refl _,h.lb,h.lh,h.bef,fun j _=>⟨rfl,rfl⟩,fun j hj=>?_,hn⟩;rw[List.getElem?_eq_none hj,List.getElem?_eq_none (by rw[h.lh];exact hj)];rfl
theorem Sim.trans{m:Nat}{s s' s'':VN}{f f' f'':FN}(h1:Sim n s f s' f')(h2:Sim m s' f' s'' f'')(hm:m=s'.1.length):Sim n s f s'' f'':=by
 have hnm:n≤m:=by rw[hm];exact h1.len
 refine⟨Nat.le_trans hnm h2.len,h2.lb,h2.lh,h2.bef,fun j hj=>?_,fun j hj=>?_,h2.now⟩
 ·obtain⟨a,b⟩:=h2.old j oM;obtain⟨c,d⟩:=h1.old j hj;exact⟨a.trans c,b.trans d⟩
 ·by_cases hjm:j<m
  ·obtain⟨a,b⟩:=h2.old j hjm;rw[a,b];exact h1.new j hj
  ·exact h2.new j oM
theorem getElem?_push{α:Type}(l:List α)(a:α)(j:Nat):(l++[a])[j]? =if j=l.length then some a else l[j]? :=by
 by_cases h:j=l.length
 ·subst h;simp
 ·rw[if_neg h];by_cases h2:j<l.length
  ·rw[List.getElem?_append_left h2]
  ·rw[List.getElem?_append_right oM,List.getElem?_eq_none sO,List.getElem?_eq_none oM]
theorem Sim.close{s q:VN}{f g:FN}{v:Vis}(hpre:Pre s f)(hv:v.before=f.now)(hn:n=s.1.length)(h:Sim (n+1) (s.1++[v],q.2) ⟨f.bef++[f.now],f.beh++[f.now],f.now⟩ q g):
  Sim n s f (setB q.1 n q.2,q.2) ⟨g.bef,g.beh.set n g.now,g.now⟩:=by
 have hlt:n<q.1.length:=by have:=h.len;omega
 refine⟨by simp only[setB_len];omega,by simp only[setB_len];exact h.lb,by simp only[setB_len,List.length_set];exact h.lh,fun j=>?_,fun j hj=>?_,fun j hj=>?_,h.now⟩
 ·simp only[setB_at];rw[←h.bef j];split
  ·rename_i e;subst e;cases q.1[j]? <;>rfl
  ·rfl
 ·obtain⟨a,b⟩:=h.old j oM;simp only[setB_at,List.getElem?_set];rw[if_neg oM,if_neg oM];simp only at a b;rw[a,b];simp only[getElem?_push];rw[if_neg oM,if_neg (by have:=hpre.lh;omega)];exact⟨rfl,rfl⟩
 ·simp only[setB_at,List.getElem?_set];by_cases e:j=n
  ·subst e;rw[if_pos rfl,if_pos rfl,if_pos (by rw[h.lh];exact hlt),List.getElem?_eq_getElem hlt];simp[h.now]
  ·rw[if_neg e,if_neg (Ne.symm e)];exact h.new j oM
theorem Pre.push{s:VN}{f:FN}(h:Pre s f){v:Vis}(hv:v.before=f.now)(m:Int):Pre (s.1++[v],m) ⟨f.bef++[f.now],f.beh++[f.now],m⟩:=by
 refine⟨by simp[h.lb],by simp[h.lh],fun j=>?_⟩;simp only[getElem?_push,h.lb];split
 ·simp[hv]
 ·exact h.bef j
theorem Sim.next{s e:VN}{f g:FN}{k:Nat}{fin:Bool}{now:Int}(hk:k<n)(hs:s.2=f.now)(h:Sim n (s.1,now) {f with now:=now} e g):
  Sim n s f (nextV k fin s e) ⟨g.bef,g.beh,if decide (f.now<0)&& !fin then g.now else f.now⟩:=by
 have hb:∀j:Nat,((setD e.1 k)[j]?).map Vis.before=(e.1[j]?).map Vis.before:=by
  intro j;rw[setD_at];split
  ·rename_i x;subst x;cases e.1[j]? <;>rfl
  ·rfl
 have hh:∀j:Nat,((setD e.1 k)[j]?).map Vis.behind=(e.1[j]?).map Vis.behind:=by
  intro j;rw[setD_at];split
  ·rename_i x;subst x;cases e.1[j]? <;>rfl
  ·rfl
 have mk:∀m m',m=m'→Sim n s f (e.1,m) ⟨g.bef,g.beh,m'⟩:=fun m m' hm=>⟨h.len,h.lb,h.lh,h.bef,h.old,h.new,hm⟩
 unfold nextV;cases fin with
 |true=>simp only[if_true,Bool.not_true,Bool.and_false,Bool.false_eq_true,if_false];exact mk _ _ hs
 |false=>
  simp only[Bool.false_eq_true,if_false,Bool.not_false,Bool.and_true,decide_eq_true_eq];by_cases hneg:s.2<0
  ·have hneg2:f.now<0:=by rw[←hs];exact hneg
   simp only[if_pos hneg,if_pos hneg2];exact mk _ _ h.now
  ·have hneg2:¬f.now<0:=by rw[←hs];exact hneg
   simp only[if_neg hneg,if_neg hneg2];split
   ·exact⟨by rw[setD_len];exact h.len,by rw[setD_len];exact h.lb,by rw[setD_len];exact h.lh,fun j=>(hb j).trans (h.bef j),fun j hj=>⟨(hh j).trans (h.old j hj).1,(h.old j hj).2⟩,fun j hj=>(hh j).trans (h.new j hj),hs⟩
   ·exact mk _ _ hs
mutual
theorem simS(r:Int)(p:Prg):∀(x:Ste) (i:Int) (pl:List Int) (s:VN) (f:FN),Pre s f→s.2=f.now→Sim s.1.length s f (viS r p x i pl s) (flS p x f)
 |.mk n k u t l x c e ru a b,i,pl,s,f,hp,hn=>by
  rw[viS,flS];simp only[hp.lb];have hv:(Vis.mk r (pl++[i]) (.mk n k u t l x c e ru a b) s.2 0 false).before=f.now:=hn;refine Sim.close hp hv rfl ?_;have hq:∀m:Int,Sim (s.1.length+1) (s.1++[Vis.mk r (pl++[i]) (.mk n k u t l x c e ru a b) s.2 0 false],m) ⟨f.bef++[f.now],f.beh++[f.now],m⟩ (s.1++[Vis.mk r (pl++[i]) (.mk n k u t l x c e ru a b) s.2 0 false],m) ⟨f.bef++[f.now],f.beh++[f.now],m⟩:=by
   intro m;have:=Sim.refl (hp.push hv m) rfl;simpa using this
  have hw:∀(m:Int) (q:VN) (g:FN),Sim (s.1.length+1) (s.1++[Vis.mk r (pl++[i]) (.mk n k u t l x c e ru a b) s.2 0 false],m) ⟨f.bef++[f.now],f.beh++[f.now],m⟩ q g→
    Sim (s.1.length+1) (s.1++[Vis.mk r (pl++[i]) (.mk n k u t l x c e ru a b) s.2 0 false],q.2) ⟨f.bef++[f.now],f.beh++[f.now],f.now⟩ q g:=fun m q g h=>⟨h.len,h.lb,h.lh,h.bef,h.old,h.new,h.now⟩
  by_cases h1:(k==13||k==14)=true
  ·simp only[h1,if_true];exact hw (-1) _ _ (hq (-1))
  ·by_cases h2:(k==11||k==12)=true
   ·simp only[h1,h2,if_true,if_false,Bool.false_eq_true];refine hw (-1) _ _ ?_;have:=simBs r p b s.1.length 0 (pl++[i]) s.2 (s.1++[Vis.mk r (pl++[i]) (.mk n k u t l x c e ru a b) s.2 0 false],-1) ⟨f.bef++[f.now],f.beh++[f.now],-1⟩ (hp.push hv (-1)) rfl sP;rw[←hn]at this⊢;simpa using this
   ·by_cases h3:(c==[])=true
    ·simp only[h1,h2,h3,if_true,if_false,Bool.false_eq_true];have:=hw s.2 _ _ (hq s.2);rw[hn]at this⊢;exact this
    ·simp only[h1,h2,h3,if_true,if_false,Bool.false_eq_true];exact hw _ _ _ (hq ((latF p.schemas c).1:Int))
theorem simSs(r:Int)(p:Prg):∀(x:List Ste) (i:Int) (pl:List Int) (s:VN) (f:FN),Pre s f→s.2=f.now→Sim s.1.length s f (viSs r p x i pl s) (flSs p x f)
 |[],_,_,s,f,hp,hn=>by rw[viSs,flSs];exact .refl hp hn
 |x::y,i,pl,s,f,hp,hn=>by
  rw[viSs,flSs];have h1:=simS r p x i pl s f hp hn;exact h1.trans (simSs r p y (i+1) pl _ _ h1.pre h1.now) rfl
theorem simB(r:Int)(p:Prg):∀(x:Brn) (k:Nat) (b:Int) (pl:List Int) (now:Int) (s:VN) (f:FN),Pre s f→s.2=f.now→k<s.1.length→Sim s.1.length s f (viB r p x k b pl now s) (flB p x now f)
 |.mk _ st,k,b,pl,now,s,f,hp,hn,hk=>by
  rw[viB,flB];have h1:=simSs r p st 0 (pl++[b]) (s.1,now) {f with now:=now} ⟨hp.lb,hp.lh,hp.bef⟩ rfl;exact Sim.next hk hn h1
theorem simBs(r:Int)(p:Prg):∀(x:List Brn) (k:Nat) (b:Int) (pl:List Int) (now:Int) (s:VN) (f:FN),Pre s f→s.2=f.now→k<s.1.length→Sim s.1.length s f (viBs r p x k b pl now s) (flBs p x now f)
 |[],_,_,_,_,s,f,hp,hn,_=>by rw[viBs,flBs];exact .refl hp hn
 |x::y,k,b,pl,now,s,f,hp,hn,hk=>by
  rw[viBs,flBs];have h1:=simB r p x k b pl now s f hp hn hk;have hl:=h1.len;exact h1.trans (simBs r p y k (b+1) pl now _ _ h1.pre h1.now oM) rfl
end
end Go.Proofs
namespace Go.Proofs
open Go Av
variable {o:List Vis}{k:Nat}{p:Prg}
def encVi(v:Vis):Dat:=.agg [.int .i64 v.route,.list 1 (v.place.map (.int .i64)),.str v.step.name,.int .i64 v.step.kind,.int .i64 v.step.number,.int .i64 v.step.time,.int .i64 v.step.limit,.str v.step.text,.str v.step.schema,.list 5 (v.step.exprs.map encE),.list 6 (v.step.rules.map encR),.list 2 (v.step.calls.map encCl),.list 2 (v.step.branches.map encB),.int .i64 v.before,.int .i64 v.behind,.bool v.differ]
def celVi(v:Vis)(n:Int)(d:Bool):List Dat:=[.int .i64 v.route,.list 1 (v.place.map (.int .i64)),.str v.step.name,.int .i64 v.step.kind,.int .i64 v.step.number,.int .i64 v.step.time,.int .i64 v.step.limit,.str v.step.text,.str v.step.schema,.list 5 (v.step.exprs.map encE),.list 6 (v.step.rules.map encR),.list 2 (v.step.calls.map encCl),.list 2 (v.step.branches.map encB),.int .i64 v.before,.int .i64 n,.bool d]
theorem nth_encVi(h:k<o.length):nth (o.map encVi) k=.agg (celVi o[k] o[k].behind o[k].differ):=by
 rw[nth_map encVi h];rfl
theorem row_setB(n:Int)(h:k<o.length):(o.map encVi).set k (.agg (celVi o[k] n o[k].differ))=(setB o k n).map encVi:=by
 have:Dat.agg (celVi o[k] n o[k].differ)=encVi {o[k]with behind:=n}:=rfl;rw[this,←List.map_set];unfold setB;rw[List.getElem?_eq_getElem h]
theorem row_setD(h:k<o.length):(o.map encVi).set k (.agg (celVi o[k] o[k].behind true))=(setD o k).map encVi:=by
 have:Dat.agg (celVi o[k] o[k].behind true)=encVi {o[k]with differ:=true}:=rfl;rw[this,←List.map_set];unfold setD;rw[List.getElem?_eq_getElem h]
abbrev VT(p:Prg)(o:List Vis):List (Nat×Av.Obj):=[(1000,.box [.d (.int .i64 p.version),.d (.list 9 (p.schemas.map encC)),.d (.list 7 (p.endpoints.map encEp)),.d (.list 4 (p.services.map encX)),.d (.list 3 (p.routes.map encO)),.ms 1001 o.length]),(1001,.row o.length 16 (o.map encVi))]
theorem closedVT(p:Prg)(o o':List Vis):closed (hputs (get (VT p o)) (VT p o')):=closed_puts (by simp[VT,puts,put,closedH,objIn,idsInL,idsIn,Av.get])
theorem closedVT1(p:Prg)(o:List Vis):closed (get (VT p o)):=closed_of (by simp[VT,closedH,objIn,idsInL,idsIn,Av.get])
theorem VT_dom{o':List Vis}{i:Nat}(h:(hputs (get (VT p o)) (VT p o') i).isSome=true):i=1000∨i=1001:=by
 refine Decidable.byContradiction fun hn=>?_
 simp only[not_or]at hn;obtain⟨a1,a2⟩:=hn;simp[VT,hputs,upd,Av.get,a1,a2,Ne.symm a1,Ne.symm a2]at h
theorem VT_big{i:Nat}(h:(get (VT p o) i).isSome=true):1000≤i:=by
 simp only[VT,Av.get]at h
 repeat' split at h
 all_goals first|(cases h;done)|omega
mutual
theorem viS_len(r:Int)(p:Prg):∀(x:Ste) (i:Int) (pl:List Int) (s:VN),s.1.length<(viS r p x i pl s).1.length∧(viS r p x i pl s).1.length≤s.1.length+szS x
 |.mk n k u t l x c e ru a b,i,pl,s=>by
  rw[viS,szS];simp only[setB_len];have:=viBs_len r p b s.1.length 0 (pl++[i]) s.2 (s.1++[Vis.mk r (pl++[i]) (.mk n k u t l x c e ru a b) s.2 0 false],-1);simp only[List.length_append,List.length_cons,List.length_nil]at this
  repeat' split
  all_goals first|omega|(simp only[List.length_append,List.length_cons,List.length_nil];omega)
theorem viSs_len(r:Int)(p:Prg):∀(x:List Ste) (i:Int) (pl:List Int) (s:VN),s.1.length≤(viSs r p x i pl s).1.length∧(viSs r p x i pl s).1.length≤s.1.length+szSs x
 |[],_,_,s=>by simp[viSs]
 |x::y,i,pl,s=>by
  rw[viSs,szSs];have h1:=viS_len r p x i pl s;have h2:=viSs_len r p y (i+1) pl (viS r p x i pl s);omega
theorem viB_len(r:Int)(p:Prg):∀(x:Brn) (k:Nat) (b:Int) (pl:List Int) (now:Int) (s:VN),s.1.length≤(viB r p x k b pl now s).1.length∧(viB r p x k b pl now s).1.length≤s.1.length+szB x
 |.mk w st,k,b,pl,now,s=>by
  rw[viB,szB];have:=viSs_len r p st 0 (pl++[b]) (s.1,now);have e:∀fin e,(nextV k fin s e).1.length=e.1.length:=by
   intro fin e;unfold nextV;repeat' split
   all_goals first|rfl|exact setD_len _ _
  rw[e];simp only at this;omega
theorem viBs_len(r:Int)(p:Prg):∀(x:List Brn) (k:Nat) (b:Int) (pl:List Int) (now:Int) (s:VN),s.1.length≤(viBs r p x k b pl now s).1.length∧(viBs r p x k b pl now s).1.length≤s.1.length+szBs x
 |[],_,_,_,_,s=>by simp[viBs]
 |x::y,k,b,pl,now,s=>by
  rw[viBs,szBs];have h1:=viB_len r p x k b pl now s;have h2:=viBs_len r p y k (b+1) pl now (viB r p x k b pl now s);omega
end
def V26(p:Prg)(l:List Ste):Prop:=∀(r:Int) (pd:Dat) (pl:List Int) (now:Int) (o:List Vis),PD pd pl→pl.length+2*szSs l≤10000000000→o.length+szSs l≤10000000000→
 KT 26 [.ref 1000 0,.d (.int .i64 r),.d (.list 11 (l.map encSt)),.d pd,.d (.int .i64 now)] (VT p o) (.d (.int .i64 (viSs r p l 0 pl (o,now)).2)) (VT p (viSs r p l 0 pl (o,now)).1)
theorem call26{l:List Ste}(h:V26 p l)(i k:Nat)(hik:i≠k)(r:Int)(pd:Dat)(pl:List Int)(now:Int)(o:List Vis)(hp:PD pd pl)(h1:pl.length+2*szSs l≤10000000000)(h2:o.length+szSs l≤10000000000):
  CT (.fn 26) [.ref i 0,.d (.int .i64 r),.d (.list 11 (l.map encSt)),.d pd,.d (.int .i64 now)]
   [(i,some (.box [.d (.int .i64 p.version),.d (.list 9 (p.schemas.map encC)),.d (.list 7 (p.endpoints.map encEp)),.d (.list 4 (p.services.map encX)),.d (.list 3 (p.routes.map encO)),.ms k o.length])),(k,some (.row o.length 16 (o.map encVi)))]
   (.d (.int .i64 (viSs r p l 0 pl (o,now)).2))
   [(i,.box [.d (.int .i64 p.version),.d (.list 9 (p.schemas.map encC)),.d (.list 7 (p.endpoints.map encEp)),.d (.list 4 (p.services.map encX)),.d (.list 3 (p.routes.map encO)),.ms k (viSs r p l 0 pl (o,now)).1.length]),(k,.row (viSs r p l 0 pl (o,now)).1.length 16 ((viSs r p l 0 pl (o,now)).1.map encVi))]:=by
 have hc:=h r pd pl now o hp h1 h2;generalize viSs r p l 0 pl (o,now)=R at*;have h:=hc.call (fun j=>if j=1000 then i else if j=1001 then k else j) (fun j hj=>VT_big hj) (fun a b ha hb h=>by
  rcases VT_dom ha with rfl|rfl<;>rcases VT_dom hb with rfl|rfl<;>first|rfl|(simp at h;omega)) (by simp[idsIn,Av.get]) (closedVT1 _ _) [] (by simp[Av.get]) (closedVT _ _ _) trivial
 simp only[VT,List.map_cons,List.map_nil,Obj.ren,Av.ren,renL,rn_dat,List.append_nil,Nat.reduceEqDiff,↓reduceIte]at h;exact h
set_option maxHeartbeats 8000000 in
theorem step26(p:Prg)(hps:p.schemas.length≤68719476736)(l:List Ste)(h:∀x∈l,∀b∈x.branches,V26 p b.steps):V26 p l:=by
 intro r pd pl now o hp hx ho;refine Con.of_fits ok26.has fun hfit=>?_
 have hl:l.length≤68719476736:=by have:=(hfit (.list 11 (l.map encSt)) sP).1;simpa using this
 have hfs:∀x∈l,x.branches.length≤68719476736:=by
  intro x hxm;have:=fitsL_iff.1 (hfit (.list 11 (l.map encSt)) sP).2 _ (List.mem_map.2 ⟨x,hxm,rfl⟩);rw[encSt_eq]at this;simp only[fits,fitsL,List.length_map]at this;omega
 clear hfit;generalize hR:viSs r p l 0 pl (o,now)=R;refine ok26.con (k:=some false) (Nat.le_of_ble_eq_true rfl) (closedVT _ _ _) trivial ?_;simp only[VT,go_sem,ir26,List.length_map,simprocAttr];refine wpc_loop (fun n st=>∃(k:Nat) (S:VN),k≤l.length∧n=l.length-k∧viSs r p (l.drop k) k pl S=R∧S.1.length+szSs (l.drop k)≤10000000000∧
  st=⟨[(0,.ref 1000 0),(1,.d (.int .i64 r)),(3,.d pd),(4,.d (.int .i64 S.2)),(19,.d (.list 11 (l.map encSt))),(20,.d (.int .i64 l.length)),(21,.d (.int .i64 k))],VT p S.1⟩) ?_ ?_
 ·refine⟨_,_,Wk.less ?_,0,(o,now),Nat.zero_le _,rfl,hR,ho,rfl⟩;simp[go_sem,VT]
 ·rintro n st ⟨k,⟨q,now'⟩,hk,rfl,hinv,hq,rfl⟩;simp only at hq;by_cases hlt:k<l.length
  ·have hn:=nth_encSt hlt;have hdk:decide ((k:Int)<(l.length:Int))=true:=sO;have hbr:=hfs _ (List.getElem_mem hlt);have hV:=h _ (List.getElem_mem hlt);rw[List.drop_eq_getElem_cons hlt,viSs]at hinv;rw[List.drop_eq_getElem_cons hlt,szSs,szS_eq]at hq;have hszd:szS l[k]≤szSs l:=szSs_mem (List.getElem_mem hlt);rw[szS_eq]at hszd;generalize hxx:l[k]=x at*;have hlen:(pl++[(k:Int)]).length=pl.length+1:=sP;rw[viS_eq]at hinv;generalize hpl':pl++[(k:Int)]=pl' at*;have c31:=call31r hp 27;simp only[VT,go_sem,hn,hdk,Int.toNat_natCast,List.length_map,simprocAttr];have hm:pl.map (.int .i64)++[Dat.int .i64 (k:Int)]=pl'.map (.int .i64):=by rw[←hpl',List.map_append];rfl
   refine⟨⟨oM,oM⟩,wn c31 ?_⟩;simp only[go_sem,hm,List.length_map,simprocAttr];have hrow:q.map encVi++[.agg [.int .i64 r,.list 1 (pl'.map (.int .i64)),.str x.name,.int .i64 x.kind,.int .i64 x.number,.int .i64 x.time,.int .i64 x.limit,.str x.text,.str x.schema,.list 5 (x.exprs.map encE),.list 6 (x.rules.map encR),.list 2 (x.calls.map encCl),.list 2 (x.branches.map encB),.int .i64 now',.int .i64 0,.bool false]]=(q++[Vis.mk r pl' x now' 0 false]).map encVi:=by
    rw[List.map_append];rfl
   rw[hrow];refine⟨fun y hy=>(by simp only[List.mem_singleton]at hy;subst hy;rfl),oM,fun y hy=>(by simp only[List.mem_singleton]at hy;subst hy;rfl),oM,dC,scQ_pure (x.kind==14) (fun _=>?_) ?_⟩
   ·exact zz trivial
   have hln:(q++[Vis.mk r pl' x now' 0 false]).length=q.length+1:=sP;unfold viQ at hinv;simp only at hinv;generalize hO1:q++[Vis.mk r pl' x now' 0 false]=o1 at*;clear hrow c31 hn hdk;have h16:decide ((16:Nat)≠1)=true:=rfl;have hfin:∀(o2:List Vis) (m:Int),o2.length≤q.length+1+szBs x.branches→q.length<o2.length→viSs r p (l.drop (k+1)) ((k:Int)+1) pl (setB o2 q.length m,m)=R→
     ∃(k':Nat) (S:VN),k'≤l.length∧l.length-(k+1)=l.length-k'∧viSs r p (l.drop k') k' pl S=R∧S.1.length+szSs (l.drop k')≤10000000000∧k'=k+1∧S=(setB o2 q.length m,m):=by
    intro o2 m h1 h2 h3;refine⟨k+1,_,oM,rfl,by simpa using h3,by simp only[setB_len];omega,rfl,rfl⟩
   by_cases b1:(x.kind==13||x.kind==14)=true
   ·rw[if_pos b1]at hinv;have hql:q.length<o1.length:=oM;have hx1:=nth_encVi hql;have hx2:=row_setB (-1) hql;unfold celVi at hx1 hx2;simp only[go_sem,b1,hln,h16,hx1,Int.toNat_natCast,List.length_map,simprocAttr];have hsl:(setB o1 q.length (-1)).length=o1.length:=setB_len _ _ _;refine⟨⟨oM,oM⟩,l.length-(k+1),_,oM,Wk.less ?_,k+1,(setB o1 q.length (-1),-1),oM,rfl,by simpa using hinv,by simp only[hsl];omega,rfl⟩;simp only[go_sem,VT,wrap64s k oM,hsl,hx2,hln,simprocAttr]
   ·rw[if_neg b1]at hinv;simp only[Bool.not_eq_true]at b1;simp only[go_sem,b1,simprocAttr];refine sq (x.kind==12) ?_ ?_
    ·exact zz trivial
    by_cases b2:(x.kind==11||x.kind==12)=true
    ·rw[if_pos b2]at hinv;simp only[go_sem,b2,List.length_map,simprocAttr];generalize hbs:x.branches=bs at*;generalize hRB:viBs r p bs q.length 0 pl' now' (o1,-1)=RB at*;refine wpc_loop (fun n st=>∃(b:Nat) (T:VN),b≤bs.length∧n=bs.length-b∧viBs r p (bs.drop b) q.length b pl' now' T=RB∧q.length<T.1.length∧T.1.length+szBs (bs.drop b)+szSs (l.drop (k+1))≤10000000000∧
      st=⟨[(0,.ref 1000 0),(1,.d (.int .i64 r)),(3,.d pd),(19,.d (.list 11 (l.map encSt))),(20,.d (.int .i64 l.length)),(21,.d (.int .i64 k)),(4,.d (.int .i64 now')),(13,.d (.list 1 (pl'.map (.int .i64)))),(14,.d (.int .i64 q.length)),(15,.d (.int .i64 T.2)),(70,.d (.list 2 (bs.map encB))),(71,.d (.int .i64 bs.length)),(72,.d (.int .i64 b))],VT p T.1⟩) ?_ ?_
     ·refine⟨_,_,(Wk.seeT 13 27 1 1 (pl'.map (.int .i64)) rfl rfl).trans (Wk.less ?_),0,(o1,-1),Nat.zero_le _,rfl,by simpa using hRB,by show _<o1.length;omega,by simp only[List.drop_zero];omega,rfl⟩;simp[go_sem,VT,hln,put]
     ·rintro n st ⟨b,⟨o2,m2⟩,hbk,rfl,hinv2,hT,hb2,rfl⟩;simp only at hT hb2;by_cases hbl:b<bs.length
      ·have hbn:=nth_encB hbl;have hdb:decide ((b:Int)<(bs.length:Int))=true:=sO;have hVb:=hV _ (List.getElem_mem hbl);have hszb:szB bs[b]≤szBs bs:=szBs_mem (List.getElem_mem hbl);rw[List.drop_eq_getElem_cons hbl,szBs,szB_eq]at hb2;rw[List.drop_eq_getElem_cons hbl,viBs,viB_eq]at hinv2;rw[szB_eq]at hszb;generalize bs[b]=br at*;have hlen2:(pl'++[(b:Int)]).length=pl'.length+1:=sP;have hm2:pl'.map (.int .i64)++[Dat.int .i64 (b:Int)]=(pl'++[(b:Int)]).map (.int .i64):=by rw[List.map_append];rfl
       have c31:=call31r (p43 pl') 82;have c26:=call26 hVb 1000 1001 dC r _ _ now' o2 (p43 (pl'++[(b:Int)])) (by rw[hlen2];omega) oM;have hvl:=viSs_len r p br.steps 0 (pl'++[(b:Int)]) (o2,now');have c42:=(p42 br.steps).call trivial;simp only at hinv2 hvl;generalize viSs r p br.steps 0 (pl'++[(b:Int)]) (o2,now')=E at*;have c26':=CallOK.frzA (i:=82) (j:=3) (ver:=1) (sz:=1) (xs:=(pl'++[(b:Int)]).map (.int .i64)) (args:=[.ref 1000 0,.d (.int .i64 r),.d (.list 11 (br.steps.map encSt)),.ms 82 1,.d (.int .i64 now')]) c26 rfl sP;simp only[VT,go_sem,hbn,hdb,Int.toNat_natCast,List.length_map,simprocAttr];refine⟨⟨oM,oM⟩,wpsL_call rfl c31 ⟨rfl,trivial⟩ ?_⟩;simp only[go_sem,hm2,simprocAttr];refine⟨fun y hy=>(by simp only[List.mem_singleton]at hy;subst hy;rfl),sO,wpsL_call rfl c26' ⟨rfl,rfl,rfl,trivial⟩ ?_⟩;refine zz ?_;refine⟨dC,wn c42 ?_⟩;unfold nextV at hinv2;simp only at hinv2;refine zz ?_;generalize hF:finSs br.steps=F at*;cases F
       ·simp only[Bool.false_eq_true,if_false]at hinv2;by_cases hneg:m2<0
        ·rw[if_pos hneg]at hinv2;simp only[go_sem,hneg,decide_true,Bool.false_eq_true,simprocAttr];refine⟨bs.length-(b+1),_,oM,Wk.less ?_,b+1,(E.1,E.2),oM,rfl,by simpa using hinv2,by simp only;omega,by simp only;omega,rfl⟩;simp only[go_sem,VT,wrap64s b oM,simprocAttr]
        ·rw[if_neg hneg]at hinv2;by_cases hne:(m2 !=E.2)=true
         ·rw[if_pos hne]at hinv2;have hkE:q.length<E.1.length:=oM;have hx1:=nth_encVi hkE;have hx2:=row_setD hkE;unfold celVi at hx1 hx2;have hsl:=setD_len E.1 q.length;simp only[go_sem,hneg,hne,h16,hx1,decide_false,Bool.false_eq_true,Int.toNat_natCast,List.length_map,simprocAttr];refine⟨⟨oM,oM⟩,bs.length-(b+1),_,oM,Wk.less ?_,b+1,(setD E.1 q.length,m2),oM,rfl,by simpa using hinv2,by simp only[hsl];omega,by simp only[hsl];omega,rfl⟩;simp only[go_sem,VT,wrap64s b oM,hsl,hx2,simprocAttr]
         ·rw[if_neg hne]at hinv2;simp only[Bool.not_eq_true]at hne;simp only[go_sem,hneg,hne,decide_false,Bool.false_eq_true,simprocAttr];refine⟨bs.length-(b+1),_,oM,Wk.less ?_,b+1,(E.1,m2),oM,rfl,by simpa using hinv2,by simp only;omega,by simp only;omega,rfl⟩;simp only[go_sem,VT,wrap64s b oM,simprocAttr]
       ·simp only[if_true]at hinv2;refine zz ?_;refine⟨bs.length-(b+1),_,oM,Wk.less ?_,b+1,(E.1,m2),oM,rfl,by simpa using hinv2,by simp only;omega,by simp only;omega,rfl⟩;simp only[go_sem,VT,wrap64s b oM,simprocAttr]
      ·obtain rfl:b=bs.length:=oM;have hdb:decide ((bs.length:Int)<(bs.length:Int))=false:=sP;rw[List.drop_length,viBs]at hinv2;rw[List.drop_length,szBs]at hb2;subst hinv2;simp only at hinv;simp only[VT,go_sem,hdb,simprocAttr];have hql:q.length<o2.length:=hT;have hx1:=nth_encVi hql;have hx2:=row_setB m2 hql;unfold celVi at hx1 hx2;simp only[go_sem,h16,hx1,Int.toNat_natCast,List.length_map,simprocAttr];have hsl:(setB o2 q.length m2).length=o2.length:=setB_len _ _ _;refine⟨⟨oM,oM⟩,l.length-(k+1),_,oM,Wk.less ?_,k+1,(setB o2 q.length m2,m2),oM,rfl,by simpa using hinv,by simp only[hsl];omega,rfl⟩;simp only[go_sem,VT,wrap64s k oM,hsl,hx2,simprocAttr]
    ·rw[if_neg b2]at hinv;simp only[Bool.not_eq_true]at b2;simp only[go_sem,b2,simprocAttr];by_cases b3:(x.schema==[])=true
     ·rw[if_pos b3]at hinv;have hql:q.length<o1.length:=oM;have hx1:=nth_encVi hql;have hx2:=row_setB (now') hql;unfold celVi at hx1 hx2;simp only[go_sem,b3,Bool.not_true,hln,h16,hx1,Int.toNat_natCast,List.length_map,simprocAttr];have hsl:(setB o1 q.length (now')).length=o1.length:=setB_len _ _ _;refine⟨⟨oM,oM⟩,l.length-(k+1),_,oM,Wk.less ?_,k+1,(setB o1 q.length (now'),now'),oM,rfl,by simpa using hinv,by simp only[hsl];omega,rfl⟩;simp only[go_sem,VT,wrap64s k oM,hsl,hx2,hln,simprocAttr]
     ·rw[if_neg b3]at hinv;simp only[Bool.not_eq_true]at b3;have c49:=(walk49 p x.schema hps).call (by simp[pureR]);simp only[encPg]at c49;simp only[go_sem,b3,Bool.not_false,simprocAttr];refine wn c49 ?_;have hql:q.length<o1.length:=oM;have hx1:=nth_encVi hql;have hx2:=row_setB (((latF p.schemas x.schema).1:Int)) hql;unfold celVi at hx1 hx2;simp only[go_sem,hln,h16,hx1,Int.toNat_natCast,List.length_map,simprocAttr];have hsl:(setB o1 q.length (((latF p.schemas x.schema).1:Int))).length=o1.length:=setB_len _ _ _;refine⟨⟨oM,oM⟩,l.length-(k+1),_,oM,Wk.less ?_,k+1,(setB o1 q.length (((latF p.schemas x.schema).1:Int)),((latF p.schemas x.schema).1:Int)),oM,rfl,by simpa using hinv,by simp only[hsl];omega,rfl⟩;simp only[go_sem,VT,wrap64s k oM,hsl,hx2,hln,simprocAttr]
  ·have hdk:decide ((k:Int)<(l.length:Int))=false:=sO;obtain rfl:k=l.length:=oM;rw[List.drop_length,viSs]at hinv;subst hinv;simp only[VT,go_sem,hdk,simprocAttr]
mutual
theorem v26s(p:Prg)(hps:p.schemas.length≤68719476736):∀(l:List Ste),∀x∈l,∀b∈x.branches,V26 p b.steps
 |[],x,h,_,_=>by cases h
 |v::q,x,h,b,hb=>by
  by_cases e:x=v
  ·rw[e]at hb;exact v26S p hps v b hb
  ·exact v26s p hps q x ((List.mem_cons.1 h).resolve_left e) b hb
theorem v26S(p:Prg)(hps:p.schemas.length≤68719476736):∀(x:Ste),∀b∈x.branches,V26 p b.steps
 |.mk n k u t l x c e ru a bs=>v26bs p hps bs
theorem v26bs(p:Prg)(hps:p.schemas.length≤68719476736):∀(l:List Brn),∀b∈l,V26 p b.steps
 |[],b,h=>by cases h
 |v::q,b,h=>by
  by_cases e:b=v
  ·rw[e];exact v26B p hps v
  ·exact v26bs p hps q b ((List.mem_cons.1 h).resolve_left e)
theorem v26B(p:Prg)(hps:p.schemas.length≤68719476736):∀(b:Brn),V26 p b.steps
 |.mk w s=>step26 p hps s (v26s p hps s)
end
theorem w26(p:Prg)(hps:p.schemas.length≤68719476736)(l:List Ste):V26 p l:=step26 p hps l (v26s p hps l)
end Go.Proofs
namespace Go.Proofs
open Go Av
theorem addP_ge(is:Bool)(x:Prb)(o:List Prb):o.length≤(addP is x o).length:=by
 unfold addP;split<;>simp
theorem addP_pos(x:Prb)(o:List Prb){is:Bool}(h:is=true):0<(addP is x o).length:=by
 subst h;unfold addP;simp
theorem callsP_ge(ro:Str)(l:List Int)(p:Prg)(s:Ste):∀(k:Nat) (r:List Kal) (o:List Prb),o.length≤(callsP ro l p s k r o).length
 |_,[],o=>by simp[callsP]
 |k,c::r,o=>by
  rw[callsP];exact Nat.le_trans (Nat.le_trans (addP_ge _ _ _) (addP_ge _ _ _)) (callsP_ge ro l p s (k+1) r _)
theorem stepP_ge(ro:Str)(l:List Int)(p:Prg)(s:Ste)(o:List Prb):o.length≤(stepP ro l p s o).length:=by
 unfold stepP;refine Nat.le_trans (Nat.le_trans ?_ (addP_ge _ _ _)) (callsP_ge ro l p s 0 s.calls _);unfold toP;split
 ·exact Nat.le_trans (addP_ge _ _ _) (addP_ge _ _ _)
 ·exact Nat.le_refl _
theorem ownP_ge(ro:Str)(r:Int)(p:Prg)(x:Ste)(e:Bool)(l:List Int)(s:NP):s.2.length≤(ownP ro r p x e l s).2.length:=by
 unfold ownP;simp only;split
 ·exact Nat.le_trans (Nat.le_trans (Nat.le_trans (addP_ge _ _ _) (addP_ge _ _ _)) (addP_ge _ _ _)) (stepP_ge _ _ _ _ _)
 ·exact Nat.le_trans (Nat.le_trans (Nat.le_trans (addP_ge _ _ _) (addP_ge _ _ _)) (addP_ge _ _ _)) (addP_ge _ _ _)
mutual
theorem sP_ge(ro:Str)(r:Int)(p:Prg):∀(x:Ste) (e:Bool) (i:Int) (pl:List Int) (s:NP),s.2.length≤(stpP ro r p x e i pl s).2.length
 |.mk n k u t l x c e ru a b,ends,i,pl,s=>by
  rw[stpP];exact Nat.le_trans (ownP_ge _ _ _ _ _ _ _) (bsP_ge ro r p b 0 (pl++[i]) _)
theorem ssP_ge(ro:Str)(r:Int)(p:Prg):∀(x:List Ste) (e:Bool) (i:Int) (pl:List Int) (s:NP),s.2.length≤(ssP ro r p x e i pl s).2.length
 |[],_,_,_,s=>by simp[ssP]
 |x::y,e,i,pl,s=>by
  rw[ssP];exact Nat.le_trans (sP_ge ro r p x e i pl s) (ssP_ge ro r p y (endsS x) (i+1) pl _)
theorem bP_ge(ro:Str)(r:Int)(p:Prg):∀(x:Brn) (k:Int) (pl:List Int) (s:NP),s.2.length≤(bP ro r p x k pl s).2.length
 |.mk _ st,k,pl,s=>by
  rw[bP];exact ssP_ge ro r p st false 0 (pl++[k]) s
theorem bsP_ge(ro:Str)(r:Int)(p:Prg):∀(x:List Brn) (k:Int) (pl:List Int) (s:NP),s.2.length≤(bsP ro r p x k pl s).2.length
 |[],_,_,s=>by simp[bsP]
 |x::y,k,pl,s=>by
  rw[bsP];exact Nat.le_trans (bP_ge ro r p x k pl s) (bsP_ge ro r p y (k+1) pl _)
end
theorem rouP_ge(p:Prg)(i:Nat)(x:Rou)(s:NP):s.2.length≤(rouP p i x s).2.length:=by
 unfold rouP;exact Nat.le_trans (Nat.le_trans (Nat.le_trans (Nat.le_trans (Nat.le_trans (Nat.le_trans (addP_ge _ _ _) (addP_ge _ _ _)) (addP_ge _ _ _)) (addP_ge _ _ _)) (addP_ge _ _ _)) (addP_ge _ _ _)) (ssP_ge x.name i p x.steps false 0 [] (s.1,_))
theorem rousP_ge(p:Prg):∀(l:List Rou) (i:Nat) (s:NP),s.2.length≤(rousP p i l s).2.length
 |[],_,s=>by simp[rousP]
 |x::r,i,s=>by
  rw[rousP];exact Nat.le_trans (rouP_ge p i x s) (rousP_ge p r (i+1) _)
theorem rouP_pos(p:Prg)(i:Nat)(x:Rou)(s:NP)(h:hasE p x.src=false):0<(rouP p i x s).2.length:=by
 unfold rouP;refine Nat.lt_of_lt_of_le ?_ (ssP_ge x.name i p x.steps false 0 [] (s.1,_));refine Nat.lt_of_lt_of_le ?_ (Nat.le_trans (Nat.le_trans (addP_ge _ _ _) (addP_ge _ _ _)) (addP_ge _ _ _));exact addP_pos _ _ (by rw[h];rfl)
theorem rousP_has(p:Prg):∀(l:List Rou) (i:Nat) (s:NP),(rousP p i l s).2=[]→∀x∈l,hasE p x.src=true
 |[],_,_,_,x,h=>by cases h
 |y::r,i,s,h0,x,h=>by
  rw[rousP]at h0;rcases List.mem_cons.1 h with rfl|h
  ·refine Decidable.byContradiction fun hn=>?_
   simp only[Bool.not_eq_true]at hn;have h1:=rouP_pos p i x s hn;have h2:=rousP_ge p r (i+1) (rouP p i x s);rw[h0]at h2;simp only[List.length_nil]at h2;omega
  ·exact rousP_has p r (i+1) _ h0 x h
theorem prbS_has{p:Prg}(h:prbS p=[]):∀x∈p.routes,hasE p x.src=true:=by
 unfold prbS at h;split at h
 ·rename_i hl;rw[h]at hl;simp at hl
 ·refine rousP_has p p.routes 0 (thP [] [] p [] (limS p)) ?_;have:(allS p).take 200=[]:=h;unfold allS at this;cases e:(rousP p 0 p.routes (thP [] [] p [] (limS p))).2 with
  |nil=>rfl
  |cons a r=>rw[e]at this;simp at this
def sbF(p:Prg)(e:Epd):Nat:=fdQ (fun x:Sch=>x.name==e.schema&&x.version==e.version) p.schemas
def bgF(p:Prg)(n:Str):Nat:=match p.endpoints[epF p n]? with|some e=>sbF p e|none=>0
def viRs(p:Prg):List Rou→Nat→List Vis→List Vis
 |[],_,o=>o
 |x::r,i,o=>viRs p r (i+1) (viSs i p x.steps 0 [] (o,(bgF p x.src:Int))).1
def visP(p:Prg):List Vis:=if prbS p=[]then viRs p p.routes 0 []else[]
theorem viRs_len(p:Prg):∀(l:List Rou) (i:Nat) (o:List Vis),(viRs p l i o).length≤o.length+szRs l
 |[],_,o=>by simp[viRs]
 |x::r,i,o=>by
  rw[viRs,szRs];have h1:=viSs_len i p x.steps 0 [] (o,(bgF p x.src:Int));have h2:=viRs_len p r (i+1) (viSs i p x.steps 0 [] (o,(bgF p x.src:Int))).1;simp only at h1;omega
theorem visP_len(p:Prg)(hsz:szRs p.routes≤100000000):(visP p).length≤100000000:=by
 unfold visP;split
 ·have:=viRs_len p p.routes 0 [];simp only[List.length_nil]at this;omega
 ·simp
theorem canon_encVi(v:Vis):(encVi v).canon=encVi v:=by simp only[encVi,Dat.canon,canonL,canonL_ints,canonL_exps,canonL_rules,canonL_cals,canonL_brns]
theorem canonL_viss(l:List Vis):canonL (l.map encVi)=l.map encVi:=canonL_of _ canon_encVi l
set_option maxHeartbeats 8000000 in
theorem walk14(p:Prg)(hsz:szRs p.routes≤100000000)(hwt:wtRs p.routes+3*p.schemas.length+4*p.endpoints.length+4*p.services.length≤8000000000):PT 14 [encPg p] (.d (.list 16 ((visP p).map encVi))):=by
 refine PCon.of_fits ok14.has fun hfit=>?_
 obtain⟨f1,f2,f3,f4⟩:=fits_Pg (hfit (encPg p) sP);clear hfit;refine ok14.pc ?_;have c20:=(walk20 p hsz hwt).call trivial;simp only[encPg]at c20;simp only[go_sem,ir14,encPg,Nat.reduceAdd,Nat.reduceEqDiff,Nat.reduceBEq,Nat.reduceLeDiff,reduceCtorEq,↓reduceIte];refine wn c20 ?_;unfold visP;cases hP:prbS p with
 |cons a r=>
  have hg:decide (((r.length+1:Nat):Int)>0)=true:=decide_eq_true oM;simp only[go_sem,List.length_map,List.length_cons,hg,Nat.reduceAdd,Nat.reduceEqDiff,Nat.reduceBEq,Nat.reduceLeDiff,reduceCtorEq,↓reduceIte]
 |nil=>
  have hhas:=prbS_has hP;have hg:decide (((0:Nat):Int)>0)=false:=dC;simp only[go_sem,List.length_map,List.length_nil,hg,Nat.reduceAdd,Nat.reduceEqDiff,Nat.reduceBEq,Nat.reduceLeDiff,reduceCtorEq,↓reduceIte];generalize hR:viRs p p.routes 0 []=R;refine wpc_loop (fun n st=>∃(k:Nat) (q:List Vis),k≤p.routes.length∧n=p.routes.length-k∧viRs p (p.routes.drop k) k q=R∧q.length+szRs (p.routes.drop k)≤100000000∧
   st=⟨[(1,.ref 1 0),(3,.ref 16 0),(18,.d (.list 3 (p.routes.map encO))),(19,.d (.int .i64 p.routes.length)),(20,.d (.int .i64 k))],
    [(1,.box [.d (.int .i64 p.version),.d (.list 9 (p.schemas.map encC)),.d (.list 7 (p.endpoints.map encEp)),.d (.list 4 (p.services.map encX)),.d (.list 3 (p.routes.map encO))]),(16,.box [.d (.int .i64 p.version),.d (.list 9 (p.schemas.map encC)),.d (.list 7 (p.endpoints.map encEp)),.d (.list 4 (p.services.map encX)),.d (.list 3 (p.routes.map encO)),.ms 61 q.length]),(61,.row q.length 16 (q.map encVi))]⟩) ?_ ?_
  ·refine⟨_,_,(Wk.nilB 16 5 61 16 _ rfl rfl rfl dC).trans (Wk.less ?_),0,[],Nat.zero_le _,rfl,hR,by simpa using hsz,rfl⟩;simp[put,go_sem]
  ·rintro n st ⟨k,q,hk,rfl,hinv,hq,rfl⟩;by_cases hlt:k<p.routes.length
   ·have hd:=dT hlt;have hx:=nth_map encO hlt;have hE:=hhas _ (List.getElem_mem hlt);have hsx:szSs p.routes[k].steps≤szRs p.routes:=szRs_mem (List.getElem_mem hlt);rw[List.drop_eq_getElem_cons hlt,szRs]at hq;rw[List.drop_eq_getElem_cons hlt,viRs]at hinv;generalize p.routes[k]=x at*;have hn0:0<p.endpoints.length:=by
     cases e:p.endpoints with
     |nil=>rw[hasE,e]at hE;cases hE
     |cons a r=>simp
    have hlt2:epF p x.src<p.endpoints.length:=fdQ_lt hn0;have hx2:=nth_map encEp hlt2;have hbg:bgF p x.src=sbF p p.endpoints[epF p x.src]:=by unfold bgF;rw[List.getElem?_eq_getElem hlt2]
    rw[hbg]at hinv;generalize hee:p.endpoints[epF p x.src]=e at*;have h24:=(p24 p x.src).call (by simp[pureR]);have h25:=(p25 p e.schema e.version).call (by simp[pureR]);simp only[encPg]at h24 h25;change CallOK _ _ _ _ (.tup [.d (.int .i64 (epF p x.src)),.d (.bool (hasE p x.src))]) _ at h24;change CallOK _ _ _ _ (.tup [.d (.int .i64 (sbF p e)),_]) _ at h25;have c26:=call26 (w26 p f1 x.steps) 16 61 dC (k:Int) (.nil 1) [] (sbF p e:Int) q (.inr ⟨rfl,rfl⟩) sO oM;have hvl:=viSs_len k p x.steps 0 [] (q,(sbF p e:Int));generalize viSs k p x.steps 0 [] (q,(sbF p e:Int))=E at*;simp only[encO]at hx;simp only[encEp]at hx2;simp only at hvl;simp only[go_sem,hd,hx,Int.toNat_natCast,List.length_map,Nat.reduceAdd,Nat.reduceEqDiff,Nat.reduceBEq,Nat.reduceLeDiff,reduceCtorEq,↓reduceIte];refine⟨oM,wn h24 ?_⟩;simp only[go_sem,hx2,Int.toNat_natCast,List.length_map,Nat.reduceAdd,Nat.reduceEqDiff,Nat.reduceBEq,Nat.reduceLeDiff,reduceCtorEq,↓reduceIte];refine⟨⟨oM,oM⟩,dC,⟨oM,oM⟩,dC,wn h25 ?_⟩;refine zz ?_;refine wc c26 ?_;refine⟨p.routes.length-(k+1),_,oM,Wk.less ?_,k+1,E.1,oM,rfl,by simpa using hinv,oM,rfl⟩;exact zz7 trivial
   ·obtain rfl:k=p.routes.length:=oM;have hd:decide ((p.routes.length:Int)<(p.routes.length:Int))=false:=sP;rw[List.drop_length,viRs]at hinv;subst hinv;simp only[go_sem,hd,canonL_viss,Nat.reduceAdd,Nat.reduceEqDiff,Nat.reduceBEq,Nat.reduceLeDiff,reduceCtorEq,↓reduceIte]
set_option maxHeartbeats 4000000 in
theorem walk5(p:Prg)(hsz:szRs p.routes≤100000000)(hwt:wtRs p.routes+3*p.schemas.length+4*p.endpoints.length+4*p.services.length≤8000000000):PT 5 [encPg p] (.d (.list 1 (((visP p).map Vis.before).map (.int .i64)))):=by
 rw[List.map_map];show PCon _ _ _ (.d (.list 1 ((visP p).map fun v=>Dat.int .i64 v.before)));have c14:=(walk14 p hsz hwt).call trivial;have hvl:(visP p).length≤100000000:=visP_len p hsz;refine ok5.pc ?_;simp only[encPg]at c14;simp only[go_sem,ir5,encPg,simprocAttr];refine wn c14 ?_;generalize visP p=l at*;refine zz4 ?_;refine wpc_loop (fun n st=>∃k:Nat,k≤l.length∧n=l.length-k∧
  st=⟨[(3,.ms 17 k),(7,.d (.list 16 (l.map encVi))),(8,.d (.int .i64 l.length)),(9,.d (.int .i64 k))],[(17,.row k 1 ((l.take k).map fun v=>Dat.int .i64 v.before))]⟩) ?_ ?_
 ·refine⟨_,_,(Wk.nilT 3 17 1 rfl rfl dC).trans (Wk.less ?_),0,Nat.zero_le _,rfl,rfl⟩;simp[put,go_sem]
 ·rintro n st ⟨k,hk,rfl,rfl⟩;by_cases hlt:k<l.length
  ·have hd:=dT hlt;have hx:=nth_map encVi hlt;simp only[encVi]at hx;simp only[go_sem,hd,hx,Int.toNat_natCast,List.length_map,simprocAttr];refine⟨oM,fun y hy=>(by simp only[List.mem_singleton]at hy;subst hy;rfl),sO,l.length-(k+1),_,oM,Wk.less ?_,k+1,oM,rfl,rfl⟩;rw[List.take_succ_eq_append_getElem hlt];simp only[go_sem,wrap64s k oM,List.map_append,List.map_cons,List.map_nil,simprocAttr]
  ·obtain rfl:k=l.length:=oM;have hd:decide ((l.length:Int)<(l.length:Int))=false:=sP;refine zz21 ?_;rw[canonL_of (fun v:Vis=>Dat.int .i64 v.before) (fun _=>rfl)]
set_option maxHeartbeats 4000000 in
theorem walk6(p:Prg)(hsz:szRs p.routes≤100000000)(hwt:wtRs p.routes+3*p.schemas.length+4*p.endpoints.length+4*p.services.length≤8000000000):PT 6 [encPg p] (.d (.list 1 (((visP p).map Vis.behind).map (.int .i64)))):=by
 rw[List.map_map];show PCon _ _ _ (.d (.list 1 ((visP p).map fun v=>Dat.int .i64 v.behind)));have c14:=(walk14 p hsz hwt).call trivial;have hvl:(visP p).length≤100000000:=visP_len p hsz;refine ok6.pc ?_;simp only[encPg]at c14;simp only[go_sem,ir6,encPg,simprocAttr];refine wn c14 ?_;generalize visP p=l at*;refine zz4 ?_;refine wpc_loop (fun n st=>∃k:Nat,k≤l.length∧n=l.length-k∧
  st=⟨[(3,.ms 17 k),(7,.d (.list 16 (l.map encVi))),(8,.d (.int .i64 l.length)),(9,.d (.int .i64 k))],[(17,.row k 1 ((l.take k).map fun v=>Dat.int .i64 v.behind))]⟩) ?_ ?_
 ·refine⟨_,_,(Wk.nilT 3 17 1 rfl rfl dC).trans (Wk.less ?_),0,Nat.zero_le _,rfl,rfl⟩;simp[put,go_sem]
 ·rintro n st ⟨k,hk,rfl,rfl⟩;by_cases hlt:k<l.length
  ·have hd:=dT hlt;have hx:=nth_map encVi hlt;simp only[encVi]at hx;simp only[go_sem,hd,hx,Int.toNat_natCast,List.length_map,simprocAttr];refine⟨oM,fun y hy=>(by simp only[List.mem_singleton]at hy;subst hy;rfl),sO,l.length-(k+1),_,oM,Wk.less ?_,k+1,oM,rfl,rfl⟩;rw[List.take_succ_eq_append_getElem hlt];simp only[go_sem,wrap64s k oM,List.map_append,List.map_cons,List.map_nil,simprocAttr]
  ·obtain rfl:k=l.length:=oM;have hd:decide ((l.length:Int)<(l.length:Int))=false:=sP;refine zz21 ?_;rw[canonL_of (fun v:Vis=>Dat.int .i64 v.behind) (fun _=>rfl)]
end Go.Proofs
namespace Go.Proofs
open Go Av
variable {s:FN}
def flQ(p:Prg)(x:Ste)(s:FN):FN:=
 if(x.kind==13||x.kind==14)then⟨s.bef++[s.now],s.beh++[s.now],-1⟩else if(x.kind==11||x.kind==12)then flBs p x.branches s.now ⟨s.bef++[s.now],s.beh++[s.now],-1⟩else if x.schema==[]then⟨s.bef++[s.now],s.beh++[s.now],s.now⟩else⟨s.bef++[s.now],s.beh++[s.now],((latF p.schemas x.schema).1:Int)⟩
theorem flS_eq(p:Prg)(x:Ste)(s:FN):flS p x s=⟨(flQ p x s).bef,(flQ p x s).beh.set s.bef.length (flQ p x s).now,(flQ p x s).now⟩:=by
 cases x;rw[flS];rfl
theorem flB_eq(p:Prg)(x:Brn)(now:Int)(s:FN):flB p x now s=⟨(flSs p x.steps ⟨s.bef,s.beh,now⟩).bef,(flSs p x.steps ⟨s.bef,s.beh,now⟩).beh,if decide (s.now<0)&& !finSs x.steps then(flSs p x.steps ⟨s.bef,s.beh,now⟩).now else s.now⟩:=by
 cases x;rw[flB];rfl
structure FL(n z:Nat)(t:FN):Prop where
 lo:n≤t.bef.length
 hi:t.bef.length≤n+z
 eq:t.bef.length=t.beh.length
mutual
theorem flS_len(p:Prg):∀(x:Ste) (s:FN),s.bef.length=s.beh.length→FL (s.bef.length+1) (szS x-1) (flS p x s)
 |.mk n k u t l x c e ru a b,s,h=>by
  rw[flS];have h2:=flBs_len p b s.now ⟨s.bef++[s.now],s.beh++[s.now],-1⟩ (by simp[h]);have e1:szS (.mk n k u t l x c e ru a b)-1=szBs b:=by rw[szS];omega
  rw[e1];have hq:∀m:Int,FL (s.bef.length+1) (szBs b) ⟨s.bef++[s.now],(s.beh++[s.now]).set s.bef.length m,m⟩:=fun m=>⟨sP,sP,by simp[h]⟩
  simp only;split
  ·exact hq _
  ·split
   ·obtain⟨a1,a2,a3⟩:=h2;simp only[List.length_append,List.length_cons,List.length_nil]at a1 a2;exact⟨oM,oM,by rw[List.length_set];exact a3⟩
   ·split
    ·exact hq _
    ·exact hq _
theorem flSs_len(p:Prg):∀(x:List Ste) (s:FN),s.bef.length=s.beh.length→FL s.bef.length (szSs x) (flSs p x s)
 |[],s,h=>by rw[flSs];exact⟨Nat.le_refl _,oM,h⟩
 |x::y,s,h=>by
  rw[flSs,szSs];have h1:=flS_len p x s h;have h2:=flSs_len p y (flS p x s) h1.eq;have h3:1≤szS x:=by rw[szS_eq];omega
  obtain⟨a1,a2,a3⟩:=h1;obtain⟨b1,b2,b3⟩:=h2;exact⟨oM,oM,b3⟩
theorem flB_len(p:Prg):∀(x:Brn) (now:Int) (s:FN),s.bef.length=s.beh.length→FL s.bef.length (szB x-1) (flB p x now s)
 |.mk w st,now,s,h=>by
  rw[flB];have h1:=flSs_len p st ⟨s.bef,s.beh,now⟩ h;have e1:szB (.mk w st)-1=szSs st:=by rw[szB];omega
  rw[e1];exact⟨h1.lo,h1.hi,h1.eq⟩
theorem flBs_len(p:Prg):∀(x:List Brn) (now:Int) (s:FN),s.bef.length=s.beh.length→FL s.bef.length (szBs x) (flBs p x now s)
 |[],_,s,h=>by rw[flBs];exact⟨Nat.le_refl _,oM,h⟩
 |x::y,now,s,h=>by
  rw[flBs,szBs];have h1:=flB_len p x now s h;have h2:=flBs_len p y now (flB p x now s) h1.eq;obtain⟨a1,a2,a3⟩:=h1;obtain⟨b1,b2,b3⟩:=h2;exact⟨oM,oM,b3⟩
end
abbrev FTo(s:FN):List (Nat×Av.Obj):=[(1000,.box [.ms 1001 s.bef.length,.ms 1002 s.beh.length]),(1001,.row s.bef.length 1 (s.bef.map (.int .i64))),(1002,.row s.beh.length 1 (s.beh.map (.int .i64)))]
theorem closedFT(s s':FN):closed (hputs (get (FTo s)) (FTo s')):=closed_puts (by simp[FTo,puts,put,closedH,objIn,idsInL,idsIn,Av.get])
theorem closedFT1(s:FN):closed (get (FTo s)):=closed_of (by simp[FTo,closedH,objIn,idsInL,idsIn,Av.get])
theorem FT_dom{s':FN}{i:Nat}(h:(hputs (get (FTo s)) (FTo s') i).isSome=true):i=1000∨i=1001∨i=1002:=by
 refine Decidable.byContradiction fun hn=>?_
 simp only[not_or]at hn;obtain⟨a1,a2,a3⟩:=hn;simp[FTo,hputs,upd,Av.get,a1,a2,a3,Ne.symm a1,Ne.symm a2,Ne.symm a3]at h
theorem FT_big{i:Nat}(h:(get (FTo s) i).isSome=true):1000≤i:=by
 simp only[FTo,Av.get]at h
 repeat' split at h
 all_goals first|(cases h;done)|omega
def V21(p:Prg)(l:List Ste):Prop:=∀s:FN,s.bef.length=s.beh.length→s.bef.length+szSs l≤10000000000→
 KT 21 [.ref 1000 0,.d (encPg p),.d (.list 11 (l.map encSt)),.d (.int .i64 s.now)] (FTo s) (.d (.int .i64 (flSs p l s).now)) (FTo (flSs p l s))
def V44(p:Prg)(x:Ste):Prop:=∀s:FN,s.bef.length=s.beh.length→s.bef.length+szS x≤10000000000→
 KT 44 [.ref 1000 0,.d (encPg p),.d (encSt x),.d (.int .i64 s.now)] (FTo s) (.d (.int .i64 (flS p x s).now)) (FTo (flS p x s))
theorem rn_map(ρ:Nat→Nat)(ds:List Dat):(ds.map Av.d).map (Av.ren ρ)=ds.map .d:=by
 rw[List.map_map];exact List.map_congr_left fun x _=>by simp only[Function.comp,Av.ren]
theorem callFT{f:Nat}{ds:List Dat}{r:Dat}{s':FN}(hc:KT f (.ref 1000 0::ds.map .d) (FTo s) (.d r) (FTo s'))(i a b:Nat)(hia:i≠a)(hib:i≠b)(hab:a≠b):
  CT (.fn f) (.ref i 0::ds.map .d) [(i,some (.box [.ms a s.bef.length,.ms b s.beh.length])),(a,some (.row s.bef.length 1 (s.bef.map (.int .i64)))),(b,some (.row s.beh.length 1 (s.beh.map (.int .i64))))] (.d r)
   [(i,.box [.ms a s'.bef.length,.ms b s'.beh.length]),(a,.row s'.bef.length 1 (s'.bef.map (.int .i64))),(b,.row s'.beh.length 1 (s'.beh.map (.int .i64)))]:=by
 have h:=hc.call (fun j=>if j=1000 then i else if j=1001 then a else if j=1002 then b else j) (fun j hj=>FT_big hj) (fun x y hx hy h=>by
  rcases FT_dom hx with rfl|rfl|rfl<;>rcases FT_dom hy with rfl|rfl|rfl<;>first|rfl|(simp at h;omega)) (by simp[idsIn,Av.get]) (closedFT1 _) [] (by simp[Av.get]) (closedFT _ _) trivial
 simp only[FTo,List.map_cons,List.map_nil,Obj.ren,Av.ren,renL,rn_dat,rn_map,List.append_nil,Nat.reduceEqDiff,↓reduceIte]at h;exact h
set_option maxHeartbeats 4000000 in
theorem step21(p:Prg)(l:List Ste)(h:∀x∈l,V44 p x):V21 p l:=by
 intro s he hs;refine Con.of_fits ok21.has fun hfit=>?_
 have hl:l.length≤68719476736:=by have:=(hfit (.list 11 (l.map encSt)) sP).1;simpa using this
 clear hfit;generalize hR:flSs p l s=R;refine ok21.con (k:=some false) (Nat.le_of_ble_eq_true rfl) (closedFT _ _) trivial ?_;simp only[FTo,go_sem,ir21,encPg,List.length_map,simprocAttr];refine wpc_loop (fun n st=>∃(k:Nat) (S:FN),k≤l.length∧n=l.length-k∧flSs p (l.drop k) S=R∧S.bef.length=S.beh.length∧S.bef.length+szSs (l.drop k)≤10000000000∧
  st=⟨[(0,.ref 1000 0),(2,.d (.list 11 (l.map encSt))),(3,.d (.int .i64 S.now)),(5,.ref 5 0),(9,.d (.int .i64 k))],FTo S++[(5,.box [.d (.int .i64 p.version),.d (.list 9 (p.schemas.map encC)),.d (.list 7 (p.endpoints.map encEp)),.d (.list 4 (p.services.map encX)),.d (.list 3 (p.routes.map encO))])]⟩) ?_ ?_
 ·refine⟨_,_,Wk.less ?_,0,s,Nat.zero_le _,rfl,hR,he,hs,rfl⟩;simp[go_sem,FTo]
 ·rintro n st ⟨k,S,hk,rfl,hinv,hS,hq,rfl⟩;by_cases hlt:k<l.length
  ·have hn:=nth_encSt hlt;have hdk:decide ((k:Int)<(l.length:Int))=true:=sO;rw[List.drop_eq_getElem_cons hlt,flSs]at hinv;rw[List.drop_eq_getElem_cons hlt,szSs]at hq;have hx:=h _ (List.getElem_mem hlt);generalize l[k]=x at*;have c44:=callFT (ds:=[encPg p,encSt x,.int .i64 S.now]) (hx S hS oM) 1000 1001 1002 dC dC dC;have hvl:=flS_len p x S hS;have hz:1≤szS x:=by rw[szS_eq];omega
   obtain⟨v1,v2,v3⟩:=hvl;generalize flS p x S=E at*;rw[encSt_eq]at c44;simp only[encPg]at c44;simp only[FTo,go_sem,hn,hdk,Int.toNat_natCast,List.length_map,simprocAttr];refine⟨oM,wps_call rfl c44 ⟨rfl,rfl,rfl,trivial⟩ ?_⟩;refine zz ?_;refine⟨l.length-(k+1),_,oM,Wk.less ?_,k+1,E,oM,rfl,by simpa using hinv,v3,oM,rfl⟩;simp only[go_sem,FTo,wrap64s k oM,simprocAttr]
  ·obtain rfl:k=l.length:=oM;have hdk:decide ((l.length:Int)<(l.length:Int))=false:=sP;rw[List.drop_length,flSs]at hinv;subst hinv;simp only[FTo,go_sem,hdk,List.length_map,simprocAttr]
set_option maxHeartbeats 8000000 in
theorem step44(p:Prg)(x:Ste)(h:∀b∈x.branches,V21 p b.steps):V44 p x:=by
 intro s he hs;refine Con.of_fits ok44.has fun hfit=>?_
 have hbl:x.branches.length≤68719476736:=by
  have:=hfit (encSt x) sP;rw[encSt_eq]at this;simp only[fits,fitsL,List.length_map]at this;omega
 clear hfit;rw[flS_eq];rw[szS_eq]at hs;generalize hR:flQ p x s=R;refine ok44.con (k:=some false) (Nat.le_of_ble_eq_true rfl) (closedFT _ _) trivial ?_;rw[encSt_eq];have c49:=(p49 p x.schema).call (by simp[pureR]);simp only[encPg]at c49;simp(maxSteps:=900000) only[FTo,go_sem,ir44,encPg,List.length_map,Nat.reduceAdd,Nat.reduceEqDiff,Nat.reduceBEq,Nat.reduceLeDiff,reduceCtorEq,↓reduceIte];have hm1:s.bef.map (.int .i64)++[Dat.int .i64 s.now]=(s.bef++[s.now]).map (.int .i64):=by rw[List.map_append];rfl
 have hm2:s.beh.map (.int .i64)++[Dat.int .i64 s.now]=(s.beh++[s.now]).map (.int .i64):=by rw[List.map_append];rfl
 rw[hm1,hm2];refine⟨fun y hy=>(by simp only[List.mem_singleton]at hy;subst hy;rfl),oM,fun y hy=>(by simp only[List.mem_singleton]at hy;subst hy;rfl),oM,dC,?_⟩;have hl1:(s.bef++[s.now]).length=s.bef.length+1:=sP;have hl2:(s.beh++[s.now]).length=s.bef.length+1:=by simp[he]
 have h1:decide ((1:Nat)≠1)=false:=dC;rw[←he];clear hm1 hm2;unfold flQ at hR;generalize s.bef++[s.now]=B at*;generalize s.beh++[s.now]=C at*;generalize hn0:s.bef.length=n0 at*;have hnC:n0<C.length:=oM;have hxC:=nth_map (Dat.int .i64) hnC;by_cases b1:(x.kind==13||x.kind==14)=true
 ·rw[if_pos b1]at hR;subst hR;have hk:(x.kind==13)=true∨((x.kind==13)=false∧(x.kind==14)=true):=by
   cases h13:(x.kind==13)<;>simp[h13]at b1⊢;exact b1
  rcases hk with k13|⟨k13,k14⟩
  all_goals first|simp only[go_sem,k13,k14,h1,hl2,List.map_set,List.length_map,Int.toNat_natCast,Bool.false_eq_true,Nat.reduceAdd,Nat.reduceEqDiff,Nat.reduceBEq,Nat.reduceLeDiff,reduceCtorEq,↓reduceIte]|simp only[go_sem,k13,h1,hl2,List.map_set,List.length_map,Int.toNat_natCast,Bool.false_eq_true,Nat.reduceAdd,Nat.reduceEqDiff,Nat.reduceBEq,Nat.reduceLeDiff,reduceCtorEq,↓reduceIte]
  all_goals refine⟨⟨oM,oM⟩,by rw[hxC];exact Nat.le_refl 1,?_⟩
  all_goals rw[List.length_set,hl1,hl2]
  all_goals exact⟨rfl,rfl,rfl,rfl,rfl,rfl⟩
 ·rw[if_neg b1]at hR;simp only[Bool.not_eq_true,Bool.or_eq_false_iff]at b1;obtain⟨k13,k14⟩:=b1;by_cases b2:(x.kind==11||x.kind==12)=true
  ·rw[if_pos b2]at hR;have hk:(x.kind==11)=true∨((x.kind==11)=false∧(x.kind==12)=true):=by
    cases h11:(x.kind==11)<;>simp[h11]at b2⊢;exact b2
   clear b2;rcases hk with k11|⟨k11,k12⟩
   all_goals first|simp only[go_sem,k13,k14,k11,k12,Bool.false_eq_true,Nat.reduceAdd,Nat.reduceEqDiff,Nat.reduceBEq,Nat.reduceLeDiff,reduceCtorEq,↓reduceIte]|simp only[go_sem,k13,k14,k11,Bool.false_eq_true,Nat.reduceAdd,Nat.reduceEqDiff,Nat.reduceBEq,Nat.reduceLeDiff,reduceCtorEq,↓reduceIte]
   all_goals (
    refine wpc_loop (fun n st=>∃(j:Nat) (T:FN),j≤x.branches.length∧n=x.branches.length-j∧flBs p (x.branches.drop j) s.now T=R∧n0<T.bef.length∧T.bef.length=T.beh.length∧T.bef.length+szBs (x.branches.drop j)≤10000000000∧
     st=⟨[(0,.ref 1000 0),(3,.d (.int .i64 s.now)),(5,.ref 5 0),(6,.ref 6 0),(9,.d (.int .i64 n0)),(10,.d (.int .i64 T.now)),(11,.d (.int .i64 j))],FTo T++[(5,.box [.d (.int .i64 p.version),.d (.list 9 (p.schemas.map encC)),.d (.list 7 (p.endpoints.map encEp)),.d (.list 4 (p.services.map encX)),.d (.list 3 (p.routes.map encO))]),(6,.box [.d (.str x.name),.d (.int .i64 x.kind),.d (.int .i64 x.number),.d (.int .i64 x.time),.d (.int .i64 x.limit),.d (.str x.text),.d (.str x.schema),.d (.list 5 (x.exprs.map encE)),.d (.list 6 (x.rules.map encR)),.d (.list 2 (x.calls.map encCl)),.d (.list 2 (x.branches.map encB))])]⟩) ?_ ?_
    ·refine⟨_,_,Wk.less ?_,0,⟨B,C,-1⟩,Nat.zero_le _,rfl,hR,by show n0<B.length;omega,by show B.length=C.length;omega,by show B.length+szBs x.branches≤_;omega,rfl⟩;simp[go_sem,FTo,hl1,hl2]
    ·rintro n st ⟨j,T,hj,rfl,hinv,hT,hTe,hq,rfl⟩;by_cases hlt:j<x.branches.length
     ·have hn:=nth_encB hlt;have hdk:decide ((j:Int)<(x.branches.length:Int))=true:=sO;rw[List.drop_eq_getElem_cons hlt,flBs,flB_eq]at hinv;rw[List.drop_eq_getElem_cons hlt,szBs,szB_eq]at hq;have hx:=h _ (List.getElem_mem hlt);generalize hbr:x.branches[j]=br at*;have c21:=callFT (ds:=[encPg p,.list 11 (br.steps.map encSt),.int .i64 s.now]) (hx ⟨T.bef,T.beh,s.now⟩ hTe (by show T.bef.length+_≤_;omega)) 1000 1001 1002 dC dC dC;have c42:=(p42 br.steps).call trivial;have hvl:=flSs_len p br.steps ⟨T.bef,T.beh,s.now⟩ hTe;obtain⟨v1,v2,v3⟩:=hvl;simp only at v1 v2 hinv c21;generalize flSs p br.steps ⟨T.bef,T.beh,s.now⟩=E at*;simp only[encPg]at c21;simp only[FTo,go_sem,hn,hdk,Int.toNat_natCast,List.length_map,Nat.reduceAdd,Nat.reduceEqDiff,Nat.reduceBEq,Nat.reduceLeDiff,reduceCtorEq,↓reduceIte];refine⟨oM,dC,wps_call rfl c21 ⟨rfl,rfl,rfl,trivial⟩ ?_⟩;refine zz ?_;refine sq (!finSs br.steps) ?_ ?_
      ·simp only[go_sem,hn,Int.toNat_natCast,List.length_map,Nat.reduceAdd,Nat.reduceEqDiff,Nat.reduceBEq,Nat.reduceLeDiff,reduceCtorEq,↓reduceIte];refine⟨oM,dC,wn c42 ?_⟩;exact zz trivial
      refine zz ?_;cases hb:(decide (T.now<0)&& !finSs br.steps)
      ·rw[hb]at hinv;simp only[go_sem,Bool.false_eq_true,Nat.reduceAdd,Nat.reduceEqDiff,Nat.reduceBEq,Nat.reduceLeDiff,reduceCtorEq,↓reduceIte];refine⟨x.branches.length-(j+1),_,oM,Wk.less ?_,j+1,⟨E.bef,E.beh,T.now⟩,oM,rfl,by simpa using hinv,by show n0<E.bef.length;omega,v3,by show E.bef.length+_≤_;omega,rfl⟩;simp only[go_sem,FTo,wrap64s j oM,Nat.reduceAdd,Nat.reduceEqDiff,Nat.reduceBEq,Nat.reduceLeDiff,reduceCtorEq,↓reduceIte]
      ·rw[hb]at hinv;refine zz ?_;refine⟨x.branches.length-(j+1),_,oM,Wk.less ?_,j+1,⟨E.bef,E.beh,E.now⟩,oM,rfl,by simpa using hinv,by show n0<E.bef.length;omega,v3,by show E.bef.length+_≤_;omega,rfl⟩;simp only[go_sem,FTo,wrap64s j oM,Nat.reduceAdd,Nat.reduceEqDiff,Nat.reduceBEq,Nat.reduceLeDiff,reduceCtorEq,↓reduceIte]
     ·obtain rfl:j=x.branches.length:=oM;have hdk:decide ((x.branches.length:Int)<(x.branches.length:Int))=false:=sP;rw[List.drop_length,flBs]at hinv;subst hinv;have hnT:n0<T.beh.length:=oM;have hxT:=nth_map (Dat.int .i64) hnT;simp only[FTo,go_sem,hdk,h1,List.map_set,List.length_map,Int.toNat_natCast,Bool.false_eq_true,Nat.reduceAdd,Nat.reduceEqDiff,Nat.reduceBEq,Nat.reduceLeDiff,reduceCtorEq,↓reduceIte];refine⟨⟨oM,oM⟩,by rw[hxT];exact Nat.le_refl 1,?_⟩;rw[List.length_set];exact⟨rfl,rfl,rfl,rfl⟩)
  ·rw[if_neg b2]at hR;simp only[Bool.not_eq_true,Bool.or_eq_false_iff]at b2;obtain⟨k11,k12⟩:=b2;simp only[go_sem,k13,k14,k11,k12,Bool.false_eq_true,Nat.reduceAdd,Nat.reduceEqDiff,Nat.reduceBEq,Nat.reduceLeDiff,reduceCtorEq,↓reduceIte];by_cases b3:(x.schema==[])=true
   ·rw[if_pos b3]at hR;subst hR;simp only[go_sem,b3,Bool.not_true,h1,hl2,List.map_set,List.length_map,Int.toNat_natCast,Bool.false_eq_true,Nat.reduceAdd,Nat.reduceEqDiff,Nat.reduceBEq,Nat.reduceLeDiff,reduceCtorEq,↓reduceIte];refine⟨⟨oM,oM⟩,by rw[hxC];exact Nat.le_refl 1,?_⟩;rw[List.length_set,hl1,hl2];exact⟨rfl,rfl,rfl,rfl,rfl,rfl⟩
   ·rw[if_neg b3]at hR;subst hR;simp only[Bool.not_eq_true]at b3;simp only[go_sem,b3,Bool.not_false,Nat.reduceAdd,Nat.reduceEqDiff,Nat.reduceBEq,Nat.reduceLeDiff,reduceCtorEq,↓reduceIte];refine wn c49 ?_;simp only[go_sem,h1,hl2,List.map_set,List.length_map,Int.toNat_natCast,Bool.false_eq_true,Nat.reduceAdd,Nat.reduceEqDiff,Nat.reduceBEq,Nat.reduceLeDiff,reduceCtorEq,↓reduceIte];refine⟨⟨oM,oM⟩,by rw[hxC];exact Nat.le_refl 1,?_⟩;rw[List.length_set,hl1,hl2];exact⟨rfl,rfl,rfl,rfl,rfl,rfl⟩
mutual
theorem v21s(p:Prg):∀(l:List Ste),∀x∈l,V44 p x
 |[],x,h=>by cases h
 |v::q,x,h=>by
  by_cases e:x=v
  ·rw[e];exact v44S p v
  ·exact v21s p q x ((List.mem_cons.1 h).resolve_left e)
theorem v44S(p:Prg):∀(x:Ste),V44 p x
 |.mk n k u t l x c e ru a bs=>step44 p _ (v21bs p bs)
theorem v21bs(p:Prg):∀(l:List Brn),∀b∈l,V21 p b.steps
 |[],b,h=>by cases h
 |v::q,b,h=>by
  by_cases e:b=v
  ·rw[e];exact v21B p v
  ·exact v21bs p q b ((List.mem_cons.1 h).resolve_left e)
theorem v21B(p:Prg):∀(b:Brn),V21 p b.steps
 |.mk w s=>step21 p s (v21s p s)
end
theorem w21(p:Prg)(l:List Ste):V21 p l:=step21 p l (v21s p l)
end Go.Proofs
namespace Go.Proofs
open Go Av
def bgM(p:Prg)(n:Str):Int:=if hasE p n then(bgF p n:Int)else 0
theorem hasE_lt{p:Prg}{n:Str}(h:hasE p n=true):epF p n<p.endpoints.length:=by
 have hn0:0<p.endpoints.length:=by
  cases e:p.endpoints with
  |nil=>rw[hasE,e]at h;cases h
  |cons a r=>simp
 exact fdQ_lt hn0
set_option maxHeartbeats 4000000 in
theorem walk22(p:Prg)(n:Str):PT 22 [encPg p,.str n] (.d (.int .i64 (bgM p n))):=by
 refine ok22.pc ?_;have h24:=(p24 p n).call (by simp[pureR]);simp only[encPg]at h24;change CallOK _ _ _ _ (.tup [.d (.int .i64 (epF p n)),.d (.bool (hasE p n))]) _ at h24;simp only[go_sem,ir22,encPg,Nat.reduceAdd,Nat.reduceEqDiff,Nat.reduceBEq,Nat.reduceLeDiff,reduceCtorEq,↓reduceIte];refine wn h24 ?_;refine zz4 ?_;unfold bgM;cases hE:hasE p n
 ·refine scQ_pure false (fun h=>?_) ?_
  ·cases h
  simp only[go_sem,Bool.not_false,Bool.false_eq_true,Nat.reduceAdd,Nat.reduceEqDiff,Nat.reduceBEq,Nat.reduceLeDiff,reduceCtorEq,↓reduceIte]
 ·have hlt:=hasE_lt hE;have hg:decide ((epF p n:Int)≥(p.endpoints.length:Int))=false:=decide_eq_false oM;have hx2:=nth_map encEp hlt;have hbg:bgF p n=sbF p p.endpoints[epF p n]:=by unfold bgF;rw[List.getElem?_eq_getElem hlt]
  rw[hbg];generalize p.endpoints[epF p n]=e at*;have h25:=(p25 p e.schema e.version).call (by simp[pureR]);simp only[encPg]at h25;change CallOK _ _ _ _ (.tup [.d (.int .i64 (sbF p e)),_]) _ at h25;simp only[encEp]at hx2;simp only[go_sem,Bool.not_true,Bool.false_eq_true,hg,hx2,Int.toNat_natCast,List.length_map,Nat.reduceAdd,Nat.reduceEqDiff,Nat.reduceBEq,Nat.reduceLeDiff,reduceCtorEq,↓reduceIte];refine⟨⟨oM,oM⟩,dC,⟨oM,oM⟩,dC,wn h25 ?_⟩;exact zz trivial
theorem walk8(p:Prg)(hsz:szRs p.routes≤100000000)(hwt:wtRs p.routes+3*p.schemas.length+4*p.endpoints.length+4*p.services.length≤8000000000):PT 8 [encPg p] (.d (.bool (prbS p).isEmpty)):=by
 have c20:=(walk20 p hsz hwt).call trivial;refine ok8.pc ?_;simp only[encPg]at c20;simp only[go_sem,ir8,encPg,simprocAttr];refine wn c20 ?_;refine zz4 ?_;cases prbS p<;>simp<;>omega
def flRs(p:Prg):List Rou→FN→FN
 |[],s=>s
 |x::r,s=>flRs p r (flSs p x.steps ⟨s.bef,s.beh,bgM p x.src⟩)
set_option maxHeartbeats 4000000 in
theorem walk9(p:Prg)(hsz:szRs p.routes≤100000000):PT 9 [encPg p] (.d (.agg [.list 1 ((flRs p p.routes ⟨[],[],0⟩).bef.map (.int .i64)),.list 1 ((flRs p p.routes ⟨[],[],0⟩).beh.map (.int .i64))])):=by
 refine PCon.of_fits ok9.has fun hfit=>?_
 obtain⟨f1,f2,f3,f4⟩:=fits_Pg (hfit (encPg p) sP);clear hfit;refine ok9.pc ?_;simp only[go_sem,ir9,encPg,Nat.reduceAdd,Nat.reduceEqDiff,Nat.reduceBEq,Nat.reduceLeDiff,reduceCtorEq,↓reduceIte];generalize hR:flRs p p.routes ⟨[],[],0⟩=R;refine wpc_loop (fun n st=>∃(k:Nat) (q:FN),k≤p.routes.length∧n=p.routes.length-k∧flRs p (p.routes.drop k) q=R∧q.bef.length=q.beh.length∧q.bef.length+szRs (p.routes.drop k)≤100000000∧
  st=⟨[(1,.ref 1 0),(2,.ref 2 0),(3,.ref 3 0),(4,.d (.int .i64 k))],
   [(1,.box [.d (.int .i64 p.version),.d (.list 9 (p.schemas.map encC)),.d (.list 7 (p.endpoints.map encEp)),.d (.list 4 (p.services.map encX)),.d (.list 3 (p.routes.map encO))]),(2,.box [.d (.nil 1),.d (.nil 1)]),(3,.box [.ms 30 q.bef.length,.ms 31 q.beh.length]),(30,.row q.bef.length 1 (q.bef.map (.int .i64))),(31,.row q.beh.length 1 (q.beh.map (.int .i64)))]⟩) ?_ ?_
 ·refine⟨_,_,((Wk.nilB 3 0 30 1 _ rfl rfl rfl dC).trans (Wk.nilB 3 1 31 1 [.ms 30 0,.d (.nil 1)] rfl rfl rfl dC)).trans (Wk.less ?_),0,⟨[],[],0⟩,Nat.zero_le _,rfl,hR,rfl,by simpa using hsz,rfl⟩;simp[put,go_sem]
 ·rintro n st ⟨k,q,hk,rfl,hinv,hqe,hq,rfl⟩;by_cases hlt:k<p.routes.length
  ·have hd:=dT hlt;have hx:=nth_map encO hlt;rw[List.drop_eq_getElem_cons hlt,szRs]at hq;rw[List.drop_eq_getElem_cons hlt,flRs]at hinv;generalize p.routes[k]=x at*;have c22:=(walk22 p x.src).call trivial;have c21:=callFT (ds:=[encPg p,.list 11 (x.steps.map encSt),.int .i64 (bgM p x.src)]) (w21 p x.steps ⟨q.bef,q.beh,bgM p x.src⟩ hqe (by show q.bef.length+_≤_;omega)) 3 30 31 dC dC dC;have hvl:=flSs_len p x.steps ⟨q.bef,q.beh,bgM p x.src⟩ hqe;obtain⟨v1,v2,v3⟩:=hvl;simp only at v1 v2 hinv c21;generalize flSs p x.steps ⟨q.bef,q.beh,bgM p x.src⟩=E at*;simp only[encPg]at c21 c22;simp only[encO]at hx;simp only[go_sem,hd,hx,Int.toNat_natCast,List.length_map,Nat.reduceAdd,Nat.reduceEqDiff,Nat.reduceBEq,Nat.reduceLeDiff,reduceCtorEq,↓reduceIte];refine⟨⟨oM,oM⟩,dC,⟨oM,oM⟩,dC,wpsL_call rfl c22 trivial ?_⟩;refine zz ?_;refine wpsL_call rfl c21 ⟨rfl,rfl,rfl,trivial⟩ ?_;refine zz ?_;refine⟨dC,p.routes.length-(k+1),_,oM,Wk.less ?_,k+1,E,oM,rfl,by simpa using hinv,v3,oM,rfl⟩;exact zz7 trivial
  ·obtain rfl:k=p.routes.length:=oM;have hd:decide ((p.routes.length:Int)<(p.routes.length:Int))=false:=sP;rw[List.drop_length,flRs]at hinv;subst hinv;simp only[go_sem,hd,List.length_map,canonL_ints,Nat.reduceAdd,Nat.reduceEqDiff,Nat.reduceBEq,Nat.reduceLeDiff,reduceCtorEq,↓reduceIte]
theorem walk10(a b:List Int):PT 10 [.list 1 (a.map (.int .i64)),.list 1 (b.map (.int .i64))] (.d (.bool (a==b))):=by
 refine PCon.of_fits ok10.has fun hfit=>?_
 have hl:a.length≤68719476736:=by have:=(hfit (.list 1 (a.map (.int .i64))) sP).1;simpa using this
 clear hfit;refine ok10.pc ?_;simp only[go_sem,ir10,List.length_map,Nat.reduceAdd,Nat.reduceEqDiff,Nat.reduceBEq,Nat.reduceLeDiff,reduceCtorEq,↓reduceIte];by_cases he:a.length=b.length
 ·have h1:((a.length:Int)!=(b.length:Int))=false:=by simp[he]
  simp only[go_sem,h1,List.length_map,Bool.false_eq_true,Nat.reduceAdd,Nat.reduceEqDiff,Nat.reduceBEq,Nat.reduceLeDiff,reduceCtorEq,↓reduceIte];refine wpc_loop (fun n st=>∃k:Nat,k≤a.length∧n=a.length-k∧a.take k=b.take k∧
   st=⟨[(0,.d (.list 1 (a.map (.int .i64)))),(1,.d (.list 1 (b.map (.int .i64)))),(5,.d (.int .i64 k))],[]⟩) ?_ ?_
  ·refine⟨_,_,Wk.less ?_,0,Nat.zero_le _,rfl,rfl,rfl⟩;simp[go_sem]
  ·rintro n st ⟨k,hk,rfl,hinv,rfl⟩;by_cases hlt:k<a.length
   ·have hltb:k<b.length:=oM;have hd:=dT hlt;have hx:=nth_map (Dat.int .i64) hlt;have hy:=nth_map (Dat.int .i64) hltb;by_cases hab:a[k]=b[k]
    ·have h2:(a[k]!=b[k])=false:=by simp[hab]
     simp only[go_sem,hd,hx,hy,h2,Int.toNat_natCast,List.length_map,Bool.false_eq_true,Nat.reduceAdd,Nat.reduceEqDiff,Nat.reduceBEq,Nat.reduceLeDiff,reduceCtorEq,↓reduceIte];refine⟨⟨oM,oM⟩,dC,⟨oM,oM⟩,dC,a.length-(k+1),_,oM,Wk.less ?_,k+1,oM,rfl,by rw[List.take_succ_eq_append_getElem hlt,List.take_succ_eq_append_getElem hltb,hinv,hab],rfl⟩;exact zz7 trivial
    ·have h2:(a[k]!=b[k])=true:=by simp[hab]
     have h3:(a==b)=false:=by
      simp only[beq_eq_false_iff_ne,ne_eq];intro e;subst e;exact hab rfl
     simp only[go_sem,hd,hx,hy,h2,h3,Int.toNat_natCast,List.length_map,Nat.reduceAdd,Nat.reduceEqDiff,Nat.reduceBEq,Nat.reduceLeDiff,reduceCtorEq,↓reduceIte];exact⟨⟨oM,oM⟩,dC,⟨oM,oM⟩,dC⟩
   ·obtain rfl:k=a.length:=oM;have hd:decide ((a.length:Int)<(a.length:Int))=false:=sP;have h3:(a==b)=true:=by
     rw[List.take_length,he,List.take_length]at hinv;simp[hinv]
    simp only[go_sem,hd,h3,List.length_map,Nat.reduceAdd,Nat.reduceEqDiff,Nat.reduceBEq,Nat.reduceLeDiff,reduceCtorEq,↓reduceIte]
 ·have h1:((a.length:Int)!=(b.length:Int))=true:=sO;have h3:(a==b)=false:=by
   simp only[beq_eq_false_iff_ne,ne_eq];intro e;exact he (by rw[e])
  simp only[go_sem,h1,h3,List.length_map,Nat.reduceAdd,Nat.reduceEqDiff,Nat.reduceBEq,Nat.reduceLeDiff,reduceCtorEq,↓reduceIte]
end Go.Proofs
namespace Go.Proofs
open Go Av
open Av.Y
def ir13:Ic:=q (R (ok 4 (.k (.nil 11))<|N) [4])<|q (.reg (ok 5 (.k (.nil 11))<|N))<|q (q (.reg (oz 6 0<|N))<|D (.block 0<|.loop (q (q (R (om 11 6<|om 12 0<|oh 13 12<|ot 14 .lss 11 13<|om 15 14<|.sc 15 true (om 16 6<|oi 17 .lss 16 8<|N) (t 17) 18 N) [11,12,13,14,15])<|D (I 18 S (E 0)) [18])<|q (D (.block 1<|q (R (om 21 0<|om 22 6<|oa true 23 11 21 22<|oL 24 11 23<|oN 7 [.str [],.int .i64 0,.int .i64 0,.int .i64 0,.int .i64 0,.str [],.str [],.nil 5,.nil 6,.nil 2,.nil 2]<|oS 11 7 24<|N) [21,22,23,24])<|q (D (.regd [(2,4),(2,7),(5,7)] (of 25 7 0<|ol 26 25<|cl 27 11 [t 26]<|of 28 7 5<|ol 29 28<|cl 30 11 [t 29]<|of 31 7 6<|ol 32 31<|cl 33 11 [t 32]<|of 34 7 0<|os 34 27<|of 35 7 5<|os 35 30<|of 36 7 6<|os 36 33<|N)) [25,26,27,28,29,30,31,32,33,34,35,36])<|q (D (.regd [(1,7),(3,7),(4,7),(6,7),(7,9),(7,11),(7,12),(7,14),(1,15),(3,15),(4,15),(6,15),(7,18),(15,18),(7,21),(15,21),(7,22),(15,22),(7,24),(15,24),(22,26),(24,26),(22,28),(24,28)] (of 37 7 7<|ol 38 37<|of 39 7 7<|ol 40 39<|oh 41 40<|oo 42 (.mn (t 41) (i 3))<|oo 43 (.slc 5 (t 38) none (some (t 42)) none)<|oo 44 (.bls 2 [])<|of 45 7 9<|ol 46 45<|of 47 7 9<|ol 48 47<|oh 49 48<|oo 50 (.mn (t 49) (i 18))<|oo 51 (.slc 2 (t 46) none (some (t 50)) none)<|oo 52 (.app 2 (t 44) (t 51))<|of 53 7 8<|of 54 53 0<|ol 55 54<|of 56 7 8<|of 57 56 0<|ol 58 57<|oh 59 58<|oo 60 (.mn (t 59) (i 4))<|oo 61 (.slc 6 (t 55) none (some (t 60)) none)<|of 62 7 7<|os 62 43<|of 63 7 9<|os 63 52<|of 64 7 8<|of 65 64 0<|os 65 61<|N)) [37,38,39,40,41,42,43,44,45,46,47,48,49,50,51,52,53,54,55,56,57,58,59,60,61,62,63,64,65])<|q (q (.reg (oz 8 0<|N))<|D (.block 2<|.loop (q (q (R (om 66 8<|of 67 7 9<|ol 68 67<|oh 69 68<|ot 70 .lss 66 69<|N) [66,67,68,69])<|D (I 70 S (E 2)) [70])<|q (D (.block 3<|D (.regd [(1,9)] (of 73 7 9<|ol 74 73<|om 75 8<|of 76 7 9<|ol 77 76<|om 78 8<|oa true 79 2 77 78<|of 80 79 0<|ol 81 80<|cl 82 11 [t 81]<|oa true 83 2 74 75<|of 84 83 0<|os 84 82<|N)) [73,74,75,76,77,78,79,80,81,82,83,84]) [])<|R (om 71 8<|oi 72 .add 71 1<|om 8 72<|N) [71,72])) [8,70])<|q (R (of 85 7 10<|on (.sto none (t 85) (.k (.nil 2)))<|N) [85])<|q (q (.reg (oz 9 0<|N))<|D (.block 4<|.loop (q (q (R (om 86 9<|om 87 0<|om 88 6<|oa true 89 11 87 88<|of 90 89 10<|ol 91 90<|oh 92 91<|ot 93 .lss 86 92<|om 94 93<|.sc 94 true (om 95 9<|oi 96 .lss 95 4<|N) (t 96) 97 (om 98 97<|.sc 98 true (om 99 1<|oi 100 .gtr 99 0<|N) (t 100) 101 N)) [86,87,88,89,90,91,92,93,94,97,98])<|D (I 101 S (E 4)) [101])<|q (D (.block 5<|q (R (om 104 0<|om 105 6<|oa true 106 11 104 105<|of 107 106 10<|ol 108 107<|om 109 9<|oa true 110 2 108 109<|oL 111 2 110<|oN 10 [.nil 5,.nil 11]<|oS 2 10 111<|N) [104,105,106,107,108,109,110,111])<|D (.regd [(1,13),(3,13),(5,13),(6,13),(8,13),(1,15)] (of 112 7 10<|ol 113 112<|of 114 10 0<|ol 115 114<|of 116 10 0<|ol 117 116<|oh 118 117<|oo 119 (.mn (t 118) (i 2))<|oo 120 (.slc 5 (t 115) none (some (t 119)) none)<|of 121 10 1<|ol 122 121<|om 123 1<|oi 124 .sub 123 1<|cl 125 13 [t 122,t 124]<|oo 126 (.bld [.nil 5,.nil 11] [(0,1,t 120),(1,1,t 125)])<|oo 127 (.bls 2 [t 126])<|oo 128 (.app 2 (t 113) (t 127))<|of 129 7 10<|os 129 128<|N)) [10,112,113,114,115,116,117,118,119,120,121,122,123,124,125,126,127,128,129]) [])<|R (om 102 9<|oi 103 .add 102 1<|om 9 103<|N) [102,103])) [9,101,10])<|R (om 130 5<|oL 131 11 7<|oo 132 (.bls 11 [t 131])<|oo 133 (.app 11 (t 130) (t 132))<|om 5 133<|N) [7,130,131,132,133]) [])<|R (om 19 6<|oi 20 .add 19 1<|om 6 20<|N) [19,20])) [0,1,6,18,7,8,9,10])<|q (R (om 134 5<|om 4 134<|N) [5,134])<|.ret
theorem ok13:FT 13 135 ir13 [.tmp 4]:=.o Tryz.func13
def ir4:Ic:=q (R (ox 1 0<|oN 2 [.int .i64 0,.nil 9,.nil 7,.nil 4,.nil 3]<|N) [0])<|q (R (of 12 1 0<|ol 13 12<|oo 14 (.bld [.int .i64 0,.nil 9,.nil 7,.nil 4,.nil 3] [(0,1,t 13)])<|oN 3 [.int .i64 0,.nil 9,.nil 7,.nil 4,.nil 3]<|oS 5 3 14<|N) [12,13,14])<|q (q (.reg (oz 4 0<|N))<|D (.block 0<|.loop (q (q (R (om 15 4<|of 16 1 1<|ol 17 16<|oh 18 17<|ot 19 .lss 15 18<|om 20 19<|.sc 20 true (om 21 4<|oi 22 .lss 21 6<|N) (t 22) 23 N) [15,16,17,18,19,20])<|D (I 23 S (E 0)) [23])<|q (D (.block 1<|q (R (of 26 1 1<|ol 27 26<|om 28 4<|oa true 29 9 27 28<|oL 30 9 29<|oN 5 [.str [],.int .i64 0,.int .i64 0,.int .i64 0,.int .i64 0,.int .i64 0,.nil 1,.nil 7,.nil 11]<|oS 9 5 30<|N) [26,27,28,29,30])<|D (.regd [(1,4),(4,6),(4,8),(1,9),(6,9),(1,11)] (of 31 3 1<|ol 32 31<|of 33 5 0<|ol 34 33<|cl 35 11 [t 34]<|of 36 5 1<|ol 37 36<|of 38 5 2<|oL 39 7 38<|cl 40 12 [t 39,i 4]<|oo 41 (.bld [.str [],.int .i64 0,.int .i64 0,.int .i64 0,.int .i64 0,.int .i64 0,.nil 1,.nil 7,.nil 11] [(0,1,t 35),(1,1,t 37),(2,7,t 40)])<|oo 42 (.bls 9 [t 41])<|oo 43 (.app 9 (t 32) (t 42))<|of 44 3 1<|os 44 43<|N)) [5,31,32,33,34,35,36,37,38,39,40,41,42,43,44]) [])<|R (om 24 4<|oi 25 .add 24 1<|om 4 25<|N) [24,25])) [4,23,5])<|q (q (.reg (oz 6 0<|N))<|D (.block 2<|.loop (q (q (R (om 45 6<|of 46 1 2<|ol 47 46<|oh 48 47<|ot 49 .lss 45 48<|om 50 49<|.sc 50 true (om 51 6<|oi 52 .lss 51 6<|N) (t 52) 53 N) [45,46,47,48,49,50])<|D (I 53 S (E 2)) [53])<|q (D (.block 3<|q (R (of 56 1 2<|ol 57 56<|om 58 6<|oa true 59 7 57 58<|oL 60 7 59<|oN 7 [.str [],.int .i64 0,.str [],.int .i64 0,.int .i64 0,.int .i64 0,.nil 1]<|oS 7 7 60<|N) [56,57,58,59,60])<|q (D (.regd [(2,4),(2,8),(5,8),(2,11),(5,11),(2,12),(5,12),(2,14),(5,14),(12,16),(14,16),(12,18),(14,18)] (of 61 7 0<|ol 62 61<|cl 63 11 [t 62]<|of 64 7 2<|ol 65 64<|cl 66 11 [t 65]<|of 67 7 4<|of 68 67 2<|ol 69 68<|of 70 7 4<|of 71 70 2<|ol 72 71<|oh 73 72<|oo 74 (.mn (t 73) (i 8))<|oo 75 (.slc 1 (t 69) none (some (t 74)) none)<|of 76 7 0<|os 76 63<|of 77 7 2<|os 77 66<|of 78 7 4<|of 79 78 2<|os 79 75<|N)) [61,62,63,64,65,66,67,68,69,70,71,72,73,74,75,76,77,78,79])<|R (of 80 3 2<|ol 81 80<|oL 82 7 7<|oo 83 (.bls 7 [t 82])<|oo 84 (.app 7 (t 81) (t 83))<|of 85 3 2<|os 85 84<|N) [7,80,81,82,83,84,85]) [])<|R (om 54 6<|oi 55 .add 54 1<|om 6 55<|N) [54,55])) [6,53,7])<|q (q (.reg (oz 8 0<|N))<|D (.block 4<|.loop (q (q (R (om 86 8<|of 87 1 3<|ol 88 87<|oh 89 88<|ot 90 .lss 86 89<|om 91 90<|.sc 91 true (om 92 8<|oi 93 .lss 92 6<|N) (t 93) 94 N) [86,87,88,89,90,91])<|D (I 94 S (E 4)) [94])<|q (D (.block 5<|q (R (of 97 1 3<|ol 98 97<|om 99 8<|oa true 100 4 98 99<|oL 101 4 100<|oN 9 [.str [],.str [],.str [],.bool false]<|oS 4 9 101<|N) [97,98,99,100,101])<|q (D (.regd [(2,4),(2,7),(5,7)] (of 102 9 0<|ol 103 102<|cl 104 11 [t 103]<|of 105 9 1<|ol 106 105<|cl 107 11 [t 106]<|of 108 9 2<|ol 109 108<|cl 110 11 [t 109]<|of 111 9 0<|os 111 104<|of 112 9 1<|os 112 107<|of 113 9 2<|os 113 110<|N)) [102,103,104,105,106,107,108,109,110,111,112,113])<|R (of 114 3 3<|ol 115 114<|oL 116 4 9<|oo 117 (.bls 4 [t 116])<|oo 118 (.app 4 (t 115) (t 117))<|of 119 3 3<|os 119 118<|N) [9,114,115,116,117,118,119]) [])<|R (om 95 8<|oi 96 .add 95 1<|om 8 96<|N) [95,96])) [8,94,9])<|q (q (.reg (oz 10 0<|N))<|D (.block 6<|.loop (q (q (R (om 120 10<|of 121 1 4<|ol 122 121<|oh 123 122<|ot 124 .lss 120 123<|om 125 124<|.sc 125 true (om 126 10<|oi 127 .lss 126 6<|N) (t 127) 128 N) [120,121,122,123,124,125])<|D (I 128 S (E 6)) [128])<|q (D (.block 7<|q (R (of 131 1 4<|ol 132 131<|om 133 10<|oa true 134 3 132 133<|oL 135 3 134<|oN 11 [.str [],.str [],.nil 11]<|oS 3 11 135<|N) [131,132,133,134,135])<|D (.regd [(1,4),(4,6),(1,7),(4,9),(7,9),(1,10),(1,12)] (of 136 3 4<|ol 137 136<|of 138 11 0<|ol 139 138<|cl 140 11 [t 139]<|of 141 11 1<|ol 142 141<|cl 143 11 [t 142]<|of 144 11 2<|ol 145 144<|cl 146 13 [t 145,i 4]<|oo 147 (.bld [.str [],.str [],.nil 11] [(0,1,t 140),(1,1,t 143),(2,1,t 146)])<|oo 148 (.bls 3 [t 147])<|oo 149 (.app 3 (t 137) (t 148))<|of 150 3 4<|os 150 149<|N)) [11,136,137,138,139,140,141,142,143,144,145,146,147,148,149,150]) [])<|R (om 129 10<|oi 130 .add 129 1<|om 10 130<|N) [129,130])) [1,10,128,11])<|q (R (oL 151 5 3<|oS 5 2 151<|N) [3,151])<|.ret
theorem ok4:FT 4 152 ir4 [.cell 2 (some 5)]:=.o Tryz.func4
end Go.Proofs
namespace Go.Proofs
open Go Av
open Av.Y
def ir12:Ic:=q (R (ox 2 0<|oN 4 yT<|N) [0])<|q (.reg (ok 5 (.k (.nil 1))<|N))<|q (.reg (ok 6 (.k (.nil 7))<|N))<|q (.reg (ok 7 (.k (.nil 11))<|N))<|q (q (.reg (oz 8 0<|N))<|D (.block 0<|.loop (q (q (R (om 14 8<|of 15 2 4<|ol 16 15<|oh 17 16<|ot 18 .lss 14 17<|om 19 18<|.sc 19 true (om 20 8<|oi 21 .lss 20 6<|N) (t 21) 22 N) [14,15,16,17,18,19])<|D (I 22 S (E 0)) [22])<|q (D (.block 1<|R (om 25 5<|of 26 2 4<|ol 27 26<|om 28 8<|oa false 29 1 27 28<|ol 30 29<|of 31 2 4<|ol 32 31<|om 33 8<|oa false 34 1 32 33<|ol 35 34<|oj 36 35<|oo 37 (.mn (t 36) (i 40))<|oo 38 (.sls (t 30) none (some (t 37)))<|oo 39 (.bls 1 [t 38])<|oo 40 (.app 1 (t 25) (t 39))<|om 5 40<|N) [25,26,27,28,29,30,31,32,33,34,35,36,37,38,39,40]) [])<|R (om 23 8<|oi 24 .add 23 1<|om 8 24<|N) [23,24])) [8,22])<|q (q (.reg (oz 9 0<|N))<|D (.block 2<|.loop (q (q (R (om 41 9<|of 42 2 5<|ol 43 42<|oh 44 43<|ot 45 .lss 41 44<|om 46 45<|.sc 46 true (om 47 9<|oi 48 .lss 47 2<|N) (t 48) 49 (om 50 49<|.sc 50 true (om 51 1<|oi 52 .gtr 51 1<|N) (t 52) 53 N)) [41,42,43,44,45,46,49,50])<|D (I 53 S (E 2)) [53])<|q (D (.block 3<|R (om 56 6<|of 57 2 5<|ol 58 57<|om 59 9<|oa true 60 7 58 59<|oL 61 7 60<|om 62 1<|oi 63 .sub 62 1<|cl 64 12 [t 61,t 63]<|oo 65 (.bls 7 [t 64])<|oo 66 (.app 7 (t 56) (t 65))<|om 6 66<|N) [56,57,58,59,60,61,62,63,64,65,66]) [])<|R (om 54 9<|oi 55 .add 54 1<|om 9 55<|N) [54,55])) [9,53])<|q (q (.reg (oz 10 0<|N))<|D (.block 4<|.loop (q (q (R (om 67 10<|of 68 2 6<|ol 69 68<|oh 70 69<|ot 71 .lss 67 70<|om 72 71<|.sc 72 true (om 73 10<|oi 74 .lss 73 6<|N) (t 74) 75 (om 76 75<|.sc 76 true (om 77 1<|oi 78 .gtr 77 1<|N) (t 78) 79 N)) [67,68,69,70,71,72,75,76])<|D (I 79 S (E 4)) [79])<|q (D (.block 5<|q (R (of 82 2 6<|ol 83 82<|om 84 10<|oa true 85 11 83 84<|oL 86 11 85<|oN 11 yG<|oS 11 11 86<|N) [82,83,84,85,86])<|q (.reg (ok 12 (.k (.nil 6))<|N))<|q (q (.reg (oz 13 0<|N))<|D (.block 6<|.loop (q (q (R (om 87 13<|of 88 11 10<|ol 89 88<|oh 90 89<|ot 91 .lss 87 90<|om 92 91<|.sc 92 true (om 93 13<|oi 94 .lss 93 2<|N) (t 94) 95 N) [87,88,89,90,91,92])<|D (I 95 S (E 6)) [95])<|q (D (.block 7<|R (om 98 12<|of 99 11 10<|ol 100 99<|om 101 13<|oa true 102 6 100 101<|oL 103 6 102<|cl 104 23 [t 103,i 3]<|oo 105 (.bls 6 [t 104])<|oo 106 (.app 6 (t 98) (t 105))<|om 12 106<|N) [98,99,100,101,102,103,104,105,106]) [])<|R (om 96 13<|oi 97 .add 96 1<|om 13 97<|N) [96,97])) [13,95])<|q (D (.regd [(1,11),(3,11)] (of 107 11 1<|ol 108 107<|of 109 11 1<|ol 110 109<|oj 111 110<|oo 112 (.mn (t 111) (i 40))<|oo 113 (.sls (t 108) none (some (t 112)))<|of 114 11 3<|oL 115 7 114<|om 116 1<|oi 117 .sub 116 1<|cl 118 12 [t 115,t 117]<|om 119 12<|of 120 11 1<|os 120 113<|of 121 11 3<|oS 7 121 118<|of 122 11 10<|os 122 119<|N)) [12,107,108,109,110,111,112,113,114,115,116,117,118,119,120,121,122])<|R (om 123 7<|oL 124 11 11<|oo 125 (.bls 11 [t 124])<|oo 126 (.app 11 (t 123) (t 125))<|om 7 126<|N) [11,123,124,125,126]) [])<|R (om 80 10<|oi 81 .add 80 1<|om 10 81<|N) [80,81])) [1,10,79,11])<|q (R (om 127 5<|om 128 6<|om 129 7<|of 130 2 4<|os 130 127<|of 131 2 5<|os 131 128<|of 132 2 6<|os 132 129<|N) [5,6,7,127,128,129,130,131,132])<|q (R (oL 133 7 2<|oS 7 4 133<|N) [2,133])<|.ret
theorem ok12:FT 12 134 ir12 [.cell 4 (some 7)]:=.o Tryz.func12
end Go.Proofs
namespace Go.Proofs
open Go Av
open Av.Y
def ir11:Ic:=q (R (ok 2 (.k (.str []))<|N) [2])<|q (R (om 3 0<|om 4 0<|oj 5 4<|oo 6 (.mn (t 5) (i 70))<|oo 7 (.sls (t 3) none (some (t 6)))<|om 2 7<|N) [0,3,4,5,6,7])<|.ret
theorem ok11:FT 11 8 ir11 [.tmp 2]:=.o Tryz.func11
def ir23:Ic:=q (R (ox 2 0<|oN 4 y6<|N) [0])<|q (R (of 9 2 3<|ol 10 9<|of 11 2 3<|ol 12 11<|oj 13 12<|oo 14 (.mn (t 13) (i 40))<|oo 15 (.sls (t 10) none (some (t 14)))<|of 16 2 3<|os 16 15<|N) [9,10,11,12,13,14,15,16])<|q (.reg (ok 5 (.k (.nil 6))<|N))<|q (.reg (ok 6 (.k (.nil 7))<|N))<|q (q (.reg (oz 7 0<|N))<|D (.block 0<|.loop (q (q (R (om 17 7<|of 18 2 4<|ol 19 18<|oh 20 19<|ot 21 .lss 17 20<|om 22 21<|.sc 22 true (om 23 7<|oi 24 .lss 23 6<|N) (t 24) 25 (om 26 25<|.sc 26 true (om 27 1<|oi 28 .gtr 27 1<|N) (t 28) 29 N)) [17,18,19,20,21,22,25,26])<|D (I 29 S (E 0)) [29])<|q (D (.block 1<|R (om 32 5<|of 33 2 4<|ol 34 33<|om 35 7<|oa true 36 6 34 35<|oL 37 6 36<|om 38 1<|oi 39 .sub 38 1<|cl 40 23 [t 37,t 39]<|oo 41 (.bls 6 [t 40])<|oo 42 (.app 6 (t 32) (t 41))<|om 5 42<|N) [32,33,34,35,36,37,38,39,40,41,42]) [])<|R (om 30 7<|oi 31 .add 30 1<|om 7 31<|N) [30,31])) [7,29])<|q (q (.reg (oz 8 0<|N))<|D (.block 2<|.loop (q (q (R (om 43 8<|of 44 2 5<|ol 45 44<|oh 46 45<|ot 47 .lss 43 46<|om 48 47<|.sc 48 true (om 49 8<|oi 50 .lss 49 6<|N) (t 50) 51 (om 52 51<|.sc 52 true (om 53 1<|oi 54 .gtr 53 1<|N) (t 54) 55 N)) [43,44,45,46,47,48,51,52])<|D (I 55 S (E 2)) [55])<|q (D (.block 3<|D (.regd [(2,24),(4,24),(6,24),(8,24),(10,24),(12,24)] (om 58 6<|of 59 2 5<|ol 60 59<|om 61 8<|oa true 62 7 60 61<|of 63 62 0<|ol 64 63<|of 65 2 5<|ol 66 65<|om 67 8<|oa true 68 7 66 67<|of 69 68 0<|ol 70 69<|oj 71 70<|oo 72 (.mn (t 71) (i 40))<|oo 73 (.sls (t 64) none (some (t 72)))<|of 74 2 5<|ol 75 74<|om 76 8<|oa true 77 7 75 76<|of 78 77 1<|oL 79 6 78<|om 80 1<|oi 81 .sub 80 1<|cl 82 23 [t 79,t 81]<|oo 83 (.bld y7 [(0,1,t 73),(1,6,t 82)])<|oo 84 (.bls 7 [t 83])<|oo 85 (.app 7 (t 58) (t 84))<|om 6 85<|N)) [58,59,60,61,62,63,64,65,66,67,68,69,70,71,72,73,74,75,76,77,78,79,80,81,82,83,84,85]) [])<|R (om 56 8<|oi 57 .add 56 1<|om 8 57<|N) [56,57])) [1,8,55])<|q (R (om 86 5<|om 87 6<|of 88 2 4<|os 88 86<|of 89 2 5<|os 89 87<|N) [5,6,86,87,88,89])<|q (R (oL 90 6 2<|oS 6 4 90<|N) [2,90])<|.ret
theorem ok23:FT 23 91 ir23 [.cell 4 (some 6)]:=.o Tryz.func23
end Go.Proofs
namespace Go.Proofs
open Go Av
theorem mnT{α:Type}(l:List α)(c:Nat)(k:Int)(hk:k=c):List.take ((if k<(l.length:Int)then k else(l.length:Int))-0).toNat (List.drop (Int.toNat 0) l)=l.take c:=by
 subst hk;have e:Int.toNat 0=0:=rfl;rw[e,List.drop_zero];split
 ·have:((c:Int)-0).toNat=c:=oM;rw[this]
 ·rw[List.take_of_length_le oM,List.take_of_length_le oM]
theorem mnB(n:Nat)(k:Int)(hk:0≤k):(0:Int)≤0∧0≤(if k<(n:Int)then k else(n:Int))∧(if k<(n:Int)then k else(n:Int))≤(n:Int):=by
 refine⟨oM,?_,?_⟩<;>split<;>omega
def cutS(s:Str):Str:=s.take 70
theorem walk11(s:Str):PT 11 [.str s] (.d (.str (cutS s))):=by
 refine ok11.pc ?_;have e:=mnT s 70 70 rfl;have b:=mnB s.length 70 dC;simp only[go_sem,ir11,e,cutS,Nat.reduceAdd,Nat.reduceEqDiff,Nat.reduceBEq,Nat.reduceLeDiff,reduceCtorEq,↓reduceIte];exact b
def shV:Nat→Val→Val
 |0,v=>.mk v.kind v.int v.scale (v.text.take 40) [] []
 |n+1,v=>.mk v.kind v.int v.scale (v.text.take 40) ((v.list.take 6).map (shV n)) ((v.fields.take 6).map fun f=>.mk (f.name.take 40) (shV n f.value))
def rnd(n len c:Nat):Nat:=if n=0 then 0 else min len c
theorem rnd_le(n len c:Nat):rnd n len c≤len:=by unfold rnd;split<;>omega
theorem rnd_c(n len c k:Nat):((decide ((k:Int)<(len:Int))&&decide ((k:Int)<(c:Int)))&&decide (((n+1:Nat):Int)>1))=decide (k<rnd n len c):=by
 unfold rnd;by_cases h:n=0
 ·subst h;simp
 ·rw[if_neg h];have:decide (((n+1:Nat):Int)>1)=true:=decide_eq_true oM;rw[this,Bool.and_true,←Bool.decide_and];exact decide_eq_decide.2 oM
theorem rnd_take{α:Type}(n c:Nat)(l:List α):l.take (rnd (n+1) l.length c)=l.take c:=by
 unfold rnd;rw[if_neg oM];by_cases h:l.length≤c
 ·rw[Nat.min_eq_left h,List.take_of_length_le (Nat.le_refl _),List.take_of_length_le h]
 ·rw[Nat.min_eq_right oM]
theorem shV_eq(n:Nat)(v:Val)(g:Val→Val)(hg:n≠0→g=shV (n-1)):shV n v=.mk v.kind v.int v.scale (v.text.take 40) ((v.list.take (rnd n v.list.length 6)).map g) ((v.fields.take (rnd n v.fields.length 6)).map fun f=>.mk (f.name.take 40) (g f.value)):=by
 cases n with
 |zero=>simp[shV,rnd]
 |succ n=>
  have:=hg oM;simp only[Nat.add_sub_cancel]at this;subst this;rw[shV,rnd_take,rnd_take]
set_option maxHeartbeats 2000000 in
theorem walk23:∀(n:Nat) (v:Val),n≤1000→PT 23 [encV v,.int .i64 ((n+1:Nat):Int)] (.d (encV (shV n v))):=by
 intro n
 induction n using Nat.strongRecOn with
 |_ n ih=>
  intro v hn;refine PCon.of_fits ok23.has fun hfit=>?_
  obtain⟨_,f2,f3⟩:=fits_V3z (hfit (encV v) sP);clear hfit;refine ok23.pc ?_;have hcall:∀x,n≠0→CT (.fn 23) [.d (encV x),.d (.int .i64 (n:Int))] [] (.d (encV (shV (n-1) x))) []:=by
   intro x h0;have:=(ih (n-1) oM x oM).call trivial;have e:((n-1+1:Nat):Int)=n:=oM;rw[e]at this;exact this
  rw[shV_eq n v (shV (n-1)) (fun _=>rfl)];generalize hg:shV (n-1)=g at*;have hlv:IntKind.i64.wrap (((n+1:Nat):Int)-1)=(n:Int):=by rw[wrap64 oM oM];omega
  have e:=mnT v.text 40 40 rfl;have b:=mnB v.text.length 40 dC;rw[encV_eq v];simp only[go_sem,ir23,e,Nat.reduceAdd,Nat.reduceEqDiff,Nat.reduceBEq,Nat.reduceLeDiff,reduceCtorEq,↓reduceIte];refine⟨b,?_⟩;refine wpc_loop (fun r s=>∃k:Nat,k≤rnd n v.list.length 6∧r=rnd n v.list.length 6-k∧
   s=⟨[(1,.d (.int .i64 ((n+1:Nat):Int))),(2,.ref 2 0),(4,.ref 4 0),(5,.ms 42 k),(6,.d (.nil 7)),(7,.d (.int .i64 k))],
    [(2,.box [.d (.int .i64 v.kind),.d (.int .i64 v.int),.d (.int .i64 v.scale),.d (.str (v.text.take 40)),.d (.list 6 (v.list.map encV)),.d (.list 7 (v.fields.map encF))]),(4,.box [.d (.int .i64 0),.d (.int .i64 0),.d (.int .i64 0),.d (.str []),.d (.nil 6),.d (.nil 7)]),(42,.row k 6 (((v.list.take k).map g).map encV))]⟩) ?_ ?_
  ·refine⟨_,_,(Wk.nilT 5 42 6 rfl rfl dC).trans (Wk.less ?_),0,Nat.zero_le _,rfl,rfl⟩;simp[put,go_sem]
  ·rintro r s ⟨k,hk,rfl,rfl⟩;have hrl:=rnd_le n v.list.length 6;have hc:=rnd_c n v.list.length 6 k;refine zz4 ?_;refine sq (decide ((k:Int)<6)) ?_ ?_
   ·exact zz trivial
   refine zz ?_;refine sq (decide (((n+1:Nat):Int)>1)) ?_ ?_
   ·exact zz trivial
   refine zz ?_;by_cases hlt:k<rnd n v.list.length 6
   ·have h0:n≠0:=by intro h;rw[h]at hlt;simp[rnd]at hlt
    have hkl:k<v.list.length:=oM;have hx:=nth_encV hkl;have hq:=hcall v.list[k] h0;rw[encV_eq]at hq;rw[decide_eq_true hlt]at hc;have hc':((decide ((k:Int)<(v.list.length:Int))&&decide ((k:Int)<6))&&decide (((n+1:Nat):Int)>1))=true:=hc;simp only[go_sem,hc',hx,hlv,Int.toNat_natCast,List.length_map,Nat.reduceAdd,Nat.reduceEqDiff,Nat.reduceBEq,Nat.reduceLeDiff,reduceCtorEq,↓reduceIte];refine⟨oM,wn hq ?_⟩;refine zz ?_;refine⟨fun y hy=>by simp only[List.mem_singleton]at hy;subst hy;rw[encV_eq];rfl,sO,rnd n v.list.length 6-(k+1),_,oM,Wk.less ?_,k+1,oM,rfl,rfl⟩;rw[List.take_succ_eq_append_getElem hkl];simp only[go_sem,wrap64s k oM,List.map_append,List.map_cons,List.map_nil,Nat.reduceAdd,Nat.reduceEqDiff,Nat.reduceBEq,Nat.reduceLeDiff,reduceCtorEq,↓reduceIte]
   ·obtain rfl:k=rnd n v.list.length 6:=oM;rw[decide_eq_false hlt]at hc;have hc':((decide (((rnd n v.list.length 6:Nat):Int)<(v.list.length:Int))&&decide (((rnd n v.list.length 6:Nat):Int)<6))&&decide (((n+1:Nat):Int)>1))=false:=hc;simp only[go_sem,hc',Nat.reduceAdd,Nat.reduceEqDiff,Nat.reduceBEq,Nat.reduceLeDiff,reduceCtorEq,↓reduceIte];generalize hm:rnd n v.list.length 6=m at*;refine wpc_loop (fun r s=>∃k:Nat,k≤rnd n v.fields.length 6∧r=rnd n v.fields.length 6-k∧
     s=⟨[(1,.d (.int .i64 ((n+1:Nat):Int))),(2,.ref 2 0),(4,.ref 4 0),(5,.ms 42 m),(6,.ms 85 k),(8,.d (.int .i64 k))],
      [(2,.box [.d (.int .i64 v.kind),.d (.int .i64 v.int),.d (.int .i64 v.scale),.d (.str (v.text.take 40)),.d (.list 6 (v.list.map encV)),.d (.list 7 (v.fields.map encF))]),(4,.box [.d (.int .i64 0),.d (.int .i64 0),.d (.int .i64 0),.d (.str []),.d (.nil 6),.d (.nil 7)]),(42,.row m 6 (((v.list.take m).map g).map encV)),(85,.row k 7 (((v.fields.take k).map fun f=>Fld.mk (f.name.take 40) (g f.value)).map encF))]⟩) ?_ ?_
    ·refine⟨_,_,(Wk.nilT 6 85 7 rfl rfl dC).trans (Wk.less ?_),0,Nat.zero_le _,rfl,rfl⟩;simp[put,go_sem]
    ·clear hc hc' hk hlt;rintro r s ⟨k,hk,rfl,rfl⟩;have hrl:=rnd_le n v.fields.length 6;have hc:=rnd_c n v.fields.length 6 k;refine zz4 ?_;refine sq (decide ((k:Int)<6)) ?_ ?_
     ·exact zz trivial
     refine zz ?_;refine sq (decide (((n+1:Nat):Int)>1)) ?_ ?_
     ·exact zz trivial
     refine zz ?_;by_cases hlt:k<rnd n v.fields.length 6
     ·have h0:n≠0:=by intro h;rw[h]at hlt;simp[rnd]at hlt
      have hkl:k<v.fields.length:=oM;have hx:=nth_encF hkl;have hq:=hcall v.fields[k].value h0;have e2:=mnT v.fields[k].name 40 40 rfl;have b2:=mnB v.fields[k].name.length 40 dC;rw[encV_eq v.fields[k].value,encV_eq (g v.fields[k].value)]at hq;rw[decide_eq_true hlt]at hc;have hc':((decide ((k:Int)<(v.fields.length:Int))&&decide ((k:Int)<6))&&decide (((n+1:Nat):Int)>1))=true:=hc;simp only[go_sem,hc',hx,hlv,e2,Int.toNat_natCast,List.length_map,Nat.reduceAdd,Nat.reduceEqDiff,Nat.reduceBEq,Nat.reduceLeDiff,reduceCtorEq,↓reduceIte];refine⟨⟨oM,oM⟩,dC,⟨oM,oM⟩,dC,b2,⟨oM,oM⟩,wpsL_call rfl hq trivial ?_⟩;refine zz ?_;refine⟨sP,sO,rfl,rnd n v.fields.length 6-(k+1),_,oM,Wk.less ?_,k+1,oM,rfl,rfl⟩;rw[List.take_succ_eq_append_getElem hkl];have ef:encF (Fld.mk (v.fields[k].name.take 40) (g v.fields[k].value))=.agg [.str (v.fields[k].name.take 40),.int .i64 (g v.fields[k].value).kind,.int .i64 (g v.fields[k].value).int,.int .i64 (g v.fields[k].value).scale,.str (g v.fields[k].value).text,.list 6 ((g v.fields[k].value).list.map encV),.list 7 ((g v.fields[k].value).fields.map encF)]:=by rw[encF_eq];rfl
      simp only[go_sem,wrap64s k oM,List.map_append,List.map_cons,List.map_nil,ef,Nat.reduceAdd,Nat.reduceEqDiff,Nat.reduceBEq,Nat.reduceLeDiff,reduceCtorEq,↓reduceIte]
     ·obtain rfl:k=rnd n v.fields.length 6:=oM;rw[decide_eq_false hlt]at hc;have hc':((decide (((rnd n v.fields.length 6:Nat):Int)<(v.fields.length:Int))&&decide (((rnd n v.fields.length 6:Nat):Int)<6))&&decide (((n+1:Nat):Int)>1))=false:=hc;simp only[go_sem,hc',Nat.reduceAdd,Nat.reduceEqDiff,Nat.reduceBEq,Nat.reduceLeDiff,reduceCtorEq,↓reduceIte];generalize hm2:rnd n v.fields.length 6=m2 at*;rw[encV_eq (Val.mk _ _ _ _ _ _)];rfl
def shT:Nat→Typ→Typ
 |0,t=>.mk t.kind t.min t.max t.scale ((t.words.take 6).map fun s=>s.take 40) [] []
 |n+1,t=>.mk t.kind t.min t.max t.scale ((t.words.take 6).map fun s=>s.take 40) ((t.elem.take 2).map (shT n)) ((t.fields.take 6).map fun f=>.mk f.number (f.name.take 40) f.need (shT n f.type) ((f.dflt.take 2).map (shV 2)))
theorem shT_eq(n:Nat)(t:Typ)(g:Typ→Typ)(hg:n≠0→g=shT (n-1)):shT n t=.mk t.kind t.min t.max t.scale ((t.words.take (min t.words.length 6)).map fun s=>s.take 40) ((t.elem.take (rnd n t.elem.length 2)).map g)
  ((t.fields.take (rnd n t.fields.length 6)).map fun f=>.mk f.number (f.name.take 40) f.need (g f.type) ((f.dflt.take (min f.dflt.length 2)).map (shV 2))):=by
 have hw:∀{α:Type} (l:List α) (c:Nat),l.take (min l.length c)=l.take c:=by
  intro α l c;have:=rnd_take 0 c l;unfold rnd at this;rwa[if_neg oM]at this
 cases n with
 |zero=>simp only[shT,rnd,if_pos,List.take_zero,List.map_nil,hw]
 |succ n=>
  have:=hg oM;simp only[Nat.add_sub_cancel]at this;subst this;simp only[shT,rnd_take,hw]
theorem two_c(len c k:Nat):(decide ((k:Int)<(len:Int))&&decide ((k:Int)<(c:Int)))=decide (k<min len c):=by
 rw[←Bool.decide_and];exact decide_eq_decide.2 oM
theorem fits_dflt{t:Typ}(h:fits (encT t)):∀f∈t.fields,f.dflt.length≤68719476736:=by
 intro f hf;rw[encT_eq]at h;simp only[fits,fitsL]at h;have:=fitsL_iff.1 h.2.2.2.2.2.2.1.2 _ (List.mem_map.2 ⟨f,hf,rfl⟩);rw[encG_eq]at this;simp only[fits,fitsL,List.length_map]at this;omega
set_option maxHeartbeats 4000000 in
theorem walk12:∀(n:Nat) (t:Typ),n≤1000→PT 12 [encT t,.int .i64 ((n+1:Nat):Int)] (.d (encT (shT n t))):=by
 intro n
 induction n using Nat.strongRecOn with
 |_ n ih=>
  intro t hn;refine PCon.of_fits ok12.has fun hfit=>?_
  obtain⟨f1,f2,f3⟩:=fits_T (hfit (encT t) sP);have f4:=fits_dflt (hfit (encT t) sP);clear hfit;refine ok12.pc ?_;have hcall:∀x,n≠0→CT (.fn 12) [.d (encT x),.d (.int .i64 (n:Int))] [] (.d (encT (shT (n-1) x))) []:=by
   intro x h0;have:=(ih (n-1) oM x oM).call trivial;have e:((n-1+1:Nat):Int)=n:=oM;rw[e]at this;exact this
  have hval:∀y,CT (.fn 23) [.d (encV y),.d (.int .i64 3)] [] (.d (encV (shV 2 y))) []:=fun y=>(walk23 2 y dC).call trivial
  rw[shT_eq n t (shT (n-1)) (fun _=>rfl)];generalize hg:shT (n-1)=g at*;have hlv:IntKind.i64.wrap (((n+1:Nat):Int)-1)=(n:Int):=by rw[wrap64 oM oM];omega
  rw[encT_eq t];simp only[go_sem,ir12,Nat.reduceAdd,Nat.reduceEqDiff,Nat.reduceBEq,Nat.reduceLeDiff,reduceCtorEq,↓reduceIte];refine wpc_loop (fun r s=>∃k:Nat,k≤min t.words.length 6∧r=min t.words.length 6-k∧
   s=⟨[(1,.d (.int .i64 ((n+1:Nat):Int))),(2,.ref 2 0),(4,.ref 4 0),(5,.ms 40 k),(6,.d (.nil 7)),(7,.d (.nil 11)),(8,.d (.int .i64 k))],
    [(2,.box [.d (.int .i64 t.kind),.d (.int .i64 t.min),.d (.int .i64 t.max),.d (.int .i64 t.scale),.d (.list 1 (t.words.map .str)),.d (.list 7 (t.elem.map encT)),.d (.list 11 (t.fields.map encG))]),(4,.box [.d (.int .i64 0),.d (.int .i64 0),.d (.int .i64 0),.d (.int .i64 0),.d (.nil 1),.d (.nil 7),.d (.nil 11)]),(40,.row k 1 (((t.words.take k).map fun s=>s.take 40).map .str))]⟩) ?_ ?_
  ·refine⟨_,_,(Wk.nilT 5 40 1 rfl rfl dC).trans (Wk.less ?_),0,Nat.zero_le _,rfl,rfl⟩;simp[put,go_sem]
  ·rintro r s ⟨k,hk,rfl,rfl⟩;have hc:=two_c t.words.length 6 k;refine zz4 ?_;refine sq (decide ((k:Int)<6)) ?_ ?_
   ·exact zz trivial
   refine zz ?_;by_cases hlt:k<min t.words.length 6
   ·have hkl:k<t.words.length:=oM;have hx:=nth_map Dat.str hkl;rw[decide_eq_true hlt]at hc;have hc':(decide ((k:Int)<(t.words.length:Int))&&decide ((k:Int)<6))=true:=hc;have e2:=mnT t.words[k] 40 40 rfl;have b2:=mnB t.words[k].length 40 dC;simp only[go_sem,hc',hx,e2,Int.toNat_natCast,List.length_map,Nat.reduceAdd,Nat.reduceEqDiff,Nat.reduceBEq,Nat.reduceLeDiff,reduceCtorEq,↓reduceIte];refine⟨⟨oM,oM⟩,dC,⟨oM,oM⟩,dC,b2,sP,sO,min t.words.length 6-(k+1),_,oM,Wk.less ?_,k+1,oM,rfl,rfl⟩;rw[List.take_succ_eq_append_getElem hkl];simp only[go_sem,wrap64s k oM,List.map_append,List.map_cons,List.map_nil,Nat.reduceAdd,Nat.reduceEqDiff,Nat.reduceBEq,Nat.reduceLeDiff,reduceCtorEq,↓reduceIte]
   ·obtain rfl:k=min t.words.length 6:=oM;rw[decide_eq_false hlt]at hc;have hc':(decide (((min t.words.length 6:Nat):Int)<(t.words.length:Int))&&decide (((min t.words.length 6:Nat):Int)<6))=false:=hc;simp only[go_sem,hc',Nat.reduceAdd,Nat.reduceEqDiff,Nat.reduceBEq,Nat.reduceLeDiff,reduceCtorEq,↓reduceIte];generalize hm1:min t.words.length 6=m1 at*;clear hc hc' hlt hk;generalize hW:(((t.words.take m1).map fun s=>s.take 40).map Dat.str)=W;refine wpc_loop (fun r s=>∃k:Nat,k≤rnd n t.elem.length 2∧r=rnd n t.elem.length 2-k∧
     s=⟨[(1,.d (.int .i64 ((n+1:Nat):Int))),(2,.ref 2 0),(4,.ref 4 0),(5,.ms 40 m1),(6,.ms 66 k),(7,.d (.nil 11)),(9,.d (.int .i64 k))],
      [(2,.box [.d (.int .i64 t.kind),.d (.int .i64 t.min),.d (.int .i64 t.max),.d (.int .i64 t.scale),.d (.list 1 (t.words.map .str)),.d (.list 7 (t.elem.map encT)),.d (.list 11 (t.fields.map encG))]),(4,.box [.d (.int .i64 0),.d (.int .i64 0),.d (.int .i64 0),.d (.int .i64 0),.d (.nil 1),.d (.nil 7),.d (.nil 11)]),(40,.row m1 1 W),(66,.row k 7 (((t.elem.take k).map g).map encT))]⟩) ?_ ?_
    ·refine⟨_,_,(Wk.nilT 6 66 7 rfl rfl dC).trans (Wk.less ?_),0,Nat.zero_le _,rfl,rfl⟩;simp[put,go_sem]
    ·rintro r s ⟨k,hk,rfl,rfl⟩;have hrl:=rnd_le n t.elem.length 2;have hc:=rnd_c n t.elem.length 2 k;refine zz4 ?_;refine sq (decide ((k:Int)<2)) ?_ ?_
     ·exact zz trivial
     refine zz ?_;refine sq (decide (((n+1:Nat):Int)>1)) ?_ ?_
     ·exact zz trivial
     refine zz ?_;by_cases hlt:k<rnd n t.elem.length 2
     ·have h0:n≠0:=by intro h;rw[h]at hlt;simp[rnd]at hlt
      have hkl:k<t.elem.length:=oM;have hx:=nth_encT hkl;have hq:=hcall t.elem[k] h0;rw[encT_eq t.elem[k]]at hq;rw[decide_eq_true hlt]at hc;have hc':((decide ((k:Int)<(t.elem.length:Int))&&decide ((k:Int)<2))&&decide (((n+1:Nat):Int)>1))=true:=hc;simp only[go_sem,hc',hx,hlv,Int.toNat_natCast,List.length_map,Nat.reduceAdd,Nat.reduceEqDiff,Nat.reduceBEq,Nat.reduceLeDiff,reduceCtorEq,↓reduceIte];refine⟨oM,wn hq ?_⟩;refine zz ?_;refine⟨fun y hy=>by simp only[List.mem_singleton]at hy;subst hy;rw[encT_eq];rfl,sO,rnd n t.elem.length 2-(k+1),_,oM,Wk.less ?_,k+1,oM,rfl,rfl⟩;rw[List.take_succ_eq_append_getElem hkl];simp only[go_sem,wrap64s k oM,List.map_append,List.map_cons,List.map_nil,Nat.reduceAdd,Nat.reduceEqDiff,Nat.reduceBEq,Nat.reduceLeDiff,reduceCtorEq,↓reduceIte]
     ·obtain rfl:k=rnd n t.elem.length 2:=oM;rw[decide_eq_false hlt]at hc;have hc':((decide (((rnd n t.elem.length 2:Nat):Int)<(t.elem.length:Int))&&decide (((rnd n t.elem.length 2:Nat):Int)<2))&&decide (((n+1:Nat):Int)>1))=false:=hc;simp only[go_sem,hc',Nat.reduceAdd,Nat.reduceEqDiff,Nat.reduceBEq,Nat.reduceLeDiff,reduceCtorEq,↓reduceIte];generalize hm2:rnd n t.elem.length 2=m2 at*;clear hc hc' hlt hk;generalize hE:(((t.elem.take m2).map g).map encT)=E;refine wpc_loop (fun r s=>∃k:Nat,k≤rnd n t.fields.length 6∧r=rnd n t.fields.length 6-k∧
       s=⟨[(1,.d (.int .i64 ((n+1:Nat):Int))),(2,.ref 2 0),(4,.ref 4 0),(5,.ms 40 m1),(6,.ms 66 m2),(7,.ms 126 k),(10,.d (.int .i64 k))],
        [(2,.box [.d (.int .i64 t.kind),.d (.int .i64 t.min),.d (.int .i64 t.max),.d (.int .i64 t.scale),.d (.list 1 (t.words.map .str)),.d (.list 7 (t.elem.map encT)),.d (.list 11 (t.fields.map encG))]),(4,.box [.d (.int .i64 0),.d (.int .i64 0),.d (.int .i64 0),.d (.int .i64 0),.d (.nil 1),.d (.nil 7),.d (.nil 11)]),(40,.row m1 1 W),(66,.row m2 7 E),(126,.row k 11 (((t.fields.take k).map fun f=>TFl.mk f.number (f.name.take 40) f.need (g f.type) ((f.dflt.take (min f.dflt.length 2)).map (shV 2))).map encG))]⟩) ?_ ?_
      ·refine⟨_,_,(Wk.nilT 7 126 11 rfl rfl dC).trans (Wk.less ?_),0,Nat.zero_le _,rfl,rfl⟩;simp[put,go_sem]
      ·rintro r s ⟨k,hk,rfl,rfl⟩;have hrl:=rnd_le n t.fields.length 6;have hc:=rnd_c n t.fields.length 6 k;refine zz4 ?_;refine sq (decide ((k:Int)<6)) ?_ ?_
       ·exact zz trivial
       refine zz ?_;refine sq (decide (((n+1:Nat):Int)>1)) ?_ ?_
       ·exact zz trivial
       refine zz ?_;by_cases hlt:k<rnd n t.fields.length 6
       ·have h0:n≠0:=by intro h;rw[h]at hlt;simp[rnd]at hlt
        have hkl:k<t.fields.length:=oM;have hx:=nth_encG hkl;have hfd:=f4 _ (List.getElem_mem hkl);rw[decide_eq_true hlt]at hc;have hc':((decide ((k:Int)<(t.fields.length:Int))&&decide ((k:Int)<6))&&decide (((n+1:Nat):Int)>1))=true:=hc;have hq:=hcall (t.fields[k]).type h0;rw[encT_eq (g (t.fields[k]).type)]at hq;have e2:=mnT (t.fields[k]).name 40 40 rfl;have b2:=mnB (t.fields[k]).name.length 40 dC;simp only[go_sem,hc',hx,Int.toNat_natCast,List.length_map,Nat.reduceAdd,Nat.reduceEqDiff,Nat.reduceBEq,Nat.reduceLeDiff,reduceCtorEq,↓reduceIte];refine⟨oM,?_⟩;generalize hf:t.fields[k]=f at*;clear hc hc';generalize hO:List.map encG (List.map (fun f:TFl=>TFl.mk f.number (f.name.take 40) f.need (g f.type) ((f.dflt.take (min f.dflt.length 2)).map (shV 2))) (t.fields.take k))=O;refine wpc_loop (fun r s=>∃j:Nat,j≤min f.dflt.length 2∧r=min f.dflt.length 2-j∧
         s=⟨[(1,.d (.int .i64 ((n+1:Nat):Int))),(2,.ref 2 0),(4,.ref 4 0),(5,.ms 40 m1),(6,.ms 66 m2),(7,.ms 126 k),(10,.d (.int .i64 k)),(11,.ref 11 0),(12,.ms 106 j),(13,.d (.int .i64 j))],
          [(2,.box [.d (.int .i64 t.kind),.d (.int .i64 t.min),.d (.int .i64 t.max),.d (.int .i64 t.scale),.d (.list 1 (t.words.map .str)),.d (.list 7 (t.elem.map encT)),.d (.list 11 (t.fields.map encG))]),(4,.box [.d (.int .i64 0),.d (.int .i64 0),.d (.int .i64 0),.d (.int .i64 0),.d (.nil 1),.d (.nil 7),.d (.nil 11)]),(40,.row m1 1 W),(66,.row m2 7 E),(126,.row k 11 O),(11,.box [.d (.int .i64 f.number),.d (.str f.name),.d (.int .i64 f.need),.d (.int .i64 f.type.kind),.d (.int .i64 f.type.min),.d (.int .i64 f.type.max),.d (.int .i64 f.type.scale),.d (.list 1 (f.type.words.map .str)),.d (.list 7 (f.type.elem.map encT)),.d (.list 11 (f.type.fields.map encG)),.d (.list 6 (f.dflt.map encV))]),(106,.row j 6 (((f.dflt.take j).map (shV 2)).map encV))]⟩) ?_ ?_
        ·refine⟨_,_,(Wk.nilT 12 106 6 rfl rfl dC).trans (Wk.less ?_),0,Nat.zero_le _,rfl,rfl⟩;simp[put,go_sem]
        ·rintro r s ⟨j,hj,rfl,rfl⟩;have hc:=two_c f.dflt.length 2 j;refine zz4 ?_;refine sq (decide ((j:Int)<2)) ?_ ?_
         ·exact zz trivial
         refine zz ?_;by_cases hlt:j<min f.dflt.length 2
         ·have hjl:j<f.dflt.length:=oM;have hx:=nth_encV hjl;have hv:=hval f.dflt[j];rw[encV_eq f.dflt[j]]at hv;rw[decide_eq_true hlt]at hc;have hc':(decide ((j:Int)<(f.dflt.length:Int))&&decide ((j:Int)<2))=true:=hc;simp only[go_sem,hc',hx,Int.toNat_natCast,List.length_map,Nat.reduceAdd,Nat.reduceEqDiff,Nat.reduceBEq,Nat.reduceLeDiff,reduceCtorEq,↓reduceIte];refine⟨oM,wn hv ?_⟩;refine zz ?_;refine⟨fun y hy=>by simp only[List.mem_singleton]at hy;subst hy;rw[encV_eq];rfl,sO,min f.dflt.length 2-(j+1),_,oM,Wk.less ?_,j+1,oM,rfl,rfl⟩;rw[List.take_succ_eq_append_getElem hjl];simp only[go_sem,wrap64s j oM,List.map_append,List.map_cons,List.map_nil,Nat.reduceAdd,Nat.reduceEqDiff,Nat.reduceBEq,Nat.reduceLeDiff,reduceCtorEq,↓reduceIte]
         ·obtain rfl:j=min f.dflt.length 2:=oM;rw[decide_eq_false hlt]at hc;have hc':(decide (((min f.dflt.length 2:Nat):Int)<(f.dflt.length:Int))&&decide (((min f.dflt.length 2:Nat):Int)<2))=false:=hc;simp only[go_sem,hc',Nat.reduceAdd,Nat.reduceEqDiff,Nat.reduceBEq,Nat.reduceLeDiff,reduceCtorEq,↓reduceIte];clear hc hc' hlt hj;generalize hm3:min f.dflt.length 2=m3 at*;rw[encT_eq f.type]at hq;simp only[go_sem,hlv,e2,Nat.reduceAdd,Nat.reduceEqDiff,Nat.reduceBEq,Nat.reduceLeDiff,reduceCtorEq,↓reduceIte];refine⟨b2,wpsL_call rfl hq trivial ?_⟩;refine zz ?_;refine⟨dC,fun y hy=>by simp only[List.mem_singleton]at hy;subst hy;rfl,by subst hO;simp;omega,rnd n t.fields.length 6-(k+1),_,oM,Wk.less ?_,k+1,oM,rfl,rfl⟩;rw[List.take_succ_eq_append_getElem hkl,hf,List.map_append,List.map_append,hO];simp only[go_sem,wrap64s k oM,List.map_cons,List.map_nil,encG_eq,hm3,Nat.reduceAdd,Nat.reduceEqDiff,Nat.reduceBEq,Nat.reduceLeDiff,reduceCtorEq,↓reduceIte];rfl
       ·obtain rfl:k=rnd n t.fields.length 6:=oM;rw[decide_eq_false hlt]at hc;have hc':((decide (((rnd n t.fields.length 6:Nat):Int)<(t.fields.length:Int))&&decide (((rnd n t.fields.length 6:Nat):Int)<6))&&decide (((n+1:Nat):Int)>1))=false:=hc;simp only[go_sem,hc',Nat.reduceAdd,Nat.reduceEqDiff,Nat.reduceBEq,Nat.reduceLeDiff,reduceCtorEq,↓reduceIte];subst hW hE;rw[encT_eq,canonL_strT,canonL_typs];rfl
def cutK(c:Kal):Kal:=⟨cutS c.service,c.rules⟩
def shS(g:List Ste→List Ste)(n:Nat)(s:Ste):Ste:=
 .mk (cutS s.name) s.kind s.number s.time s.limit (cutS s.text) (cutS s.schema) (s.exprs.take 3) (s.rules.take 4) ((s.calls.take 18).map cutK)
  ((s.branches.take (rnd n s.branches.length 4)).map fun x=>.mk (x.cond.take 2) (g x.steps))
def ssS:Nat→List Ste→List Ste
 |0,l=>(l.take 8).map (shS id 0)
 |n+1,l=>(l.take 8).map (shS (ssS n) (n+1))
theorem ssS_eq(n:Nat)(l:List Ste):ssS n l=(l.take (min l.length 8)).map (shS (ssS (n-1)) n):=by
 have hw:l.take (min l.length 8)=l.take 8:=by
  have:=rnd_take 0 8 l;unfold rnd at this;rwa[if_neg oM]at this
 rw[hw];cases n with
 |zero=>simp only[ssS];refine List.map_congr_left fun s _=>?_;simp[shS,rnd]
 |succ n=>rfl
theorem rnd_d(n len c k:Nat):((decide ((k:Int)<(len:Int))&&decide ((k:Int)<(c:Int)))&&decide ((n:Int)>0))=decide (k<rnd n len c):=by
 rw[←rnd_c,show decide ((n:Int)>0)=decide (((n+1:Nat):Int)>1)from decide_eq_decide.2 oM]
def kQ(C:List Kal)(j:Nat):List Kal:=(C.take j).map cutK++C.drop j
theorem kQ_len(C:List Kal)(j:Nat):(kQ C j).length=C.length:=by simp[kQ];omega
theorem kQ_nth{C:List Kal}{j:Nat}(h:j<C.length):nth ((kQ C j).map encCl) j=.agg [.str C[j].service,.list 6 (C[j].rules.map encR)]:=by
 have hl:j<(kQ C j).length:=by rw[kQ_len];exact h
 rw[nth_map encCl hl];have e:(kQ C j)[j]? =some C[j]:=by
  unfold kQ;rw[List.getElem?_append_right sO];simp[Nat.min_eq_left (Nat.le_of_lt h),h]
 have:(kQ C j)[j]=C[j]:=List.getElem_eq_iff hl |>.2 e;rw[this];rfl
theorem kQ_set{C:List Kal}{j:Nat}(h:j<C.length):((kQ C j).map encCl).set j (.agg [.str (cutS C[j].service),.list 6 (C[j].rules.map encR)])=(kQ C (j+1)).map encCl:=by
 rw[show Dat.agg [.str (cutS C[j].service),.list 6 (C[j].rules.map encR)]=encCl (cutK C[j])from rfl,←List.map_set];congr 1;unfold kQ;rw[List.take_succ_eq_append_getElem h,List.drop_eq_getElem_cons h,List.map_append,List.append_assoc,List.set_append_right _ _ sO,List.length_map,List.length_take,Nat.min_eq_left (Nat.le_of_lt h),Nat.sub_self,List.set_cons_zero];rfl
set_option maxHeartbeats 4000000 in
theorem walk13:∀(n:Nat) (l:List Ste),n≤1000→PT 13 [.list 11 (l.map encSt),.int .i64 (n:Int)] (.d (.list 11 ((ssS n l).map encSt))):=by
 intro n
 induction n using Nat.strongRecOn with
 |_ n ih=>
  intro l hn;refine PCon.of_fits ok13.has fun hfit=>?_
  have hl:l.length≤68719476736:=by have:=(hfit _ (List.mem_cons_self)).1;simpa using this
  have hbf:∀f∈l,f.calls.length≤68719476736∧f.branches.length≤68719476736:=by
   intro f hf;have:=hfit _ (List.mem_cons_self);simp only[fits]at this;have:=fitsL_iff.1 this.2 _ (List.mem_map.2 ⟨f,hf,rfl⟩);rw[encSt_eq]at this;simp only[fits,fitsL,List.length_map]at this;omega
  clear hfit;refine ok13.pc ?_;have hcall:∀x,n≠0→CT (.fn 13) [.d (.list 11 (x.map encSt)),.d (.int .i64 ((n:Int)-1))] [] (.d (.list 11 ((ssS (n-1) x).map encSt))) []:=by
   intro x h0;have:=(ih (n-1) oM x oM).call trivial;have e:((n-1:Nat):Int)=(n:Int)-1:=oM;rw[e]at this;exact this
  have c11:∀s,CT (.fn 11) [.d (.str s)] [] (.d (.str (cutS s))) []:=fun s=>(walk11 s).call trivial
  rw[ssS_eq n l];generalize hg:ssS (n-1)=g at*;have hlv:n≠0→IntKind.i64.wrap ((n:Int)-1)=(n:Int)-1:=fun _=>wrap64 oM oM
  simp only[go_sem,ir13,Nat.reduceAdd,Nat.reduceEqDiff,Nat.reduceBEq,Nat.reduceLeDiff,reduceCtorEq,↓reduceIte];refine wpc_loop (fun r s=>∃k:Nat,k≤min l.length 8∧r=min l.length 8-k∧
   s=⟨[(0,.d (.list 11 (l.map encSt))),(1,.d (.int .i64 (n:Int))),(5,.ms 133 k),(6,.d (.int .i64 k))],[(133,.row k 11 (((l.take k).map (shS g n)).map encSt))]⟩) ?_ ?_
  ·refine⟨_,_,(Wk.nilT 5 133 11 rfl rfl dC).trans (Wk.less ?_),0,Nat.zero_le _,rfl,rfl⟩;simp[put,go_sem]
  ·rintro r s ⟨k,hk,rfl,rfl⟩;have hc:=two_c l.length 8 k;refine zz4 ?_;refine sq (decide ((k:Int)<8)) ?_ ?_
   ·exact zz trivial
   by_cases hlt:k<min l.length 8
   ·have hkl:k<l.length:=oM;have hx:=nth_encSt hkl;obtain⟨hb1,hb2⟩:=hbf _ (List.getElem_mem hkl);rw[decide_eq_true hlt]at hc;have hc':(decide ((k:Int)<(l.length:Int))&&decide ((k:Int)<8))=true:=hc;simp(maxSteps:=900000) only[go_sem,hc',hx,Int.toNat_natCast,List.length_map,Nat.reduceAdd,Nat.reduceEqDiff,Nat.reduceBEq,Nat.reduceLeDiff,reduceCtorEq,↓reduceIte];refine⟨oM,?_⟩;clear hc hc';generalize hf:l[k]=f at*;generalize hO:((l.take k).map (shS g n)).map encSt=O;refine wpsL_call rfl (c11 f.name) trivial ?_;refine zz ?_;refine wpsL_call rfl (c11 f.text) trivial ?_;refine zz ?_;refine wpsL_call rfl (c11 f.schema) trivial ?_;have e5:=mnT (f.exprs.map encE) 3 3 rfl;have b5:=mnB f.exprs.length 3 dC;have e9:=mnT (f.calls.map encCl) 18 18 rfl;have b9:=mnB f.calls.length 18 dC;have e8:=mnT (f.rules.map encR) 4 4 rfl;have b8:=mnB f.rules.length 4 dC;simp only[List.length_map]at e5 e9 e8;simp only[go_sem,e5,e8,e9,List.length_map,Nat.reduceAdd,Nat.reduceEqDiff,Nat.reduceBEq,Nat.reduceLeDiff,reduceCtorEq,↓reduceIte];refine⟨dC,b5,fun y hy=>(by cases hy),b9,⟨dC,sO,fun y hy=>(by obtain⟨c,_,rfl⟩:=List.mem_map.1 (List.mem_of_mem_take hy);rfl)⟩,b8,dC,?_⟩;rw[←List.map_take (f:=encCl)];have hCl:(f.calls.take 18).length≤18:=sO;have hK:kQ (f.calls.take 18) 0=f.calls.take 18:=rfl;generalize hC:f.calls.take 18=C at*;refine wpc_loop (fun r s=>∃j:Nat,j≤C.length∧r=C.length-j∧
     s=⟨[(0,.d (.list 11 (l.map encSt))),(1,.d (.int .i64 (n:Int))),(5,.ms 133 k),(6,.d (.int .i64 k)),(7,.ref 7 0),(8,.d (.int .i64 j))],[(133,.row k 11 O),(7,.box [.d (.str (cutS f.name)),.d (.int .i64 f.kind),.d (.int .i64 f.number),.d (.int .i64 f.time),.d (.int .i64 f.limit),.d (.str (cutS f.text)),.d (.str (cutS f.schema)),.d (.list 5 ((f.exprs.take 3).map encE)),.d (.list 6 ((f.rules.take 4).map encR)),.ms 52 0,.d (.list 2 (f.branches.map encB))]),(52,.row 0 2 ((kQ C j).map encCl))]⟩) ?_ ?_
    ·refine⟨_,_,Wk.less ?_,0,Nat.zero_le _,rfl,by rw[hK]⟩;simp[put,go_sem]
    ·rintro r s ⟨j,hj,rfl,rfl⟩;have hlen:=kQ_len C j;by_cases hlt:j<C.length
     ·have hd:decide ((j:Int)<(C.length:Int))=true:=decide_eq_true oM;have hx2:=kQ_nth hlt;simp only[go_sem,hd,hlen,hx2,Int.toNat_natCast,List.length_map,Nat.reduceAdd,Nat.reduceEqDiff,Nat.reduceBEq,Nat.reduceLeDiff,reduceCtorEq,↓reduceIte];refine⟨oM,sP,wpsL_call rfl (c11 C[j].service) trivial ?_⟩;simp only[go_sem,hlen,hx2,Int.toNat_natCast,List.length_map,Nat.reduceAdd,Nat.reduceEqDiff,Nat.reduceBEq,Nat.reduceLeDiff,reduceCtorEq,↓reduceIte];refine⟨oM,dC,C.length-(j+1),_,oM,Wk.less ?_,j+1,oM,rfl,rfl⟩;simp only[go_sem,wrap64s j oM,←kQ_set hlt,decide_true,Nat.reduceAdd,Nat.reduceEqDiff,Nat.reduceBEq,Nat.reduceLeDiff,reduceCtorEq,↓reduceIte];rfl
     ·obtain rfl:j=C.length:=oM;have hd:decide ((C.length:Int)<(C.length:Int))=false:=decide_eq_false oM;simp only[go_sem,hd,hlen,List.length_map,Nat.reduceAdd,Nat.reduceEqDiff,Nat.reduceBEq,Nat.reduceLeDiff,reduceCtorEq,↓reduceIte];have hbr:(7:Nat)≠52:=dC;generalize hKK:(kQ C C.length).map encCl=KK;refine wpc_loop (fun r s=>∃j:Nat,j≤rnd n f.branches.length 4∧r=rnd n f.branches.length 4-j∧
       s=⟨[(0,.d (.list 11 (l.map encSt))),(1,.d (.int .i64 (n:Int))),(5,.ms 133 k),(6,.d (.int .i64 k)),(7,.ref 7 0),(9,.d (.int .i64 j))],[(133,.row k 11 O),(7,.box [.d (.str (cutS f.name)),.d (.int .i64 f.kind),.d (.int .i64 f.number),.d (.int .i64 f.time),.d (.int .i64 f.limit),.d (.str (cutS f.text)),.d (.str (cutS f.schema)),.d (.list 5 ((f.exprs.take 3).map encE)),.d (.list 6 ((f.rules.take 4).map encR)),.ms 52 0,.ms 128 j]),(52,.row 0 2 KK),
        (128,.row j 2 (((f.branches.take j).map fun x=>Brn.mk (x.cond.take 2) (g x.steps)).map encB))]⟩) ?_ ?_
      ·refine⟨_,_,(Wk.nilB 7 10 128 2 _ rfl rfl rfl dC).trans (Wk.less ?_),0,Nat.zero_le _,rfl,rfl⟩;simp[put,go_sem]
      ·rintro r s ⟨j,hj,rfl,rfl⟩;have hrl:=rnd_le n f.branches.length 4;have hc:=rnd_d n f.branches.length 4 j;refine zz24 ?_;refine⟨oM,dC,scQ_pure (decide ((j:Int)<4)) (fun _=>?_) ?_⟩
       ·exact zz trivial
       refine zz ?_;refine sq (decide ((n:Int)>0)) ?_ ?_
       ·exact zz trivial
       by_cases hlt:j<rnd n f.branches.length 4
       ·have h0:n≠0:=by intro h;rw[h]at hlt;simp[rnd]at hlt
        have hjl:j<f.branches.length:=oM;have hy:=nth_encB hjl;have hq:=hcall f.branches[j].steps h0;have hlv':=hlv h0;rw[decide_eq_true hlt]at hc;have hc':((decide ((j:Int)<(f.branches.length:Int))&&decide ((j:Int)<4))&&decide ((n:Int)>0))=true:=hc;have e3:=mnT (f.branches[j].cond.map encE) 2 2 rfl;have b3:=mnB f.branches[j].cond.length 2 dC;simp only[List.length_map]at e3;simp only[go_sem,hc',hx,hy,hlv',e3,Int.toNat_natCast,List.length_map,Nat.reduceAdd,Nat.reduceEqDiff,Nat.reduceBEq,Nat.reduceLeDiff,reduceCtorEq,↓reduceIte];refine⟨oM,dC,oM,b3,wpsL_call rfl hq trivial ?_⟩;refine zz ?_;refine⟨fun y hy=>by simp only[List.mem_singleton]at hy;subst hy;rfl,sO,dC,rnd n f.branches.length 4-(j+1),_,oM,Wk.less ?_,j+1,oM,rfl,rfl⟩;rw[List.take_succ_eq_append_getElem hjl,List.map_append,List.map_append];simp only[go_sem,wrap64s j oM,List.map_cons,List.map_nil,encB_eq,←List.map_take,Nat.reduceAdd,Nat.reduceEqDiff,Nat.reduceBEq,Nat.reduceLeDiff,reduceCtorEq,↓reduceIte];rfl
       ·obtain rfl:j=rnd n f.branches.length 4:=oM;rw[decide_eq_false hlt]at hc;have hc':((decide (((rnd n f.branches.length 4:Nat):Int)<(f.branches.length:Int))&&decide (((rnd n f.branches.length 4:Nat):Int)<4))&&decide ((n:Int)>0))=false:=hc;simp only[go_sem,hc',Nat.reduceAdd,Nat.reduceEqDiff,Nat.reduceBEq,Nat.reduceLeDiff,reduceCtorEq,↓reduceIte];refine⟨fun y hy=>by simp only[List.mem_singleton]at hy;subst hy;rfl,by subst hO;simp;omega,min l.length 8-(k+1),_,oM,Wk.less ?_,k+1,oM,rfl,rfl⟩;rw[List.take_succ_eq_append_getElem hkl,hf,List.map_append,List.map_append,hO];have hKq:KK=(((f.calls.take 18).map cutK).map encCl):=by rw[←hKK,hC];unfold kQ;simp
        simp only[go_sem,wrap64s k oM,List.map_cons,List.map_nil,encSt_eq,hKq,Nat.reduceAdd,Nat.reduceEqDiff,Nat.reduceBEq,Nat.reduceLeDiff,reduceCtorEq,↓reduceIte];rfl
   ·obtain rfl:k=min l.length 8:=oM;rw[decide_eq_false hlt]at hc;have hc':(decide (((min l.length 8:Nat):Int)<(l.length:Int))&&decide (((min l.length 8:Nat):Int)<8))=false:=hc;simp(maxSteps:=900000) only[go_sem,hc',canonL_stps,Nat.reduceAdd,Nat.reduceEqDiff,Nat.reduceBEq,Nat.reduceLeDiff,reduceCtorEq,↓reduceIte]
def shC(c:Sch):Sch:=⟨cutS c.name,c.version,shT 3 c.type⟩
def shE(x:Epd):Epd:=⟨cutS x.name,x.kind,cutS x.schema,x.version,x.fkind,x.sep,x.widths.take 8⟩
def shX(x:Svc):Svc:=⟨cutS x.name,cutS x.request,cutS x.reply,x.undo⟩
def shO(r:Rou):Rou:=⟨cutS r.name,cutS r.src,ssS 4 r.steps⟩
def shP(p:Prg):Prg:=⟨p.version,(p.schemas.take (min p.schemas.length 6)).map shC,(p.endpoints.take (min p.endpoints.length 6)).map shE,(p.services.take (min p.services.length 6)).map shX,(p.routes.take (min p.routes.length 6)).map shO⟩
theorem fits_Epw{p:Prg}(h:fits (encPg p)):∀x∈p.endpoints,x.widths.length≤68719476736:=by
 intro x hx;simp only[encPg,fits,fitsL]at h;have:=fitsL_iff.1 h.2.2.1.2 _ (List.mem_map.2 ⟨x,hx,rfl⟩);simp only[encEp,fits,fitsL,List.length_map]at this;omega
set_option maxHeartbeats 8000000 in
theorem walk4(p:Prg):PT 4 [encPg p] (.d (encPg (shP p))):=by
 refine PCon.of_fits ok4.has fun hfit=>?_
 obtain⟨f1,f2,f3,f4⟩:=fits_Pg (hfit (encPg p) sP);have f5:=fits_Epw (hfit (encPg p) sP);clear hfit;refine ok4.pc ?_;have c11:∀s,CT (.fn 11) [.d (.str s)] [] (.d (.str (cutS s))) []:=fun s=>(walk11 s).call trivial
 have c12:∀t,CT (.fn 12) [.d (encT t),.d (.int .i64 4)] [] (.d (encT (shT 3 t))) []:=fun t=>(walk12 3 t dC).call trivial
 have c13:∀l,CT (.fn 13) [.d (.list 11 (l.map encSt)),.d (.int .i64 4)] [] (.d (.list 11 ((ssS 4 l).map encSt))) []:=fun l=>(walk13 4 l dC).call trivial
 unfold encPg;simp only[go_sem,ir4,Nat.reduceAdd,Nat.reduceEqDiff,Nat.reduceBEq,Nat.reduceLeDiff,reduceCtorEq,↓reduceIte];refine wpc_loop (fun r s=>∃k:Nat,k≤min p.schemas.length 6∧r=min p.schemas.length 6-k∧
  s=⟨[(1,.ref 1 0),(2,.ref 2 0),(3,.ref 3 0),(4,.d (.int .i64 k))],[(1,.box [.d (.int .i64 p.version),.d (.list 9 (p.schemas.map encC)),.d (.list 7 (p.endpoints.map encEp)),.d (.list 4 (p.services.map encX)),.d (.list 3 (p.routes.map encO))]),(2,.box [.d (.int .i64 0),.d (.nil 9),.d (.nil 7),.d (.nil 4),.d (.nil 3)]),(3,.box [.d (.int .i64 p.version),.ms 43 k,.d (.nil 7),.d (.nil 4),.d (.nil 3)]),(43,.row k 9 (((p.schemas.take k).map shC).map encC))]⟩) ?_ ?_
 ·refine⟨_,_,(Wk.nilB 3 1 43 9 _ rfl rfl rfl dC).trans (Wk.less ?_),0,Nat.zero_le _,rfl,rfl⟩;simp[put,go_sem]
 ·rintro r s ⟨k,hk,rfl,rfl⟩;have hc:=two_c p.schemas.length 6 k;refine zz4 ?_;refine sq (decide ((k:Int)<6)) ?_ ?_
  ·exact zz trivial
  by_cases hlt:k<min p.schemas.length 6
  ·have hkl:k<p.schemas.length:=oM;have hx:=nth_map encC hkl;rw[decide_eq_true hlt]at hc;have hc':(decide ((k:Int)<(p.schemas.length:Int))&&decide ((k:Int)<6))=true:=hc;have q1:=c12 p.schemas[k].type;rw[encT_eq p.schemas[k].type,encT_eq (shT 3 p.schemas[k].type)]at q1;simp only[go_sem,hc',hx,Int.toNat_natCast,List.length_map,encC,Nat.reduceAdd,Nat.reduceEqDiff,Nat.reduceBEq,Nat.reduceLeDiff,reduceCtorEq,↓reduceIte];refine⟨oM,wpsL_call rfl (c11 p.schemas[k].name) trivial ?_⟩;refine zz ?_;refine wpsL_call rfl q1 trivial ?_;refine zz ?_;refine⟨fun y hy=>by simp only[List.mem_singleton]at hy;subst hy;rfl,sO,dC,min p.schemas.length 6-(k+1),_,oM,Wk.less ?_,k+1,oM,rfl,rfl⟩;rw[List.take_succ_eq_append_getElem hkl,List.map_append,List.map_append];simp only[go_sem,wrap64s k oM,List.map_cons,List.map_nil,←List.map_take,Nat.reduceAdd,Nat.reduceEqDiff,Nat.reduceBEq,Nat.reduceLeDiff,reduceCtorEq,↓reduceIte];rfl
  ·obtain rfl:k=min p.schemas.length 6:=oM;rw[decide_eq_false hlt]at hc;have hc':(decide (((min p.schemas.length 6:Nat):Int)<(p.schemas.length:Int))&&decide (((min p.schemas.length 6:Nat):Int)<6))=false:=hc;simp only[go_sem,hc',Nat.reduceAdd,Nat.reduceEqDiff,Nat.reduceBEq,Nat.reduceLeDiff,reduceCtorEq,↓reduceIte];clear hc hc' hlt hk;generalize hm0:min p.schemas.length 6=m0 at*;generalize hX0:(((p.schemas.take m0).map shC).map encC)=X0;refine wpc_loop (fun r s=>∃k:Nat,k≤min p.endpoints.length 6∧r=min p.endpoints.length 6-k∧
    s=⟨[(1,.ref 1 0),(2,.ref 2 0),(3,.ref 3 0),(6,.d (.int .i64 k))],[(1,.box [.d (.int .i64 p.version),.d (.list 9 (p.schemas.map encC)),.d (.list 7 (p.endpoints.map encEp)),.d (.list 4 (p.services.map encX)),.d (.list 3 (p.routes.map encO))]),(2,.box [.d (.int .i64 0),.d (.nil 9),.d (.nil 7),.d (.nil 4),.d (.nil 3)]),(3,.box [.d (.int .i64 p.version),.ms 43 m0,.ms 84 k,.d (.nil 4),.d (.nil 3)]),(43,.row m0 9 X0),(84,.row k 7 (((p.endpoints.take k).map shE).map encEp))]⟩) ?_ ?_
   ·refine⟨_,_,(Wk.nilB 3 2 84 7 _ rfl rfl rfl dC).trans (Wk.less ?_),0,Nat.zero_le _,rfl,rfl⟩;simp[put,go_sem]
   ·rintro r s ⟨k,hk,rfl,rfl⟩;have hc:=two_c p.endpoints.length 6 k;refine zz4 ?_;refine sq (decide ((k:Int)<6)) ?_ ?_
    ·exact zz trivial
    by_cases hlt:k<min p.endpoints.length 6
    ·have hkl:k<p.endpoints.length:=oM;have hx:=nth_map encEp hkl;rw[decide_eq_true hlt]at hc;have hc':(decide ((k:Int)<(p.endpoints.length:Int))&&decide ((k:Int)<6))=true:=hc;have e3:=mnT (p.endpoints[k].widths.map (Dat.int .i64)) 8 8 rfl;have b3:=mnB p.endpoints[k].widths.length 8 dC;simp only[List.length_map]at e3;simp only[go_sem,hc',hx,Int.toNat_natCast,List.length_map,encEp,Nat.reduceAdd,Nat.reduceEqDiff,Nat.reduceBEq,Nat.reduceLeDiff,reduceCtorEq,↓reduceIte];refine⟨oM,wpsL_call rfl (c11 p.endpoints[k].name) trivial ?_⟩;refine zz ?_;refine wpsL_call rfl (c11 p.endpoints[k].schema) trivial ?_;simp only[go_sem,e3,List.length_map,Nat.reduceAdd,Nat.reduceEqDiff,Nat.reduceBEq,Nat.reduceLeDiff,reduceCtorEq,↓reduceIte];refine⟨b3,dC,fun y hy=>by simp only[List.mem_singleton]at hy;subst hy;rfl,sO,min p.endpoints.length 6-(k+1),_,oM,Wk.less ?_,k+1,oM,rfl,rfl⟩;rw[List.take_succ_eq_append_getElem hkl,List.map_append,List.map_append];simp only[go_sem,wrap64s k oM,List.map_cons,List.map_nil,←List.map_take,Nat.reduceAdd,Nat.reduceEqDiff,Nat.reduceBEq,Nat.reduceLeDiff,reduceCtorEq,↓reduceIte];rfl
    ·obtain rfl:k=min p.endpoints.length 6:=oM;rw[decide_eq_false hlt]at hc;have hc':(decide (((min p.endpoints.length 6:Nat):Int)<(p.endpoints.length:Int))&&decide (((min p.endpoints.length 6:Nat):Int)<6))=false:=hc;simp only[go_sem,hc',Nat.reduceAdd,Nat.reduceEqDiff,Nat.reduceBEq,Nat.reduceLeDiff,reduceCtorEq,↓reduceIte];clear hc hc' hlt hk;generalize hm1:min p.endpoints.length 6=m1 at*;generalize hX1:(((p.endpoints.take m1).map shE).map encEp)=X1;refine wpc_loop (fun r s=>∃k:Nat,k≤min p.services.length 6∧r=min p.services.length 6-k∧
      s=⟨[(1,.ref 1 0),(2,.ref 2 0),(3,.ref 3 0),(8,.d (.int .i64 k))],[(1,.box [.d (.int .i64 p.version),.d (.list 9 (p.schemas.map encC)),.d (.list 7 (p.endpoints.map encEp)),.d (.list 4 (p.services.map encX)),.d (.list 3 (p.routes.map encO))]),(2,.box [.d (.int .i64 0),.d (.nil 9),.d (.nil 7),.d (.nil 4),.d (.nil 3)]),(3,.box [.d (.int .i64 p.version),.ms 43 m0,.ms 84 m1,.ms 118 k,.d (.nil 3)]),(43,.row m0 9 X0),(84,.row m1 7 X1),(118,.row k 4 (((p.services.take k).map shX).map encX))]⟩) ?_ ?_
     ·refine⟨_,_,(Wk.nilB 3 3 118 4 _ rfl rfl rfl dC).trans (Wk.less ?_),0,Nat.zero_le _,rfl,rfl⟩;simp[put,go_sem]
     ·rintro r s ⟨k,hk,rfl,rfl⟩;have hc:=two_c p.services.length 6 k;refine zz4 ?_;refine sq (decide ((k:Int)<6)) ?_ ?_
      ·exact zz trivial
      by_cases hlt:k<min p.services.length 6
      ·have hkl:k<p.services.length:=oM;have hx:=nth_map encX hkl;rw[decide_eq_true hlt]at hc;have hc':(decide ((k:Int)<(p.services.length:Int))&&decide ((k:Int)<6))=true:=hc;simp only[go_sem,hc',hx,Int.toNat_natCast,List.length_map,encX,Nat.reduceAdd,Nat.reduceEqDiff,Nat.reduceBEq,Nat.reduceLeDiff,reduceCtorEq,↓reduceIte];refine⟨oM,wpsL_call rfl (c11 p.services[k].name) trivial ?_⟩;refine zz ?_;refine wpsL_call rfl (c11 p.services[k].request) trivial ?_;refine zz ?_;refine wpsL_call rfl (c11 p.services[k].reply) trivial ?_;refine zz ?_;refine⟨dC,fun y hy=>by simp only[List.mem_singleton]at hy;subst hy;rfl,sO,min p.services.length 6-(k+1),_,oM,Wk.less ?_,k+1,oM,rfl,rfl⟩;rw[List.take_succ_eq_append_getElem hkl,List.map_append,List.map_append];simp only[go_sem,wrap64s k oM,List.map_cons,List.map_nil,←List.map_take,Nat.reduceAdd,Nat.reduceEqDiff,Nat.reduceBEq,Nat.reduceLeDiff,reduceCtorEq,↓reduceIte];rfl
      ·obtain rfl:k=min p.services.length 6:=oM;rw[decide_eq_false hlt]at hc;have hc':(decide (((min p.services.length 6:Nat):Int)<(p.services.length:Int))&&decide (((min p.services.length 6:Nat):Int)<6))=false:=hc;simp only[go_sem,hc',Nat.reduceAdd,Nat.reduceEqDiff,Nat.reduceBEq,Nat.reduceLeDiff,reduceCtorEq,↓reduceIte];clear hc hc' hlt hk;generalize hm2:min p.services.length 6=m2 at*;generalize hX2:(((p.services.take m2).map shX).map encX)=X2;refine wpc_loop (fun r s=>∃k:Nat,k≤min p.routes.length 6∧r=min p.routes.length 6-k∧
        s=⟨[(1,.ref 1 0),(2,.ref 2 0),(3,.ref 3 0),(10,.d (.int .i64 k))],[(1,.box [.d (.int .i64 p.version),.d (.list 9 (p.schemas.map encC)),.d (.list 7 (p.endpoints.map encEp)),.d (.list 4 (p.services.map encX)),.d (.list 3 (p.routes.map encO))]),(2,.box [.d (.int .i64 0),.d (.nil 9),.d (.nil 7),.d (.nil 4),.d (.nil 3)]),(3,.box [.d (.int .i64 p.version),.ms 43 m0,.ms 84 m1,.ms 118 m2,.ms 149 k]),(43,.row m0 9 X0),(84,.row m1 7 X1),(118,.row m2 4 X2),(149,.row k 3 (((p.routes.take k).map shO).map encO))]⟩) ?_ ?_
       ·refine⟨_,_,(Wk.nilB 3 4 149 3 _ rfl rfl rfl dC).trans (Wk.less ?_),0,Nat.zero_le _,rfl,rfl⟩;simp[put,go_sem]
       ·rintro r s ⟨k,hk,rfl,rfl⟩;have hc:=two_c p.routes.length 6 k;refine zz4 ?_;refine sq (decide ((k:Int)<6)) ?_ ?_
        ·exact zz trivial
        by_cases hlt:k<min p.routes.length 6
        ·have hkl:k<p.routes.length:=oM;have hx:=nth_map encO hkl;rw[decide_eq_true hlt]at hc;have hc':(decide ((k:Int)<(p.routes.length:Int))&&decide ((k:Int)<6))=true:=hc;simp only[go_sem,hc',hx,Int.toNat_natCast,List.length_map,encO,Nat.reduceAdd,Nat.reduceEqDiff,Nat.reduceBEq,Nat.reduceLeDiff,reduceCtorEq,↓reduceIte];refine⟨oM,wpsL_call rfl (c11 p.routes[k].name) trivial ?_⟩;refine zz ?_;refine wpsL_call rfl (c11 p.routes[k].src) trivial ?_;refine zz ?_;refine wpsL_call rfl (c13 p.routes[k].steps) trivial ?_;refine zz ?_;refine⟨fun y hy=>by simp only[List.mem_singleton]at hy;subst hy;rfl,sO,dC,min p.routes.length 6-(k+1),_,oM,Wk.less ?_,k+1,oM,rfl,rfl⟩;rw[List.take_succ_eq_append_getElem hkl,List.map_append,List.map_append];simp only[go_sem,wrap64s k oM,List.map_cons,List.map_nil,←List.map_take,Nat.reduceAdd,Nat.reduceEqDiff,Nat.reduceBEq,Nat.reduceLeDiff,reduceCtorEq,↓reduceIte];rfl
        ·obtain rfl:k=min p.routes.length 6:=oM;rw[decide_eq_false hlt]at hc;have hc':(decide (((min p.routes.length 6:Nat):Int)<(p.routes.length:Int))&&decide (((min p.routes.length 6:Nat):Int)<6))=false:=hc;simp only[go_sem,hc',Nat.reduceAdd,Nat.reduceEqDiff,Nat.reduceBEq,Nat.reduceLeDiff,reduceCtorEq,↓reduceIte];subst hX0 hX1 hX2 hm0 hm1 hm2;simp only[canonL_schs,canonL_epds,canonL_svcs,canonL_rous];rfl
end Go.Proofs
namespace Go.Proofs
open Go Av
variable {c:Nat}
theorem map_at{α β:Type}(f:α→β)(l:List α)(j:Nat):(l.map f)[j]? =(l[j]?).map f:=List.getElem?_map
theorem simRs(p:Prg):∀(l:List Rou) (i:Nat) (o:List Vis) (s:FN),(∀x∈l,hasE p x.src=true)→o.map Vis.before=s.bef→o.map Vis.behind=s.beh→
  (viRs p l i o).map Vis.before=(flRs p l s).bef∧(viRs p l i o).map Vis.behind=(flRs p l s).beh
 |[],i,o,s,_,h1,h2=>by rw[viRs,flRs];exact⟨h1,h2⟩
 |x::r,i,o,s,hE,h1,h2=>by
  rw[viRs,flRs];have hx:bgM p x.src=(bgF p x.src:Int):=by unfold bgM;rw[if_pos (hE x List.mem_cons_self)]
  rw[hx];have hpre:Pre (o,(bgF p x.src:Int)) ⟨s.bef,s.beh,(bgF p x.src:Int)⟩:=
   ⟨by rw[←h1];simp,by rw[←h2];simp,fun j=>by show(o[j]?).map Vis.before=s.bef[j]?;rw[←h1,map_at]⟩
  have hs:=simSs i p x.steps 0 [] (o,(bgF p x.src:Int)) ⟨s.bef,s.beh,(bgF p x.src:Int)⟩ hpre rfl;refine simRs p r (i+1) _ _ (fun y hy=>hE y (List.mem_cons_of_mem _ hy)) ?_ ?_
  ·refine List.ext_getElem? fun j=>?_
   rw[map_at];exact hs.bef j
  ·refine List.ext_getElem? fun j=>?_
   rw[map_at];by_cases hj:j<o.length
   ·obtain⟨a1,a2⟩:=hs.old j hj;rw[a1,a2];show(o[j]?).map Vis.behind=s.beh[j]?;rw[←h2,map_at]
   ·exact hs.new j (by show o.length≤j;omega)
theorem law_ok(p:Prg)(h:prbS p=[]):(visP p).map Vis.before=(flRs p p.routes ⟨[],[],0⟩).bef∧(visP p).map Vis.behind=(flRs p p.routes ⟨[],[],0⟩).beh:=by
 unfold visP;rw[if_pos h];exact simRs p p.routes 0 [] ⟨[],[],0⟩ (prbS_has h) rfl rfl
def szN:Nat→Nat
 |0=>8
 |n+1=>8*(1+4*(1+szN n))
def wtN:Nat→Nat
 |0=>8*46
 |n+1=>8*(46+4*wtN n)
theorem szSs_le:∀(l:List Ste),(∀x∈l,szS x≤c)→szSs l≤c*l.length
 |[],_=>by simp[szSs]
 |x::r,h=>by
  have h1:=szSs_le r fun y hy=>h y (List.mem_cons_of_mem _ hy)
  have h2:=h x List.mem_cons_self;rw[szSs,List.length_cons,Nat.mul_add];omega
theorem szBs_le:∀(l:List Brn),(∀x∈l,szB x≤c)→szBs l≤c*l.length
 |[],_=>by simp[szBs]
 |x::r,h=>by
  have h1:=szBs_le r fun y hy=>h y (List.mem_cons_of_mem _ hy)
  have h2:=h x List.mem_cons_self;rw[szBs,List.length_cons,Nat.mul_add];omega
theorem wtSs_le:∀(l:List Ste),(∀x∈l,wtS x≤c)→wtSs l≤c*l.length
 |[],_=>by simp[wtSs]
 |x::r,h=>by
  have h1:=wtSs_le r fun y hy=>h y (List.mem_cons_of_mem _ hy)
  have h2:=h x List.mem_cons_self;rw[wtSs,List.length_cons,Nat.mul_add];omega
theorem wtBs_le:∀(l:List Brn),(∀x∈l,wtB x≤c)→wtBs l≤c*l.length
 |[],_=>by simp[wtBs]
 |x::r,h=>by
  have h1:=wtBs_le r fun y hy=>h y (List.mem_cons_of_mem _ hy)
  have h2:=h x List.mem_cons_self;rw[wtBs,List.length_cons,Nat.mul_add];omega
theorem mul_le4{a b:Nat}(h:b≤c):a*b≤a*c:=Nat.mul_le_mul_left a h
theorem shS_szB(g:List Ste→List Ste)(n c w:Nat)(hg:∀l,szSs (g l)≤c∧wtSs (g l)≤w)(s:Ste):szS (shS g n s)≤1+4*(1+c)∧wtS (shS g n s)≤46+4*w:=by
 rw[szS_eq,wtS_eq];have e1:(shS g n s).branches=(s.branches.take (rnd n s.branches.length 4)).map fun x=>.mk (x.cond.take 2) (g x.steps):=rfl
 have e2:(shS g n s).calls=(s.calls.take 18).map cutK:=rfl;rw[e1,e2];have hlen:((s.branches.take (rnd n s.branches.length 4)).map fun x=>Brn.mk (x.cond.take 2) (g x.steps)).length≤4:=by
  rw[List.length_map,List.length_take];unfold rnd;split<;>omega
 have hc:((s.calls.take 18).map cutK).length≤18:=by rw[List.length_map,List.length_take];omega
 have h1:=szBs_le (c:=1+c) ((s.branches.take (rnd n s.branches.length 4)).map fun x=>Brn.mk (x.cond.take 2) (g x.steps)) (fun y hy=>by
  obtain⟨x,_,rfl⟩:=List.mem_map.1 hy;rw[szB];have:=(hg x.steps).1
  omega)
 have h2:=wtBs_le (c:=w) ((s.branches.take (rnd n s.branches.length 4)).map fun x=>Brn.mk (x.cond.take 2) (g x.steps)) (fun y hy=>by
  obtain⟨x,_,rfl⟩:=List.mem_map.1 hy;rw[wtB];exact(hg x.steps).2)
 have h3:=mul_le4 (a:=1+c) hlen;have h4:=mul_le4 (a:=w) hlen;omega
theorem shS_0(s:Ste):szS (shS id 0 s)≤1∧wtS (shS id 0 s)≤46:=by
 rw[szS_eq,wtS_eq];have e1:(shS id 0 s).branches=[]:=by simp[shS,Ste.branches,rnd]
 have e2:(shS id 0 s).calls=(s.calls.take 18).map cutK:=rfl;rw[e1,e2];have hc:((s.calls.take 18).map cutK).length≤18:=by rw[List.length_map,List.length_take];omega
 simp only[szBs,wtBs];omega
theorem len8{α:Type}(l:List Ste)(f:Ste→α):((l.take 8).map f).length≤8:=by rw[List.length_map,List.length_take];omega
theorem ssS_le:∀(n:Nat) (l:List Ste),szSs (ssS n l)≤szN n∧wtSs (ssS n l)≤wtN n
 |0,l=>by
  rw[ssS,szN,wtN];have h1:=szSs_le (c:=1) ((l.take 8).map (shS id 0)) (fun y hy=>by
   obtain⟨x,_,rfl⟩:=List.mem_map.1 hy;exact(shS_0 x).1)
  have h2:=wtSs_le (c:=46) ((l.take 8).map (shS id 0)) (fun y hy=>by
   obtain⟨x,_,rfl⟩:=List.mem_map.1 hy;exact(shS_0 x).2)
  have h3:=len8 l (shS id 0);omega
 |n+1,l=>by
  rw[ssS,szN,wtN];have h1:=szSs_le (c:=1+4*(1+szN n)) ((l.take 8).map (shS (ssS n) (n+1))) (fun y hy=>by
   obtain⟨x,_,rfl⟩:=List.mem_map.1 hy;exact(shS_szB (ssS n) (n+1) _ _ (ssS_le n) x).1)
  have h2:=wtSs_le (c:=46+4*wtN n) ((l.take 8).map (shS (ssS n) (n+1))) (fun y hy=>by
   obtain⟨x,_,rfl⟩:=List.mem_map.1 hy;exact(shS_szB (ssS n) (n+1) _ _ (ssS_le n) x).2)
  have h3:=len8 l (shS (ssS n) (n+1));have h4:=mul_le4 (a:=1+4*(1+szN n)) h3;have h5:=mul_le4 (a:=46+4*wtN n) h3;constructor<;>omega
theorem szRs_le:∀(l:List Rou),(∀x∈l,szSs x.steps≤c)→szRs l≤c*l.length
 |[],_=>by simp[szRs]
 |x::r,h=>by
  have h1:=szRs_le r fun y hy=>h y (List.mem_cons_of_mem _ hy)
  have h2:=h x List.mem_cons_self;rw[szRs,List.length_cons,Nat.mul_add];omega
theorem wtRs_le:∀(l:List Rou),(∀x∈l,wtSs x.steps≤c)→wtRs l≤(6+c)*l.length
 |[],_=>by simp[wtRs]
 |x::r,h=>by
  have h1:=wtRs_le r fun y hy=>h y (List.mem_cons_of_mem _ hy)
  have h2:=h x List.mem_cons_self;rw[wtRs,List.length_cons,Nat.mul_add];omega
theorem len6{α β:Type}(l:List α)(f:α→β):((l.take (min l.length 6)).map f).length≤6:=by rw[List.length_map,List.length_take];omega
theorem shP_sz(p:Prg):szRs (shP p).routes≤100000000:=by
 have h:=szRs_le (c:=szN 4) (shP p).routes (fun y hy=>by
  obtain⟨x,_,rfl⟩:=List.mem_map.1 hy;exact(ssS_le 4 x.steps).1)
 have h2:(shP p).routes.length≤6:=len6 p.routes shO;have h3:szN 4=9741608:=dC;rw[h3]at h;omega
theorem shP_wt(p:Prg):wtRs (shP p).routes+3*(shP p).schemas.length+4*(shP p).endpoints.length+4*(shP p).services.length≤8000000000:=by
 have h:=wtRs_le (c:=wtN 4) (shP p).routes (fun y hy=>by
  obtain⟨x,_,rfl⟩:=List.mem_map.1 hy;exact(ssS_le 4 x.steps).2)
 have h2:(shP p).routes.length≤6:=len6 p.routes shO;have h3:(shP p).schemas.length≤6:=len6 p.schemas shC;have h4:(shP p).endpoints.length≤6:=len6 p.endpoints shE;have h5:(shP p).services.length≤6:=len6 p.services shX;have h6:wtN 4≤400000000:=dC;have h7:(6+wtN 4)*(shP p).routes.length≤(6+400000000)*6:=Nat.mul_le_mul oM h2;omega
end Go.Proofs
