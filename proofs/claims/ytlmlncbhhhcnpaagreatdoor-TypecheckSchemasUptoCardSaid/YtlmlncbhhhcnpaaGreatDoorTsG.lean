/- Part G of a proof. -/
import Derived.Test.YtlmlncbhhhcnpaaGreatDoorTsF
import Derived.Test.YtlmlncbhhhcnpaaGreatDoorTsC
import Derived.Test.YtlmlncbhhhcnpaaGreatDoorTsA
import Derived.Shelf.SlGeneric
import Derived.Shelf.Sort.Plain
import Derived.Shelf.Slices.In.SortNone
import Derived.Shelf.Slices.CompactS
import Derived.Ground.Names2Prog
import Derived.Test.YtlmlncbhhhcnpaaGreatDoorProg
import Derived.Lib.RuneLoops
import Derived.WalkKit
import Derived.Laws.CopyRow
import Derived.Shelf.Spec.SlicesInsertGrow
import Derived.Shelf.Slices.Clone
set_option linter.unusedVariables false
set_option linter.unusedSimpArgs false
set_option linter.unusedSectionVars false
set_option linter.constructorNameAsVariable false
set_option linter.unnecessarySimpa false
set_option maxRecDepth 10000
namespace Go.Proofs
open Go Av
variable {n:Int}
noncomputable abbrev upsL(c:Dat)(e x n:Int):List (Nat×Av.Obj):=[(1000,afterL c x),(1002,.box [.d (.int .i64 (if x=0 then e else x))]),(1004,.box [.d (.int .i64 n)])]
theorem closedU(c:Dat)(e n x m:Int):closed (hputs (get (TL c e n)) (upsL c e x m)):=by
 refine closed_puts ?_;simp only[upsL,TL];unfold afterL;split<;>simp[TL,puts,put,closedH,objIn,idsInL,idsIn,idsInT,tmL,lpL,rulesD,Av.get]
theorem closedL(c:Dat)(e n:Int):closed (get (TL c e n)):=by
 refine closed_of ?_;simp[TL,closedH,objIn,idsInL,idsIn,idsInT,tmL,lpL,rulesD,Av.get]
theorem TL_dom{c:Dat}{e:Int}{i:Nat}(h:(get (TL c e n) i).isSome=true):i=1000∨i=1002∨i=1003∨i=1004:=by
 simp only[TL,Av.get]at h;split at h
 ·rename_i e;exact .inl e.symm
 ·split at h
  ·rename_i e;exact .inr (.inl e.symm)
  ·split at h
   ·rename_i e;exact .inr (.inr (.inl e.symm))
   ·split at h
    ·rename_i e;exact .inr (.inr (.inr e.symm))
    ·cases h
theorem ren_id_dat(ds:List Dat):renL (fun i:Nat=>i) (ds.map .d)=ds.map .d:=by
 induction ds with
 |nil=>rfl
 |cons d r ih=>simp only[List.map_cons,renL,Av.ren,ih]
theorem yield30(c:Dat)(e n level:Int)(v:Val)(hn:0≤n∧n≤4096):
  CT .yld [.mp 1000,.d (.int .i64 level),.d (encV v)] ((TL c e n).map fun x=>(x.1,some x.2)) (.d (.bool (chkE (n+1) level v==0))) (upsL c e (chkE (n+1) level v) (n+1)):=by
 have:=(round30 c e n level v hn).call (fun i=>i) ⟨_,rfl⟩ (fun i j _ _ h=>h) (by simp[idsIn]) (closedL c e n) [] (by simp[Av.get]) (closedU c e n _ _) trivial;have ha:∀x,(afterL c x).ren (fun i=>i)=afterL c x:=by
  intro x;unfold afterL;split<;>simp[Obj.ren,renT,tmL,lpL,Av.ren]
 simp only[ha,upsL,List.map_cons,List.map_nil]at this;simp only[TL,upsL,List.map_cons,List.map_nil,Obj.ren,Av.ren,renL,ren_id_dat,lpL,tmL,renT,List.append_nil]at this⊢;exact this
def foldV(f:Int→Val→Int×Int):Int→List Val→Int×Int
 |n,[]=>(0,n)
 |n,v::r=>if(f n v).1≠0 then f n v else foldV f (f n v).2 r
def visF:Nat→Int→Val→Int×Int
 |0,n,v=>(chkE (n+1) 9 v,n+1)
 |k+1,n,v=>if chkE (n+1) (8-k) v≠0 then(chkE (n+1) (8-k) v,n+1)else foldV (visF k) (n+1) (partsV v)
theorem chk9(n:Int)(v:Val):chkE n 9 v≠0:=by
 unfold chkE;split
 ·decide
 ·rw[if_pos dC];decide
theorem chk_n{level:Int}{v:Val}(h:chkE n level v=0):n≤4096:=by
 unfold chkE at h;split at h
 ·cases h
 ·rename_i hx;simpa using hx
theorem foldV_n{f:Int→Val→Int×Int}(hf:∀n v,0≤n→n≤4096→(f n v).1=0→0≤(f n v).2∧(f n v).2≤4096):∀(l:List Val) (n:Int),0≤n→n≤4096→(foldV f n l).1=0→0≤(foldV f n l).2∧(foldV f n l).2≤4096
 |[],n,h0,h1,h=>⟨h0,h1⟩
 |v::r,n,h0,h1,h=>by
  simp only[foldV]at h⊢;split at h
  ·rename_i hx;exact absurd h hx
  ·rename_i hx;rw[if_neg hx];simp only[ne_eq,Decidable.not_not]at hx;obtain⟨q0,q1⟩:=hf n v h0 h1 hx;exact foldV_n hf r _ q0 q1 h
theorem visF_n:∀(k:Nat) (n:Int) (v:Val),0≤n→n≤4096→(visF k n v).1=0→0≤(visF k n v).2∧(visF k n v).2≤4096
 |0,n,v,h0,h1,h=>absurd h (chk9 _ _)
 |k+1,n,v,h0,h1,h=>by
  simp only[visF]at h⊢;split at h
  ·rename_i hx;exact absurd h hx
  ·rename_i hx;rw[if_neg hx];simp only[ne_eq,Decidable.not_not]at hx;exact foldV_n (visF_n k) _ _ oM (chk_n hx) h
theorem stop177(c:Dat)(e n level:Int)(v:Val)(h0:0≤n)(h1:n≤4096)(hx:chkE (n+1) level v≠0):
  KT 344 [.d (encV v),.d (.int .i64 level),.mp 1000] (TL c e n) (.d (.bool false)) (upsL c e (chkE (n+1) level v) (n+1)):=by
 refine ok344.co (k:=false) (closedU c e n _ _) trivial ?_;have hy:=yield30 c e n level v ⟨h0,h1⟩;have hb:(chkE (n+1) level v==0)=false:=by simp[hx]
 rw[encV_eq]at hy⊢;rw[hb]at hy;simp only[TL,go_sem,ir344,simprocAttr];refine wps_call rfl hy ⟨rfl,rfl,rfl,rfl,trivial⟩ ?_;refine zz ?_;exact⟨fun _=>trivial,fun h=>by cases h⟩
theorem call344{c:Dat}{level e x m:Int}{v:Val}(h:KT 344 [.d (encV v),.d (.int .i64 level),.mp 1000] (TL c e n) (.d (.bool (x==0))) (upsL c e x m)):
  CT 344 [.d (encV v),.d (.int .i64 level),.mp 1000] ((TL c e n).map fun x=>(x.1,some x.2)) (.d (.bool (x==0))) (upsL c e x m):=by
 have:=h.call (fun i=>i) (fun i hi=>by rcases TL_dom hi with rfl|rfl|rfl|rfl<;>decide) (fun i j _ _ h=>h) (by simp[idsIn,Av.get]) (closedL c e n) [] (by simp[Av.get]) (closedU c e n _ _) trivial;have ha:∀x,(afterL c x).ren (fun i=>i)=afterL c x:=by
  intro x;unfold afterL;split<;>simp[Obj.ren,renT,tmL,lpL,Av.ren]
 simp only[ha,upsL,List.map_cons,List.map_nil]at this;simp only[TL,upsL,List.map_cons,List.map_nil,Obj.ren,Av.ren,renL,ren_id_dat,lpL,tmL,renT,List.append_nil]at this⊢;exact this
theorem walk344(c:Dat):∀(k:Nat) (e n:Int) (v:Val),k≤8→0≤n→n≤4096→
  KT 344 [.d (encV v),.d (.int .i64 (9-k)),.mp 1000] (TL c e n) (.d (.bool ((visF k n v).1==0))) (upsL c e (visF k n v).1 (visF k n v).2):=by
 intro k
 induction k with
 |zero=>
  intro e n v hk h0 h1;have hb:(chkE (n+1) 9 v==0)=false:=by simp[chk9]
  simp only[visF,hb];exact stop177 c e n 9 v h0 h1 (chk9 _ _)
 |succ k ih=>
  intro e n v hk h0 h1;have hl:9-((k+1:Nat):Int)=8-k:=oM;rw[hl];by_cases hx:chkE (n+1) (8-k) v=0
  ·refine Con.of_fits ok344.has fun hfit=>?_
   obtain⟨_,f2,f3,_⟩:=fits_V (hfit (encV v) sP);have hv:visF (k+1) n v=foldV (visF k) (n+1) (partsV v):=by rw[visF,if_neg (by simp[hx])]
   rw[hv];generalize hF:foldV (visF k) (n+1) (partsV v)=F;refine ok344.co (k:=false) (closedU c e n _ _) trivial ?_;have hy:=yield30 c e n (8-k) v ⟨h0,h1⟩;have h217:=(walk387 v f3).call trivial;have hpl:=partsV_len v f2 f3;rw[hx]at hy;have hm:=chk_n hx;rw[encV_eq]at hy h217⊢;simp only[TL,go_sem,ir344,simprocAttr];refine wps_call rfl hy ⟨rfl,rfl,rfl,rfl,trivial⟩ ?_;simp only[go_sem,afterL,beq_self_eq_true,Bool.not_true,simprocAttr];refine wc h217 ?_;clear h217 hy hv hfit;generalize hP:partsV v=ps at*;simp only[List.length_map];refine wpc_loop (fun r s=>∃(j:Nat) (m:Int),j≤ps.length∧r=ps.length-j∧0≤m∧m≤4096∧foldV (visF k) m (ps.drop j)=F∧
    s=⟨[(1,.d (.int .i64 (8-k))),(2,.mp 1000),(15,.d (.list 6 (ps.map encV))),(16,.d (.int .i64 ps.length)),(17,.d (.int .i64 j))],
     [(1000,.lp (lpL (tmL c) .ready none)),(1002,.box [.d (.int .i64 e)]),(1003,.box (rulesD.map .d)),(1004,.box [.d (.int .i64 m)])]⟩) ?_ ?_
   ·refine⟨_,_,Wk.less ?_,0,n+1,Nat.zero_le _,rfl,oM,hm,hF,rfl⟩;simp[go_sem,lpL,tmL,rulesD]
   ·rintro r s ⟨j,m,hj,rfl,hm0,hm1,hinv,rfl⟩;by_cases hlt:j<ps.length
    ·have hx':=nth_encV hlt;have hd:=dT hlt;have hw:IntKind.i64.wrap (8-(k:Int)+1)=9-k:=by rw[wrap64 oM oM];omega
     have hc:=call344 (ih e m ps[j] oM hm0 hm1);have hn:=visF_n k m ps[j] hm0 hm1;rw[List.drop_eq_getElem_cons hlt,foldV]at hinv;generalize hV:visF k m ps[j]=V at*;rw[encV_eq]at hc;refine zz38 ?_;refine⟨oM,wps_call rfl hc ⟨rfl,rfl,rfl,rfl,trivial⟩ ?_⟩;by_cases h0:V.1=0
     ·rw[if_neg (by simp[h0])]at hinv;simp only[go_sem,h0,afterL,beq_self_eq_true,Bool.not_true,simprocAttr];refine⟨ps.length-(j+1),_,oM,Wk.less ?_,j+1,V.2,oM,rfl,(hn h0).1,(hn h0).2,hinv,rfl⟩;simp[go_sem,wrap64s j oM,lpL,tmL,rulesD]
     ·rw[if_pos h0]at hinv;have hb:(V.1==0)=false:=by simp[h0]
      subst hinv;simp only[go_sem,hb,Bool.not_false,simprocAttr]
    ·have hd:=dF hlt;obtain rfl:j=ps.length:=oM;rw[List.drop_length,foldV]at hinv;subst hinv;simp only[go_sem,hd,afterL,beq_self_eq_true,Bool.not_true,simprocAttr]
  ·have hb:(chkE (n+1) (8-k) v==0)=false:=by simp[hx]
   have hv:visF (k+1) n v=(chkE (n+1) (8-k) v,n+1):=by rw[visF,if_pos hx]
   rw[hv];simp only[hb];exact stop177 c e n _ v h0 h1 hx
def chkV(v:Val):Int:=(visF 8 0 v).1
theorem walk343(v:Val)(c:Dat)(e:Int):
  KT 343 [.mp 1000,.d (.ptr (encV v).cells)] (TL c e 0) (.tup []) (upsL c e (visF 8 0 v).1 (visF 8 0 v).2):=by
 refine ok343.co (k:=false) (closedU c e 0 _ _) trivial ?_;have hc:=call344 (walk344 c 8 e 0 v dC dC dC);rw[encV_eq]at hc⊢;simp only[TL,go_sem,ir343,simprocAttr];have e1:(9:Int)-((8:Nat):Int)=1:=rfl;rw[e1]at hc;refine wps_call rfl hc ⟨rfl,rfl,rfl,rfl,trivial⟩ ?_;exact zz trivial
noncomputable def lp30(c:Dat)(s:LoopState)(j:Option Code):Av.Obj:=.lp ⟨[(2,.ref 2 0),(3,.ref 3 0),(4,.ref 4 0),(10,.d c)],46,#[11,12],subC (codeOf Tryz.f247) [1,1,1,0,1,0,0],subC (codeOf Tryz.f247) [1,1,1,0,1,0,1],s,j⟩
theorem call343(v:Val)(c:Dat)(e:Int):
  CT 343 [.mp 57,.d (.ptr (encV v).cells)] [(57,some (lp30 c .ready none)),(2,some (.box [.d (.int .i64 e)])),(3,some (.box (rulesD.map .d))),(4,some (.box [.d (.int .i64 0)]))] (.tup [])
   [(57,if(visF 8 0 v).1=0 then lp30 c .ready none else lp30 c .done (some .ret)),(2,.box [.d (.int .i64 (if(visF 8 0 v).1=0 then e else(visF 8 0 v).1))]),(4,.box [.d (.int .i64 (visF 8 0 v).2)])]:=by
 have hd:∀i x m,(hputs (get (TL c e 0)) (upsL c e x m) i).isSome=true→i=1000∨i=1002∨i=1003∨i=1004:=by
  intro i x m h;rw[←get_puts]at h;have:(get (TL c e 0) i).isSome=true:=by
   simp only[TL,upsL,puts,put,simprocAttr]at h;simp only[Av.get]at h⊢;split at h
   ·simp[*]
   ·split at h
    ·simp[*]
    ·split at h
     ·simp[*]
     ·split at h
      ·simp[*]
      ·cases h
  exact TL_dom this
 have:=(walk343 v c e).call (fun i=>if i=1000 then 57 else i-1000) (fun i hi=>by rcases TL_dom hi with rfl|rfl|rfl|rfl<;>decide)
  (fun i j hi hj h=>by rcases hd i _ _ hi with rfl|rfl|rfl|rfl<;>rcases hd j _ _ hj with rfl|rfl|rfl|rfl<;>first|rfl|simp at h) (by simp[idsIn,Av.get]) (closedL c e 0) [] (by simp[Av.get]) (closedU c e 0 _ _) trivial
 have ha:∀x,(afterL c x).ren (fun i=>if i=1000 then 57 else i-1000)=if x=0 then lp30 c .ready none else lp30 c .done (some .ret):=by
  intro x;unfold afterL;split<;>simp[Obj.ren,renT,tmL,lpL,lp30,Av.ren]
 have hr:(Obj.box (rulesD.map .d)).ren (fun i=>if i=1000 then 57 else i-1000)=.box (rulesD.map .d):=rfl;simp only[ha,hr,TL,upsL,List.map_cons,List.map_nil]at this;simp only[List.map_cons,List.map_nil,Obj.ren,Av.ren,renL,lpL,tmL,renT,List.append_nil,Nat.reduceSub,simprocAttr]at this;exact this
theorem wpc_rng{P:Program}{D:Nat→Prop}{f:Opd}{N lid:Nat}{ps:Array Nat}{c1 c2:Code}{asg body:Ic}{Q:Exit→St→Prop}{st:St}{g:Nat}{vs:List Av}{T:List (Nat×Option Av.Obj)}{v:Av}
  {ups:List (Nat×Av.Obj)}{l:Lp}(hno:get st.hp lid=none)(ht:targetV (get st.tm) (.dyn f) [.mp lid]=some (.fn g,vs))(hh:Has P g)(hc:CallOK P g vs T v ups)
  (hT:tgets (Av.upd (get st.hp) lid (some (.lp ⟨st.tm,N,ps,c1,c2,.ready,none⟩))) T)(hl:hputs (Av.upd (get st.hp) lid (some (.lp ⟨st.tm,N,ps,c1,c2,.ready,none⟩))) ups lid=some (.lp l))(hb:l.s≠ .busy)
  (hj:(l.j=none∧Q .normal ⟨st.tm,put (puts st.hp ups) lid .gone⟩)∨(l.j=some .ret∧Q .ret ⟨st.tm,put (puts st.hp ups) lid .gone⟩)):wpc P D (.rng f N lid ps c1 c2 asg body) Q st:=by
 simp only[wpc];refine⟨hno,fun _ _=>?_⟩;rw[ht];refine⟨T,v,ups,hh,hc,hT,put (puts st.hp ups) lid .gone,l,fun i hi=>by rw[get_put,if_neg hi,get_puts],by rw[get_put,if_pos rfl],hl,hb,?_⟩;rcases hj with⟨h,q⟩|⟨h,q⟩<;>rw[h]<;>exact q
theorem walk247(v:Val):PT 247 [encV v] (.d (.int .i64 (chkV v))):=by
 refine ok247.pc ?_;have h91:=(walk281 v).call trivial;have h90:=walk280.call trivial;have h176:=call343 v (.fn (.func 343) [] [.ptr (encV v).cells]) 0;rw[encV_eq]at h91 h176⊢;simp only[go_sem,ir247,simprocAttr];refine wn h90 ?_;simp only[rulesD,go_sem,simprocAttr];refine wc h91 ?_;by_cases hx:(visF 8 0 v).1=0
 ·simp only[hx,↓reduceIte]at h176;refine wpc_rng rfl rfl ok343.has h176 ⟨rfl,rfl,rfl,rfl,trivial⟩ rfl sP (.inl ⟨rfl,?_⟩);simp only[go_sem,chkV,hx,simprocAttr]
 ·simp only[hx,↓reduceIte]at h176;refine wpc_rng rfl rfl ok343.has h176 ⟨rfl,rfl,rfl,rfl,trivial⟩ rfl sP (.inr ⟨rfl,?_⟩);simp only[go_sem,chkV,simprocAttr]
end Go.Proofs
namespace Go.Proofs
open Go Av
theorem two_dom{o1 o2:Av.Obj}{i:Nat}(h:(get [(1000,o1),(1001,o2)] i).isSome=true):i=1000∨i=1001:=by
 simp only[Av.get]at h;split at h
 ·rename_i e;exact .inl e.symm
 ·split at h
  ·rename_i e;exact .inr e.symm
  ·cases h
theorem Con.two{P:Program}{f:Nat}{args:List Av}{o1 o2:Av.Obj}{r:Dat}(h:Con P f args [(1000,o1),(1001,o2)] (.d r) [])(i j:Nat)(hij:i≠j)
  (hargs:∀c∈args,inT (get [(1000,o1),(1001,o2)]) c)(hcl:closed (get [(1000,o1),(1001,o2)])):
  CallOK P f (args.map (Av.ren fun n=>if n=1000 then i else j)) [(i,some (o1.ren fun n=>if n=1000 then i else j)),(j,some (o2.ren fun n=>if n=1000 then i else j))] (.d r) []:=by
 have:=h.call (fun n=>if n=1000 then i else j) (fun k hk=>by rcases two_dom hk with rfl|rfl<;>decide) (fun a b ha hb e=>?_) hargs hcl [] sP hcl trivial
 ·simpa[Av.ren]using this
 ·rcases two_dom ha with rfl|rfl<;>rcases two_dom hb with rfl|rfl
  ·rfl
  ·simp at e;exact absurd e hij
  ·simp at e;exact absurd e.symm hij
  ·rfl
end Go.Proofs
namespace Go.Proofs
open Go.Shelf
end Go.Proofs
namespace Go.Proofs
open Go Av
end Go.Proofs
namespace Go.Proofs
open Go Av Go.RowKit
end Go.Proofs
namespace Go.Proofs
open Go Av
end Go.Proofs
namespace Go.Proofs
open Go Av Go.RowKit Go.Shelf
end Go.Proofs
namespace Av
open Go
end Av
namespace Go.Proofs
open Go Av Go.RowKit Go.Shelf
theorem take_get{α:Type}{l:List α}{m j:Nat}{v:α}(h:(l.take m)[j]? =some v):l[j]? =some v:=by
 rw[List.getElem?_take]at h;split at h
 ·exact h
 ·cases h
end Go.Proofs
namespace Go.Proofs
open Go Av Go.RowKit Go.Shelf
variable {A:Nat→Prop}{w:World}{F:List Dat}{V:List Value}
def Pt(A:Nat→Prop)(w:World)(F:List Dat)(V:List Value):Prop:=F.length=V.length∧∀(j:Nat) c v,F[j]? =some c→V[j]? =some v→Rep A w c v∧v.oneCell'=true
theorem Pt.app{F':List Dat}{V':List Value}(h:Pt A w F V)(h':Pt A w F' V'):Pt A w (F++F') (V++V'):=by
 refine⟨by rw[List.length_append,List.length_append,h.1,h'.1],fun j c v hc hv=>?_⟩;by_cases hj:j<F.length
 ·rw[List.getElem?_append_left hj]at hc;rw[List.getElem?_append_left (by rw[←h.1];exact hj)]at hv;exact h.2 j c v hc hv
 ·rw[List.getElem?_append_right oM]at hc;rw[List.getElem?_append_right (by rw[←h.1];omega),←h.1]at hv;exact h'.2 _ c v hc hv
theorem Pt.take(h:Pt A w F V)(k:Nat):Pt A w (F.take k) (V.take k):=
 ⟨by simp[h.1],fun j c v hc hv=>h.2 j c v (take_get hc) (take_get hv)⟩
theorem Pt.drop(h:Pt A w F V)(k:Nat):Pt A w (F.drop k) (V.drop k):=
 ⟨by simp[h.1],fun j c v hc hv=>by
  rw[List.getElem?_drop]at hc hv;exact h.2 _ c v hc hv⟩
theorem Pt.one{R:List Value}(h:Pt A w F V)(j:Nat)(v:Value)(hj:j<F.length)(hv:((V++R).toArray)[j]? =some v):v.oneCell'=true:=by
 rw[List.getElem?_toArray,List.getElem?_append_left (by rw[←h.1];exact hj)]at hv;exact(h.2 j _ v (List.getElem?_eq_getElem hj) hv).2
theorem Pt.rep{R:List Value}(h:Pt A w F V)(j:Nat)(c:Dat)(v:Value)(hc:F[j]? =some c)(hv:((V++R).toArray)[j]? =some v):Rep A w c v:=by
 have hj:j<F.length:=(List.getElem?_eq_some_iff.1 hc).1;rw[List.getElem?_toArray,List.getElem?_append_left (by rw[←h.1];exact hj)]at hv;exact(h.2 j c v hc hv).1
end Go.Proofs
namespace Go.Proofs
open Go Av
open Av.Y
def ir221:Ic:=q (R (ox 1 0<|oN 2 yG<|N) [0])<|q (R (of 6 1 3<|oL 7 7 6<|cl 8 174 [t 7]<|of 9 1 3<|oS 7 9 8<|N) [6,7,8,9])<|q (R (of 10 1 10<|ol 11 10<|oh 12 11<|oo 13 (.mks 6 [.int .i64 0,.int .i64 0,.int .i64 0,.str [],.nil 6,.nil 7] (i 0) (t 12))<|om 3 13<|N) [10,11,12,13])<|q (q (R (of 14 1 10<|ol 15 14<|oh 16 15<|oz 17 0<|N) [14])<|D (.block 0<|.loop (q (.reg (ot 18 .lss 17 16<|N))<|q (D (I 18 S (E 0)) [18])<|q (D (.block 1<|q (R (oa true 19 6 15 17<|oL 20 6 19<|oN 5 y6<|oS 6 5 20<|N) [19,20])<|R (om 21 3<|oL 22 6 5<|cl 23 264 [t 22]<|oo 24 (.bls 6 [t 23])<|oo 25 (.app 6 (t 21) (t 24))<|om 3 25<|N) [5,21,22,23,24,25]) [])<|R (oi 26 .add 17 1<|om 17 26<|N) [26])) [15,16,17,18,5])<|q (R (om 27 3<|of 28 1 10<|os 28 27<|N) [3,27,28])<|q (R (oL 29 11 1<|oS 11 2 29<|N) [1,29])<|.ret
theorem ok221:FT 221 30 ir221 [.cell 2 (some 11)]:=.o Tryz.func221
def ir174:Ic:=q (R (ox 1 0<|oN 2 yT<|N) [0])<|q (R (of 9 1 5<|ol 10 9<|oh 11 10<|oo 12 (.mks 7 [.int .i64 0,.int .i64 0,.int .i64 0,.int .i64 0,.nil 1,.nil 7,.nil 11] (i 0) (t 11))<|om 3 12<|N) [9,10,11,12])<|q (q (R (of 13 1 5<|ol 14 13<|oh 15 14<|oz 16 0<|N) [13])<|D (.block 0<|.loop (q (.reg (ot 17 .lss 16 15<|N))<|q (D (I 17 S (E 0)) [17])<|q (D (.block 1<|q (R (oa true 18 7 14 16<|oL 19 7 18<|oN 5 yT<|oS 7 5 19<|N) [18,19])<|R (om 20 3<|oL 21 7 5<|cl 22 174 [t 21]<|oo 23 (.bls 7 [t 22])<|oo 24 (.app 7 (t 20) (t 23))<|om 3 24<|N) [5,20,21,22,23,24]) [])<|R (oi 25 .add 16 1<|om 16 25<|N) [25])) [14,15,16,17,5])<|q (R (of 26 1 6<|ol 27 26<|oh 28 27<|oo 29 (.mks 11 [.int .i64 0,.str [],.int .i64 0,.int .i64 0,.int .i64 0,.int .i64 0,.int .i64 0,.nil 1,.nil 7,.nil 11,.nil 6] (i 0) (t 28))<|om 6 29<|N) [26,27,28,29])<|q (q (R (of 30 1 6<|ol 31 30<|oh 32 31<|oz 33 0<|N) [30])<|D (.block 2<|.loop (q (.reg (ot 34 .lss 33 32<|N))<|q (D (I 34 S (E 2)) [34])<|q (D (.block 3<|q (R (oa true 35 11 31 33<|oL 36 11 35<|oN 8 yG<|oS 11 8 36<|N) [35,36])<|R (om 37 6<|oL 38 11 8<|cl 39 221 [t 38]<|oo 40 (.bls 11 [t 39])<|oo 41 (.app 11 (t 37) (t 40))<|om 6 41<|N) [8,37,38,39,40,41]) [])<|R (oi 42 .add 33 1<|om 33 42<|N) [42])) [31,32,33,34,8])<|q (R (of 43 1 4<|ol 44 43<|cl 45 222 [t 44]<|om 46 3<|om 47 6<|of 48 1 4<|os 48 45<|of 49 1 5<|os 49 46<|of 50 1 6<|os 50 47<|N) [3,6,43,44,45,46,47,48,49,50])<|q (R (oL 51 7 1<|oS 7 2 51<|N) [1,51])<|.ret
theorem ok174:FT 174 52 ir174 [.cell 2 (some 7)]:=.o Tryz.func174
end Go.Proofs
namespace Go.Proofs
open Go Av
mutual
theorem okV_fits:∀v:Val,fits (encV v)→okV v
 |.mk k i s t l f,h=>by
  have h':l.length≤68719476736∧f.length≤68719476736:=(fits_V3 h).2;rw[encV_eq]at h;simp only[fits,fitsL,and_true,Val.list,Val.fields]at h;simp only[okV];exact⟨h'.1,h'.2,okVs_fits l fun x hx=>fitsL_iff.1 h.2.2.2.2.1.2 _ (List.mem_map.2 ⟨x,hx,rfl⟩),okFs_fits f fun x hx=>fitsL_iff.1 h.2.2.2.2.2.2 _ (List.mem_map.2 ⟨x,hx,rfl⟩)⟩
theorem okVs_fits:∀l:List Val,(∀x∈l,fits (encV x))→okVs l
 |[],_=>by simp[okVs]
 |v::r,h=>by
  simp only[okVs];exact⟨okV_fits v (h v (List.mem_cons_self)),okVs_fits r fun x hx=>h x (List.mem_cons_of_mem _ hx)⟩
theorem okFs_fits:∀l:List Fld,(∀x∈l,fits (encF x))→okFs l
 |[],_=>by simp[okFs]
 |.mk n v::r,h=>by
  have h1:=h (.mk n v) (List.mem_cons_self);rw[encF_eq]at h1;have h2:fits (encV v):=by
   rw[encV_eq];simp only[fits,fitsL,and_true,Fld.value]at h1⊢;exact h1.2
  simp only[okFs];exact⟨okV_fits v h2,okFs_fits r fun x hx=>h x (List.mem_cons_of_mem _ hx)⟩
end
theorem p264(a:Val):PT 264 [encV a] (.d (encV a)):=PCon.of_fits ok264.has fun h=>walk264 a (okV_fits a (h _ (List.mem_cons_self)))
theorem p346(v:Val)(n:Str):PT 346 [encV v,.str n] (.d (.int .i64 (ixN n v.fields))):=PCon.of_fits ok346.has fun h=>walk346 v n (fits_V3 (h _ (List.mem_cons_self))).2.2
theorem p113(s:Str):PT 113 [.str s] (.d (.bool (nameS s))):=PCon.of_fits ok113.has fun h=>walk113 s (by have:=h _ (List.mem_cons_self);simpa[fits]using this)
def idxF(n:Str)(l:List Fld):Option Nat:=l.findIdx? fun f=>f.name==n
theorem ixN_eq(n:Str)(l:List Fld):ixN n l=match idxF n l with|some k=>(k:Int)|none=> -1:=rfl
def fieldR(v:Val)(n:Str):Val×Bool:=if v.kind≠9 then(zeroV,false)else match idxF n v.fields with
 |some i=>((v.fields[i]?.map Fld.value).getD zeroV,true)
 |none=>(zeroV,false)
theorem walk287(v:Val)(n:Str):PT 287 [encV v,.str n] (.tup [.d (encV (fieldR v n).1),.d (.bool (fieldR v n).2)]):=by
 refine ok287.pc ?_;have c:=(p346 v n).call trivial;have hbd:=ixF_bd (q:=fun f=>f.name==n) (l:=v.fields);generalize hR:fieldR v n=R;rw[encV_eq v]at c⊢;unfold fieldR at hR;have hix:=ixN_eq n v.fields;generalize hI:ixN n v.fields=I at*;rw[encV_eq R.1];simp only[go_sem,ir287,simprocAttr];refine wc c ?_;refine sq (decide (I<0)) ?_ ?_
 ·exact zz trivial
 refine zz ?_;apply ik<;>intro h
 ·have:R=(zeroV,false):=by
   rw[←hR];by_cases hk:v.kind=9
   ·rw[if_neg (sX hk)];cases e:idxF n v.fields with
    |none=>rfl
    |some i=>
     rw[e]at hix;simp only at hix;simp[hk]at h;omega
   ·rw[if_pos hk]
  rw[this];rfl
 ·simp only[Bool.or_eq_false_iff,bne_eq_false_iff_eq,decide_eq_false_iff_not]at h;obtain⟨h1,h2⟩:=h;rw[if_neg (sX h1)]at hR;cases e:idxF n v.fields with
  |none=>rw[e]at hix;simp only at hix;omega
  |some i=>
   rw[e]at hix hR;simp only at hix hR;have hil:i<v.fields.length:=by
    obtain⟨h,_⟩:=List.findIdx?_eq_some_iff_getElem.1 e;exact h
   rw[List.getElem?_eq_getElem hil]at hR;subst hix;subst hR;have hx:=nth_encF hil;have c2:=(p264 v.fields[i].value).call trivial;rw[encV_eq v.fields[i].value]at c2;refine zz24 ?_;refine⟨⟨oM,oM⟩,wn c2 ?_⟩;exact zz trivial
def ixG(q:TFl→Bool)(l:List TFl):Int:=match l.findIdx? q with
 |some k=>(k:Int)
 |none=> -1
theorem walk195{g:Nat}{cs:List Dat}{q:TFl→Bool}(hq:∀x,PT g [encG x,.ptr cs] (.d (.bool (q x))))(l:List TFl)(hl:l.length≤68719476736):
  PT 195 [.list 11 (l.map encG),cloD g cs] (.d (.int .i64 (ixG q l))):=by
 refine ok195.pc ?_;simp only[go_sem,ir195,List.length_map,simprocAttr];refine wpc_loop (fun n s=>∃k:Nat,k≤l.length∧n=l.length-k∧(∀(j:Nat) (h1:j<l.length),j<k→q l[j]=false)∧
  s=⟨[(0,.d (.list 11 (l.map encG))),(1,.d (cloD g cs)),(7,.d (.int .i64 l.length)),(8,.d (.int .i64 k))],[]⟩) ?_ ?_
 ·exact⟨_,_,Wk.refl _,0,Nat.zero_le _,rfl,sP,rfl⟩
 ·rintro n s ⟨k,hk,rfl,hinv,rfl⟩;by_cases hlt:k<l.length
  ·have hx:=nth_encG hlt;have hd:=dT hlt;have hc:=(hq l[k]).call trivial;rw[encG_eq]at hc;refine zz6 ?_;refine⟨oM,wn hc ?_⟩;refine zz ?_;apply ik<;>intro hf
   ·have:l.findIdx? q=some k:=by
     rw[List.findIdx?_eq_some_iff_getElem];exact⟨hlt,hf,fun j hj=>by rw[hinv j oM hj];decide⟩
    simp only[ixG,this]
   ·refine⟨l.length-(k+1),_,oM,Wk.less ?_,k+1,oM,rfl,?_,rfl⟩
    ·exact zz7 trivial
    ·intro j h1 hj;by_cases e:j=k
     ·subst e;exact hf
     ·exact hinv j h1 oM
  ·have hd:=dF hlt;refine zz5 ?_;have:l.findIdx? q=none:=by
    rw[List.findIdx?_eq_none_iff];intro x hx;obtain⟨j,hj,rfl⟩:=List.getElem_of_mem hx;exact hinv j hj oM
   simp only[ixG,this]
theorem walk274(x:TFl)(n:Str):PT 274 [encG x,.ptr [.str n]] (.d (.bool (x.name==n))):=by
 refine ok274.pc ?_;rw[encG_eq];simp only[go_sem,ir274,Nat.reduceAdd,Nat.reduceEqDiff,Nat.reduceBEq,Nat.reduceLeDiff,reduceCtorEq,↓reduceIte];exact Nat.one_pos
def idxG(n:Str)(l:List TFl):Option Nat:=l.findIdx? fun f=>f.name==n
def ixM(n:Str)(l:List TFl):Int:=ixG (fun f=>f.name==n) l
theorem ixM_eq(n:Str)(l:List TFl):ixM n l=match idxG n l with|some k=>(k:Int)|none=> -1:=rfl
def ty0:Typ:=.mk 0 0 0 0 [] [] []
def tf0:TFl:=.mk 0 [] 0 ty0 []
theorem fits_T{t:Typ}(h:fits (encT t)):t.words.length≤68719476736∧t.elem.length≤68719476736∧t.fields.length≤68719476736:=by
 rw[encT_eq]at h;simp only[fits,fitsL,List.length_map,and_true]at h;exact⟨h.2.2.2.2.1.1,h.2.2.2.2.2.1.1,h.2.2.2.2.2.2.1⟩
def tfR(t:Typ)(n:Str):TFl×Bool:=match idxG n t.fields with
 |some i=>((t.fields[i]?).getD tf0,true)
 |none=>(tf0,false)
end Go.Proofs
namespace Go.Proofs
open Go.Shelf
def Tryz.laysClone_ren:Go.Shelf.Ren:=⟨fun|16=>222|n=>n,fun|24=>37|9=>9|4=>4|n=>n,fun|n=>n⟩
theorem Tryz.laysClone:Go.Proofs.Lays2.n16 Tryz.prog Tryz.laysClone_ren:={
 mixed:=kR
 f16:=Tryz.func222.trans (congrArg some kR)
 t4:=Tryz.underlying4
 a4:=Tryz.isAgg4
 z4:=Tryz.sizeOf4
 v4:=Tryz.zeroValue4
 t9:=Tryz.underlying9
 a9:=Tryz.isAgg9
 z9:=Tryz.sizeOf9
 v9:=Tryz.zeroValue9
 t24:=Tryz.underlying37
 a24:=Tryz.isAgg37
 z24:=Tryz.sizeOf37
 v24:=Tryz.zeroValue37
 i9:=by kernel_rfl}
end Go.Proofs
namespace Go.Proofs
open Go Av Go.RowKit
theorem clone196(ss:List Str):CT 222 [.d (.list 1 (ss.map .str))] [] (.d (.list 1 (ss.map .str))) []:=by
 refine CallOK.of_callsN (ds:=[.list 1 (ss.map .str)]) ⟨_,Tryz.func222,kR,kR⟩ fun A w vs hl hv=>?_
 obtain⟨v,rfl⟩:=size_one (sX hl);have hr:=hv 0 _ v rfl rfl;have hf:=hr.fits;simp only[fits,List.length_map]at hf;have hfl:(flat (ss.map Dat.str))=ss.map .str:=flat_str ss;have hs:∀s∈ss,s.length≤68719476736:=fun s h=>fitsL_iff.1 hf.2 (.str s) (List.mem_map.2 ⟨s,h,rfl⟩)
 generalize hD:ss.map Dat.str=D at hr hfl;cases hr with
 |emp _ a cap=>
  obtain rfl:ss=[]:=List.map_eq_nil_iff.1 hD;cases a with
  |none=>exact(Any.slices_Clone_string_nil Tryz.laysClone 0 cap w).mono fun e w' ⟨h1,h2⟩=>⟨_,h1,by rw[h2];exact Below.refl _ _,.emp 1 none 0⟩
  |some a=>
   refine(Any.slices_Clone_string_zero Tryz.laysClone a cap w).mono ?_;rintro e w' ⟨v',rfl,h,_,hb⟩;exact⟨_,rfl,hb,rep_owns (ss:=[]) rfl sP sP h⟩
 |list _ _ b o n cap vs hn hA hcap hc h1 hsz hh hvl hvv=>
  subst hD;have hlen:n=ss.length:=sX hn;have hcell:∀j (h:j<ss.length),vs[j]? =some (.string ⟨ss[j].toArray⟩):=by
   intro j h;rw[flat_str]at hvl;have hj:j<vs.length:=by simp at hvl;omega
   have:=hvv j (.str ss[j]) vs[j] (by rw[flat_str];simp[h]) (by simp[hj]);rw[List.getElem?_eq_getElem hj];generalize vs[j]=z at this;cases this;rfl
  refine(Any.slices_Clone_string Tryz.laysClone b o n cap (ss.map fun s=>⟨s.toArray⟩) w sO oM ?_).mono ?_
  ·intro j hj;have hj':j<ss.length:=sX hj;have:=hh j _ (hcell j hj');rw[this];simp[hj']
  ·rintro e w' ⟨v',rfl,h,_,hb⟩;rw[List.take_of_length_le sO,List.map_map]at h;exact⟨_,rfl,hb,rep_owns hlen hs hf.1 h⟩
end Go.Proofs
namespace Go.Proofs
open Go Av
theorem step221(g:TFl)(h:PT 174 [encT g.type] (.d (encT g.type))):PT 221 [encG g] (.d (encG g)):=by
 refine PCon.of_fits ok221.has fun hfit=>?_
 have hdl:g.dflt.length≤68719476736:=by
  have:=hfit _ (List.mem_cons_self);rw[encG_eq]at this;simp only[fits,fitsL,List.length_map,and_true]at this;exact this.2.2.2.2.2.2.2.2.2.2.1
 refine ok221.pc ?_;have c:=h.call trivial;rw[encT_eq]at c;rw[encG_eq];simp only[go_sem,ir221,simprocAttr];refine wc c ?_;refine⟨⟨Int.le_refl _,sP,sO⟩,?_⟩;refine wpc_loop (fun n s=>∃k:Nat,k≤g.dflt.length∧n=g.dflt.length-k∧
  s=⟨[(1,.ref 1 0),(2,.ref 2 0),(3,.ms 13 k),(15,.d (.list 6 (g.dflt.map encV))),(16,.d (.int .i64 g.dflt.length)),(17,.d (.int .i64 k))],
   [(1,.box [.d (.int .i64 g.number),.d (.str g.name),.d (.int .i64 g.need),.d (.int .i64 g.type.kind),.d (.int .i64 g.type.min),.d (.int .i64 g.type.max),.d (.int .i64 g.type.scale),.d (.list 1 (g.type.words.map .str)),.d (.list 7 (g.type.elem.map encT)),.d (.list 11 (g.type.fields.map encG)),.d (.list 6 (g.dflt.map encV))]),(2,.box [.d (.int .i64 0),.d (.str []),.d (.int .i64 0),.d (.int .i64 0),.d (.int .i64 0),.d (.int .i64 0),.d (.int .i64 0),.d (.nil 1),.d (.nil 7),.d (.nil 11),.d (.nil 6)]),(13,.row k 6 ((g.dflt.take k).map encV))]⟩) ?_ ?_
 ·exact⟨_,_,Wk.refl _,0,Nat.zero_le _,rfl,sP⟩
 ·rintro n s ⟨k,hk,rfl,rfl⟩;by_cases hlt:k<g.dflt.length
  ·have hx:=nth_encV hlt;have hd:=dT hlt;have hc:=(p264 g.dflt[k]).call trivial;rw[encV_eq]at hc;refine zz6 ?_;refine⟨oM,wn hc ?_⟩;refine zz ?_;refine⟨sP,sO,?_⟩;refine⟨g.dflt.length-(k+1),_,oM,Wk.less ?_,k+1,oM,rfl,rfl⟩;rw[List.take_succ_eq_append_getElem hlt,List.map_append];simp only[go_sem,wrap64s k oM,List.map_cons,List.map_nil,encV_eq g.dflt[k],Nat.reduceAdd,Nat.reduceEqDiff,Nat.reduceBEq,Nat.reduceLeDiff,reduceCtorEq,↓reduceIte]
  ·have hd:=dF hlt;obtain rfl:k=g.dflt.length:=oM;exact zz21 trivial
theorem step174(t:Typ)(h1:∀x∈t.elem,PT 174 [encT x] (.d (encT x)))(h2:∀g∈t.fields,PT 221 [encG g] (.d (encG g))):PT 174 [encT t] (.d (encT t)):=by
 refine PCon.of_fits ok174.has fun hfit=>?_
 obtain⟨f1,f2,f3⟩:=fits_T (hfit _ (List.mem_cons_self));refine ok174.pc ?_;rw[encT_eq];simp only[go_sem,ir174,Nat.reduceAdd,Nat.reduceEqDiff,Nat.reduceBEq,Nat.reduceLeDiff,reduceCtorEq,↓reduceIte];refine⟨⟨Int.le_refl _,sP,sO⟩,?_⟩;refine wpc_loop (fun n s=>∃k:Nat,k≤t.elem.length∧n=t.elem.length-k∧
  s=⟨[(1,.ref 1 0),(2,.ref 2 0),(3,.ms 12 k),(14,.d (.list 7 (t.elem.map encT))),(15,.d (.int .i64 t.elem.length)),(16,.d (.int .i64 k))],
   [(1,.box [.d (.int .i64 t.kind),.d (.int .i64 t.min),.d (.int .i64 t.max),.d (.int .i64 t.scale),.d (.list 1 (t.words.map .str)),.d (.list 7 (t.elem.map encT)),.d (.list 11 (t.fields.map encG))]),(2,.box [.d (.int .i64 0),.d (.int .i64 0),.d (.int .i64 0),.d (.int .i64 0),.d (.nil 1),.d (.nil 7),.d (.nil 11)]),(12,.row k 7 ((t.elem.take k).map encT))]⟩) ?_ ?_
 ·exact⟨_,_,Wk.refl _,0,Nat.zero_le _,rfl,sP⟩
 ·rintro n s ⟨k,hk,rfl,rfl⟩;by_cases hlt:k<t.elem.length
  ·have hx:=nth_encT hlt;have hd:=dT hlt;have hc:=(h1 t.elem[k] (List.getElem_mem _)).call trivial;rw[encT_eq]at hc;refine zz6 ?_;refine⟨oM,wn hc ?_⟩;refine zz ?_;refine⟨sP,sO,?_⟩;refine⟨t.elem.length-(k+1),_,oM,Wk.less ?_,k+1,oM,rfl,rfl⟩;rw[List.take_succ_eq_append_getElem hlt,List.map_append];simp only[go_sem,wrap64s k oM,List.map_cons,List.map_nil,encT_eq t.elem[k],Nat.reduceAdd,Nat.reduceEqDiff,Nat.reduceBEq,Nat.reduceLeDiff,reduceCtorEq,↓reduceIte]
  ·have hd:=dF hlt;obtain rfl:k=t.elem.length:=oM;refine zz21 ?_;refine⟨⟨Int.le_refl _,sP,sO⟩,?_⟩;refine wpc_loop (fun n s=>∃k:Nat,k≤t.fields.length∧n=t.fields.length-k∧
    s=⟨[(1,.ref 1 0),(2,.ref 2 0),(3,.ms 12 t.elem.length),(6,.ms 29 k),(31,.d (.list 11 (t.fields.map encG))),(32,.d (.int .i64 t.fields.length)),(33,.d (.int .i64 k))],
     [(1,.box [.d (.int .i64 t.kind),.d (.int .i64 t.min),.d (.int .i64 t.max),.d (.int .i64 t.scale),.d (.list 1 (t.words.map .str)),.d (.list 7 (t.elem.map encT)),.d (.list 11 (t.fields.map encG))]),(2,.box [.d (.int .i64 0),.d (.int .i64 0),.d (.int .i64 0),.d (.int .i64 0),.d (.nil 1),.d (.nil 7),.d (.nil 11)]),(12,.row t.elem.length 7 (t.elem.map encT)),(29,.row k 11 ((t.fields.take k).map encG))]⟩) ?_ ?_
   ·refine⟨_,_,Wk.less ?_,0,Nat.zero_le _,rfl,rfl⟩;simp[go_sem]
   ·rintro n s ⟨k,hk,rfl,rfl⟩;by_cases hlt:k<t.fields.length
    ·have hx:=nth_encG hlt;have hd:=dT hlt;have hc:=(h2 t.fields[k] (List.getElem_mem _)).call trivial;rw[encG_eq]at hc;refine zz6 ?_;refine⟨oM,wn hc ?_⟩;refine zz ?_;refine⟨sP,sO,?_⟩;refine⟨t.fields.length-(k+1),_,oM,Wk.less ?_,k+1,oM,rfl,rfl⟩;rw[List.take_succ_eq_append_getElem hlt,List.map_append];simp only[go_sem,wrap64s k oM,List.map_cons,List.map_nil,encG_eq t.fields[k],Nat.reduceAdd,Nat.reduceEqDiff,Nat.reduceBEq,Nat.reduceLeDiff,reduceCtorEq,↓reduceIte]
    ·have hd:=dF hlt;obtain rfl:k=t.fields.length:=oM;refine zz21 ?_;refine wc (clone196 t.words) trivial
mutual
theorem p174:∀t:Typ,PT 174 [encT t] (.d (encT t))
 |.mk k a b s w e f=>step174 _ (p174s e) (p221s f)
theorem p174s:∀l:List Typ,∀x∈l,PT 174 [encT x] (.d (encT x))
 |[],x,h=>by cases h
 |t::r,x,h=>by
  have h0:=p174 t;have h1:=p174s r x;rcases List.mem_cons.1 h with e|h
  ·rw[e];exact h0
  ·exact h1 h
theorem p221:∀g:TFl,PT 221 [encG g] (.d (encG g))
 |.mk n m d t v=>step221 _ (p174 t)
theorem p221s:∀l:List TFl,∀x∈l,PT 221 [encG x] (.d (encG x))
 |[],x,h=>by cases h
 |t::r,x,h=>by
  have h0:=p221 t;have h1:=p221s r x;rcases List.mem_cons.1 h with e|h
  ·rw[e];exact h0
  ·exact h1 h
end
def fldR(t:Typ)(n:Str):TFl×Bool:=if t.kind≠9∧t.kind≠10 then(tf0,false)else tfR t n
theorem fnd_at{cs:List Dat}{g:Nat}(n:Str)(t:Typ)(hq:∀x,PT g [encG x,.ptr cs] (.d (.bool (x.name==n)))):PT 273 [encT t,cloD g cs] (.tup [.d (encG (fldR t n).1),.d (.bool (fldR t n).2)]):=by
 refine PCon.of_fits ok273.has fun hfit=>?_
 have hl:=(fits_T (hfit _ (List.mem_cons_self))).2.2;refine ok273.pc ?_;have c:=(walk195 hq t.fields hl).call trivial;have hix:=ixM_eq n t.fields;unfold ixM at hix;generalize hR:fldR t n=R;unfold fldR tfR at hR;rw[encT_eq,encG_eq R.1];simp only[go_sem,ir273,simprocAttr];refine sq (t.kind !=10) ?_ ?_
 ·exact zz trivial
 refine zz ?_;apply ik<;>intro h
 ·rw[if_pos (sX h)]at hR;rw[←hR];rfl
 rw[if_neg (sX h)]at hR;refine wc c ?_;apply ik<;>intro h
 ·simp only[decide_eq_true_eq]at h;cases e:idxG n t.fields with
  |none=>
   rw[e]at hR;rw[←hR];rfl
  |some i=>rw[e]at hix;simp only at hix;omega
 ·simp only[decide_eq_false_iff_not]at h;cases e:idxG n t.fields with
  |none=>rw[e]at hix;simp only at hix;omega
  |some i=>
   have hil:i<t.fields.length:=by
    obtain⟨h,_⟩:=List.findIdx?_eq_some_iff_getElem.1 e;exact h
   rw[e]at hix hR;simp only at hix hR;rw[List.getElem?_eq_getElem hil]at hR;subst hR;have hx:=nth_encG hil;have c2:=(p221 t.fields[i]).call trivial;rw[encG_eq]at c2;rw[hix];refine zz24 ?_;refine⟨⟨oM,oM⟩,wn c2 ?_⟩;exact zz trivial
theorem walk229(t:Typ)(n:Str):PT 229 [encT t,.str n] (.tup [.d (encG (fldR t n).1),.d (.bool (fldR t n).2)]):=by
 refine ok229.pc ?_;have c:=(fnd_at n t fun x=>walk274 x n).callClo (by simp[pureR]) 3;generalize fldR t n=R at*;rw[encT_eq,encG_eq]at c;rw[encT_eq,encG_eq];simp only[go_sem,ir229,simprocAttr];refine wc c trivial
def intT(a b:Int):Typ:=.mk 2 a b 0 [] [] []
def recG(k:Nat)(p:Str×Typ):TFl:=.mk ((k:Int)+1) p.1 1 p.2 []
def recGs:Nat→List (Str×Typ)→List TFl
 |_,[]=>[]
 |k,p::r=>recG k p::recGs (k+1) r
def recT(l:List (Str×Typ)):Typ:=.mk 9 0 0 0 [] [] (recGs 0 l)
@[instance_reducible] def rls0:Rls:={rl:=fun _=>false}
def sBody:Str:=[98,111,100,121]
def sReply:Str:=[114,101,112,108,121]
def calT(b x:Typ):Typ:=recT [(sBody,b),(sReply,x)]
end Go.Proofs
namespace Go.Proofs
open Go Av
open Av.Y
def ir114:Ic:=q (R (ow 6 false<|N) [6])<|q (R (om 7 0<|om 8 1<|ot 9 .geq 7 8<|om 10 9<|.sc 10 true (om 11 0<|om 12 2<|ot 13 .leq 11 12<|N) (t 13) 14 (om 6 14<|N)) [0,1,2,7,8,9,10,14])<|.ret
theorem ok114:FT 114 15 ir114 [.tmp 6]:=.o Tryz.func114
def ir244:Ic:=q (R (ox 2 0<|ox 3 1<|oz 4 0<|N) [0,1,4])<|q (D (.block 0<|q (q (R (of 6 3 3<|ol 7 6<|og 8 7<|om 9 8<|.sc 9 true (of 10 2 1<|ol 11 10<|oi 12 .neq 11 0<|om 13 12<|.sc 13 false (of 14 2 2<|ol 15 14<|oi 16 .neq 15 0<|N) (t 16) 17 N) (t 17) 18 (om 5 18<|N)) [6,7,8,9,18])<|D (I 5 S (q (R (of 19 3 4<|ol 20 19<|og 21 20<|om 22 21<|.sc 22 true (of 23 2 3<|ol 24 23<|oi 25 .neq 24 0<|N) (t 25) 26 (om 5 26<|N)) [19,20,21,22,26])<|D (I 5 S (q (R (of 27 3 5<|ol 28 27<|og 29 28<|om 30 29<|.sc 30 true (of 31 2 4<|ol 32 31<|oh 33 32<|oi 34 .gtr 33 0<|N) (t 34) 35 (om 5 35<|N)) [27,28,29,30,35])<|D (I 5 S (q (R (of 36 3 6<|ol 37 36<|og 38 37<|om 39 38<|.sc 39 true (of 40 2 5<|ol 41 40<|oh 42 41<|oi 43 .gtr 42 0<|N) (t 43) 44 (om 5 44<|N)) [36,37,38,39,44])<|D (I 5 S (R (of 45 3 7<|ol 46 45<|og 47 46<|om 48 47<|.sc 48 true (of 49 2 6<|ol 50 49<|oh 51 50<|oi 52 .gtr 51 0<|N) (t 52) 53 (om 5 53<|N)) [2,3,45,46,47,48,53])) [2,3])) [2,3])) [2,3])) [2,3])<|D (I 5 (q (R (oz 4 3<|N) [5])<|.ret) S) [5]) [])<|q (.reg (oz 4 0<|N))<|.ret
theorem ok244:FT 244 54 ir244 [.tmp 4]:=.o Tryz.func244
def ir192:Ic:=q (R (ox 1 0<|ok 2 (.k (.nil 7))<|N) [0,2])<|q (q (R (of 6 1 0<|ol 7 6<|N) [6])<|D (.block 0<|q (R (oi 9 .eql 7 8<|om 8 9<|N) [9])<|D (I 8 (q (R (of 10 1 5<|ol 11 10<|om 2 11<|N) [1,7,8,10,11])<|.ret) (q (q (R (oi 13 .eql 7 9<|om 12 13<|N) [8,13])<|D (I 12 S (R (oi 14 .eql 7 10<|om 12 14<|N) [7,14])) [7])<|D (I 12 (q (R (of 15 1 6<|ol 16 15<|oh 17 16<|oo 18 (.mks 7 [.int .i64 0,.int .i64 0,.int .i64 0,.int .i64 0,.nil 1,.nil 7,.nil 11] (i 0) (t 17))<|om 3 18<|N) [12,15,16,17,18])<|q (q (R (of 19 1 6<|ol 20 19<|oh 21 20<|oz 22 0<|N) [1,19])<|D (.block 1<|.loop (q (.reg (ot 23 .lss 22 21<|N))<|q (D (I 23 S (E 1)) [23])<|q (D (.block 2<|q (R (oa true 24 11 20 22<|oL 25 11 24<|oN 5 yG<|oS 11 5 25<|N) [24,25])<|R (om 26 3<|of 27 5 3<|oL 28 7 27<|oo 29 (.bls 7 [t 28])<|oo 30 (.app 7 (t 26) (t 29))<|om 3 30<|N) [5,26,27,28,29,30]) [])<|R (oi 31 .add 22 1<|om 22 31<|N) [31])) [20,21,22,23,5])<|q (R (om 32 3<|om 2 32<|N) [3,32])<|.ret) S) [1,12])) []) [10,11,3,5])<|q (.reg (ok 2 (.k (.nil 7))<|N))<|.ret
theorem ok192:FT 192 33 ir192 [.tmp 2]:=.o Tryz.func192
def ir245:Ic:=q (R (ox 1 0<|oz 2 0<|N) [0,2])<|q (D (.block 0<|q (R (of 7 1 1<|ol 8 7<|oi 9 .neq 8 0<|om 10 9<|.sc 10 false (of 11 1 2<|ol 12 11<|oi 13 .neq 12 0<|N) (t 13) 14 (om 6 14<|N)) [7,8,9,10,14])<|D (I 6 (q (R (oz 2 3<|N) [1,6])<|.ret) (q (R (of 16 1 4<|ol 17 16<|oh 18 17<|oi 19 .gtr 18 64<|om 15 19<|N) [6,16,17,18,19])<|D (I 15 (q (R (oz 2 9<|N) [1,15])<|.ret) S) [15])) []) [])<|q (q (R (of 20 1 4<|ol 21 20<|oh 22 21<|oz 23 0<|N) [20])<|D (.block 1<|.loop (q (.reg (ot 24 .lss 23 22<|N))<|q (D (I 24 S (E 1)) [24])<|q (D (.block 2<|q (R (om 25 23<|oa false 26 1 21 23<|ol 27 26<|om 3 25<|om 4 27<|N) [25,26,27])<|q (q (R (om 28 4<|cl 29 278 [t 28]<|cl 30 247 [t 29]<|om 5 30<|N) [28,29,30])<|q (R (om 31 5<|oi 32 .neq 31 0<|N) [31])<|D (I 32 (q (R (om 33 5<|om 2 33<|N) [1,21,22,23,3,4,5,32,33])<|.ret) S) [5,32])<|q (q (R (om 34 3<|oi 35 .gtr 34 0<|om 36 35<|.sc 36 true (om 37 4<|of 38 1 4<|ol 39 38<|om 40 3<|oi 41 .sub 40 1<|oa false 42 1 39 41<|ol 43 42<|ot 44 .seq 37 43<|N) (t 44) 45 N) [34,35,36])<|D (I 45 (q (R (oz 2 7<|N) [1,21,22,23,3,4,45])<|.ret) S) [45])<|q (R (om 46 3<|oi 47 .gtr 46 0<|om 48 47<|.sc 48 true (om 49 4<|of 50 1 4<|ol 51 50<|om 52 3<|oi 53 .sub 52 1<|oa false 54 1 51 53<|ol 55 54<|ot 56 .slt 49 55<|N) (t 56) 57 N) [3,4,46,47,48])<|D (I 57 (q (R (oz 2 24<|N) [1,21,22,23,57])<|.ret) S) [57]) [])<|R (oi 58 .add 23 1<|om 23 58<|N) [58])) [1,21,22,23,24,3,4,5])<|q (.reg (oz 2 0<|N))<|.ret
theorem ok245:FT 245 59 ir245 [.tmp 2]:=.o Tryz.func245
def ir246:Ic:=q (R (ox 2 0<|oz 4 0<|N) [0,4])<|q (R (of 6 2 6<|ol 7 6<|om 8 1<|oa true 9 11 7 8<|oL 10 11 9<|oN 5 yG<|oS 11 5 10<|N) [6,7,8,9,10])<|q (D (.block 0<|q (R (of 12 5 1<|ol 13 12<|cl 14 113 [t 13]<|og 15 14<|om 11 15<|N) [12,13,14,15])<|D (I 11 (q (R (oz 4 12<|N) [1,2,5,11])<|.ret) (q (R (of 17 5 0<|ol 18 17<|cl 19 114 [t 18,i 1,i 9999]<|og 20 19<|om 16 20<|N) [11,17,18,19,20])<|D (I 16 (q (R (oz 4 2<|N) [1,2,5,16])<|.ret) (q (R (of 22 2 6<|ol 23 22<|om 24 1<|oo 25 (.slc 11 (t 23) none (some (t 24)) none)<|oo 26 (.fnv (.func 279) [] [t 5])<|cl 27 158 [t 25,t 26]<|om 21 27<|N) [1,16,22,23,24,25,26,27])<|D (I 21 (q (R (oz 4 7<|N) [2,5,21])<|.ret) (q (R (of 29 5 2<|ol 30 29<|cl 31 114 [t 30,i 1,i 3]<|og 32 31<|om 33 32<|.sc 33 false (of 34 2 0<|ol 35 34<|oi 36 .eql 35 10<|om 37 36<|.sc 37 true (of 38 5 2<|ol 39 38<|oi 40 .neq 39 1<|N) (t 40) 41 N) (t 41) 42 (om 28 42<|N)) [2,21,29,30,31,32,33,42])<|D (I 28 (q (R (oz 4 11<|N) [5,28])<|.ret) (q (R (of 44 5 2<|ol 45 44<|oi 46 .eql 45 3<|om 47 46<|.sc 47 true (of 48 5 10<|ol 49 48<|oh 50 49<|oi 51 .eql 50 0<|N) (t 51) 52 (om 43 52<|N)) [28,44,45,46,47,52])<|D (I 43 (q (R (oz 4 4<|N) [5,43])<|.ret) (q (R (of 54 5 10<|ol 55 54<|oh 56 55<|oi 57 .gtr 56 1<|om 58 57<|.sc 58 false (of 59 5 2<|ol 60 59<|oi 61 .neq 60 3<|om 62 61<|.sc 62 true (of 63 5 10<|ol 64 63<|oh 65 64<|oi 66 .gtr 65 0<|N) (t 66) 67 N) (t 67) 68 (om 53 68<|N)) [5,43,54,55,56,57,58,68])<|D (I 53 (q (R (oz 4 3<|N) [53])<|.ret) S) [53])) [])) [])) [])) [])) []) [])<|q (.reg (oz 4 0<|N))<|.ret
theorem ok246:FT 246 69 ir246 [.tmp 4]:=.o Tryz.func246
def ir279:Ic:=q (R (ox 2 0<|ow 3 false<|N) [0,3])<|q (R (of 4 2 1<|ol 5 4<|of 6 1 1<|ol 7 6<|ot 8 .seq 5 7<|om 9 8<|.sc 9 false (of 10 2 0<|ol 11 10<|of 12 1 0<|ol 13 12<|ot 14 .eql 11 13<|N) (t 14) 15 (om 3 15<|N)) [2,4,5,6,7,8,9,15])<|.ret
theorem ok279:FT 279 16 ir279 [.tmp 3]:=.o Tryz.func279
def ir191:Ic:=q (R (ox 1 0<|oz 2 0<|N) [0,2])<|q (q (R (of 8 1 0<|ol 9 8<|cl 10 114 [t 9,i 1,i 10]<|og 11 10<|N) [8,9,10])<|D (I 11 (q (R (oz 2 11<|N) [1,11])<|.ret) S) [11])<|q (D (.regd [(0,2),(0,4),(2,4)] (cl 12 243 []<|of 13 1 0<|ol 14 13<|oo 15 (.ixv (some 8) 11 8 (t 12) (t 14))<|oN 3 [.str [],.int .i64 0,.int .i64 0,.bool false,.bool false,.bool false,.bool false,.bool false]<|oS 8 3 15<|N)) [12,13,14,15])<|q (q (R (oL 16 7 1<|oL 17 8 3<|cl 18 244 [t 16,t 17]<|om 4 18<|N) [16,17,18])<|q (R (om 19 4<|oi 20 .neq 19 0<|N) [19])<|D (I 20 (q (R (om 21 4<|om 2 21<|N) [1,3,4,20,21])<|.ret) S) [4,20])<|q (D (.block 0<|q (R (of 23 1 0<|ol 24 23<|oi 25 .eql 24 4<|om 26 25<|.sc 26 true (of 27 1 4<|ol 28 27<|oh 29 28<|oi 30 .gtr 29 0<|N) (t 30) 31 (om 22 31<|N)) [23,24,25,26,31])<|I 22 (q (R (oL 32 7 1<|cl 33 245 [t 32]<|om 5 33<|N) [3,22,32,33])<|q (R (om 34 5<|oi 35 .neq 34 0<|N) [34])<|D (I 35 (q (R (om 36 5<|om 2 36<|N) [1,5,35,36])<|.ret) S) [5,35]) (q (q (R (of 38 3 3<|ol 39 38<|om 40 39<|.sc 40 true (of 41 1 1<|ol 42 41<|of 43 1 2<|ol 44 43<|ot 45 .gtr 42 44<|om 46 45<|.sc 46 false (of 47 1 1<|ol 48 47<|of 49 3 1<|ol 50 49<|ot 51 .lss 48 50<|N) (t 51) 52 (om 53 52<|.sc 53 false (of 54 1 2<|ol 55 54<|of 56 3 2<|ol 57 56<|ot 58 .gtr 55 57<|N) (t 58) 59 N)) (t 59) 60 (om 37 60<|N)) [22,38,39,40,60])<|D (I 37 S (R (of 61 3 4<|ol 62 61<|om 63 62<|.sc 63 true (of 64 1 3<|ol 65 64<|cl 66 114 [t 65,i 0,i 12]<|og 67 66<|N) (t 67) 68 (om 37 68<|N)) [3,61,62,63,68])) [3])<|D (I 37 (q (R (oz 2 2<|N) [1,37])<|.ret) S) [37])) [5])<|q (D (.block 1<|q (q (R (of 70 1 0<|ol 71 70<|oi 72 .eql 71 8<|om 73 72<|.sc 73 true (of 74 1 5<|ol 75 74<|oh 76 75<|oi 77 .eql 76 0<|N) (t 77) 78 (om 69 78<|N)) [70,71,72,73,78])<|I 69 S (R (of 79 1 0<|ol 80 79<|oi 81 .eql 80 10<|om 82 81<|.sc 82 true (of 83 1 6<|ol 84 83<|oh 85 84<|oi 86 .eql 85 0<|N) (t 86) 87 (om 69 87<|N)) [79,80,81,82,87]))<|D (I 69 (q (R (oz 2 4<|N) [1,69])<|.ret) (q (R (of 89 1 0<|ol 90 89<|oi 91 .eql 90 8<|om 92 91<|.sc 92 true (of 93 1 5<|ol 94 93<|oh 95 94<|oi 96 .gtr 95 1<|N) (t 96) 97 (om 88 97<|N)) [69,89,90,91,92,97])<|D (I 88 (q (R (oz 2 3<|N) [1,88])<|.ret) (q (R (of 99 1 6<|ol 100 99<|oh 101 100<|oi 102 .gtr 101 64<|om 98 102<|N) [88,99,100,101,102])<|D (I 98 (q (R (oz 2 9<|N) [1,98])<|.ret) S) [98])) [])) []) [])<|q (q (R (of 103 1 6<|ol 104 103<|oh 105 104<|oz 106 0<|N) [103,104])<|D (.block 2<|.loop (q (.reg (ot 107 .lss 106 105<|N))<|q (D (I 107 S (E 2)) [107])<|q (D (.block 3<|q (R (om 108 106<|om 6 108<|N) [108])<|q (R (oL 109 7 1<|om 110 6<|cl 111 246 [t 109,t 110]<|om 7 111<|N) [6,109,110,111])<|q (R (om 112 7<|oi 113 .neq 112 0<|N) [112])<|D (I 113 (q (R (om 114 7<|om 2 114<|N) [1,105,106,7,113,114])<|.ret) S) [7,113]) [])<|R (oi 115 .add 106 1<|om 106 115<|N) [115])) [1,105,106,107,6,7])<|q (.reg (oz 2 0<|N))<|.ret
theorem ok191:FT 191 116 ir191 [.tmp 2]:=.o Tryz.func191
def ir156:Ic:=q (R (ox 3 0<|oz 6 0<|N) [0,6])<|q (D (.block 0<|q (R (om 12 2<|oc 13 12<|ol 14 13<|oi 15 .eql 14 0<|om 11 15<|N) [12,13,14,15])<|D (I 11 (q (R (oz 6 9<|N) [1,2,3,11])<|.ret) (q (R (om 17 1<|oi 18 .gtr 17 8<|om 16 18<|N) [11,17,18])<|D (I 16 (q (R (oz 6 23<|N) [1,2,3,16])<|.ret) S) [16])) []) [])<|q (R (om 19 2<|oc 20 19<|ol 21 20<|oi 22 .sub 21 1<|oc 23 19<|os 23 22<|N) [19,20,21,22,23])<|q (q (R (oL 24 7 3<|cl 25 191 [t 24]<|om 7 25<|N) [24,25])<|q (R (om 26 7<|oi 27 .neq 26 0<|N) [26])<|D (I 27 (q (R (om 28 7<|om 6 28<|N) [1,2,3,7,27,28])<|.ret) S) [7,27])<|q (q (R (oL 29 7 3<|cl 30 192 [t 29]<|oh 31 30<|oz 32 0<|N) [29])<|D (.block 1<|.loop (q (.reg (ot 33 .lss 32 31<|N))<|q (D (I 33 S (E 1)) [33])<|q (D (.block 2<|q (R (om 34 32<|oa true 35 7 30 32<|oL 36 7 35<|oN 9 yT<|om 8 34<|oS 7 9 36<|N) [34,35,36])<|q (q (R (oL 37 7 9<|om 38 1<|oi 39 .add 38 1<|om 40 2<|cl 41 156 [t 37,t 39,t 40]<|om 10 41<|N) [37,38,39,40,41])<|q (R (om 42 10<|oi 43 .neq 42 0<|N) [42])<|D (I 43 (q (R (om 44 10<|om 6 44<|N) [1,2,3,30,31,32,9,8,10,43,44])<|.ret) S) [10,43])<|q (R (of 45 3 0<|ol 46 45<|oi 47 .eql 46 9<|om 48 47<|.sc 48 true (of 49 3 6<|ol 50 49<|om 51 8<|oa true 52 11 50 51<|of 53 52 2<|ol 54 53<|oi 55 .eql 54 3<|N) (t 55) 56 (om 57 56<|.sc 57 true (oL 58 7 9<|of 59 3 6<|ol 60 59<|om 61 8<|oa true 62 11 60 61<|of 63 62 10<|ol 64 63<|oo 65 (.ixa true 6 (t 64) (i 0))<|oL 66 6 65<|cl 67 193 [t 58,t 66]<|og 68 67<|N) (t 68) 69 N)) [9,8,45,46,47,48,56,57])<|D (I 69 (q (R (oz 6 18<|N) [1,2,3,30,31,32,69])<|.ret) S) [69]) [])<|R (oi 70 .add 32 1<|om 32 70<|N) [70])) [1,2,3,30,31,32,33,9,8,10])<|q (.reg (oz 6 0<|N))<|.ret
theorem ok156:FT 156 71 ir156 [.tmp 6]:=.o Tryz.func156
def ir157:Ic:=q (R (ox 1 0<|oz 2 0<|N) [0,2])<|q (R (oL 8 7 1<|cl 9 194 [t 8]<|om 3 9<|N) [8,9])<|q (q (R (of 10 1 5<|ol 11 10<|oh 12 11<|oz 13 0<|N) [10])<|D (.block 0<|.loop (q (.reg (ot 14 .lss 13 12<|N))<|q (D (I 14 S (E 0)) [14])<|q (D (.block 1<|q (R (oa true 15 7 11 13<|oL 16 7 15<|oN 5 yT<|oS 7 5 16<|N) [15,16])<|R (om 17 3<|oL 18 7 5<|cl 19 157 [t 18]<|oo 20 (.mx (t 17) (t 19))<|om 3 20<|N) [5,17,18,19,20]) [])<|R (oi 21 .add 13 1<|om 13 21<|N) [21])) [11,12,13,14,5])<|q (q (R (of 22 1 6<|ol 23 22<|oh 24 23<|oz 25 0<|N) [1,22])<|D (.block 2<|.loop (q (.reg (ot 26 .lss 25 24<|N))<|q (D (I 26 S (E 2)) [26])<|q (D (.block 3<|q (R (oa true 27 11 23 25<|oL 28 11 27<|oN 7 yG<|oS 11 7 28<|N) [27,28])<|R (om 29 3<|of 30 7 3<|oL 31 7 30<|cl 32 157 [t 31]<|oo 33 (.mx (t 29) (t 32))<|om 3 33<|N) [7,29,30,31,32,33]) [])<|R (oi 34 .add 25 1<|om 25 34<|N) [34])) [23,24,25,26,7])<|q (R (om 35 3<|om 2 35<|N) [3,35])<|.ret
theorem ok157:FT 157 36 ir157 [.tmp 2]:=.o Tryz.func157
def ir194:Ic:=q (R (ox 1 0<|oz 2 0<|N) [0,2])<|q (.reg (oz 3 1<|N))<|q (q (R (of 6 1 0<|ol 7 6<|N) [6])<|D (.block 0<|q (R (oi 9 .eql 7 8<|om 8 9<|N) [9])<|I 8 (q (R (of 10 1 1<|ol 11 10<|oi 12 .gtr 11 0<|N) [7,8,10,11])<|D (I 12 (D (.regd [(2,7)] (om 13 3<|of 14 1 1<|ol 15 14<|of 16 1 5<|ol 17 16<|oo 18 (.ixa true 7 (t 17) (i 0))<|oL 19 7 18<|cl 20 194 [t 19]<|ot 21 .mul 15 20<|ot 22 .add 13 21<|om 3 22<|N)) [1,12,13,14,15,16,17,18,19,20,21,22]) S) [1,12]) (q (R (oi 24 .eql 7 10<|om 23 24<|N) [8,24])<|I 23 (R (om 25 3<|of 26 1 6<|ol 27 26<|oo 28 (.ixa true 11 (t 27) (i 0))<|of 29 28 3<|oL 30 7 29<|cl 31 194 [t 30]<|ot 32 .add 25 31<|om 3 32<|N) [1,7,23,25,26,27,28,29,30,31,32]) (q (R (oi 34 .eql 7 9<|om 33 34<|N) [7,23,34])<|D (I 33 (q (R (of 35 1 6<|ol 36 35<|oh 37 36<|oz 38 0<|N) [1,33,35])<|D (.block 1<|.loop (q (.reg (ot 39 .lss 38 37<|N))<|q (D (I 39 S (E 1)) [39])<|q (D (.block 2<|q (R (oa true 40 11 36 38<|oL 41 11 40<|oN 5 yG<|oS 11 5 41<|N) [40,41])<|q (R (of 42 5 2<|ol 43 42<|N) [42])<|D (.block 3<|q (R (oi 45 .eql 43 1<|om 44 45<|N) [45])<|I 44 (R (om 46 3<|of 47 5 3<|oL 48 7 47<|cl 49 194 [t 48]<|ot 50 .add 46 49<|om 3 50<|N) [5,43,44,46,47,48,49,50]) (q (R (oi 52 .eql 43 3<|om 51 52<|N) [43,44,52])<|D (I 51 (R (om 53 3<|of 54 5 10<|ol 55 54<|oo 56 (.ixa true 6 (t 55) (i 0))<|oL 57 6 56<|cl 58 249 [t 57]<|ot 59 .add 53 58<|om 3 59<|N) [5,51,53,54,55,56,57,58,59]) S) [5,51])) []) [])<|R (oi 60 .add 38 1<|om 38 60<|N) [60])) [36,37,38,39,5]) S) [1,33]))) [10,11,5])<|q (R (om 61 3<|oo 62 (.mn (t 61) (i 4097))<|om 2 62<|N) [3,61,62])<|.ret
theorem ok194:FT 194 63 ir194 [.tmp 2]:=.o Tryz.func194
def ir193:Ic:=q (R (ox 2 0<|ox 3 1<|ow 4 false<|N) [0,1,4])<|q (R (oL 5 6 3<|cl 6 247 [t 5]<|oi 7 .eql 6 0<|om 8 7<|.sc 8 true (oL 9 7 2<|oL 10 6 3<|cl 11 248 [t 9,t 10]<|N) (t 11) 12 (om 4 12<|N)) [2,3,5,6,7,8,12])<|.ret
theorem ok193:FT 193 13 ir193 [.tmp 4]:=.o Tryz.func193
def ir248:Ic:=q (R (ox 2 0<|ox 3 1<|ow 4 false<|N) [0,1,4])<|q (q (R (of 11 3 0<|ol 12 11<|of 13 2 0<|ol 14 13<|ot 15 .neq 12 14<|N) [11,12,13,14])<|D (I 15 (q (R (ow 4 false<|N) [2,3,15])<|.ret) S) [15])<|q (q (R (of 16 2 0<|ol 17 16<|N) [16])<|D (.block 0<|q (q (R (oi 19 .eql 17 2<|om 18 19<|N) [19])<|I 18 S (q (R (oi 20 .eql 17 6<|om 18 20<|N) [20])<|I 18 S (q (R (oi 21 .eql 17 7<|om 18 21<|N) [21])<|I 18 S (R (oi 22 .eql 17 3<|om 18 22<|N) [22]))))<|D (I 18 (q (R (of 23 3 1<|ol 24 23<|of 25 2 1<|ol 26 25<|of 27 2 2<|ol 28 27<|cl 29 114 [t 24,t 26,t 28]<|om 30 29<|.sc 30 true (of 31 3 2<|ol 32 31<|of 33 2 3<|ol 34 33<|ot 35 .eql 32 34<|N) (t 35) 36 (om 4 36<|N)) [2,3,17,18,23,24,25,26,27,28,29,30,36])<|.ret) (q (R (oi 38 .eql 17 4<|om 37 38<|N) [18,38])<|D (I 37 (q (q (R (of 39 2 4<|ol 40 39<|oh 41 40<|oi 42 .gtr 41 0<|N) [17,37,39,40,41])<|D (I 42 (q (R (of 43 2 4<|ol 44 43<|of 45 3 3<|ol 46 45<|cl 47 161 [t 44,t 46]<|om 4 47<|N) [2,3,42,43,44,45,46,47])<|.ret) S) [42])<|q (R (of 48 3 3<|ol 49 48<|oj 50 49<|of 51 2 1<|ol 52 51<|of 53 2 2<|ol 54 53<|cl 55 114 [t 50,t 52,t 54]<|om 4 55<|N) [2,3,48,49,50,51,52,53,54,55])<|.ret) (q (R (oi 57 .eql 17 5<|om 56 57<|N) [37,57])<|D (I 56 (q (R (of 58 3 3<|ol 59 58<|oj 60 59<|of 61 2 1<|ol 62 61<|of 63 2 2<|ol 64 63<|cl 65 114 [t 60,t 62,t 64]<|om 4 65<|N) [2,3,17,56,58,59,60,61,62,63,64,65])<|.ret) (q (R (oi 67 .eql 17 8<|om 66 67<|N) [56,67])<|D (I 66 (q (R (of 68 3 4<|ol 69 68<|oh 70 69<|of 71 2 1<|ol 72 71<|of 73 2 2<|ol 74 73<|cl 75 114 [t 70,t 72,t 74]<|om 76 75<|.sc 76 true (of 77 3 4<|ol 78 77<|oo 79 (.fnv (.func 285) [] [t 2])<|cl 80 284 [t 78,t 79]<|og 81 80<|N) (t 81) 82 (om 4 82<|N)) [2,3,17,66,68,69,70,71,72,73,74,75,76,82])<|.ret) (q (R (oi 84 .eql 17 10<|om 83 84<|N) [66,84])<|D (I 83 (q (R (oL 86 7 2<|of 87 3 3<|ol 88 87<|cl 89 229 [t 86,t 88]<|om 85 89<|oe 90 85 0<|oe 91 85 1<|oN 5 yG<|oS 11 5 90<|om 6 91<|N) [2,17,83,86,87,88,89,85,90,91])<|q (R (om 92 6<|om 93 92<|.sc 93 true (of 94 5 3<|oL 95 7 94<|of 96 3 4<|ol 97 96<|oo 98 (.ixa true 6 (t 97) (i 0))<|oL 99 6 98<|cl 100 248 [t 95,t 99]<|N) (t 100) 101 (om 4 101<|N)) [3,5,6,92,93,101])<|.ret) (q (R (oi 103 .eql 17 9<|om 102 103<|N) [17,83,103])<|D (I 102 (q (q (R (of 104 3 5<|ol 105 104<|oh 106 105<|oz 107 0<|N) [102,104])<|D (.block 1<|.loop (q (.reg (ot 108 .lss 107 106<|N))<|q (D (I 108 S (E 1)) [108])<|q (D (.block 2<|q (R (oa true 109 7 105 107<|oL 110 7 109<|oN 8 y7<|oS 7 8 110<|N) [109,110])<|q (R (oL 112 7 2<|of 113 8 0<|ol 114 113<|cl 115 229 [t 112,t 114]<|om 111 115<|oe 116 111 0<|oe 117 111 1<|oN 9 yG<|oS 11 9 116<|om 10 117<|N) [112,113,114,115,111,116,117])<|q (R (om 118 10<|og 119 118<|om 120 119<|.sc 120 false (of 121 9 3<|oL 122 7 121<|of 123 8 1<|oL 124 6 123<|cl 125 248 [t 122,t 124]<|og 126 125<|N) (t 126) 127 N) [8,9,10,118,119,120])<|D (I 127 (q (R (ow 4 false<|N) [2,3,105,106,107,127])<|.ret) S) [127]) [])<|R (oi 128 .add 107 1<|om 107 128<|N) [128])) [105,106,107,108,8,9,10])<|q (R (of 129 2 6<|ol 130 129<|oo 131 (.fnv (.func 286) [] [t 3])<|cl 132 158 [t 130,t 131]<|og 133 132<|om 4 133<|N) [2,3,129,130,131,132,133])<|.ret) S) [2,3,102])) [])) [])) [])) [])) []) [5,6,8,9,10])<|q (.reg (ow 4 true<|N))<|.ret
theorem ok248:FT 248 134 ir248 [.tmp 4]:=.o Tryz.func248
def ir285:Ic:=q (R (ox 2 0<|ow 3 false<|N) [0,3])<|q (R (of 4 1 5<|ol 5 4<|oo 6 (.ixa true 7 (t 5) (i 0))<|oL 7 7 6<|oL 8 6 2<|cl 9 248 [t 7,t 8]<|og 10 9<|om 3 10<|N) [2,4,5,6,7,8,9,10])<|.ret
theorem ok285:FT 285 11 ir285 [.tmp 3]:=.o Tryz.func285
def ir286:Ic:=q (R (ox 2 0<|ow 3 false<|N) [0,3])<|q (R (oL 7 6 1<|of 8 2 1<|ol 9 8<|cl 10 287 [t 7,t 9]<|om 6 10<|oe 11 6 0<|oe 12 6 1<|oN 4 y6<|oS 6 4 11<|om 5 12<|N) [7,8,9,10,6,11,12,4])<|q (R (om 13 5<|og 14 13<|om 15 14<|.sc 15 true (of 16 2 2<|ol 17 16<|oi 18 .neq 17 2<|N) (t 18) 19 (om 3 19<|N)) [2,5,13,14,15,19])<|.ret
theorem ok286:FT 286 20 ir286 [.tmp 3]:=.o Tryz.func286
def ir115:Ic:=q (R (ox 1 0<|oz 2 0<|N) [0,2])<|q (.reg (oN 3 [.int .i64 0]<|on (.sto none (t 3) (i 4096))<|N))<|q (q (R (oL 5 7 1<|cl 6 156 [t 5,i 1,t 3]<|om 4 6<|N) [3,5,6])<|q (R (om 7 4<|oi 8 .neq 7 0<|N) [7])<|D (I 8 (q (R (om 9 4<|om 2 9<|N) [1,4,8,9])<|.ret) S) [4,8])<|q (q (R (oL 10 7 1<|cl 11 157 [t 10]<|oi 12 .gtr 11 4096<|N) [1,10,11])<|D (I 12 (q (R (oz 2 9<|N) [12])<|.ret) S) [12])<|q (.reg (oz 2 0<|N))<|.ret
theorem ok115:FT 115 13 ir115 [.tmp 2]:=.o Tryz.func115
def ir158:Ic:=q (R (ow 4 false<|N) [4])<|q (R (om 5 0<|om 6 1<|cl 7 195 [t 5,t 6]<|oi 8 .geq 7 0<|om 4 8<|N) [0,1,5,6,7,8])<|.ret
theorem ok158:FT 158 9 ir158 [.tmp 4]:=.o Tryz.func158
end Go.Proofs
namespace Go.Proofs
open Go Av
def inI(n a b:Int):Bool:=decide (n≥a)&&decide (n≤b)
theorem walk114(n a b:Int):PT 114 [.int .i64 n,.int .i64 a,.int .i64 b] (.d (.bool (inI n a b))):=by
 refine ok114.pc ?_;simp only[go_sem,ir114,simprocAttr];refine sq (decide (n≤b)) ?_ ?_
 all_goals simp only[go_sem,inI,simprocAttr]
structure Lim where
 name:Str
 low:Int
 high:Int
 bounds:Bool
 scale:Bool
 text:Bool
 list:Bool
 fields:Bool
def encLim(l:Lim):List Dat:=[.str l.name,.int .i64 l.low,.int .i64 l.high,.bool l.bounds,.bool l.scale,.bool l.text,.bool l.list,.bool l.fields]
def lim0:Lim:=⟨[],0,0,false,false,false,false,false⟩
def limA:List Lim:=[lim0,
 ⟨[98,111,111,108],0,0,false,false,false,false,false⟩,
 ⟨[105,110,116],-999999999999999,999999999999999,true,false,false,false,false⟩,
 ⟨[100,101,99,105,109,97,108],-999999999999999,999999999999999,true,true,false,false,false⟩,
 ⟨[116,101,120,116],0,1024,true,false,true,false,false⟩,
 ⟨[98,121,116,101,115],0,1024,true,false,false,false,false⟩,
 ⟨[100,97,116,101],-719162,2932896,true,false,false,false,false⟩,
 ⟨[116,105,109,101],-62135596800000,253402300799999,true,false,false,false,false⟩,
 ⟨[108,105,115,116],0,256,true,false,false,true,false⟩,
 ⟨[114,101,99,111,114,100],0,0,false,false,false,false,true⟩,
 ⟨[118,97,114,105,97,110,116],0,0,false,false,false,false,true⟩]
def kindsL:List Dat:=limA.flatMap encLim
theorem walk243:PT 243 [] (.d (.agg kindsL)):=tbl_one X1_ok kR
def limK(k:Int):Lim:=limA.getD k.toNat lim0
theorem kindsL_len:kindsL.length=88:=rfl
theorem kindsL_at{k:Int}(h0:1≤k)(h1:k≤10):(kindsL.drop (k.toNat*8)).take 8=encLim (limK k):=by
 obtain⟨n,rfl⟩:∃n:Nat,k=n:=⟨k.toNat,oM⟩;have h:n=1∨n=2∨n=3∨n=4∨n=5∨n=6∨n=7∨n=8∨n=9∨n=10:=oM;rcases h with rfl|rfl|rfl|rfl|rfl|rfl|rfl|rfl|rfl|rfl<;>rfl
def formC(t:Typ)(L:Lim):Bool:=((((!L.bounds&&(t.min !=0||t.max !=0))||(!L.scale&&t.scale !=0))||(!L.text&&decide (((t.words.length:Nat):Int)>0)))||(!L.list&&decide (((t.elem.length:Nat):Int)>0)))||(!L.fields&&decide (((t.fields.length:Nat):Int)>0))
theorem walk244(t:Typ)(L:Lim):PT 244 [encT t,.agg (encLim L)] (.d (.int .i64 (if formC t L=true then 3 else 0))):=by
 refine ok244.pc ?_;generalize hR:(if formC t L=true then(3:Int)else 0)=R;unfold formC at hR;rw[encT_eq];simp only[go_sem,ir244,encLim,simprocAttr];refine sq (t.min !=0||t.max !=0) ?_ ?_
 ·refine zz ?_;refine sq (t.max !=0) ?_ ?_
  all_goals simp only[go_sem,simprocAttr]
 refine zz ?_;apply ik<;>intro h
 ·simp only[h,Bool.true_or,↓reduceIte]at hR;subst hR;exact zz26 trivial
 rw[h,Bool.false_or]at hR;refine sq (t.scale !=0) ?_ ?_
 ·exact zz4 trivial
 refine zz4 ?_;apply ik<;>intro h
 ·simp only[h,Bool.true_or,↓reduceIte]at hR;subst hR;exact zz26 trivial
 rw[h,Bool.false_or]at hR;refine sq (decide (((t.words.length:Nat):Int)>0)) ?_ ?_
 ·exact zz4 trivial
 refine zz4 ?_;apply ik<;>intro h
 ·simp only[h,Bool.true_or,↓reduceIte]at hR;subst hR;exact zz26 trivial
 rw[h,Bool.false_or]at hR;refine sq (decide (((t.elem.length:Nat):Int)>0)) ?_ ?_
 ·exact zz4 trivial
 refine zz4 ?_;apply ik<;>intro h
 ·simp only[h,Bool.true_or,↓reduceIte]at hR;subst hR;exact zz26 trivial
 rw[h,Bool.false_or]at hR;refine sq (decide (((t.fields.length:Nat):Int)>0)) ?_ ?_
 ·exact zz4 trivial
 refine zz4 ?_;apply ik<;>intro h
 ·simp only[h,↓reduceIte]at hR;subst hR;rfl
 ·simp only[h,Bool.false_eq_true,↓reduceIte]at hR;subst hR;rfl
def wordsF:Option Str→List Str→Int
 |_,[]=>0
 |p,w::r=>
  if chkV (.mk 4 0 0 w [] [])!=0 then chkV (.mk 4 0 0 w [] [])
  else if(match p with|some q=>w==q|none=>false)=true then 7
  else if(match p with|some q=>strLt w q|none=>false)=true then 24
  else wordsF (some w) r
def wordsT(t:Typ):Int:=if(t.min !=0||t.max !=0)=true then 3 else if decide (((t.words.length:Nat):Int)>64)=true then 9 else wordsF none t.words
def prevW(l:List Str)(k:Nat):Option Str:=if k=0 then none else l[k-1]?
def isP(f:Str→Str→Bool)(w:Str)(p:Option Str):Bool:=match p with|some q=>f w q|none=>false
theorem wordsF_cons(p:Option Str)(w:Str)(r:List Str):wordsF p (w::r)=if chkV (.mk 4 0 0 w [] [])!=0 then chkV (.mk 4 0 0 w [] [])else if isP (fun a b=>a==b) w p=true then 7 else if isP strLt w p=true then 24 else wordsF (some w) r:=by
 cases p<;>rfl
theorem nth_strs{xs:List Str}{k:Nat}(h:k<xs.length):nth (xs.map .str) k=.str xs[k]:=by rw[nth_eq (sX h),List.getElem_map]
theorem dec_isP(f:Str→Str→Bool)(w:Str)(l:List Str)(k:Nat):(decide ((k:Int)>0)&&isP f w (prevW l k))=isP f w (prevW l k):=by
 by_cases h:k=0
 ·subst h;rfl
 ·have:decide ((k:Int)>0)=true:=sO;rw[this,Bool.true_and]
theorem walk245(t:Typ)(hw:t.words.length≤68719476736):PT 245 [encT t] (.d (.int .i64 (wordsT t))):=by
 refine ok245.pc ?_;generalize hR:wordsT t=R;unfold wordsT at hR;rw[encT_eq];simp only[go_sem,ir245,simprocAttr];refine sq (t.max !=0) ?_ ?_
 ·exact zz trivial
 refine zz4 ?_;apply ik<;>intro h
 ·simp only[h,↓reduceIte]at hR;subst hR;rfl
 rw[if_neg (nF h)]at hR;clear h;apply ik<;>intro h
 ·simp only[h,↓reduceIte]at hR;subst hR;rfl
 rw[if_neg (nF h)]at hR;refine wpc_loop (fun n s=>∃k:Nat,k≤t.words.length∧n=t.words.length-k∧wordsF (prevW t.words k) (t.words.drop k)=R∧
  s=⟨[(1,.ref 1 0),(21,.d (.list 1 (t.words.map .str))),(22,.d (.int .i64 t.words.length)),(23,.d (.int .i64 k))],
   [(1,.box [.d (.int .i64 t.kind),.d (.int .i64 t.min),.d (.int .i64 t.max),.d (.int .i64 t.scale),.d (.list 1 (t.words.map .str)),.d (.list 7 (t.elem.map encT)),.d (.list 11 (t.fields.map encG))])]⟩) ?_ ?_
 ·exact⟨_,_,Wk.refl _,0,Nat.zero_le _,rfl,hR,rfl⟩
 ·clear hR;rintro n s ⟨k,hk,rfl,hinv,rfl⟩;by_cases hlt:k<t.words.length
  ·have hx:=nth_strs hlt;have hd:=dT hlt;have c278:=(walk278 t.words[k]).call trivial;have c247:=(walk247 (.mk 4 0 0 t.words[k] [] [])).call trivial;rw[List.drop_eq_getElem_cons hlt,wordsF_cons]at hinv;have hp1:prevW t.words (k+1)=some t.words[k]:=by simp[prevW,List.getElem?_eq_getElem hlt]
   have hq:0<k→∃q,prevW t.words k=some q∧nth (t.words.map .str) ((k:Int)-1).toNat=.str q:=by
    intro h0;have h1:k-1<t.words.length:=oM;refine⟨t.words[k-1],?_,?_⟩
    ·rw[prevW,if_neg oM,List.getElem?_eq_getElem h1]
    ·have:((k:Int)-1).toNat=k-1:=oM;rw[this,nth_strs h1]
   have hw1:0<k→IntKind.i64.wrap ((k:Int)-1)=(k:Int)-1:=fun h0=>wrap64 oM oM
   have hdd:=dec_isP (fun a b=>a==b) t.words[k] t.words k;have hdl:=dec_isP strLt t.words[k] t.words k;generalize chkV (.mk 4 0 0 t.words[k] [] [])=cv at*;rw[encV_eq]at c278 c247;refine zz6 ?_;refine⟨oM,dC,wn c278 ?_⟩;refine zz ?_;refine wc c247 ?_;apply ik<;>intro h
   ·rw[if_pos h]at hinv;subst hinv;rfl
   rw[if_neg (nF h)]at hinv;clear h;refine scQ_pure (isP (fun a b=>a==b) t.words[k] (prevW t.words k)) (fun h0=>?_) ?_
   ·have h0:0<k:=sX h0;obtain⟨q,e1,e2⟩:=hq h0;refine zz51 ?_;exact⟨oM,dC⟩
   simp only[go_sem,hdd,simprocAttr];apply ik<;>intro h
   ·rw[if_pos h]at hinv;subst hinv;rfl
   rw[if_neg (nF h)]at hinv;clear h
   try refine zz ?_
   refine scQ_pure (isP strLt t.words[k] (prevW t.words k)) (fun h0=>?_) ?_
   ·have h0:0<k:=sX h0;obtain⟨q,e1,e2⟩:=hq h0;refine zz51 ?_;exact⟨oM,dC⟩
   simp only[go_sem,hdl,simprocAttr];apply ik<;>intro h
   ·rw[if_pos h]at hinv;subst hinv;rfl
   rw[if_neg (nF h),←hp1]at hinv;clear h;refine⟨t.words.length-(k+1),_,oM,Wk.less ?_,k+1,oM,rfl,hinv,rfl⟩;exact zz7 trivial
  ·have hd:=dF hlt;rw[List.drop_eq_nil_of_le oM,wordsF]at hinv;subst hinv;exact zz5 trivial
theorem CallOK.datA{P:Program}[Glb]{f:Nat}{vs:List Av}{hp u:List (Nat×Av.Obj)}{ds:List Dat}{v:Av}{p:Prop}(hd:datumAll (Av.get hp) vs=some (p,ds,u))(hp0:p)(h:CallOK P (.fn f) (ds.map .d) [] v []):
  CallOK P (.fn f) vs ((vs.flatMap idsC).map fun i=>(i,Av.get hp i)) v u:=by
 intro β A w H us hT hc hvs;have heq:datumAll H vs=some (p,ds,u):=by
  rw[←hd];refine datumAll_eq fun x hx=>?_
  exact hT (x,Av.get hp x) (List.mem_map.2 ⟨x,hx,rfl⟩)
 obtain⟨A1,s1,l1,r1,m1⟩:=datumAll_ok hc heq hp0 (us:=us.toList) (sX hvs.1) (fun k c u h1 h2=>hvs.2 k c u h1 (sX h2));refine(h β A1 w (hputs H u) us (by intro e he;cases he) s1.core ⟨by simpa using l1,fun k c u h1 h2=>?_⟩).mono ?_
 ·rw[List.getElem?_map]at h1;cases e:ds[k]? with
  |none=>simp[e]at h1
  |some x=>
   simp only[e,Option.map_some,Option.some.injEq]at h1;subst h1;exact .d _ _ (r1 k x u e (sX h2))
 ·rintro v' w' ⟨β',A',q1,q2⟩;exact⟨β',A',s1.trans q1,q2⟩
@[instance_reducible] def rls7:Rls:={rl:=fun n=>n==1||n==7}
@[instance_reducible] def rls8:Rls:={rl:=fun n=>n==8}
def emptyS(s:Ste):Bool:=(((((((((s.number==0)&&(s.time==0))&&(s.limit==0))&&(s.text==[]))&&(s.schema==[]))&&((s.exprs.length:Int)==0))&&((s.rules.length:Int)==0))&&((s.calls.length:Int)==0))&&((s.branches.length:Int)==0))
theorem walk152(s:Ste):PT 152 [encSt s] (.d (.bool (emptyS s))):=by
 refine ok152.pc ?_;rw[encSt_eq];simp only[go_sem,ir152,simprocAttr];refine sq (s.time==0) ?_ ?_
 ·exact zz4 trivial
 refine zz ?_;refine sq (s.limit==0) ?_ ?_
 ·exact zz4 trivial
 refine zz ?_;refine sq (s.text==[]) ?_ ?_
 ·exact zz4 trivial
 refine zz ?_;refine sq (s.schema==[]) ?_ ?_
 ·exact zz4 trivial
 refine zz ?_;refine sq ((s.exprs.length:Int)==0) ?_ ?_
 ·exact zz4 trivial
 refine zz ?_;refine sq ((s.rules.length:Int)==0) ?_ ?_
 ·exact zz4 trivial
 refine zz ?_;refine sq ((s.calls.length:Int)==0) ?_ ?_
 ·exact zz4 trivial
 refine zz ?_;refine sq ((s.branches.length:Int)==0) ?_ ?_
 ·exact zz4 trivial
 refine zz ?_;rfl
def brnsOk(n:Int)(m:Nat):Nat→List Brn→Bool
 |_,[]=>true
 |j,b::r=> !((b.cond.length:Int)!=n&& !(((j:Int)==(m:Int)-1)&&((b.cond.length:Int)==0)))&&brnsOk n m (j+1) r
def branchedS(s:Ste)(n:Int):Bool:=brnsOk n s.branches.length 0 s.branches&&inR s.branches.length 1 64
theorem walk99(s:Ste)(n:Int):PT 99 [encSt s,.int .i64 n] (.d (.bool (branchedS s n))):=by
 refine PCon.of_fits ok99.has fun hfit=>?_
 have hl:s.branches.length≤68719476736:=by
  have:=hfit _ (List.mem_cons_self);rw[encSt_eq]at this;simp only[fits,fitsL,List.length_map]at this;omega
 clear hfit;refine ok99.pc ?_;have hc:=(walk75 s.branches.length 1 64).call trivial;rw[encSt_eq];unfold branchedS;generalize inR (s.branches.length:Int) 1 64=c at*;simp only[go_sem,ir99,List.length_map,simprocAttr];generalize hL:s.branches=l at*;refine wpc_loop (fun r st=>∃k:Nat,k≤l.length∧r=l.length-k∧brnsOk n l.length k (l.drop k)=brnsOk n l.length 0 l∧
  st=⟨[(1,.d (.int .i64 n)),(2,.ref 2 0),(9,.d (.list 2 (l.map encB))),(10,.d (.int .i64 l.length)),(11,.d (.int .i64 k))],
   [(2,.box [.d (.str s.name),.d (.int .i64 s.kind),.d (.int .i64 s.number),.d (.int .i64 s.time),.d (.int .i64 s.limit),.d (.str s.text),.d (.str s.schema),.d (.list 5 (s.exprs.map encE)),.d (.list 6 (s.rules.map encR)),.d (.list 2 (s.calls.map encCl)),.d (.list 2 (l.map encB))])]⟩) ?_ ?_
 ·refine⟨_,_,Wk.less ?_,0,Nat.zero_le _,rfl,rfl,rfl⟩;simp[go_sem]
 ·rintro r st ⟨k,hk,rfl,hinv,rfl⟩;by_cases hlt:k<l.length
  ·have hx:=nth_encB hlt;have hd:=dT hlt;have hw:IntKind.i64.wrap ((l.length:Int)-1)=(l.length:Int)-1:=wrap64 oM oM;rw[List.drop_eq_getElem_cons hlt,brnsOk]at hinv;simp only[go_sem,hx,hd,hw,Int.toNat_natCast,List.length_map,simprocAttr];refine⟨oM,?_⟩;refine sq ((l[k].cond.length:Int)==0) ?_ ?_
   ·exact zz4 trivial
   refine zz4 ?_;refine sq (!(((k:Int)==(l.length:Int)-1)&&((l[k].cond.length:Int)==0))) ?_ ?_
   ·exact zz4 trivial
   refine zz4 ?_;generalize((l[k].cond.length:Int)!=n&& !(((k:Int)==(l.length:Int)-1)&&((l[k].cond.length:Int)==0)))=q at*;cases q with
   |true=>
    simp only[Bool.not_true,Bool.false_and]at hinv;rw[←hinv];simp only[go_sem,Bool.false_and,simprocAttr]
   |false=>
    simp only[Bool.not_false,Bool.true_and]at hinv;refine zz ?_;refine⟨l.length-(k+1),_,oM,Wk.less ?_,k+1,oM,rfl,hinv,rfl⟩;exact zz7 trivial
  ·have hd:=dF hlt;obtain rfl:k=l.length:=oM;rw[List.drop_length,brnsOk]at hinv;rw[←hinv];refine zz22 ?_;refine wn hc ?_;simp only[go_sem,Bool.true_and,simprocAttr]
def orS(a b:Str):Str:=if a==[]then b else a
theorem walk150(a b:Str):PT 150 [.list 1 [.str a,.str b]] (.d (.str (orS a b))):=by
 refine ok150.pc ?_;simp only[go_sem,ir150,Nat.reduceAdd,Nat.reduceEqDiff,Nat.reduceBEq,Nat.reduceLeDiff,reduceCtorEq,↓reduceIte];refine wpc_loop (fun r st=>∃k:Nat,k≤2∧r=2-k∧(0<k→a=[])∧(1<k→b=[])∧
  st=⟨[(3,.d (.str [])),(6,.d (.list 1 [.str a,.str b])),(7,.d (.int .i64 2)),(8,.d (.int .i64 k))],[]⟩) ?_ ?_
 ·refine⟨_,_,Wk.less ?_,0,oM,rfl,oM,oM,rfl⟩;simp[go_sem]
 ·rintro r st ⟨k,hk,rfl,h0,h1,rfl⟩;obtain rfl|rfl|rfl:k=0∨k=1∨k=2:=oM
  ·have e0:((0:Nat):Int)=0:=rfl;have e1:decide ((0:Int)<2)=true:=rfl;have e2:(0:Int).toNat=0:=rfl;have e3:nth [Dat.str a,Dat.str b] 0=.str a:=rfl;simp only[go_sem,e0,e1,e2,e3,Nat.reduceAdd,Nat.reduceEqDiff,Nat.reduceBEq,Nat.reduceLeDiff,reduceCtorEq,↓reduceIte];refine⟨dC,dC,fun h=>?_,fun h=>?_⟩
   ·have:(a==[])=false:=sX h;simp only[go_sem,orS,this,Nat.reduceAdd,Nat.reduceEqDiff,Nat.reduceBEq,Nat.reduceLeDiff,reduceCtorEq,↓reduceIte]
   ·have:a=[]:=sX h;refine⟨1,_,oM,Wk.less ?_,1,oM,rfl,fun _=>this,oM,rfl⟩;simp[go_sem];decide
  ·have e0:((1:Nat):Int)=1:=rfl;have e1:decide ((1:Int)<2)=true:=rfl;have e2:(1:Int).toNat=1:=rfl;have e3:nth [Dat.str a,Dat.str b] 1=.str b:=rfl;obtain rfl:=h0 oM;simp only[go_sem,e0,e1,e2,e3,Nat.reduceAdd,Nat.reduceEqDiff,Nat.reduceBEq,Nat.reduceLeDiff,reduceCtorEq,↓reduceIte];refine⟨dC,dC,fun h=>?_,fun h=>?_⟩
   ·simp[orS]
   ·have hb:b=[]:=sX h;refine⟨0,_,oM,Wk.less ?_,2,oM,rfl,fun _=>hb,rfl⟩;simp[go_sem];decide
  ·have e0:((2:Nat):Int)=2:=rfl;have e1:decide ((2:Int)<2)=false:=rfl;have e2:(2:Int).toNat=2:=rfl;obtain rfl:=h0 oM;obtain rfl:=h1 oM;simp only[go_sem,e0,e1,Nat.reduceAdd,Nat.reduceEqDiff,Nat.reduceBEq,Nat.reduceLeDiff,reduceCtorEq,↓reduceIte];simp[orS]
theorem walk147(s:Str):PT 147 [.str s] (.d (.bool (validS s))):=by
 refine ok147.pc ?_;simp only[go_sem,ir147,simprocAttr];refine wc (call185 s) trivial
def reasonB(s:Str):Bool:=inR s.length 1 64&&validS s
theorem walk86(s:Str):PT 86 [.str s] (.d (.bool (reasonB s))):=by
 refine ok86.pc ?_;have h1:=(walk75 s.length 1 64).call trivial;have h2:=(walk147 s).call trivial;simp only[go_sem,ir86,simprocAttr];refine wc h1 ?_;refine sq (validS s) ?_ ?_
 ·refine zz ?_;refine wc h2 trivial
 simp only[go_sem,reasonB,simprocAttr]
def rt157(s:Ste):Bool:=(((s.exprs.length:Int)==1)&&(reasonB s.text))
theorem walk85(s:Ste):PT 85 [encSt s] (.d (.bool (rt157 s))):=by
 refine ok85.pc ?_;have h1:=(walk86 s.text).call trivial;unfold rt157;rw[encSt_eq];simp only[go_sem,ir85,List.length_map,simprocAttr];refine sq (reasonB s.text) ?_ ?_
 ·refine zz4 ?_;refine wc h1 trivial
 exact zz4 trivial
def rt159(s:Ste):Bool:=(!(s.schema==[]))
theorem walk87(s:Ste):PT 87 [encSt s] (.d (.bool (rt159 s))):=by
 refine ok87.pc ?_;unfold rt159;rw[encSt_eq];simp only[go_sem,ir87,List.length_map,simprocAttr]
def rt160(s:Ste):Bool:=((!(s.text==[]))&&(!(s.schema==[])))
theorem walk88(s:Ste):PT 88 [encSt s] (.d (.bool (rt160 s))):=by
 refine ok88.pc ?_;unfold rt160;rw[encSt_eq];simp only[go_sem,ir88,List.length_map,simprocAttr];refine sq (!(s.schema==[])) ?_ ?_
 ·exact zz4 trivial
 exact zz4 trivial
def rt161(s:Ste):Bool:=((((inR s.exprs.length 1 2)&&(inR s.number 0 256))&&(!(s.schema==[])))&&(heldS s))
theorem walk89(s:Ste):PT 89 [encSt s] (.d (.bool (rt161 s))):=by
 refine ok89.pc ?_;have h0:=(walk75 s.exprs.length 1 2).call trivial;have h1:=(walk75 s.number 0 256).call trivial;have h3:=(walk90 s).call trivial;unfold rt161;rw[encSt_eq]at h3⊢;simp only[go_sem,ir89,List.length_map,simprocAttr];refine wc h0 ?_;refine sq (inR s.number 0 256) ?_ ?_
 ·refine zz4 ?_;refine wc h1 trivial
 refine zz4 ?_;refine sq (!(s.schema==[])) ?_ ?_
 ·exact zz4 trivial
 refine zz4 ?_;refine sq (heldS s) ?_ ?_
 ·refine zz4 ?_;refine wc h3 trivial
 exact zz4 trivial
def rt163(s:Ste):Bool:=(((s.exprs.length:Int)==2)&&(heldS s))
theorem walk91(s:Ste):PT 91 [encSt s] (.d (.bool (rt163 s))):=by
 refine ok91.pc ?_;have h1:=(walk90 s).call trivial;unfold rt163;rw[encSt_eq]at h1⊢;simp only[go_sem,ir91,List.length_map,simprocAttr];refine sq (heldS s) ?_ ?_
 ·refine zz4 ?_;refine wc h1 trivial
 exact zz4 trivial
def rt164(s:Ste):Bool:=(((s.exprs.length:Int)==1)&&(inR s.number 1 256))
theorem walk92(s:Ste):PT 92 [encSt s] (.d (.bool (rt164 s))):=by
 refine ok92.pc ?_;have h1:=(walk75 s.number 1 256).call trivial;unfold rt164;rw[encSt_eq];simp only[go_sem,ir92,List.length_map,simprocAttr];refine sq (inR s.number 1 256) ?_ ?_
 ·refine zz4 ?_;refine wc h1 trivial
 exact zz4 trivial
def rt165(s:Ste):Bool:=(((inR s.number 1 256)&&(decide (s.time≥1)))&&(heldS s))
theorem walk93(s:Ste):PT 93 [encSt s] (.d (.bool (rt165 s))):=by
 refine ok93.pc ?_;have h0:=(walk75 s.number 1 256).call trivial;have h2:=(walk90 s).call trivial;unfold rt165;rw[encSt_eq]at h2⊢;simp only[go_sem,ir93,List.length_map,simprocAttr];refine wc h0 ?_;refine sq (decide (s.time≥1)) ?_ ?_
 ·exact zz4 trivial
 refine zz4 ?_;refine sq (heldS s) ?_ ?_
 ·refine zz4 ?_;refine wc h2 trivial
 exact zz4 trivial
def rt166(s:Ste):Bool:=((decide (s.time≥1))&&(heldS s))
theorem walk94(s:Ste):PT 94 [encSt s] (.d (.bool (rt166 s))):=by
 refine ok94.pc ?_;have h1:=(walk90 s).call trivial;unfold rt166;rw[encSt_eq]at h1⊢;simp only[go_sem,ir94,List.length_map,simprocAttr];refine sq (heldS s) ?_ ?_
 ·refine zz4 ?_;refine wc h1 trivial
 exact zz4 trivial
def rt167(s:Ste):Bool:=(calledS s 1)
theorem walk95(s:Ste):PT 95 [encSt s] (.d (.bool (rt167 s))):=by
 refine ok95.pc ?_;have h0:=(walk96 s 1).call trivial;unfold rt167;rw[encSt_eq]at h0⊢;simp only[go_sem,ir95,List.length_map,simprocAttr];refine wc h0 trivial
def rt169(s:Ste):Bool:=(calledS s 16)
theorem walk97(s:Ste):PT 97 [encSt s] (.d (.bool (rt169 s))):=by
 refine ok97.pc ?_;have h0:=(walk96 s 16).call trivial;unfold rt169;rw[encSt_eq]at h0⊢;simp only[go_sem,ir97,List.length_map,simprocAttr];refine wc h0 trivial
def rt170(s:Ste):Bool:=(branchedS s 1)
theorem walk98(s:Ste):PT 98 [encSt s] (.d (.bool (rt170 s))):=by
 refine ok98.pc ?_;have h0:=(walk99 s 1).call trivial;unfold rt170;rw[encSt_eq]at h0⊢;simp only[go_sem,ir98,List.length_map,simprocAttr];refine wc h0 trivial
def rt172(s:Ste):Bool:=(branchedS s 0)
theorem walk100(s:Ste):PT 100 [encSt s] (.d (.bool (rt172 s))):=by
 refine ok100.pc ?_;have h0:=(walk99 s 0).call trivial;unfold rt172;rw[encSt_eq]at h0⊢;simp only[go_sem,ir100,List.length_map,simprocAttr];refine wc h0 trivial
def rt173(s:Ste):Bool:=(!(s.text==[]))
theorem walk101(s:Ste):PT 101 [encSt s] (.d (.bool (rt173 s))):=by
 refine ok101.pc ?_;unfold rt173;rw[encSt_eq];simp only[go_sem,ir101,List.length_map,simprocAttr]
def rt174(s:Ste):Bool:=(reasonB s.text)
theorem walk102(s:Ste):PT 102 [encSt s] (.d (.bool (rt174 s))):=by
 refine ok102.pc ?_;have h0:=(walk86 s.text).call trivial;unfold rt174;rw[encSt_eq];simp only[go_sem,ir102,List.length_map,simprocAttr];refine wc h0 trivial
def CL(f:Nat)(caps:List Dat)(φ:List Dat→List Dat):Prop:=∀x0 x1 x2 x3 x4 x5 x6 x7 x8 x9 x10:Dat,
 KT f (.ref 1000 0::caps.map .d) [(1000,.box ([x0,x1,x2,x3,x4,x5,x6,x7,x8,x9,x10].map .d))] (.tup []) [(1000,.box ((φ [x0,x1,x2,x3,x4,x5,x6,x7,x8,x9,x10]).map .d))]
theorem idsInL_dr(G:Nat→Option Av.Obj):∀xs:List Dat,idsInL G (xs.map .d)
 |[]=>trivial
 |x::r=>⟨trivial,idsInL_dr G r⟩
theorem box_closed2(xs ys:List Dat):closed (hputs (get [(1000,.box (xs.map .d))]) [(1000,.box (ys.map .d))]):=closed_puts (by
 simp only[puts,put,↓reduceIte];exact⟨idsInL_dr _ ys,trivial⟩)
def cl148(xs:List Dat):List Dat:=(xs.set 5 (.str []))
theorem clr148:CL 76 [] cl148:=by
 intro x0 x1 x2 x3 x4 x5 x6 x7 x8 x9 x10;refine ok76.con (k:=some false) (Nat.le_of_ble_eq_true rfl) (box_closed2 _ _) trivial ?_;simp only[cl148,go_sem,ir76,List.set_cons_zero,List.set_cons_succ,simprocAttr]
def cl149(xs:List Dat):List Dat:=((xs.set 8 (.nil 6)).set 6 (.str []))
theorem clr149:CL 77 [] cl149:=by
 intro x0 x1 x2 x3 x4 x5 x6 x7 x8 x9 x10;refine ok77.con (k:=some false) (Nat.le_of_ble_eq_true rfl) (box_closed2 _ _) trivial ?_;simp only[cl149,go_sem,ir77,List.set_cons_zero,List.set_cons_succ,simprocAttr]
def cl150(xs:List Dat):List Dat:=(xs.set 7 (.nil 5))
theorem clr150:CL 78 [] cl150:=by
 intro x0 x1 x2 x3 x4 x5 x6 x7 x8 x9 x10;refine ok78.con (k:=some false) (Nat.le_of_ble_eq_true rfl) (box_closed2 _ _) trivial ?_;simp only[cl150,go_sem,ir78,List.set_cons_zero,List.set_cons_succ,simprocAttr]
def cl151(xs:List Dat):List Dat:=((xs.set 3 (.int .i64 0)).set 4 (.int .i64 0))
theorem clr151:CL 79 [] cl151:=by
 intro x0 x1 x2 x3 x4 x5 x6 x7 x8 x9 x10;refine ok79.con (k:=some false) (Nat.le_of_ble_eq_true rfl) (box_closed2 _ _) trivial ?_;simp only[cl151,go_sem,ir79,List.set_cons_zero,List.set_cons_succ,simprocAttr]
def cl152(xs:List Dat):List Dat:=(xs.set 10 (.nil 2))
theorem clr152:CL 80 [] cl152:=by
 intro x0 x1 x2 x3 x4 x5 x6 x7 x8 x9 x10;refine ok80.con (k:=some false) (Nat.le_of_ble_eq_true rfl) (box_closed2 _ _) trivial ?_;simp only[cl152,go_sem,ir80,List.set_cons_zero,List.set_cons_succ,simprocAttr]
def cl155(xs:List Dat):List Dat:=(xs.set 2 (.int .i64 0))
theorem clr155:CL 83 [] cl155:=by
 intro x0 x1 x2 x3 x4 x5 x6 x7 x8 x9 x10;refine ok83.con (k:=some false) (Nat.le_of_ble_eq_true rfl) (box_closed2 _ _) trivial ?_;simp only[cl155,go_sem,ir83,List.set_cons_zero,List.set_cons_succ,simprocAttr]
def cl156(xs:List Dat):List Dat:=(xs.set 9 (.nil 2))
theorem clr156:CL 84 [] cl156:=by
 intro x0 x1 x2 x3 x4 x5 x6 x7 x8 x9 x10;refine ok84.con (k:=some false) (Nat.le_of_ble_eq_true rfl) (box_closed2 _ _) trivial ?_;simp only[cl156,go_sem,ir84,List.set_cons_zero,List.set_cons_succ,simprocAttr]
end Go.Proofs
namespace Go.Proofs
open Go Av
variable {f:Nat}
abbrev fnD(f:Nat):Dat:=.fn (.func f) [] []
def allF(l:List Nat):Dat:=.fn (.func 82) [] [.ptr [.list 1 (l.map fnD)]]
def rulesM:List (Dat×Dat):=[(.int .i64 1,.agg [allF [76,78],fnD 85]),(.int .i64 2,.agg [fnD 77,fnD 87]),(.int .i64 3,.agg [allF [76,77],fnD 88]),(.int .i64 4,.agg [allF [78,83,79,77],fnD 89]),(.int .i64 5,.agg [allF [78,79],fnD 91]),
 (.int .i64 6,.agg [allF [78,83],fnD 92]),(.int .i64 7,.agg [allF [83,79],fnD 93]),(.int .i64 8,.agg [fnD 79,fnD 94]),(.int .i64 9,.agg [allF [77,79,84],fnD 95]),(.int .i64 10,.agg [allF [77,79,84],fnD 97]),
 (.int .i64 11,.agg [fnD 80,fnD 98]),(.int .i64 12,.agg [fnD 80,fnD 100]),(.int .i64 13,.agg [fnD 76,fnD 101]),(.int .i64 14,.agg [fnD 76,fnD 102])]
def flatE:List (Dat×Dat)→List Dat
 |[]=>[]
 |e::r=>e.1::e.2::flatE r
theorem flatE_inj:∀(a b:List (Dat×Dat)),flatE a=flatE b→a=b
 |[],[],_=>rfl
 |[],_::_,h=>by simp[flatE]at h
 |_::_,[],h=>by simp[flatE]at h
 |(x,y)::r,(z,w)::s,h=>by
  simp only[flatE,List.cons.injEq]at h;rw[h.1,h.2.1,flatE_inj r s h.2.2]
def entM(P:Program)(X:Ext)(f:Nat)(es:List (Dat×Dat)):Bool:=match evF P (modeOf 0) (callF P X (fun _=>0) 500 60) 500 f [] []with
 |some (u,_)=>pureB u&&(match u with|.d (.map l)=>dEqs (flatE l) (flatE es)|_=>false)
 |none=>false
theorem entM_ok{P:Program}{X:Ext}(hX:ExtOK P X){es:List (Dat×Dat)}(h:entM P X f es=true):PCon P f [] (.d (.map es)):=by
 unfold entM at h;split at h
 ·rename_i u fh ev;simp only[Bool.and_eq_true]at h;obtain⟨hp,he⟩:=h;split at he
  ·rw[flatE_inj _ _ (dEqs_ok _ _ he)]at ev hp;exact ev_pcon hX ev hp
  ·cases he
 ·cases h
theorem k80:entM Tryz.prog X1 36 rulesM=true:=kR
theorem walk36:PT 36 [] (.d (.map rulesM)):=entM_ok X1_ok k80
theorem CL.gen{caps:List Dat}{φ:List Dat→List Dat}(h:CL f caps φ){xs:List Dat}(hx:xs.length=11):
  KT f (.ref 1000 0::caps.map .d) [(1000,.box (xs.map .d))] (.tup []) [(1000,.box ((φ xs).map .d))]:=by
 match xs,hx with
 |[x0,x1,x2,x3,x4,x5,x6,x7,x8,x9,x10],_=>exact h x0 x1 x2 x3 x4 x5 x6 x7 x8 x9 x10
def clF:Nat→List Dat→List Dat
 |76=>cl148|77=>cl149|78=>cl150|79=>cl151|80=>cl152|83=>cl155|84=>cl156
 |_=>id
def clN(f:Nat):Prop:=f=76∨f=77∨f=78∨f=79∨f=80∨f=83∨f=84
theorem clF_ok(h:clN f):CL f [] (clF f):=by
 rcases h with rfl|rfl|rfl|rfl|rfl|rfl|rfl
 ·exact clr148
 ·exact clr149
 ·exact clr150
 ·exact clr151
 ·exact clr152
 ·exact clr155
 ·exact clr156
theorem clF_len(f:Nat)(xs:List Dat):(clF f xs).length=xs.length:=by
 unfold clF;split<;>simp[cl148,cl149,cl150,cl151,cl152,cl155,cl156]
def clA(l:List Nat)(xs:List Dat):List Dat:=l.foldl (fun xs f=>clF f xs) xs
theorem clA_len:∀(l:List Nat) (xs:List Dat),(clA l xs).length=xs.length
 |[],xs=>rfl
 |f::r,xs=>by
  show(clA r (clF f xs)).length=_;rw[clA_len r,clF_len]
theorem clA_succ{l:List Nat}{k:Nat}(h:k<l.length)(xs:List Dat):clA (l.take (k+1)) xs=clF l[k] (clA (l.take k) xs):=by
 unfold clA;rw[List.take_succ_eq_append_getElem h,List.foldl_append];rfl
theorem clrA(l:List Nat)(hl:∀f∈l,clN f)(hn:l.length≤100):CL 82 [.ptr [.list 1 (l.map fnD)]] (clA l):=by
 intro x0 x1 x2 x3 x4 x5 x6 x7 x8 x9 x10;generalize hX:[x0,x1,x2,x3,x4,x5,x6,x7,x8,x9,x10]=xs;have hlen:xs.length=11:=by rw[←hX];rfl
 refine ok82.con (k:=some false) (Nat.le_of_ble_eq_true rfl) (box_closed2 _ _) trivial ?_;simp only[go_sem,ir82,List.length_map,Nat.reduceAdd,Nat.reduceEqDiff,Nat.reduceBEq,Nat.reduceLeDiff,reduceCtorEq,↓reduceIte];refine⟨dC,wpc_loop (fun r st=>∃k:Nat,k≤l.length∧r=l.length-k∧
  st=⟨[(0,.ref 1000 0),(1,.d (.ptr [.list 1 (l.map fnD)])),(5,.d (.list 1 (l.map fnD))),(6,.d (.int .i64 l.length)),(7,.d (.int .i64 k))],[(1000,.box ((clA (l.take k) xs).map .d))]⟩) ?_ ?_⟩
 ·refine⟨_,_,Wk.less ?_,0,Nat.zero_le _,rfl,rfl⟩;simp[go_sem,clA];exact idsInL_dr _ _
 ·rintro r st ⟨k,hk,rfl,rfl⟩;by_cases hlt:k<l.length
  ·have hx:=nth_map fnD hlt;have hd:=dT hlt;have hc:=Con.rw1 ((clF_ok (hl _ (List.getElem_mem hlt))).gen (xs:=clA (l.take k) xs) (by rw[clA_len,hlen])) (by simp[pureR]) 1000;rw[←clA_succ hlt]at hc;refine zz6 ?_;refine⟨oM,dC,wn hc ?_⟩;refine zz ?_;refine⟨l.length-(k+1),_,oM,Wk.less ?_,k+1,oM,rfl,rfl⟩;refine zz7 ?_;exact idsInL_dr _ _
  ·have hd:=dF hlt;obtain rfl:k=l.length:=oM;exact zz21 trivial
def sc1(s:Ste):Ste:=.mk s.name s.kind s.number s.time s.limit [] s.schema [] s.rules s.calls s.branches
def sc2(s:Ste):Ste:=.mk s.name s.kind s.number s.time s.limit s.text [] s.exprs [] s.calls s.branches
def sc3(s:Ste):Ste:=.mk s.name s.kind s.number s.time s.limit [] [] s.exprs [] s.calls s.branches
def sc4(s:Ste):Ste:=.mk s.name s.kind 0 0 0 s.text [] [] [] s.calls s.branches
def sc5(s:Ste):Ste:=.mk s.name s.kind s.number 0 0 s.text s.schema [] s.rules s.calls s.branches
def sc6(s:Ste):Ste:=.mk s.name s.kind 0 s.time s.limit s.text s.schema [] s.rules s.calls s.branches
def sc7(s:Ste):Ste:=.mk s.name s.kind 0 0 0 s.text s.schema s.exprs s.rules s.calls s.branches
def sc8(s:Ste):Ste:=.mk s.name s.kind s.number 0 0 s.text s.schema s.exprs s.rules s.calls s.branches
def sc9(s:Ste):Ste:=.mk s.name s.kind s.number 0 0 s.text [] s.exprs [] [] s.branches
def sc10(s:Ste):Ste:=.mk s.name s.kind s.number 0 0 s.text [] s.exprs [] [] s.branches
def sc11(s:Ste):Ste:=.mk s.name s.kind s.number s.time s.limit s.text s.schema s.exprs s.rules s.calls []
def sc12(s:Ste):Ste:=.mk s.name s.kind s.number s.time s.limit s.text s.schema s.exprs s.rules s.calls []
def sc13(s:Ste):Ste:=.mk s.name s.kind s.number s.time s.limit [] s.schema s.exprs s.rules s.calls s.branches
def sc14(s:Ste):Ste:=.mk s.name s.kind s.number s.time s.limit [] s.schema s.exprs s.rules s.calls s.branches
def formS(s:Ste):Bool:=if s.kind==1 then rt157 s&&emptyS (sc1 s)else if s.kind==2 then rt159 s&&emptyS (sc2 s)else if s.kind==3 then rt160 s&&emptyS (sc3 s)else if s.kind==4 then rt161 s&&emptyS (sc4 s)else if s.kind==5 then rt163 s&&emptyS (sc5 s)else if s.kind==6 then rt164 s&&emptyS (sc6 s)else if s.kind==7 then rt165 s&&emptyS (sc7 s)else if s.kind==8 then rt166 s&&emptyS (sc8 s)else if s.kind==9 then rt167 s&&emptyS (sc9 s)else if s.kind==10 then rt169 s&&emptyS (sc10 s)else if s.kind==11 then rt170 s&&emptyS (sc11 s)else if s.kind==12 then rt172 s&&emptyS (sc12 s)else if s.kind==13 then rt173 s&&emptyS (sc13 s)else if s.kind==14 then rt174 s&&emptyS (sc14 s)else false
theorem findM_no(kd:Int)(h:(kd==1)=false∧(kd==2)=false∧(kd==3)=false∧(kd==4)=false∧(kd==5)=false∧(kd==6)=false∧(kd==7)=false∧(kd==8)=false∧(kd==9)=false∧(kd==10)=false∧(kd==11)=false∧(kd==12)=false∧(kd==13)=false∧(kd==14)=false):findM .i rulesM (.int .i64 kd)=some none:=by
 obtain⟨h1,h2,h3,h4,h5,h6,h7,h8,h9,h10,h11,h12,h13,h14⟩:=h;simp only[findM,rulesM,cellEq,keyOk,↓reduceIte,h1,h2,h3,h4,h5,h6,h7,h8,h9,h10,h11,h12,h13,h14]
theorem form1(s:Ste)(hk:s.kind=1):PT 106 [encSt s,.map rulesM] (.d (.bool (rt157 s&&emptyS (sc1 s)))):=by
 refine ok106.pc ?_;have h1:=(walk85 s).call trivial;have h2:=Con.rw1 ((clrA [76,78] (by simp[clN]) dC).gen (xs:=[.str s.name,.int .i64 s.kind,.int .i64 s.number,.int .i64 s.time,.int .i64 s.limit,.str s.text,.str s.schema,.list 5 (s.exprs.map encE),.list 6 (s.rules.map encR),.list 2 (s.calls.map encCl),.list 2 (s.branches.map encB)]) rfl) (by simp[pureR]) 2;have h3:CT (.fn 152) [.d (.agg [.str s.name,.int .i64 s.kind,.int .i64 s.number,.int .i64 s.time,.int .i64 s.limit,.str [],.str s.schema,.list 5 [],.list 6 (s.rules.map encR),.list 2 (s.calls.map encCl),.list 2 (s.branches.map encB)])] [] (.d (.bool (emptyS (sc1 s)))) []:=by
  have:=(walk152 (sc1 s)).call trivial;rw[encSt_eq]at this;exact this
 have hf:findM .i rulesM (.int .i64 1)=some (some (.agg [allF [76,78],fnD 85])):=rfl;simp only[clA,clF,List.foldl_cons,List.foldl_nil,cl148,cl150,List.set_cons_zero,List.set_cons_succ,List.map_cons,List.map_nil]at h2;rw[encSt_eq]at h1⊢;generalize emptyS _=E at*;generalize rt157 s=R at*;rw[hk]at h1 h2 h3⊢;simp only[go_sem,ir106,hf,allF,fnD,Bool.not_true,simprocAttr];refine wc h1 ?_;cases R with
 |false=>simp only[go_sem,Bool.not_false,Bool.false_and,simprocAttr]
 |true=>
  simp only[go_sem,Bool.not_true,Bool.true_and,simprocAttr];refine wc h2 ?_;refine wps_pcall rfl (v:=.d (.bool E)) (by simp only[go_sem,simprocAttr];exact h3) ?_;exact zz trivial
theorem form2(s:Ste)(hk:s.kind=2):PT 106 [encSt s,.map rulesM] (.d (.bool (rt159 s&&emptyS (sc2 s)))):=by
 refine ok106.pc ?_;have h1:=(walk87 s).call trivial;have h2:=Con.rw1 (clr149.gen (xs:=[.str s.name,.int .i64 s.kind,.int .i64 s.number,.int .i64 s.time,.int .i64 s.limit,.str s.text,.str s.schema,.list 5 (s.exprs.map encE),.list 6 (s.rules.map encR),.list 2 (s.calls.map encCl),.list 2 (s.branches.map encB)]) rfl) (by simp[pureR]) 2;have h3:CT (.fn 152) [.d (.agg [.str s.name,.int .i64 s.kind,.int .i64 s.number,.int .i64 s.time,.int .i64 s.limit,.str s.text,.str [],.list 5 (s.exprs.map encE),.list 6 [],.list 2 (s.calls.map encCl),.list 2 (s.branches.map encB)])] [] (.d (.bool (emptyS (sc2 s)))) []:=by
  have:=(walk152 (sc2 s)).call trivial;rw[encSt_eq]at this;exact this
 have hf:findM .i rulesM (.int .i64 2)=some (some (.agg [fnD 77,fnD 87])):=rfl;simp only[cl149,cl149,List.set_cons_zero,List.set_cons_succ,List.map_cons,List.map_nil]at h2;rw[encSt_eq]at h1⊢;generalize emptyS _=E at*;generalize rt159 s=R at*;rw[hk]at h1 h2 h3⊢;simp only[go_sem,ir106,hf,allF,fnD,Bool.not_true,simprocAttr];refine wc h1 ?_;cases R with
 |false=>simp only[go_sem,Bool.not_false,Bool.false_and,simprocAttr]
 |true=>
  simp only[go_sem,Bool.not_true,Bool.true_and,simprocAttr];refine wc h2 ?_;refine wps_pcall rfl (v:=.d (.bool E)) (by simp only[go_sem,simprocAttr];exact h3) ?_;exact zz trivial
theorem form3(s:Ste)(hk:s.kind=3):PT 106 [encSt s,.map rulesM] (.d (.bool (rt160 s&&emptyS (sc3 s)))):=by
 refine ok106.pc ?_;have h1:=(walk88 s).call trivial;have h2:=Con.rw1 ((clrA [76,77] (by simp[clN]) dC).gen (xs:=[.str s.name,.int .i64 s.kind,.int .i64 s.number,.int .i64 s.time,.int .i64 s.limit,.str s.text,.str s.schema,.list 5 (s.exprs.map encE),.list 6 (s.rules.map encR),.list 2 (s.calls.map encCl),.list 2 (s.branches.map encB)]) rfl) (by simp[pureR]) 2;have h3:CT (.fn 152) [.d (.agg [.str s.name,.int .i64 s.kind,.int .i64 s.number,.int .i64 s.time,.int .i64 s.limit,.str [],.str [],.list 5 (s.exprs.map encE),.list 6 [],.list 2 (s.calls.map encCl),.list 2 (s.branches.map encB)])] [] (.d (.bool (emptyS (sc3 s)))) []:=by
  have:=(walk152 (sc3 s)).call trivial;rw[encSt_eq]at this;exact this
 have hf:findM .i rulesM (.int .i64 3)=some (some (.agg [allF [76,77],fnD 88])):=rfl;simp only[clA,clF,List.foldl_cons,List.foldl_nil,cl148,cl149,List.set_cons_zero,List.set_cons_succ,List.map_cons,List.map_nil]at h2;rw[encSt_eq]at h1⊢;generalize emptyS _=E at*;generalize rt160 s=R at*;rw[hk]at h1 h2 h3⊢;simp only[go_sem,ir106,hf,allF,fnD,Bool.not_true,simprocAttr];refine wc h1 ?_;cases R with
 |false=>simp only[go_sem,Bool.not_false,Bool.false_and,simprocAttr]
 |true=>
  simp only[go_sem,Bool.not_true,Bool.true_and,simprocAttr];refine wc h2 ?_;refine wps_pcall rfl (v:=.d (.bool E)) (by simp only[go_sem,simprocAttr];exact h3) ?_;exact zz trivial
theorem form4(s:Ste)(hk:s.kind=4):PT 106 [encSt s,.map rulesM] (.d (.bool (rt161 s&&emptyS (sc4 s)))):=by
 refine ok106.pc ?_;have h1:=(walk89 s).call trivial;have h2:=Con.rw1 ((clrA [78,83,79,77] (by simp[clN]) dC).gen (xs:=[.str s.name,.int .i64 s.kind,.int .i64 s.number,.int .i64 s.time,.int .i64 s.limit,.str s.text,.str s.schema,.list 5 (s.exprs.map encE),.list 6 (s.rules.map encR),.list 2 (s.calls.map encCl),.list 2 (s.branches.map encB)]) rfl) (by simp[pureR]) 2;have h3:CT (.fn 152) [.d (.agg [.str s.name,.int .i64 s.kind,.int .i64 0,.int .i64 0,.int .i64 0,.str s.text,.str [],.list 5 [],.list 6 [],.list 2 (s.calls.map encCl),.list 2 (s.branches.map encB)])] [] (.d (.bool (emptyS (sc4 s)))) []:=by
  have:=(walk152 (sc4 s)).call trivial;rw[encSt_eq]at this;exact this
 have hf:findM .i rulesM (.int .i64 4)=some (some (.agg [allF [78,83,79,77],fnD 89])):=rfl;simp only[clA,clF,List.foldl_cons,List.foldl_nil,cl150,cl155,cl151,cl149,List.set_cons_zero,List.set_cons_succ,List.map_cons,List.map_nil]at h2;rw[encSt_eq]at h1⊢;generalize emptyS _=E at*;generalize rt161 s=R at*;rw[hk]at h1 h2 h3⊢;simp only[go_sem,ir106,hf,allF,fnD,Bool.not_true,simprocAttr];refine wc h1 ?_;cases R with
 |false=>simp only[go_sem,Bool.not_false,Bool.false_and,simprocAttr]
 |true=>
  simp only[go_sem,Bool.not_true,Bool.true_and,simprocAttr];refine wc h2 ?_;refine wps_pcall rfl (v:=.d (.bool E)) (by simp only[go_sem,simprocAttr];exact h3) ?_;exact zz trivial
theorem form5(s:Ste)(hk:s.kind=5):PT 106 [encSt s,.map rulesM] (.d (.bool (rt163 s&&emptyS (sc5 s)))):=by
 refine ok106.pc ?_;have h1:=(walk91 s).call trivial;have h2:=Con.rw1 ((clrA [78,79] (by simp[clN]) dC).gen (xs:=[.str s.name,.int .i64 s.kind,.int .i64 s.number,.int .i64 s.time,.int .i64 s.limit,.str s.text,.str s.schema,.list 5 (s.exprs.map encE),.list 6 (s.rules.map encR),.list 2 (s.calls.map encCl),.list 2 (s.branches.map encB)]) rfl) (by simp[pureR]) 2;have h3:CT (.fn 152) [.d (.agg [.str s.name,.int .i64 s.kind,.int .i64 s.number,.int .i64 0,.int .i64 0,.str s.text,.str s.schema,.list 5 [],.list 6 (s.rules.map encR),.list 2 (s.calls.map encCl),.list 2 (s.branches.map encB)])] [] (.d (.bool (emptyS (sc5 s)))) []:=by
  have:=(walk152 (sc5 s)).call trivial;rw[encSt_eq]at this;exact this
 have hf:findM .i rulesM (.int .i64 5)=some (some (.agg [allF [78,79],fnD 91])):=rfl;simp only[clA,clF,List.foldl_cons,List.foldl_nil,cl150,cl151,List.set_cons_zero,List.set_cons_succ,List.map_cons,List.map_nil]at h2;rw[encSt_eq]at h1⊢;generalize emptyS _=E at*;generalize rt163 s=R at*;rw[hk]at h1 h2 h3⊢;simp only[go_sem,ir106,hf,allF,fnD,Bool.not_true,simprocAttr];refine wc h1 ?_;cases R with
 |false=>simp only[go_sem,Bool.not_false,Bool.false_and,simprocAttr]
 |true=>
  simp only[go_sem,Bool.not_true,Bool.true_and,simprocAttr];refine wc h2 ?_;refine wps_pcall rfl (v:=.d (.bool E)) (by simp only[go_sem,simprocAttr];exact h3) ?_;exact zz trivial
theorem form6(s:Ste)(hk:s.kind=6):PT 106 [encSt s,.map rulesM] (.d (.bool (rt164 s&&emptyS (sc6 s)))):=by
 refine ok106.pc ?_;have h1:=(walk92 s).call trivial;have h2:=Con.rw1 ((clrA [78,83] (by simp[clN]) dC).gen (xs:=[.str s.name,.int .i64 s.kind,.int .i64 s.number,.int .i64 s.time,.int .i64 s.limit,.str s.text,.str s.schema,.list 5 (s.exprs.map encE),.list 6 (s.rules.map encR),.list 2 (s.calls.map encCl),.list 2 (s.branches.map encB)]) rfl) (by simp[pureR]) 2;have h3:CT (.fn 152) [.d (.agg [.str s.name,.int .i64 s.kind,.int .i64 0,.int .i64 s.time,.int .i64 s.limit,.str s.text,.str s.schema,.list 5 [],.list 6 (s.rules.map encR),.list 2 (s.calls.map encCl),.list 2 (s.branches.map encB)])] [] (.d (.bool (emptyS (sc6 s)))) []:=by
  have:=(walk152 (sc6 s)).call trivial;rw[encSt_eq]at this;exact this
 have hf:findM .i rulesM (.int .i64 6)=some (some (.agg [allF [78,83],fnD 92])):=rfl;simp only[clA,clF,List.foldl_cons,List.foldl_nil,cl150,cl155,List.set_cons_zero,List.set_cons_succ,List.map_cons,List.map_nil]at h2;rw[encSt_eq]at h1⊢;generalize emptyS _=E at*;generalize rt164 s=R at*;rw[hk]at h1 h2 h3⊢;simp only[go_sem,ir106,hf,allF,fnD,Bool.not_true,simprocAttr];refine wc h1 ?_;cases R with
 |false=>simp only[go_sem,Bool.not_false,Bool.false_and,simprocAttr]
 |true=>
  simp only[go_sem,Bool.not_true,Bool.true_and,simprocAttr];refine wc h2 ?_;refine wps_pcall rfl (v:=.d (.bool E)) (by simp only[go_sem,simprocAttr];exact h3) ?_;exact zz trivial
theorem form7(s:Ste)(hk:s.kind=7):PT 106 [encSt s,.map rulesM] (.d (.bool (rt165 s&&emptyS (sc7 s)))):=by
 refine ok106.pc ?_;have h1:=(walk93 s).call trivial;have h2:=Con.rw1 ((clrA [83,79] (by simp[clN]) dC).gen (xs:=[.str s.name,.int .i64 s.kind,.int .i64 s.number,.int .i64 s.time,.int .i64 s.limit,.str s.text,.str s.schema,.list 5 (s.exprs.map encE),.list 6 (s.rules.map encR),.list 2 (s.calls.map encCl),.list 2 (s.branches.map encB)]) rfl) (by simp[pureR]) 2;have h3:CT (.fn 152) [.d (.agg [.str s.name,.int .i64 s.kind,.int .i64 0,.int .i64 0,.int .i64 0,.str s.text,.str s.schema,.list 5 (s.exprs.map encE),.list 6 (s.rules.map encR),.list 2 (s.calls.map encCl),.list 2 (s.branches.map encB)])] [] (.d (.bool (emptyS (sc7 s)))) []:=by
  have:=(walk152 (sc7 s)).call trivial;rw[encSt_eq]at this;exact this
 have hf:findM .i rulesM (.int .i64 7)=some (some (.agg [allF [83,79],fnD 93])):=rfl;simp only[clA,clF,List.foldl_cons,List.foldl_nil,cl155,cl151,List.set_cons_zero,List.set_cons_succ,List.map_cons,List.map_nil]at h2;rw[encSt_eq]at h1⊢;generalize emptyS _=E at*;generalize rt165 s=R at*;rw[hk]at h1 h2 h3⊢;simp only[go_sem,ir106,hf,allF,fnD,Bool.not_true,simprocAttr];refine wc h1 ?_;cases R with
 |false=>simp only[go_sem,Bool.not_false,Bool.false_and,simprocAttr]
 |true=>
  simp only[go_sem,Bool.not_true,Bool.true_and,simprocAttr];refine wc h2 ?_;refine wps_pcall rfl (v:=.d (.bool E)) (by simp only[go_sem,simprocAttr];exact h3) ?_;exact zz trivial
theorem form8(s:Ste)(hk:s.kind=8):PT 106 [encSt s,.map rulesM] (.d (.bool (rt166 s&&emptyS (sc8 s)))):=by
 refine ok106.pc ?_;have h1:=(walk94 s).call trivial;have h2:=Con.rw1 (clr151.gen (xs:=[.str s.name,.int .i64 s.kind,.int .i64 s.number,.int .i64 s.time,.int .i64 s.limit,.str s.text,.str s.schema,.list 5 (s.exprs.map encE),.list 6 (s.rules.map encR),.list 2 (s.calls.map encCl),.list 2 (s.branches.map encB)]) rfl) (by simp[pureR]) 2;have h3:CT (.fn 152) [.d (.agg [.str s.name,.int .i64 s.kind,.int .i64 s.number,.int .i64 0,.int .i64 0,.str s.text,.str s.schema,.list 5 (s.exprs.map encE),.list 6 (s.rules.map encR),.list 2 (s.calls.map encCl),.list 2 (s.branches.map encB)])] [] (.d (.bool (emptyS (sc8 s)))) []:=by
  have:=(walk152 (sc8 s)).call trivial;rw[encSt_eq]at this;exact this
 have hf:findM .i rulesM (.int .i64 8)=some (some (.agg [fnD 79,fnD 94])):=rfl;simp only[cl151,cl151,List.set_cons_zero,List.set_cons_succ,List.map_cons,List.map_nil]at h2;rw[encSt_eq]at h1⊢;generalize emptyS _=E at*;generalize rt166 s=R at*;rw[hk]at h1 h2 h3⊢;simp only[go_sem,ir106,hf,allF,fnD,Bool.not_true,simprocAttr];refine wc h1 ?_;cases R with
 |false=>simp only[go_sem,Bool.not_false,Bool.false_and,simprocAttr]
 |true=>
  simp only[go_sem,Bool.not_true,Bool.true_and,simprocAttr];refine wc h2 ?_;refine wps_pcall rfl (v:=.d (.bool E)) (by simp only[go_sem,simprocAttr];exact h3) ?_;exact zz trivial
theorem form9(s:Ste)(hk:s.kind=9):PT 106 [encSt s,.map rulesM] (.d (.bool (rt167 s&&emptyS (sc9 s)))):=by
 refine ok106.pc ?_;have h1:=(walk95 s).call trivial;have h2:=Con.rw1 ((clrA [77,79,84] (by simp[clN]) dC).gen (xs:=[.str s.name,.int .i64 s.kind,.int .i64 s.number,.int .i64 s.time,.int .i64 s.limit,.str s.text,.str s.schema,.list 5 (s.exprs.map encE),.list 6 (s.rules.map encR),.list 2 (s.calls.map encCl),.list 2 (s.branches.map encB)]) rfl) (by simp[pureR]) 2;have h3:CT (.fn 152) [.d (.agg [.str s.name,.int .i64 s.kind,.int .i64 s.number,.int .i64 0,.int .i64 0,.str s.text,.str [],.list 5 (s.exprs.map encE),.list 6 [],.list 2 [],.list 2 (s.branches.map encB)])] [] (.d (.bool (emptyS (sc9 s)))) []:=by
  have:=(walk152 (sc9 s)).call trivial;rw[encSt_eq]at this;exact this
 have hf:findM .i rulesM (.int .i64 9)=some (some (.agg [allF [77,79,84],fnD 95])):=rfl;simp only[clA,clF,List.foldl_cons,List.foldl_nil,cl149,cl151,cl156,List.set_cons_zero,List.set_cons_succ,List.map_cons,List.map_nil]at h2;rw[encSt_eq]at h1⊢;generalize emptyS _=E at*;generalize rt167 s=R at*;rw[hk]at h1 h2 h3⊢;simp only[go_sem,ir106,hf,allF,fnD,Bool.not_true,simprocAttr];refine wc h1 ?_;cases R with
 |false=>simp only[go_sem,Bool.not_false,Bool.false_and,simprocAttr]
 |true=>
  simp only[go_sem,Bool.not_true,Bool.true_and,simprocAttr];refine wc h2 ?_;refine wps_pcall rfl (v:=.d (.bool E)) (by simp only[go_sem,simprocAttr];exact h3) ?_;exact zz trivial
theorem form10(s:Ste)(hk:s.kind=10):PT 106 [encSt s,.map rulesM] (.d (.bool (rt169 s&&emptyS (sc10 s)))):=by
 refine ok106.pc ?_;have h1:=(walk97 s).call trivial;have h2:=Con.rw1 ((clrA [77,79,84] (by simp[clN]) dC).gen (xs:=[.str s.name,.int .i64 s.kind,.int .i64 s.number,.int .i64 s.time,.int .i64 s.limit,.str s.text,.str s.schema,.list 5 (s.exprs.map encE),.list 6 (s.rules.map encR),.list 2 (s.calls.map encCl),.list 2 (s.branches.map encB)]) rfl) (by simp[pureR]) 2;have h3:CT (.fn 152) [.d (.agg [.str s.name,.int .i64 s.kind,.int .i64 s.number,.int .i64 0,.int .i64 0,.str s.text,.str [],.list 5 (s.exprs.map encE),.list 6 [],.list 2 [],.list 2 (s.branches.map encB)])] [] (.d (.bool (emptyS (sc10 s)))) []:=by
  have:=(walk152 (sc10 s)).call trivial;rw[encSt_eq]at this;exact this
 have hf:findM .i rulesM (.int .i64 10)=some (some (.agg [allF [77,79,84],fnD 97])):=rfl;simp only[clA,clF,List.foldl_cons,List.foldl_nil,cl149,cl151,cl156,List.set_cons_zero,List.set_cons_succ,List.map_cons,List.map_nil]at h2;rw[encSt_eq]at h1⊢;generalize emptyS _=E at*;generalize rt169 s=R at*;rw[hk]at h1 h2 h3⊢;simp only[go_sem,ir106,hf,allF,fnD,Bool.not_true,simprocAttr];refine wc h1 ?_;cases R with
 |false=>simp only[go_sem,Bool.not_false,Bool.false_and,simprocAttr]
 |true=>
  simp only[go_sem,Bool.not_true,Bool.true_and,simprocAttr];refine wc h2 ?_;refine wps_pcall rfl (v:=.d (.bool E)) (by simp only[go_sem,simprocAttr];exact h3) ?_;exact zz trivial
theorem form11(s:Ste)(hk:s.kind=11):PT 106 [encSt s,.map rulesM] (.d (.bool (rt170 s&&emptyS (sc11 s)))):=by
 refine ok106.pc ?_;have h1:=(walk98 s).call trivial;have h2:=Con.rw1 (clr152.gen (xs:=[.str s.name,.int .i64 s.kind,.int .i64 s.number,.int .i64 s.time,.int .i64 s.limit,.str s.text,.str s.schema,.list 5 (s.exprs.map encE),.list 6 (s.rules.map encR),.list 2 (s.calls.map encCl),.list 2 (s.branches.map encB)]) rfl) (by simp[pureR]) 2;have h3:CT (.fn 152) [.d (.agg [.str s.name,.int .i64 s.kind,.int .i64 s.number,.int .i64 s.time,.int .i64 s.limit,.str s.text,.str s.schema,.list 5 (s.exprs.map encE),.list 6 (s.rules.map encR),.list 2 (s.calls.map encCl),.list 2 []])] [] (.d (.bool (emptyS (sc11 s)))) []:=by
  have:=(walk152 (sc11 s)).call trivial;rw[encSt_eq]at this;exact this
 have hf:findM .i rulesM (.int .i64 11)=some (some (.agg [fnD 80,fnD 98])):=rfl;simp only[cl152,cl152,List.set_cons_zero,List.set_cons_succ,List.map_cons,List.map_nil]at h2;rw[encSt_eq]at h1⊢;generalize emptyS _=E at*;generalize rt170 s=R at*;rw[hk]at h1 h2 h3⊢;simp only[go_sem,ir106,hf,allF,fnD,Bool.not_true,simprocAttr];refine wc h1 ?_;cases R with
 |false=>simp only[go_sem,Bool.not_false,Bool.false_and,simprocAttr]
 |true=>
  simp only[go_sem,Bool.not_true,Bool.true_and,simprocAttr];refine wc h2 ?_;refine wps_pcall rfl (v:=.d (.bool E)) (by simp only[go_sem,simprocAttr];exact h3) ?_;exact zz trivial
theorem form12(s:Ste)(hk:s.kind=12):PT 106 [encSt s,.map rulesM] (.d (.bool (rt172 s&&emptyS (sc12 s)))):=by
 refine ok106.pc ?_;have h1:=(walk100 s).call trivial;have h2:=Con.rw1 (clr152.gen (xs:=[.str s.name,.int .i64 s.kind,.int .i64 s.number,.int .i64 s.time,.int .i64 s.limit,.str s.text,.str s.schema,.list 5 (s.exprs.map encE),.list 6 (s.rules.map encR),.list 2 (s.calls.map encCl),.list 2 (s.branches.map encB)]) rfl) (by simp[pureR]) 2;have h3:CT (.fn 152) [.d (.agg [.str s.name,.int .i64 s.kind,.int .i64 s.number,.int .i64 s.time,.int .i64 s.limit,.str s.text,.str s.schema,.list 5 (s.exprs.map encE),.list 6 (s.rules.map encR),.list 2 (s.calls.map encCl),.list 2 []])] [] (.d (.bool (emptyS (sc12 s)))) []:=by
  have:=(walk152 (sc12 s)).call trivial;rw[encSt_eq]at this;exact this
 have hf:findM .i rulesM (.int .i64 12)=some (some (.agg [fnD 80,fnD 100])):=rfl;simp only[cl152,cl152,List.set_cons_zero,List.set_cons_succ,List.map_cons,List.map_nil]at h2;rw[encSt_eq]at h1⊢;generalize emptyS _=E at*;generalize rt172 s=R at*;rw[hk]at h1 h2 h3⊢;simp only[go_sem,ir106,hf,allF,fnD,Bool.not_true,simprocAttr];refine wc h1 ?_;cases R with
 |false=>simp only[go_sem,Bool.not_false,Bool.false_and,simprocAttr]
 |true=>
  simp only[go_sem,Bool.not_true,Bool.true_and,simprocAttr];refine wc h2 ?_;refine wps_pcall rfl (v:=.d (.bool E)) (by simp only[go_sem,simprocAttr];exact h3) ?_;exact zz trivial
theorem form13(s:Ste)(hk:s.kind=13):PT 106 [encSt s,.map rulesM] (.d (.bool (rt173 s&&emptyS (sc13 s)))):=by
 refine ok106.pc ?_;have h1:=(walk101 s).call trivial;have h2:=Con.rw1 (clr148.gen (xs:=[.str s.name,.int .i64 s.kind,.int .i64 s.number,.int .i64 s.time,.int .i64 s.limit,.str s.text,.str s.schema,.list 5 (s.exprs.map encE),.list 6 (s.rules.map encR),.list 2 (s.calls.map encCl),.list 2 (s.branches.map encB)]) rfl) (by simp[pureR]) 2;have h3:CT (.fn 152) [.d (.agg [.str s.name,.int .i64 s.kind,.int .i64 s.number,.int .i64 s.time,.int .i64 s.limit,.str [],.str s.schema,.list 5 (s.exprs.map encE),.list 6 (s.rules.map encR),.list 2 (s.calls.map encCl),.list 2 (s.branches.map encB)])] [] (.d (.bool (emptyS (sc13 s)))) []:=by
  have:=(walk152 (sc13 s)).call trivial;rw[encSt_eq]at this;exact this
 have hf:findM .i rulesM (.int .i64 13)=some (some (.agg [fnD 76,fnD 101])):=rfl;simp only[cl148,cl148,List.set_cons_zero,List.set_cons_succ,List.map_cons,List.map_nil]at h2;rw[encSt_eq]at h1⊢;generalize emptyS _=E at*;generalize rt173 s=R at*;rw[hk]at h1 h2 h3⊢;simp only[go_sem,ir106,hf,allF,fnD,Bool.not_true,simprocAttr];refine wc h1 ?_;cases R with
 |false=>simp only[go_sem,Bool.not_false,Bool.false_and,simprocAttr]
 |true=>
  simp only[go_sem,Bool.not_true,Bool.true_and,simprocAttr];refine wc h2 ?_;refine wps_pcall rfl (v:=.d (.bool E)) (by simp only[go_sem,simprocAttr];exact h3) ?_;exact zz trivial
theorem form14(s:Ste)(hk:s.kind=14):PT 106 [encSt s,.map rulesM] (.d (.bool (rt174 s&&emptyS (sc14 s)))):=by
 refine ok106.pc ?_;have h1:=(walk102 s).call trivial;have h2:=Con.rw1 (clr148.gen (xs:=[.str s.name,.int .i64 s.kind,.int .i64 s.number,.int .i64 s.time,.int .i64 s.limit,.str s.text,.str s.schema,.list 5 (s.exprs.map encE),.list 6 (s.rules.map encR),.list 2 (s.calls.map encCl),.list 2 (s.branches.map encB)]) rfl) (by simp[pureR]) 2;have h3:CT (.fn 152) [.d (.agg [.str s.name,.int .i64 s.kind,.int .i64 s.number,.int .i64 s.time,.int .i64 s.limit,.str [],.str s.schema,.list 5 (s.exprs.map encE),.list 6 (s.rules.map encR),.list 2 (s.calls.map encCl),.list 2 (s.branches.map encB)])] [] (.d (.bool (emptyS (sc14 s)))) []:=by
  have:=(walk152 (sc14 s)).call trivial;rw[encSt_eq]at this;exact this
 have hf:findM .i rulesM (.int .i64 14)=some (some (.agg [fnD 76,fnD 102])):=rfl;simp only[cl148,cl148,List.set_cons_zero,List.set_cons_succ,List.map_cons,List.map_nil]at h2;rw[encSt_eq]at h1⊢;generalize emptyS _=E at*;generalize rt174 s=R at*;rw[hk]at h1 h2 h3⊢;simp only[go_sem,ir106,hf,allF,fnD,Bool.not_true,simprocAttr];refine wc h1 ?_;cases R with
 |false=>simp only[go_sem,Bool.not_false,Bool.false_and,simprocAttr]
 |true=>
  simp only[go_sem,Bool.not_true,Bool.true_and,simprocAttr];refine wc h2 ?_;refine wps_pcall rfl (v:=.d (.bool E)) (by simp only[go_sem,simprocAttr];exact h3) ?_;exact zz trivial
theorem walk106(s:Ste):PT 106 [encSt s,.map rulesM] (.d (.bool (formS s))):=by
 unfold formS;by_cases h1:s.kind=1
 ·rw[if_pos (by simp[h1])];exact form1 s h1
 rw[if_neg (sX h1)];by_cases h2:s.kind=2
 ·rw[if_pos (by simp[h2])];exact form2 s h2
 rw[if_neg (sX h2)];by_cases h3:s.kind=3
 ·rw[if_pos (by simp[h3])];exact form3 s h3
 rw[if_neg (sX h3)];by_cases h4:s.kind=4
 ·rw[if_pos (by simp[h4])];exact form4 s h4
 rw[if_neg (sX h4)];by_cases h5:s.kind=5
 ·rw[if_pos (by simp[h5])];exact form5 s h5
 rw[if_neg (sX h5)];by_cases h6:s.kind=6
 ·rw[if_pos (by simp[h6])];exact form6 s h6
 rw[if_neg (sX h6)];by_cases h7:s.kind=7
 ·rw[if_pos (by simp[h7])];exact form7 s h7
 rw[if_neg (sX h7)];by_cases h8:s.kind=8
 ·rw[if_pos (by simp[h8])];exact form8 s h8
 rw[if_neg (sX h8)];by_cases h9:s.kind=9
 ·rw[if_pos (by simp[h9])];exact form9 s h9
 rw[if_neg (sX h9)];by_cases h10:s.kind=10
 ·rw[if_pos (by simp[h10])];exact form10 s h10
 rw[if_neg (sX h10)];by_cases h11:s.kind=11
 ·rw[if_pos (by simp[h11])];exact form11 s h11
 rw[if_neg (sX h11)];by_cases h12:s.kind=12
 ·rw[if_pos (by simp[h12])];exact form12 s h12
 rw[if_neg (sX h12)];by_cases h13:s.kind=13
 ·rw[if_pos (by simp[h13])];exact form13 s h13
 rw[if_neg (sX h13)];by_cases h14:s.kind=14
 ·rw[if_pos (by simp[h14])];exact form14 s h14
 rw[if_neg (sX h14)];refine ok106.pc ?_;have hf:=findM_no s.kind (by simp[h1,h2,h3,h4,h5,h6,h7,h8,h9,h10,h11,h12,h13,h14]);rw[encSt_eq];simp only[go_sem,ir106,hf,Bool.not_false,simprocAttr]
end Go.Proofs
namespace Go.Proofs
open Go Av
def partsT(t:Typ):List Typ:=if t.kind=8 then t.elem else if t.kind=9∨t.kind=10 then t.fields.map TFl.type else[]
theorem encT_cells(t:Typ):(encT t).cells=[.int .i64 t.kind,.int .i64 t.min,.int .i64 t.max,.int .i64 t.scale,.list 1 (t.words.map .str),.list 7 (t.elem.map encT),.list 11 (t.fields.map encG)]:=by rw[encT_eq];rfl
theorem walk192(t:Typ)(hf:t.fields.length≤68719476736):PT 192 [encT t] (.d (.list 7 ((partsT t).map encT))):=by
 refine ok192.pc ?_;generalize hR:partsT t=R;unfold partsT at hR;rw[encT_eq];simp only[go_sem,ir192,simprocAttr];apply ik<;>intro h
 ·rw[if_pos (sX h)]at hR;subst hR;exact zz trivial
 rw[if_neg (sX h)]at hR;by_cases h9:t.kind=9∨t.kind=10
 ·rw[if_pos h9]at hR;have e:(t.kind==9)=true∨(t.kind==9)=false∧(t.kind==10)=true:=by
   rcases h9 with h9|h9
   ·exact .inl (by rw[h9];rfl)
   ·exact .inr ⟨by rw[h9];rfl,by rw[h9];rfl⟩
  rcases e with e|⟨e,e'⟩
  all_goals
   simp only[go_sem,e,List.length_map,simprocAttr]
   try simp only[go_sem,e',List.length_map,simprocAttr]
   refine⟨oM,?_⟩;refine wpc_loop (fun n s=>∃k:Nat,k≤t.fields.length∧n=t.fields.length-k∧
    s=⟨[(3,.ms 18 k),(20,.d (.list 11 (t.fields.map encG))),(21,.d (.int .i64 t.fields.length)),(22,.d (.int .i64 k))],[(18,.row k 7 (((t.fields.take k).map TFl.type).map encT))]⟩) ?_ ?_
   ·refine⟨_,_,Wk.less ?_,0,Nat.zero_le _,rfl,rfl⟩;simp[put,go_sem]
   ·rintro n s ⟨k,hk,rfl,rfl⟩;by_cases hlt:k<t.fields.length
    ·have hx:=nth_encG hlt;have hd:=dT hlt;refine zz6 ?_;refine⟨oM,by simp[Dat.cells],sO,t.fields.length-(k+1),_,oM,Wk.less ?_,k+1,oM,rfl,rfl⟩;rw[List.take_succ_eq_append_getElem hlt,List.map_append,List.map_append];simp only[go_sem,wrap64s k oM,List.map_cons,List.map_nil,encT_eq t.fields[k].type,Nat.reduceAdd,Nat.reduceEqDiff,Nat.reduceBEq,Nat.reduceLeDiff,reduceCtorEq,↓reduceIte]
    ·have hd:=dF hlt;obtain rfl:k=t.fields.length:=oM;subst hR;exact zz14 trivial
 ·rw[if_neg h9]at hR;subst hR;have e1:(t.kind==9)=false:=sO;have e2:(t.kind==10)=false:=sO;simp only[go_sem,e1,e2,simprocAttr]
theorem ix203{g:Nat}{cs:List Dat}{q:TFl→Bool}(l:List TFl)(hq:∀x∈l,PT g [encG x,.ptr cs] (.d (.bool (q x))))(hl:l.length≤68719476736):
  PT 195 [.list 11 (l.map encG),cloD g cs] (.d (.int .i64 (ixG q l))):=by
 refine ok195.pc ?_;simp only[go_sem,ir195,List.length_map,simprocAttr];refine wpc_loop (fun n s=>∃k:Nat,k≤l.length∧n=l.length-k∧(∀(j:Nat) (h1:j<l.length),j<k→q l[j]=false)∧
  s=⟨[(0,.d (.list 11 (l.map encG))),(1,.d (cloD g cs)),(7,.d (.int .i64 l.length)),(8,.d (.int .i64 k))],[]⟩) ?_ ?_
 ·exact⟨_,_,Wk.refl _,0,Nat.zero_le _,rfl,sP,rfl⟩
 ·rintro n s ⟨k,hk,rfl,hinv,rfl⟩;by_cases hlt:k<l.length
  ·have hx:=nth_encG hlt;have hd:=dT hlt;have hc:=(hq l[k] (List.getElem_mem _)).call trivial;rw[encG_eq]at hc;refine zz6 ?_;refine⟨oM,wn hc ?_⟩;refine zz ?_;apply ik<;>intro hf
   ·have:l.findIdx? q=some k:=by
     rw[List.findIdx?_eq_some_iff_getElem];exact⟨hlt,hf,fun j hj=>by rw[hinv j oM hj];decide⟩
    simp only[ixG,this]
   ·refine⟨l.length-(k+1),_,oM,Wk.less ?_,k+1,oM,rfl,?_,rfl⟩
    ·exact zz7 trivial
    ·intro j h1 hj;by_cases e:j=k
     ·subst e;exact hf
     ·exact hinv j h1 oM
  ·have hd:=dF hlt;refine zz5 ?_;have:l.findIdx? q=none:=by
    rw[List.findIdx?_eq_none_iff];intro x hx;obtain⟨j,hj,rfl⟩:=List.getElem_of_mem hx;exact hinv j hj oM
   simp only[ixG,this]
theorem ixG_any(q:TFl→Bool)(l:List TFl):decide (ixG q l≥0)=l.any q:=by
 unfold ixG;cases e:l.findIdx? q with
 |none=>
  rw[List.findIdx?_eq_none_iff]at e;have:l.any q=false:=by rw[List.any_eq_false];intro x hx;rw[e x hx];decide
  rw[this];rfl
 |some k=>
  obtain⟨h1,h2,_⟩:=List.findIdx?_eq_some_iff_getElem.1 e;have:l.any q=true:=List.any_eq_true.2 ⟨_,List.getElem_mem h1,h2⟩;rw[this];simp
theorem walk158{g:Nat}{cs:List Dat}{q:TFl→Bool}(l:List TFl)(hq:∀x∈l,PT g [encG x,.ptr cs] (.d (.bool (q x))))(hl:l.length≤68719476736):
  PT 158 [.list 11 (l.map encG),cloD g cs] (.d (.bool (l.any q))):=by
 refine ok158.pc ?_;have c:=(ix203 l hq hl).call trivial;rw[←ixG_any];simp only[go_sem,ir158,simprocAttr];refine wc c trivial
theorem encG_cells(f:TFl):(encG f).cells=[.int .i64 f.number,.str f.name,.int .i64 f.need,.int .i64 f.type.kind,.int .i64 f.type.min,.int .i64 f.type.max,.int .i64 f.type.scale,
  .list 1 (f.type.words.map .str),.list 7 (f.type.elem.map encT),.list 11 (f.type.fields.map encG),.list 6 (f.dflt.map encV)]:=by rw[encG_eq];rfl
def samG(f g:TFl):Bool:=g.name==f.name||g.number==f.number
theorem walk279(g f:TFl):PT 279 [encG g,.ptr (encG f).cells] (.d (.bool (samG f g))):=by
 refine ok279.pc ?_;rw[encG_cells,encG_eq];simp only[go_sem,ir279,Nat.reduceAdd,Nat.reduceEqDiff,Nat.reduceBEq,Nat.reduceLeDiff,reduceCtorEq,↓reduceIte];refine⟨dC,?_⟩;refine sq (g.number==f.number) ?_ ?_
 ·refine zz ?_;decide
 simp only[go_sem,samG,Nat.reduceAdd,Nat.reduceEqDiff,Nat.reduceBEq,Nat.reduceLeDiff,reduceCtorEq,↓reduceIte]
def fldT(t:Typ)(i:Nat)(f:TFl):Int:=
 if(!nameS f.name)=true then 12 else if(!inI f.number 1 9999)=true then 2 else if((t.fields.take i).any (samG f))=true then 7
 else if(!inI f.need 1 3||(t.kind==10&&f.need !=1))=true then 11
 else if(f.need==3&&((f.dflt.length:Nat):Int)==0)=true then 4
 else if(decide (((f.dflt.length:Nat):Int)>1)||(f.need !=3&&decide (((f.dflt.length:Nat):Int)>0)))=true then 3 else 0
theorem walk246(t:Typ)(i:Nat)(hi:i<t.fields.length)(hf:t.fields.length≤68719476736):PT 246 [encT t,.int .i64 i] (.d (.int .i64 (fldT t i t.fields[i]))):=by
 refine ok246.pc ?_;have hx:=nth_encG hi;have c113:=(p113 t.fields[i].name).call trivial;have cn:=(walk114 t.fields[i].number 1 9999).call trivial;have cd:=(walk114 t.fields[i].need 1 3).call trivial;have cu:=CallOK.clo (ds:=[.list 11 ((t.fields.take i).map encG)]) (walk158 (t.fields.take i) (fun x _=>walk279 x t.fields[i]) sO) rfl 5;have hsl:(List.drop (Int.toNat 0) (t.fields.map encG)).take ((i:Int)-0).toNat=(t.fields.take i).map encG:=by
  have:((i:Int)-0).toNat=i:=oM;rw[this,List.map_take];rfl
 generalize hR:fldT t i t.fields[i]=R;unfold fldT at hR;generalize t.fields[i]=f at*;rw[encG_cells]at cu;simp only[List.map_cons,List.map_nil,List.cons_append,List.nil_append]at cu;rw[encT_eq];simp only[go_sem,ir246,hx,Int.toNat_natCast,List.length_map,Nat.reduceAdd,Nat.reduceEqDiff,Nat.reduceBEq,Nat.reduceLeDiff,reduceCtorEq,↓reduceIte];refine⟨oM,wn c113 ?_⟩;refine zz ?_;apply ik<;>intro h
 ·rw[if_pos h]at hR;subst hR;rfl
 rw[if_neg (nF h)]at hR;clear h
 try refine zz ?_
 refine wc cn ?_;apply ik<;>intro h
 ·rw[if_pos h]at hR;subst hR;rfl
 rw[if_neg (nF h)]at hR;clear h
 try simp only[go_sem,hsl,Int.toNat_natCast,List.length_map,Nat.reduceAdd,Nat.reduceEqDiff,Nat.reduceBEq,Nat.reduceLeDiff,reduceCtorEq,↓reduceIte]
 refine⟨oM,wn cu ?_⟩;refine zz ?_;apply ik<;>intro h
 ·rw[if_pos h]at hR;subst hR;rfl
 rw[if_neg (nF h)]at hR;clear h
 try refine zz ?_
 refine wc cd ?_;refine sq (t.kind==10&&f.need !=1) ?_ ?_
 ·refine zz ?_;refine sq (f.need !=1) ?_ ?_
  all_goals simp only[go_sem,Nat.reduceAdd,Nat.reduceEqDiff,Nat.reduceBEq,Nat.reduceLeDiff,reduceCtorEq,↓reduceIte]
 refine zz ?_;apply ik<;>intro h
 ·rw[if_pos h]at hR;subst hR;rfl
 rw[if_neg (nF h)]at hR;clear h
 try refine zz ?_
 refine sq (((f.dflt.length:Nat):Int)==0) ?_ ?_
 ·exact zz4 trivial
 refine zz ?_;apply ik<;>intro h
 ·rw[if_pos h]at hR;subst hR;rfl
 rw[if_neg (nF h)]at hR;clear h
 try refine zz4 ?_
 refine sq (f.need !=3&&decide (((f.dflt.length:Nat):Int)>0)) ?_ ?_
 ·refine zz4 ?_;refine sq (decide (((f.dflt.length:Nat):Int)>0)) ?_ ?_
  all_goals simp only[go_sem,List.length_map,Nat.reduceAdd,Nat.reduceEqDiff,Nat.reduceBEq,Nat.reduceLeDiff,reduceCtorEq,↓reduceIte]
 refine zz4 ?_;apply ik<;>intro h
 ·rw[if_pos h]at hR;subst hR;rfl
 ·rw[if_neg (nF h)]at hR;subst hR;rfl
def fldsF(t:Typ):Nat→List TFl→Int
 |_,[]=>0
 |i,f::r=>if(fldT t i f !=0)=true then fldT t i f else fldsF t (i+1) r
def own2(t:Typ):Int:=
 if((t.kind==8&&((t.elem.length:Nat):Int)==0)||(t.kind==10&&((t.fields.length:Nat):Int)==0))=true then 4
 else if(t.kind==8&&decide (((t.elem.length:Nat):Int)>1))=true then 3
 else if decide (((t.fields.length:Nat):Int)>64)=true then 9 else fldsF t 0 t.fields
def bndC(t:Typ)(L:Lim):Bool:=(L.bounds&&((decide (t.min>t.max)||decide (t.min<L.low))||decide (t.max>L.high)))||(L.scale&& !inI t.scale 0 12)
def ownT(t:Typ):Int:=
 if(!inI t.kind 1 10)=true then 11 else if formC t (limK t.kind)=true then 3
 else if(t.kind==4&&decide (((t.words.length:Nat):Int)>0))=true then(if(wordsT t !=0)=true then wordsT t else own2 t)
 else if bndC t (limK t.kind)=true then 2 else own2 t
theorem walk191(t:Typ):PT 191 [encT t] (.d (.int .i64 (ownT t))):=by
 refine PCon.of_fits ok191.has fun hfit=>?_
 obtain⟨hw,he,hf⟩:=fits_T (hfit _ (List.mem_cons_self));refine ok191.pc ?_;have ci:=(walk114 t.kind 1 10).call trivial;have c243:=walk243.call trivial;have c244:=(walk244 t (limK t.kind)).call trivial;have c245:=(walk245 t hw).call trivial;have cs:=(walk114 t.scale 0 12).call trivial;have c246:=fun i (hi:i<t.fields.length)=>(walk246 t i hi hf).call trivial
 have hlen:=kindsL_len;generalize hR:ownT t=R;unfold ownT at hR;have hkk:=fun h0 h1=>kindsL_at (k:=t.kind) h0 h1
 simp only[encLim]at hkk c244;rw[encT_eq]at c244 c245;simp only[encT_eq t]at c246;rw[encT_eq];simp only[go_sem,ir191,simprocAttr];refine wc ci ?_;apply ik<;>intro h
 ·rw[if_pos h]at hR;subst hR;rfl
 rw[if_neg (nF h)]at hR;have hk:1≤t.kind∧t.kind≤10:=by
  simp only[inI,Bool.not_eq_false',Bool.and_eq_true,decide_eq_true_eq]at h;omega
 clear h;have hkk:=hkk hk.1 hk.2;generalize limK t.kind=L at*
 try refine zz ?_
 refine wpsL_call rfl c243 trivial ?_;simp only[go_sem,hkk,hlen,simprocAttr];refine⟨oM,dC,?_⟩;by_cases hc:formC t L=true
 ·rw[if_pos hc]at c244 hR;subst hR;refine wn c244 ?_;exact zz9 trivial
 rw[if_neg hc]at c244 hR;refine wn c244 ?_;refine zz9 ?_;refine sq (decide (((t.words.length:Nat):Int)>0)) ?_ ?_
 ·exact zz4 trivial
 refine zz9 ?_;apply ik<;>intro h;rw[if_pos h]at hR;clear h
 try refine zz9 ?_
 refine wn c245 ?_;refine zz9 ?_;apply ik<;>intro h
 ·rw[if_pos h]at hR;subst hR;rfl
 rw[if_neg (nF h)]at hR;clear h
 rotate_left
 rw[if_neg (nF h)]at hR;clear h;unfold bndC at hR;refine sq ((decide (t.min>t.max)||decide (t.min<L.low))||decide (t.max>L.high)) ?_ ?_
 ·refine zz9 ?_;refine sq (decide (t.min<L.low)) ?_ ?_
  ·exact zz9 trivial
  refine zz9 ?_;refine sq (decide (t.max>L.high)) ?_ ?_
  all_goals simp only[go_sem,Int.reduceBNe,bne_self_eq_false,simprocAttr]
 refine zz9 ?_;apply ik<;>intro h
 ·simp only[h,Bool.true_or,↓reduceIte]at hR;subst hR;simp only[go_sem,h,↓reduceIte]
 rw[h,Bool.false_or]at hR;clear h;refine sq (!inI t.scale 0 12) ?_ ?_
 ·refine zz9 ?_;refine wn cs ?_;exact zz9 trivial
 refine zz9 ?_;apply ik<;>intro h
 ·rw[if_pos h]at hR;subst hR;simp only[go_sem,h,↓reduceIte]
 rw[if_neg (nF h)]at hR
 try simp only[go_sem,h,Bool.false_eq_true,↓reduceIte]
 clear h
 all_goals
  clear c244 c245 cs ci c243 hkk;unfold own2 at hR;refine sq (((t.elem.length:Nat):Int)==0) ?_ ?_
  ·exact zz12 trivial
  refine zz12 ?_;apply ik<;>intro h
  ·simp only[h,Bool.true_or,↓reduceIte]at hR;subst hR;simp only[go_sem,h,↓reduceIte]
  rw[h,Bool.false_or]at hR;clear h
  try refine zz12 ?_
  refine sq (((t.fields.length:Nat):Int)==0) ?_ ?_
  ·exact zz12 trivial
  refine zz12 ?_;apply ik<;>intro h
  ·rw[if_pos h]at hR;subst hR;simp only[go_sem,h,↓reduceIte]
  rw[if_neg (nF h)]at hR
  try simp only[go_sem,h,Bool.false_eq_true,↓reduceIte]
  clear h;refine sq (decide (((t.elem.length:Nat):Int)>1)) ?_ ?_
  ·exact zz12 trivial
  refine zz12 ?_;apply ik<;>intro h
  ·rw[if_pos h]at hR;subst hR;rfl
  rw[if_neg (nF h)]at hR;clear h
  try refine zz12 ?_
  apply ik<;>intro h
  ·rw[if_pos h]at hR;subst hR;rfl
  rw[if_neg (nF h)]at hR;clear h
  try refine zz12 ?_
  refine wpc_loop (fun n s=>∃k:Nat,k≤t.fields.length∧n=t.fields.length-k∧fldsF t k (t.fields.drop k)=R∧
   s=⟨[(1,.ref 1 0),(105,.d (.int .i64 t.fields.length)),(106,.d (.int .i64 k))],[(1,.box [.d (.int .i64 t.kind),.d (.int .i64 t.min),.d (.int .i64 t.max),.d (.int .i64 t.scale),.d (.list 1 (t.words.map .str)),.d (.list 7 (t.elem.map encT)),.d (.list 11 (t.fields.map encG))])]⟩) ?_ ?_
  ·refine⟨_,_,Wk.less ?_,0,Nat.zero_le _,rfl,hR,rfl⟩;simp[put,go_sem]
  ·clear hR;rintro n s ⟨k,hk2,rfl,hinv,rfl⟩;by_cases hlt:k<t.fields.length
   ·have hd:=dT hlt;have c:=c246 k hlt;rw[List.drop_eq_getElem_cons hlt,fldsF]at hinv;generalize fldT t k t.fields[k]=e at*;refine zz5 ?_;refine wn c ?_;refine zz12 ?_;apply ik<;>intro h
    ·rw[if_pos h]at hinv;subst hinv;rfl
    rw[if_neg (nF h)]at hinv;clear h;refine⟨t.fields.length-(k+1),_,oM,Wk.less ?_,k+1,oM,rfl,hinv,rfl⟩;exact zz7 trivial
   ·have hd:=dF hlt;rw[List.drop_eq_nil_of_le oM,fldsF]at hinv;subst hinv;exact zz5 trivial
end Go.Proofs
namespace Go.Proofs
open Go Av
open Av.Y
def ir284:Ic:=q (R (ow 4 false<|N) [4])<|q (R (om 5 0<|om 6 1<|cl 7 345 [t 5,t 6]<|oi 8 .geq 7 0<|om 4 8<|N) [0,1,5,6,7,8])<|.ret
theorem ok284:FT 284 9 ir284 [.tmp 4]:=.o Tryz.func284
def ir345:Ic:=q (R (oz 4 0<|N) [4])<|q (q (R (om 6 0<|oh 7 6<|oz 8 0<|N) [6])<|D (.block 0<|.loop (q (.reg (ot 9 .lss 8 7<|N))<|q (D (I 9 S (E 0)) [9])<|q (D (.block 1<|q (R (om 10 8<|om 5 10<|N) [10])<|q (R (om 11 1<|om 12 0<|om 13 5<|oa true 14 6 12 13<|oL 15 6 14<|.call (some 16) (.dyn (t 11)) [t 15] N) [11,12,13,14,15])<|D (I 16 (q (R (om 17 5<|om 4 17<|N) [0,1,7,8,5,16,17])<|.ret) S) [5,16]) [])<|R (oi 18 .add 8 1<|om 8 18<|N) [18])) [0,1,7,8,9,10,5,11])<|q (.reg (oz 4 (-1)<|N))<|.ret
theorem ok345:FT 345 19 ir345 [.tmp 4]:=.o Tryz.func345
end Go.Proofs
namespace Go.Proofs
open Go Av
def ixV(q:Val→Bool)(l:List Val):Int:=match l.findIdx? q with
 |some k=>(k:Int)
 |none=> -1
theorem ix419{g:Nat}{cs:List Dat}{q:Val→Bool}(l:List Val)(hq:∀x∈l,PT g [encV x,.ptr cs] (.d (.bool (q x))))(hl:l.length≤68719476736):
  PT 345 [.list 6 (l.map encV),cloD g cs] (.d (.int .i64 (ixV q l))):=by
 refine ok345.pc ?_;simp only[go_sem,ir345,List.length_map,simprocAttr];refine wpc_loop (fun n s=>∃k:Nat,k≤l.length∧n=l.length-k∧(∀(j:Nat) (h1:j<l.length),j<k→q l[j]=false)∧
  s=⟨[(0,.d (.list 6 (l.map encV))),(1,.d (cloD g cs)),(7,.d (.int .i64 l.length)),(8,.d (.int .i64 k))],[]⟩) ?_ ?_
 ·exact⟨_,_,Wk.refl _,0,Nat.zero_le _,rfl,sP,rfl⟩
 ·rintro n s ⟨k,hk,rfl,hinv,rfl⟩;by_cases hlt:k<l.length
  ·have hx:=nth_encV hlt;have hd:=dT hlt;have hc:=(hq l[k] (List.getElem_mem _)).call trivial;rw[encV_eq]at hc;refine zz6 ?_;refine⟨oM,wn hc ?_⟩;refine zz ?_;apply ik<;>intro hf
   ·have:l.findIdx? q=some k:=by
     rw[List.findIdx?_eq_some_iff_getElem];exact⟨hlt,hf,fun j hj=>by rw[hinv j oM hj];decide⟩
    simp only[ixV,this]
   ·refine⟨l.length-(k+1),_,oM,Wk.less ?_,k+1,oM,rfl,?_,rfl⟩
    ·exact zz7 trivial
    ·intro j h1 hj;by_cases e:j=k
     ·subst e;exact hf
     ·exact hinv j h1 oM
  ·have hd:=dF hlt;refine zz5 ?_;have:l.findIdx? q=none:=by
    rw[List.findIdx?_eq_none_iff];intro x hx;obtain⟨j,hj,rfl⟩:=List.getElem_of_mem hx;exact hinv j hj oM
   simp only[ixV,this]
theorem ixV_any(q:Val→Bool)(l:List Val):decide (ixV q l≥0)=l.any q:=by
 unfold ixV;cases e:l.findIdx? q with
 |none=>
  rw[List.findIdx?_eq_none_iff]at e;have:l.any q=false:=by rw[List.any_eq_false];intro x hx;rw[e x hx];decide
  rw[this];rfl
 |some k=>
  obtain⟨h1,h2,_⟩:=List.findIdx?_eq_some_iff_getElem.1 e;have:l.any q=true:=List.any_eq_true.2 ⟨_,List.getElem_mem h1,h2⟩;rw[this];simp
theorem walk284{g:Nat}{cs:List Dat}{q:Val→Bool}(l:List Val)(hq:∀x∈l,PT g [encV x,.ptr cs] (.d (.bool (q x))))(hl:l.length≤68719476736):
  PT 284 [.list 6 (l.map encV),cloD g cs] (.d (.bool (l.any q))):=by
 refine ok284.pc ?_;have c:=(ix419 l hq hl).call trivial;rw[←ixV_any];simp only[go_sem,ir284,simprocAttr];refine wc c trivial
theorem tfR_mem{t:Typ}{n:Str}(h:(tfR t n).2=true):(tfR t n).1∈t.fields:=by
 unfold tfR at h⊢;cases e:idxG n t.fields with
 |none=>rw[e]at h;cases h
 |some i=>
  have hil:i<t.fields.length:=by
   obtain⟨h,_⟩:=List.findIdx?_eq_some_iff_getElem.1 e;exact h
  simp only[List.getElem?_eq_getElem hil,Option.getD_some];exact List.getElem_mem hil
mutual
def szT:Typ→Nat
 |.mk _ _ _ _ _ e f=>1+szTs e+szGs f
def szTs:List Typ→Nat
 |[]=>0
 |v::r=>szT v+szTs r
def szGs:List TFl→Nat
 |[]=>0
 |.mk _ _ _ t _::r=>szT t+szGs r
end
theorem szT_eq(t:Typ):szT t=1+szTs t.elem+szGs t.fields:=by cases t;rfl
theorem szTs_mem:∀{l:List Typ},∀x∈l,szT x≤szTs l
 |v::r,x,hx=>by
  simp only[szTs];rcases List.mem_cons.1 hx with rfl|hx
  ·omega
  ·have:=szTs_mem x hx;omega
theorem szGs_mem:∀{l:List TFl},∀x∈l,szT x.type≤szGs l
 |.mk a b c t d::r,x,hx=>by
  simp only[szGs];rcases List.mem_cons.1 hx with rfl|hx
  ·show szT t≤_;omega
  ·have:=szGs_mem x hx;omega
end Go.Proofs
namespace Go.Proofs
open Go Av
open Av.Y
end Go.Proofs
namespace Go.Proofs
open Go Av
abbrev TF(b:Bool):List (Nat×Av.Obj):=[(1000,.box [.clo (.func 0) [] [.ref 1001 0],.d (.bool (!b))]),(1001,.box [.d (.bool b)])]
theorem closedTF(b c:Bool):closed (hputs (Av.get (TF b)) (TF c)):=by
 refine closed_puts ?_;simp[TF,puts,put,closedH,objIn,idsInL,idsIn,Av.get]
theorem closedT1(b:Bool):closed (Av.get (TF b)):=by
 refine closed_of ?_;simp[TF,closedH,objIn,idsInL,idsIn,Av.get]
theorem TF_dom{b:Bool}{i:Nat}(h:(Av.get (TF b) i).isSome=true):i=1000∨i=1001:=by
 simp only[TF,Av.get]at h
 repeat' split at h
 all_goals first|(cases h;done)|skip
 all_goals rename_i e
 all_goals first|omega|skip
theorem TF_put(b c:Bool):puts (TF b) (TF c)=TF c:=by simp[TF,puts,put]
theorem TF_hput(b c:Bool):hputs (Av.get (TF b)) (TF c)=Av.get (TF c):=by rw[←get_puts,TF_put]
abbrev FCon(f:Nat)(ds:List Dat)(b c:Bool):Prop:=KT f (.ref 1000 0::ds.map .d) (TF b) (.tup []) (TF c)
theorem FCon.at{f:Nat}{ds:List Dat}{b c:Bool}(h:FCon f ds b c)(i j:Nat)(hij:i≠j):
  CT f (.ref i 0::ds.map .d) [(i,some (.box [.clo (.func 0) [] [.ref j 0],.d (.bool (!b))])),(j,some (.box [.d (.bool b)]))] (.tup []) [(i,.box [.clo (.func 0) [] [.ref j 0],.d (.bool (!c))]),(j,.box [.d (.bool c)])]:=by
 have:=Con.call h (fun m=>if m=1000 then i else j) (fun m hm=>by rcases TF_dom hm with rfl|rfl<;>omega)
  (fun a b' ha hb e=>by
   rw[TF_hput]at ha hb;rcases TF_dom ha with rfl|rfl<;>rcases TF_dom hb with rfl|rfl
   ·rfl
   ·simp at e;exact absurd e hij
   ·simp at e;exact absurd e.symm hij
   ·rfl)
  (by
   intro c hc;rcases List.mem_cons.1 hc with rfl|hc
   ·simp[inT,TF,Av.get,idsIn]
   ·obtain⟨x,_,rfl⟩:=List.mem_map.1 hc;trivial) (closedT1 b) [] (by simp[TF,Av.get]) (closedTF b c) trivial
 have e:(ds.map Av.d).map (Av.ren fun m=>if m=1000 then i else j)=ds.map Av.d:=by
  rw[List.map_map];exact List.map_congr_left fun x _=>by simp[Av.ren]
 simp only[TF,List.map_cons,List.map_nil,Obj.ren,Av.ren,renL,List.append_nil,e,simprocAttr]at this;exact this
def inB(t:Typ)(n:Int):Bool:= !(decide (n<t.min)||decide (n>t.max))
theorem walk205(l:List Str)(s:Str)(hl:l.length≤68719476736):∃n:Int,(n≥0↔s∈l)∧PT 205 [.list 1 (l.map .str),.str s] (.d (.int .i64 n)):=by
 refine⟨match l.findIdx? (fun x=>s==x)with|some k=>(k:Int)|none=> -1,?_,?_⟩
 ·cases e:l.findIdx? (fun x=>s==x)with
  |none=>
   rw[List.findIdx?_eq_none_iff]at e;refine⟨fun h=>absurd h sP,fun h=>?_⟩;have:=e s h;simp at this
  |some k=>
   obtain⟨h1,h2,_⟩:=List.findIdx?_eq_some_iff_getElem.1 e;refine⟨fun _=>?_,fun _=>by simp⟩;have:s=l[k]:=sX h2;rw[this];exact List.getElem_mem h1
 generalize hR:(match l.findIdx? (fun x=>s==x)with|some k=>(k:Int)|none=> -1)=R;refine ok205.pc ?_;simp only[go_sem,ir205,List.length_map,Nat.reduceAdd,Nat.reduceEqDiff,Nat.reduceBEq,Nat.reduceLeDiff,Int.reduceBEq,reduceCtorEq,↓reduceIte];refine wpc_loop (fun n z=>∃k:Nat,k≤l.length∧n=l.length-k∧(∀(j:Nat) (h1:j<l.length),j<k→(s==l[j])=false)∧
  z=⟨[(0,.d (.list 1 (l.map .str))),(1,.d (.str s)),(7,.d (.int .i64 l.length)),(8,.d (.int .i64 k))],[]⟩) ?_ ?_
 ·exact⟨_,_,Wk.refl _,0,Nat.zero_le _,rfl,sP,rfl⟩
 ·rintro n z ⟨k,hk,rfl,hinv,rfl⟩;by_cases hlt:k<l.length
  ·have hx:nth (l.map Dat.str) k=.str l[k]:=by rw[nth_eq (sX hlt),List.getElem_map]
   have hd:=dT hlt;simp only[go_sem,hx,hd,Int.toNat_natCast,List.length_map,Nat.reduceAdd,Nat.reduceEqDiff,Nat.reduceBEq,Nat.reduceLeDiff,Int.reduceBEq,reduceCtorEq,↓reduceIte];refine⟨oM,dC,?_⟩;apply ik<;>intro hf
   ·have e:l.findIdx? (fun x=>s==x)=some k:=by
     rw[List.findIdx?_eq_some_iff_getElem];exact⟨hlt,hf,fun j hj=>by rw[hinv j oM hj];decide⟩
    rw[e]at hR;rw[←hR]
   ·refine⟨l.length-(k+1),_,oM,Wk.less ?_,k+1,oM,rfl,?_,rfl⟩
    ·simp only[go_sem,wrap64s k oM,Nat.reduceAdd,Nat.reduceEqDiff,Nat.reduceBEq,Nat.reduceLeDiff,Int.reduceBEq,reduceCtorEq,↓reduceIte]
    ·intro j h1 hj;by_cases e:j=k
     ·subst e;exact hf
     ·exact hinv j h1 oM
  ·have hd:=dF hlt;simp only[go_sem,hd,Nat.reduceAdd,Nat.reduceEqDiff,Nat.reduceBEq,Nat.reduceLeDiff,Int.reduceBEq,reduceCtorEq,↓reduceIte];have e:l.findIdx? (fun x=>s==x)=none:=by
    rw[List.findIdx?_eq_none_iff];intro x hx;obtain⟨j,hj,rfl⟩:=List.getElem_of_mem hx;exact hinv j hj oM
   rw[e]at hR;rw[←hR]
theorem walk161(l:List Str)(s:Str)(hl:l.length≤68719476736):PT 161 [.list 1 (l.map .str),.str s] (.d (.bool (decide (s∈l)))):=by
 refine ok161.pc ?_;obtain⟨n,hn,hc⟩:=walk205 l s hl;have c:=hc.call trivial;simp only[go_sem,ir161,Nat.reduceAdd,Nat.reduceEqDiff,Nat.reduceBEq,Nat.reduceLeDiff,Int.reduceBEq,reduceCtorEq,↓reduceIte];refine wn c ?_;simp only[go_sem,hn,Nat.reduceAdd,Nat.reduceEqDiff,Nat.reduceBEq,Nat.reduceLeDiff,Int.reduceBEq,reduceCtorEq,↓reduceIte]
theorem encV_cells(v:Val):(encV v).cells=[.int .i64 v.kind,.int .i64 v.int,.int .i64 v.scale,.str v.text,.list 6 (v.list.map encV),.list 7 (v.fields.map encF)]:=by rw[encV_eq];rfl
def lackB(v:Val)(g:TFl):Bool:= !(fieldR v g.name).2&&g.need !=2
theorem walk286(g:TFl)(v:Val):PT 286 [encG g,.ptr (encV v).cells] (.d (.bool (lackB v g))):=by
 refine ok286.pc ?_;have c:=(walk287 v g.name).call (by simp[pureR]);generalize hR:lackB v g=R;unfold lackB at hR;generalize fieldR v g.name=F at*;rw[encV_eq v,encV_eq F.1]at c;rw[encG_eq,encV_cells];simp only[go_sem,ir286,simprocAttr];refine wc c ?_;refine sq (g.need !=2) ?_ ?_
 ·exact zz trivial
 simp only[go_sem,hR,simprocAttr]
theorem walk285(e:Typ)(b:Bool)(t:Typ)(x:Val)(he:t.elem=[e])(h:PT 248 [encT e,encV x] (.d (.bool b))):PT 285 [encV x,.ptr (encT t).cells] (.d (.bool (!b))):=by
 refine ok285.pc ?_;have c:=h.call trivial;have h0:0<t.elem.length:=by rw[he];simp
 have hx:=nth_encT h0;have e0:t.elem[0]=e:=by simp[he]
 rw[e0]at hx;rw[encT_eq,encV_eq]at c;rw[encV_eq,encT_cells];simp only[go_sem,ir285,hx,Int.toNat_zero,List.length_map,Nat.reduceAdd,Nat.reduceEqDiff,Nat.reduceBEq,Nat.reduceLeDiff,reduceCtorEq,↓reduceIte];refine⟨oM,⟨oM,oM⟩,wn c ?_⟩;exact zz trivial
def hasS(ft:Typ→Val→Bool)(t:Typ)(v:Val):Bool:=
 if(v.kind !=t.kind)=true then false
 else if t.kind=2∨t.kind=6∨t.kind=7∨t.kind=3 then inI v.int t.min t.max&&v.scale==t.scale
 else if t.kind=4 then(if decide (((t.words.length:Nat):Int)>0)=true then decide (v.text∈t.words)else inI v.text.length t.min t.max)
 else if t.kind=5 then inI v.text.length t.min t.max
 else if t.kind=8 then inI v.list.length t.min t.max&& !(v.list.any fun x=> !ft ((t.elem[0]?).getD ty0) x)
 else if t.kind=10 then(fldR t v.text).2&&ft (fldR t v.text).1.type ((v.list[0]?).getD zeroV)
 else if t.kind=9 then(v.fields.all fun x=> !(!(fldR t x.name).2|| !ft (fldR t x.name).1.type x.value))&& !(t.fields.any (lackB v))
 else true
theorem fldR_mem{t:Typ}{n:Str}(h:(fldR t n).2=true):(fldR t n).1∈t.fields:=by
 unfold fldR at h⊢;split
 ·rename_i e;rw[if_pos e]at h;cases h
 ·rename_i e;rw[if_neg e]at h;exact tfR_mem h
theorem step248(ft:Typ→Val→Bool)(t:Typ)(v:Val)(hk:1≤t.kind∧t.kind≤10)(h8e:t.kind=8→t.elem.length=1)(h10v:v.kind=10→v.list.length=1)
  (h8:t.kind=8→∀e∈t.elem,∀x∈v.list,PT 248 [encT e,encV x] (.d (.bool (ft e x))))
  (h9:t.kind=9→∀g∈t.fields,∀x∈v.fields,PT 248 [encT g.type,encV x.value] (.d (.bool (ft g.type x.value))))
  (h10:t.kind=10→∀g∈t.fields,∀x∈v.list,PT 248 [encT g.type,encV x] (.d (.bool (ft g.type x)))):
  PT 248 [encT t,encV v] (.d (.bool (hasS ft t v))):=by
 refine PCon.of_fits ok248.has fun hfit=>?_
 obtain⟨hw,he,hf⟩:=fits_T (hfit (encT t) sP);obtain⟨v1,v2,v3⟩:=fits_V3 (hfit (encV v) sP);refine ok248.pc ?_;generalize hR:hasS ft t v=R;unfold hasS at hR;rw[encT_eq t,encV_eq v];simp only[go_sem,ir248,simprocAttr];apply ik<;>intro h
 ·rw[if_pos h]at hR;subst hR;rfl
 rw[if_neg (nF h)]at hR;have hvk:v.kind=t.kind:=sX h;clear h;have hks:t.kind=1∨t.kind=2∨t.kind=3∨t.kind=4∨t.kind=5∨t.kind=6∨t.kind=7∨t.kind=8∨t.kind=9∨t.kind=10:=oM;have ci:=(walk114 v.int t.min t.max).call trivial;have ct:=(walk114 v.text.length t.min t.max).call trivial;have cl:=(walk114 v.list.length t.min t.max).call trivial;have c161:=(walk161 t.words v.text hw).call trivial;rcases hks with hk|hk|hk|hk|hk|hk|hk|hk|hk|hk
 all_goals
  have e2:(t.kind==2)=decide (t.kind=2):=rfl;have e3:(t.kind==3)=decide (t.kind=3):=rfl;have e4:(t.kind==4)=decide (t.kind=4):=rfl;have e5:(t.kind==5)=decide (t.kind=5):=rfl;have e6:(t.kind==6)=decide (t.kind=6):=rfl;have e7:(t.kind==7)=decide (t.kind=7):=rfl;have e8:(t.kind==8)=decide (t.kind=8):=rfl;have e9:(t.kind==9)=decide (t.kind=9):=rfl;have e10:(t.kind==10)=decide (t.kind=10):=rfl;rw[hk]at e2 e3 e4 e5 e6 e7 e8 e9 e10;simp only[Int.reduceEq,decide_false,decide_true,hk]at e2 e3 e4 e5 e6 e7 e8 e9 e10;simp only[hk,Int.reduceEq,or_false,or_true,false_or,true_or,↓reduceIte]at hR;refine zz34 ?_
  try (subst hR;rfl)
 ·subst hR;refine wn ci ?_;refine zz1 ?_;refine sq (v.scale==t.scale) ?_ ?_
  all_goals simp only[go_sem,Int.reduceBEq,List.length_map,simprocAttr]
 ·subst hR;refine wn ci ?_;refine zz1 ?_;refine sq (v.scale==t.scale) ?_ ?_
  all_goals simp only[go_sem,Int.reduceBEq,List.length_map,simprocAttr]
 ·apply ik<;>intro h
  ·rw[if_pos h]at hR;subst hR
   try refine zz1 ?_
   refine wn c161 ?_;exact zz1 trivial
  ·rw[if_neg (nF h)]at hR;subst hR
   try refine zz1 ?_
   refine wn ct ?_;exact zz1 trivial
 ·subst hR;refine wn ct ?_;exact zz1 trivial
 ·subst hR;refine wn ci ?_;refine zz1 ?_;refine sq (v.scale==t.scale) ?_ ?_
  all_goals simp only[go_sem,Int.reduceBEq,List.length_map,simprocAttr]
 ·subst hR;refine wn ci ?_;refine zz1 ?_;refine sq (v.scale==t.scale) ?_ ?_
  all_goals simp only[go_sem,Int.reduceBEq,List.length_map,simprocAttr]
 ·have hl1:=h8e hk;obtain⟨e,hee⟩:∃e,t.elem=[e]:=List.length_eq_one_iff.1 hl1;have hmem:e∈t.elem:=by rw[hee];exact List.mem_singleton.2 rfl
  have cw:=CallOK.clo (ds:=[.list 6 (v.list.map encV)]) (walk284 (q:=fun x=> !ft e x) v.list (fun x hx=>walk285 e (ft e x) t x hee (h8 hk e hmem x hx)) v2) rfl 2;rw[encT_cells,hk]at cw;simp only[List.map_cons,List.map_nil,List.cons_append,List.nil_append]at cw;have e0:(t.elem[0]?).getD ty0=e:=by simp[hee]
  rw[e0]at hR;subst hR;refine wn cl ?_;refine zz1 ?_;refine sq (!(v.list.any fun x=> !ft e x)) ?_ ?_
  ·refine zz1 ?_;refine wn cw ?_;exact zz1 trivial
  exact zz1 trivial
 ·have cw:=CallOK.clo (ds:=[.list 11 (t.fields.map encG)]) (walk158 (q:=lackB v) t.fields (fun g _=>walk286 g v) hf) rfl 3;rw[encV_cells]at cw;simp only[List.map_cons,List.map_nil,List.cons_append,List.nil_append]at cw;refine wpc_loop (fun n s=>∃k:Nat,k≤v.fields.length∧n=v.fields.length-k∧(((v.fields.drop k).all fun x=> !(!(fldR t x.name).2|| !ft (fldR t x.name).1.type x.value))&& !(t.fields.any (lackB v)))=R∧
   s=⟨[(2,.ref 2 0),(3,.ref 3 0),(105,.d (.list 7 (v.fields.map encF))),(106,.d (.int .i64 v.fields.length)),(107,.d (.int .i64 k))],
    [(2,.box [.d (.int .i64 9),.d (.int .i64 t.min),.d (.int .i64 t.max),.d (.int .i64 t.scale),.d (.list 1 (t.words.map .str)),.d (.list 7 (t.elem.map encT)),.d (.list 11 (t.fields.map encG))]),
     (3,.box [.d (.int .i64 v.kind),.d (.int .i64 v.int),.d (.int .i64 v.scale),.d (.str v.text),.d (.list 6 (v.list.map encV)),.d (.list 7 (v.fields.map encF))])]⟩) ?_ ?_
  ·exact⟨_,_,Wk.refl _,0,Nat.zero_le _,rfl,hR,rfl⟩
  ·clear hR;rintro n s ⟨k,hk2,rfl,hinv,rfl⟩;by_cases hlt:k<v.fields.length
   ·have hx:=nth_encF hlt;have hd:=dT hlt;have hmem:=List.getElem_mem hlt;have c229:=(walk229 t v.fields[k].name).call (by simp[pureR]);have cr:(fldR t v.fields[k].name).2=true→CT 248 [.d (encT (fldR t v.fields[k].name).1.type),.d (encV v.fields[k].value)] [] (.d (.bool (ft (fldR t v.fields[k].name).1.type v.fields[k].value))) []:=fun h=>(h9 hk _ (fldR_mem h) v.fields[k] hmem).call trivial
    rw[List.drop_eq_getElem_cons hlt,List.all_cons]at hinv;generalize fldR t v.fields[k].name=F at*;generalize hB:ft F.1.type v.fields[k].value=B at*;rw[encT_eq t,encG_eq F.1,hk]at c229;rw[encT_eq,encV_eq]at cr;refine zz6 ?_;refine⟨oM,wn c229 ?_⟩;refine zz1 ?_;refine scQ_pure (!B) (fun h=>?_) ?_
    ·refine zz1 ?_;refine wn (cr (sX h)) ?_;exact zz1 trivial
    refine zz1 ?_;apply ik<;>intro h
    ·rw[h,Bool.not_true,Bool.false_and,Bool.false_and]at hinv;subst hinv;rfl
    ·rw[h,Bool.not_false,Bool.true_and]at hinv;clear h;refine⟨v.fields.length-(k+1),_,oM,Wk.less ?_,k+1,oM,rfl,hinv,rfl⟩;exact zz7 trivial
   ·have hd:=dF hlt;rw[List.drop_eq_nil_of_le oM,List.all_nil,Bool.true_and]at hinv;subst hinv;refine zz5 ?_;refine wn cw ?_;exact zz1 trivial
 ·have hl1:=h10v (hvk.trans hk);have h0:0<v.list.length:=oM;have hx0:=nth_encV h0;have c229:=(walk229 t v.text).call (by simp[pureR]);have cr:(fldR t v.text).2=true→CT 248 [.d (encT (fldR t v.text).1.type),.d (encV v.list[0])] [] (.d (.bool (ft (fldR t v.text).1.type v.list[0]))) []:=fun h=>(h10 hk _ (fldR_mem h) v.list[0] (List.getElem_mem h0)).call trivial
  rw[List.getElem?_eq_getElem h0,Option.getD_some]at hR;generalize fldR t v.text=F at*;rw[encT_eq t,encG_eq F.1,hk]at c229;rw[encT_eq,encV_eq]at cr;subst hR;refine wn c229 ?_;refine zz1 ?_;refine scQ_pure (ft F.1.type v.list[0]) (fun h=>?_) ?_
  ·simp only[go_sem,hx0,Int.toNat_zero,Int.reduceBEq,List.length_map,simprocAttr];refine⟨oM,wn (cr h) ?_⟩;exact zz1 trivial
  exact zz1 trivial
def hasF:Nat→Typ→Val→Bool
 |0,_,_=>true
 |k+1,t,v=>hasS (hasF k) t v
def flatV(w:Val):Prop:=w.list=[]∧w.fields=[]
mutual
def okT:Val→Prop
 |.mk _ _ _ t l f=>t.length≤4096∧okTs l∧okTf f
def okTs:List Val→Prop
 |[]=>True
 |v::r=>okT v∧okTs r
def okTf:List Fld→Prop
 |[]=>True
 |.mk n v::r=>n.length≤4096∧okT v∧okTf r
end
theorem okT_eq(v:Val):okT v↔v.text.length≤4096∧okTs v.list∧okTf v.fields:=by cases v;rfl
mutual
def nmV:Val→Prop
 |.mk _ _ _ _ l f=>nmVs l∧nmVf f
def nmVs:List Val→Prop
 |[]=>True
 |v::r=>nmV v∧nmVs r
def nmVf:List Fld→Prop
 |[]=>True
 |.mk n v::r=>n.length≤4096∧nmV v∧nmVf r
end
theorem nmV_eq(v:Val):nmV v↔nmVs v.list∧nmVf v.fields:=by cases v;rfl
theorem flat_nm{v:Val}(h1:v.list=[]∧v.fields=[]):nmV v:=by
 rw[nmV_eq,h1.1,h1.2];exact⟨trivial,trivial⟩
theorem flat_sz{w:Val}(h:flatV w):szV w≤1000000:=by
 rw[szV_eq,h.1,h.2];simp[szVs,szFs]
def goodV(B:Nat)(v:Val):Prop:=szV v≤1000000∧v.text.length≤B∧nmV v
theorem goodV.flat{B:Nat}{v:Val}(h:flatV v)(ht:v.text=[]):goodV B v:=⟨flat_sz h,by rw[ht];exact Nat.zero_le _,flat_nm h⟩
end Go.Proofs
namespace Go.Proofs
open Go Av
variable {v:Val}
theorem szE_le{n m e:Int}(he:e≠0)(h:szE n m e=0):n≤m:=by
 unfold szE at h;split at h
 ·exact absurd h he
 ·rename_i h1;simpa using h1
theorem chkE_ok{n level:Int}(h:chkE n level v=0):usesV v=true∧ruleE v=0:=by
 unfold chkE at h;split at h
 ·cases h
 split at h
 ·cases h
 split at h
 ·cases h
 split at h
 ·cases h
 split at h
 ·cases h
 ·rename_i hu;exact⟨by simpa using hu,h⟩
theorem recE_names:∀{l:List Fld} {o:Option Str},recE o l=0→∀f∈l,nameS f.name=true
 |[],_,_,f,hf=>by cases hf
 |g::r,none,h,f,hf=>by
  simp only[recE]at h;split at h
  ·cases h
  ·rename_i hn;rcases List.mem_cons.1 hf with rfl|hf
   ·simpa using hn
   ·exact recE_names h f hf
 |g::r,some p,h,f,hf=>by
  simp only[recE]at h;split at h
  ·cases h
  split at h
  ·cases h
  split at h
  ·cases h
  ·rename_i hn _ _;rcases List.mem_cons.1 hf with rfl|hf
   ·simpa using hn
   ·exact recE_names h f hf
theorem uses_ok(h:usesV v=true):((v.kind=8∨v.kind=10)∨v.list=[])∧(v.kind=9∨v.fields=[])∧(v.kind=4∨v.kind=5∨v.kind=10∨v.text=[]):=by
 simp only[usesV,useT,useL,Bool.and_eq_true,Bool.or_eq_true,beq_iff_eq]at h;obtain⟨⟨⟨_,h1⟩,h2⟩,h3⟩:=h;refine⟨?_,?_,?_⟩
 ·rcases h2 with h2|h2
  ·exact .inl h2
  ·exact .inr (List.length_eq_zero_iff.1 oM)
 ·rcases h3 with h3|h3
  ·exact .inl h3
  ·exact .inr (List.length_eq_zero_iff.1 oM)
 ·rcases h1 with((h1|h1)|h1)|h1
  ·exact .inl h1
  ·exact .inr (.inl h1)
  ·exact .inr (.inr (.inl h1))
  ·exact .inr (.inr (.inr h1))
theorem rule_text(hu:usesV v=true)(h:ruleE v=0):v.text.length≤4096:=by
 obtain⟨_,_,h3⟩:=uses_ok hu;unfold ruleE at h;rcases h3 with e|e|e|e
 ·rw[if_neg oM,if_neg oM,if_neg oM,if_pos e]at h;unfold textE at h;split at h
  ·cases h
  ·have:=szE_le dC h;omega
 ·rw[if_neg oM,if_neg oM,if_neg oM,if_neg oM,if_pos e]at h;have:=szE_le dC h;omega
 ·rw[if_neg oM,if_neg oM,if_neg oM,if_neg oM,if_neg oM,if_neg oM,if_neg oM,if_neg oM,if_neg oM]at h;unfold varE at h;split at h
  ·cases h
  ·rename_i hn;have:=nameS_len (s:=v.text) (sX hn);omega
 ·rw[e];exact Nat.zero_le _
theorem rule_names(e:v.kind=9)(h:ruleE v=0):∀f∈v.fields,f.name.length≤4096:=by
 unfold ruleE at h;rw[if_neg oM,if_neg oM,if_neg oM,if_neg oM,if_neg oM,if_neg oM,if_neg oM,if_neg oM,if_pos e]at h;unfold recV at h;split at h
 ·rename_i h1;rw[h]at h1;cases h1
 ·intro f hf;have:=nameS_len (recE_names h f hf);omega
theorem foldV_sz{f:Int→Val→Int×Int}(hf:∀n v,(f n v).1=0→(f n v).2=n+szV v∧okT v):∀(l:List Val) (n:Int),(foldV f n l).1=0→(foldV f n l).2=n+szVs l∧okTs l
 |[],n,_=>by simp[foldV,szVs,okTs]
 |v::r,n,h=>by
  simp only[foldV]at h⊢;split at h
  ·rename_i hx;exact absurd h hx
  ·rename_i hx;rw[if_neg hx];simp only[ne_eq,Decidable.not_not]at hx;obtain⟨h1,h2⟩:=hf n v hx;obtain⟨h3,h4⟩:=foldV_sz hf r _ h;simp only[szVs,okTs];exact⟨by rw[h3,h1];push_cast;omega,h2,h4⟩
theorem szFs_map:∀l:List Fld,szFs l=szVs (l.map Fld.value)
 |[]=>rfl
 |.mk n v::r=>by simp only[szFs,List.map_cons,szVs,szFs_map r,Fld.value]
theorem okTf_of:∀{l:List Fld},(∀f∈l,f.name.length≤4096)→okTs (l.map Fld.value)→okTf l
 |[],_,_=>trivial
 |.mk n v::r,h,h2=>⟨h _ List.mem_cons_self,h2.1,okTf_of (fun f hf=>h f (List.mem_cons_of_mem _ hf)) h2.2⟩
theorem visF_sz:∀(k:Nat) (n:Int) (v:Val),(visF k n v).1=0→(visF k n v).2=n+szV v∧okT v
 |0,n,v,h=>absurd h (chk9 _ _)
 |k+1,n,v,h=>by
  simp only[visF]at h⊢;split at h
  ·rename_i hx;exact absurd h hx
  ·rename_i hx;rw[if_neg hx];simp only[ne_eq,Decidable.not_not]at hx;obtain⟨hu,hr⟩:=chkE_ok hx;obtain⟨u1,u2,u3⟩:=uses_ok hu;obtain⟨h1,h2⟩:=foldV_sz (visF_sz k) _ _ h;have ht:=rule_text hu hr;rw[h1,szV_eq,okT_eq];unfold partsV at h2⊢;by_cases e:v.kind=8∨v.kind=10
   ·have hf:v.fields=[]:=by rcases u2 with u2|u2<;>first|exact u2|omega
    rw[if_pos e]at h2⊢;rw[hf];refine⟨by simp only[szFs];push_cast;omega,ht,h2,trivial⟩
   ·have hl:v.list=[]:=by rcases u1 with u1|u1<;>first|exact u1|exact absurd u1 e
    rw[if_neg e]at h2⊢;rw[hl];by_cases e9:v.kind=9
    ·rw[if_pos e9]at h2⊢;rw[szFs_map];exact⟨by simp only[szVs];push_cast;omega,ht,trivial,okTf_of (rule_names e9 hr) h2⟩
    ·have hf:v.fields=[]:=by rcases u2 with u2|u2<;>first|exact u2|omega
     rw[if_neg e9]at h2⊢;rw[hf];exact⟨by simp only[szVs,szFs];push_cast;omega,ht,trivial,trivial⟩
theorem chkV_sz(h:chkV v=0):szV v≤4096∧okT v:=by
 obtain⟨h1,h2⟩:=visF_sz 8 0 v h;have h3:=(visF_n 8 0 v oM oM h).2;exact⟨oM,h2⟩
end Go.Proofs
namespace Go.Proofs
open Go Av
mutual
def okW:Val→Prop
 |.mk k _ _ _ l f=>(k=10→l.length=1)∧okWs l∧okWf f
def okWs:List Val→Prop
 |[]=>True
 |v::r=>okW v∧okWs r
def okWf:List Fld→Prop
 |[]=>True
 |.mk _ v::r=>okW v∧okWf r
end
theorem okW_eq(v:Val):okW v↔(v.kind=10→v.list.length=1)∧okWs v.list∧okWf v.fields:=by cases v;rfl
theorem okWs_mem:∀{l:List Val},okWs l→∀x∈l,okW x
 |v::r,h,x,hx=>by
  rcases List.mem_cons.1 hx with rfl|hx
  ·exact h.1
  ·exact okWs_mem h.2 x hx
theorem okWf_mem:∀{l:List Fld},okWf l→∀x∈l,okW x.value
 |.mk n v::r,h,x,hx=>by
  rcases List.mem_cons.1 hx with rfl|hx
  ·exact h.1
  ·exact okWf_mem h.2 x hx
theorem okWf_of:∀{l:List Fld},okWs (l.map Fld.value)→okWf l
 |[],_=>trivial
 |.mk n v::r,h=>⟨h.1,okWf_of h.2⟩
theorem foldV_va{f:Int→Val→Int×Int}(hf:∀n v,(f n v).1=0→okW v):∀(l:List Val) (n:Int),(foldV f n l).1=0→okWs l
 |[],n,_=>trivial
 |v::r,n,h=>by
  simp only[foldV]at h;split at h
  ·rename_i hx;exact absurd h hx
  ·rename_i hx;simp only[ne_eq,Decidable.not_not]at hx;exact⟨hf n v hx,foldV_va hf r _ h⟩
theorem rule_var{v:Val}(e:v.kind=10)(h:ruleE v=0):v.list.length=1:=by
 unfold ruleE at h;rw[if_neg oM,if_neg oM,if_neg oM,if_neg oM,if_neg oM,if_neg oM,if_neg oM,if_neg oM,if_neg oM]at h;unfold varE at h;split at h
 ·cases h
 split at h
 ·cases h
 ·rename_i h2;have:=szE_le dC h;simp only[beq_iff_eq]at h2;omega
theorem visF_va:∀(k:Nat) (n:Int) (v:Val),(visF k n v).1=0→okW v
 |0,n,v,h=>absurd h (chk9 _ _)
 |k+1,n,v,h=>by
  simp only[visF]at h;split at h
  ·rename_i hx;exact absurd h hx
  ·rename_i hx;simp only[ne_eq,Decidable.not_not]at hx;obtain⟨hu,hr⟩:=chkE_ok hx;obtain⟨u1,u2,u3⟩:=uses_ok hu;have h2:=foldV_va (visF_va k) _ _ h;rw[okW_eq];refine⟨fun e=>rule_var e hr,?_⟩;unfold partsV at h2;by_cases e:v.kind=8∨v.kind=10
   ·have hf:v.fields=[]:=by rcases u2 with u2|u2<;>first|exact u2|omega
    rw[if_pos e]at h2;rw[hf];exact⟨h2,trivial⟩
   ·have hl:v.list=[]:=by rcases u1 with u1|u1<;>first|exact u1|exact absurd u1 e
    rw[if_neg e]at h2;rw[hl];by_cases e9:v.kind=9
    ·rw[if_pos e9]at h2;exact⟨trivial,okWf_of h2⟩
    ·have hf:v.fields=[]:=by rcases u2 with u2|u2<;>first|exact u2|omega
     rw[hf];exact⟨trivial,trivial⟩
theorem chkV_okW{v:Val}(h:chkV v=0):okW v:=visF_va 8 0 v h
mutual
def vT:Typ→Prop
 |.mk k _ _ s _ e f=>(1≤k∧k≤10)∧(k=8→e.length=1)∧(k=10→f≠[])∧(0≤s∧s≤12)∧vTs e∧vTf k f
def vTs:List Typ→Prop
 |[]=>True
 |v::r=>vT v∧vTs r
def vTf:Int→List TFl→Prop
 |_,[]=>True
 |k,.mk _ _ d t df::r=>((d=3→df.length=1∧∀x∈df,chkV x=0)∧(k=10→d=1)∧vT t)∧vTf k r
end
theorem vT_eq(t:Typ):vT t↔(1≤t.kind∧t.kind≤10)∧(t.kind=8→t.elem.length=1)∧(t.kind=10→t.fields≠[])∧(0≤t.scale∧t.scale≤12)∧vTs t.elem∧vTf t.kind t.fields:=by cases t;rfl
theorem vTs_mem:∀{l:List Typ},vTs l→∀x∈l,vT x
 |v::r,h,x,hx=>by
  rcases List.mem_cons.1 hx with rfl|hx
  ·exact h.1
  ·exact vTs_mem h.2 x hx
theorem vTf_mem:∀{k:Int} {l:List TFl},vTf k l→∀x∈l,(x.need=3→x.dflt.length=1∧∀y∈x.dflt,chkV y=0)∧(k=10→x.need=1)∧vT x.type
 |k,.mk a n d t df::r,h,x,hx=>by
  rcases List.mem_cons.1 hx with rfl|hx
  ·exact h.1
  ·exact vTf_mem h.2 x hx
theorem vTs_of:∀{l:List Typ},(∀x∈l,vT x)→vTs l
 |[],_=>trivial
 |v::r,h=>⟨h _ List.mem_cons_self,vTs_of fun x hx=>h x (List.mem_cons_of_mem _ hx)⟩
theorem vTf_of:∀{k:Int} {l:List TFl},(∀x∈l,(x.need=3→x.dflt.length=1∧∀y∈x.dflt,chkV y=0)∧(k=10→x.need=1)∧vT x.type)→vTf k l
 |_,[],_=>trivial
 |_,.mk a n d t df::r,h=>⟨h _ List.mem_cons_self,vTf_of fun x hx=>h x (List.mem_cons_of_mem _ hx)⟩
theorem walk248:∀(k:Nat) (t:Typ) (v:Val),szT t≤k→vT t→okW v→PT 248 [encT t,encV v] (.d (.bool (hasF k t v)))
 |0,t,v,h,_,_=>by rw[szT_eq]at h;omega
 |k+1,t,v,h,ht,hv=>by
  have e:=szT_eq t;obtain⟨t1,t2,t3,t4,t5,t6⟩:=(vT_eq t).1 ht;obtain⟨v1,v2,v3⟩:=(okW_eq v).1 hv;refine step248 (hasF k) t v t1 t2 v1 (fun h8 e he x hx=>?_) (fun h9 g hg x hx=>?_) (fun h10 g hg x hx=>?_)
  ·have:=szTs_mem e he;exact walk248 k e x oM (vTs_mem t5 e he) (okWs_mem v2 x hx)
  ·have:=szGs_mem g hg;exact walk248 k g.type x.value oM (vTf_mem t6 g hg).2.2 (okWf_mem v3 x hx)
  ·have:=szGs_mem g hg;exact walk248 k g.type x oM (vTf_mem t6 g hg).2.2 (okWs_mem v2 x hx)
def accB(t:Typ)(v:Val):Bool:=chkV v==0&&hasF (szT t) t v
theorem walk193(t:Typ)(v:Val)(ht:vT t):PT 193 [encT t,encV v] (.d (.bool (accB t v))):=by
 refine ok193.pc ?_;have c247:=(walk247 v).call trivial;have c248:chkV v=0→CT 248 [.d (encT t),.d (encV v)] [] (.d (.bool (hasF (szT t) t v))) []:=fun h=>(walk248 (szT t) t v (Nat.le_refl _) ht (chkV_okW h)).call trivial
 generalize hR:accB t v=R;unfold accB at hR;generalize hasF (szT t) t v=H at*;generalize chkV v=E at*;rw[encV_eq v]at c247 c248;rw[encT_eq t]at c248;rw[encT_eq t,encV_eq v];simp only[go_sem,ir193,simprocAttr];refine wc c247 ?_;refine scQ_pure H (fun h=>?_) ?_
 ·refine zz ?_;refine wc (c248 (sX h)) trivial
 simp only[go_sem,hR,simprocAttr]
end Go.Proofs
namespace Go.Proofs
open Go Av
variable {t:Typ}
theorem fldsF_ok:∀(l:List TFl) (i:Nat),fldsF t i l=0→∀(j:Nat) (hj:j<l.length),fldT t (i+j) l[j]=0
 |[],_,_,j,hj=>by simp at hj
 |f::r,i,h,j,hj=>by
  rw[fldsF]at h;split at h
  ·rename_i h1;rw[h]at h1;cases h1
  ·rename_i h1;cases j with
   |zero=>simpa using h1
   |succ j=>
    have:=fldsF_ok r (i+1) h j (sX hj);rw[Nat.add_assoc,Nat.add_comm 1 j]at this;simpa using this
theorem own2_ok(h:own2 t=0):(t.kind=8→t.elem.length=1)∧(t.kind=10→t.fields≠[])∧t.fields.length≤64∧∀(j:Nat) (hj:j<t.fields.length),fldT t j t.fields[j]=0:=by
 unfold own2 at h;split at h
 ·cases h
 rename_i h1;split at h
 ·cases h
 rename_i h2;split at h
 ·cases h
 rename_i h3;simp only[Bool.or_eq_true,Bool.and_eq_true,beq_iff_eq,decide_eq_true_eq,not_or,not_and]at h1 h2 h3;refine⟨fun e=>?_,fun e e2=>?_,oM,fun j hj=>?_⟩
 ·have a:=h1.1 e;have b:=h2 e;omega
 ·have:=h1.2 e;rw[e2]at this;exact this rfl
 ·have:=fldsF_ok t.fields 0 h j hj;rwa[Nat.zero_add]at this
theorem len0{α:Type}{l:List α}(h:¬((l.length:Nat):Int)>0):l=[]:=by
 apply List.eq_nil_of_length_eq_zero;omega
theorem own_ok(h:ownT t=0):(1≤t.kind∧t.kind≤10)∧(t.kind=8→t.elem.length=1)∧(t.kind≠8→t.elem=[])∧(t.kind=10→t.fields≠[])∧(t.kind≠9→t.kind≠10→t.fields=[])∧
  (0≤t.scale∧t.scale≤12)∧t.fields.length≤64∧∀(j:Nat) (hj:j<t.fields.length),fldT t j t.fields[j]=0:=by
 unfold ownT at h;split at h
 ·cases h
 rename_i h1;split at h
 ·cases h
 rename_i h2;have hk:1≤t.kind∧t.kind≤10:=by
  simp only[inI,Bool.not_eq_true',Bool.and_eq_false_iff,decide_eq_false_iff_not,not_or]at h1;omega
 have key:own2 t=0∧(t.kind=3→inI t.scale 0 12=true):=by
  split at h
  ·rename_i h3;simp only[Bool.and_eq_true,beq_iff_eq]at h3;split at h
   ·rename_i h4;rw[h]at h4;cases h4
   ·exact⟨h,fun e=>by omega⟩
  ·split at h
   ·cases h
   ·rename_i h4;refine⟨h,fun e=>?_⟩;unfold bndC at h4;rw[e]at h4;simp only[Bool.or_eq_true,not_or]at h4;have:=h4.2;simpa[limK,limA]using this
 obtain⟨o1,o2,o3,o4⟩:=own2_ok key.1;have hsc:=key.2;unfold formC at h2;simp only[Bool.or_eq_true,Bool.and_eq_true,not_or,not_and,bne_iff_ne,ne_eq,Decidable.not_not,decide_eq_true_eq,Bool.not_eq_true',Bool.not_eq_eq_eq_not,Bool.not_true]at h2;obtain⟨⟨⟨⟨f1,f2⟩,f3⟩,f4⟩,f5⟩:=h2;have hks:t.kind=1∨t.kind=2∨t.kind=3∨t.kind=4∨t.kind=5∨t.kind=6∨t.kind=7∨t.kind=8∨t.kind=9∨t.kind=10:=oM;refine⟨hk,o1,fun e=>?_,o2,fun e e2=>?_,?_,o3,o4⟩
 ·refine len0 (f4 ?_);rcases hks with h|h|h|h|h|h|h|h|h|h<;>first|omega|(rw[h];rfl)
 ·refine len0 (f5 ?_);rcases hks with h|h|h|h|h|h|h|h|h|h<;>first|omega|(rw[h];rfl)
 ·by_cases e:t.kind=3
  ·have:=hsc e;simp only[inI,Bool.and_eq_true,decide_eq_true_eq]at this;omega
  ·have:=f2 (by rcases hks with h|h|h|h|h|h|h|h|h|h<;>first|omega|(rw[h];rfl));omega
def dfl0(g:TFl):Val:=(g.dflt[0]?).getD zeroV
def chkPs(f:Int→Typ→Int×Int)(t:Typ):Nat→Int→List Typ→Int×Int
 |_,n,[]=>(0,n)
 |i,n,p::r=>
  if((f n p).1 !=0)=true then f n p
  else if((t.kind==9&&(t.fields.getD i tf0).need==3)&& !accB p (dfl0 (t.fields.getD i tf0)))=true then(18,(f n p).2)
  else chkPs f t (i+1) (f n p).2 r
def chkT:Nat→Int→Typ→Int×Int
 |0,n,t=>if(n==0)=true then(9,n)else(23,n)
 |k+1,n,t=>if(n==0)=true then(9,n)else if(ownT t !=0)=true then(ownT t,n-1)else chkPs (chkT k) t 0 (n-1) (partsT t)
theorem chkPs_ok{f:Int→Typ→Int×Int}(hf:∀n p,0≤n→(f n p).1=0→vT p∧(f n p).2+szT p=n∧0≤(f n p).2):∀(l:List Typ) (i:Nat) (n:Int),0≤n→(chkPs f t i n l).1=0→
  (∀x∈l,vT x)∧(chkPs f t i n l).2+szTs l=n∧0≤(chkPs f t i n l).2∧∀(j:Nat) (hj:j<l.length),t.kind=9→(t.fields.getD (i+j) tf0).need=3→accB l[j] (dfl0 (t.fields.getD (i+j) tf0))=true
 |[],i,n,hn,h=>⟨sP,by simp[chkPs,szTs],by simpa[chkPs]using hn,fun j hj=>by simp at hj⟩
 |p::r,i,n,hn,h=>by
  rw[chkPs]at h⊢;split at h
  ·rename_i h1;rw[h]at h1;cases h1
  rename_i h1;split at h
  ·cases h
  rename_i h2;rw[if_neg h1,if_neg h2];obtain⟨a1,a2,a3⟩:=hf n p hn (sX h1);obtain⟨b1,b2,b3,b4⟩:=chkPs_ok hf r (i+1) (f n p).2 a3 h;refine⟨fun x hx=>?_,?_,b3,fun j hj e9 hn3=>?_⟩
  ·rcases List.mem_cons.1 hx with rfl|hx
   ·exact a1
   ·exact b1 x hx
  ·simp only[szTs];push_cast;omega
  ·cases j with
   |zero=>
    simp only[Nat.add_zero]at hn3⊢;simp only[e9,beq_self_eq_true,Bool.true_and,Bool.and_eq_true,beq_iff_eq,Bool.not_eq_true',not_and,Bool.not_eq_false]at h2;exact h2 hn3
   |succ j=>
    have:=b4 j (sX hj) e9;rw[Nat.add_assoc,Nat.add_comm 1 j]at this;exact this hn3
theorem szTs_map:∀l:List TFl,szTs (l.map TFl.type)≤szGs l∧szGs l≤szTs (l.map TFl.type)
 |[]=>by simp[szTs,szGs]
 |.mk a n d t df::r=>by
  have:=szTs_map r;simp only[List.map_cons,szTs,szGs,TFl.type];omega
theorem fld_ok{i:Nat}{f:TFl}(h:fldT t i f=0):nameS f.name=true∧(1≤f.need∧f.need≤3)∧(t.kind=10→f.need=1)∧(f.need=3→f.dflt.length=1)∧(f.need≠3→f.dflt=[]):=by
 unfold fldT at h;split at h
 ·cases h
 rename_i h1;split at h
 ·cases h
 split at h
 ·cases h
 split at h
 ·cases h
 rename_i h4;split at h
 ·cases h
 rename_i h5;split at h
 ·cases h
 rename_i h6;simp only[inI,Bool.or_eq_true,Bool.and_eq_true,Bool.not_eq_true',Bool.and_eq_false_iff,decide_eq_false_iff_not,beq_iff_eq,bne_iff_ne,ne_eq,decide_eq_true_eq,not_or,not_and,Decidable.not_not]at h4 h5 h6;refine⟨by simpa using h1,oM,h4.2,fun e=>?_,fun e=>?_⟩
 ·have:=h5 e;omega
 ·exact len0 (h6.2 e)
theorem chkT_ok:∀(k:Nat) (n:Int) (t:Typ),0≤n→(chkT k n t).1=0→vT t∧(chkT k n t).2+szT t=n∧0≤(chkT k n t).2
 |0,n,t,hn,h=>by
  rw[chkT]at h;split at h<;>cases h
 |k+1,n,t,hn,h=>by
  rw[chkT]at h⊢;split at h
  ·cases h
  rename_i h1;split at h
  ·rename_i h2;rw[show ownT t=0 from h]at h2;cases h2
  rename_i h2;rw[if_neg h1,if_neg h2];obtain⟨o1,o2,o3,o4,o5,o6,o7,o8⟩:=own_ok (t:=t) (sX h2);have hn0:n≠0:=sX h1;obtain⟨b1,b2,b3,b4⟩:=chkPs_ok (chkT_ok k) (partsT t) 0 (n-1) oM h;have e:=szT_eq t;have hsz:szTs (partsT t)+1=szT t:=by
   unfold partsT;by_cases e8:t.kind=8
   ·rw[if_pos e8,e,o5 oM oM];simp[szGs];omega
   ·rw[if_neg e8,e,o3 e8];by_cases e9:t.kind=9∨t.kind=10
    ·rw[if_pos e9];have:=szTs_map t.fields;simp[szTs];omega
    ·rw[if_neg e9,o5 oM oM];simp[szTs,szGs]
  refine⟨(vT_eq t).2 ⟨o1,o2,o4,o6,?_,?_⟩,oM,b3⟩
  ·by_cases e8:t.kind=8
   ·refine vTs_of fun x hx=>b1 x ?_
    rw[partsT,if_pos e8];exact hx
   ·rw[o3 e8];trivial
  ·by_cases e9:t.kind=9∨t.kind=10
   case neg=>rw[o5 oM oM];trivial
   have hp:partsT t=t.fields.map TFl.type:=by rw[partsT,if_neg oM,if_pos e9]
   refine vTf_of fun x hx=>?_
   obtain⟨j,hj,rfl⟩:=List.getElem_of_mem hx;obtain⟨g1,g2,g3,g4,g5⟩:=fld_ok (o8 j hj);refine⟨fun hn3=>⟨g4 hn3,fun y hy=>?_⟩,g3,b1 _ (by rw[hp];exact List.mem_map_of_mem (List.getElem_mem hj))⟩;have h9:t.kind=9:=by
    rcases e9 with h|h
    ·exact h
    ·have:=g3 h;omega
   have hgd:t.fields.getD j tf0=t.fields[j]:=by rw[List.getD_eq_getElem?_getD,List.getElem?_eq_getElem hj];rfl
   have:=b4 j (by rw[hp,List.length_map];exact hj) h9 (by rw[Nat.zero_add,hgd];exact hn3);rw[Nat.zero_add,hgd]at this;have hl:=g4 hn3;obtain⟨d,hd⟩:=List.length_eq_one_iff.1 hl;rw[hd]at hy;rw[List.mem_singleton.1 hy];unfold accB dfl0 at this;rw[hd]at this;simp only[List.getElem?_cons_zero,Option.getD_some,Bool.and_eq_true,beq_iff_eq]at this;exact this.1
theorem walk156:∀(k:Nat) (n:Int) (t:Typ),k≤8→0≤n→n≤4096→
  KT 156 [.d (encT t),.d (.int .i64 (9-k)),.ref 1000 0] [(1000,.box [.d (.int .i64 n)])] (.d (.int .i64 (chkT k n t).1)) [(1000,.box [.d (.int .i64 (chkT k n t).2)])]
 |0,n,t,hk,h0,h1=>by
  refine Con.of_fits ok156.has fun hfit=>?_
  refine ok156.co (k:=false) (closed_puts (by simp[puts,put,closedH,objIn,idsInL,idsIn])) trivial ?_;generalize hR:chkT 0 n t=R;rw[chkT]at hR;rw[encT_eq];simp only[go_sem,ir156,Nat.reduceAdd,Nat.reduceEqDiff,Nat.reduceBEq,Nat.reduceLeDiff,reduceCtorEq,↓reduceIte];apply ik<;>intro h
  ·rw[if_pos h]at hR;subst hR;exact zz trivial
  ·rw[if_neg (nF h)]at hR;subst hR;have h9:decide ((9:Int)-((0:Nat):Int)>8)=true:=dC;simp only[go_sem,h9,Nat.reduceAdd,Nat.reduceEqDiff,Nat.reduceBEq,Nat.reduceLeDiff,reduceCtorEq,↓reduceIte]
 |k+1,n,t,hk,h0,h1=>by
  refine Con.of_fits ok156.has fun hfit=>?_
  obtain⟨hw,he,hf⟩:=fits_T (hfit (encT t) sP);refine ok156.co (k:=false) (closed_puts (by simp[puts,put,closedH,objIn,idsInL,idsIn])) trivial ?_;have c191:=(walk191 t).call trivial;have c192:=(walk192 t hf).call trivial;generalize hR:chkT (k+1) n t=R;rw[chkT]at hR;have hown:= @own_ok t;have h9:decide ((9:Int)-((k+1:Nat):Int)>8)=false:=sO;rw[encT_eq t]at c191 c192;rw[encT_eq];simp only[go_sem,ir156,Nat.reduceAdd,Nat.reduceEqDiff,Nat.reduceBEq,Nat.reduceLeDiff,reduceCtorEq,↓reduceIte];apply ik<;>intro h
  ·rw[if_pos h]at hR;subst hR;exact zz trivial
  rw[if_neg (nF h)]at hR;have hn0:n≠0:=sX h;have hw1:IntKind.i64.wrap (n-1)=n-1:=wrap64 oM oM;clear h;simp only[go_sem,h9,hw1,Nat.reduceAdd,Nat.reduceEqDiff,Nat.reduceBEq,Nat.reduceLeDiff,reduceCtorEq,↓reduceIte];refine wn c191 ?_;refine zz1 ?_;apply ik<;>intro h
  ·rw[if_pos h]at hR;subst hR;exact zz1 trivial
  rw[if_neg (nF h)]at hR;obtain⟨o1,o2,o3,o4,o5,o6,o7,o8⟩:=hown (sX h);clear h hown
  try refine zz1 ?_
  refine wn c192 ?_;refine zz1 ?_;have hpl:(partsT t).length≤68719476736:=by
   unfold partsT;split
   ·exact he
   split
   ·rw[List.length_map];exact hf
   ·exact Nat.zero_le _
  have hp9:t.kind=9→(partsT t).length=t.fields.length:=by
   intro e9;rw[partsT,if_neg oM,if_pos (.inl e9),List.length_map]
  generalize partsT t=ps at*;refine wpc_loop (fun r s=>∃(j:Nat) (m:Int),j≤ps.length∧r=ps.length-j∧0≤m∧m≤4096∧chkPs (chkT k) t j m (ps.drop j)=R∧
   s=⟨[(1,.d (.int .i64 (9-((k+1:Nat):Int)))),(2,.ref 1000 0),(3,.ref 3 0),(30,.d (.list 7 (ps.map encT))),(31,.d (.int .i64 ps.length)),(32,.d (.int .i64 j))],
    [(1000,.box [.d (.int .i64 m)]),(3,.box [.d (.int .i64 t.kind),.d (.int .i64 t.min),.d (.int .i64 t.max),.d (.int .i64 t.scale),.d (.list 1 (t.words.map .str)),.d (.list 7 (t.elem.map encT)),.d (.list 11 (t.fields.map encG))])]⟩) ?_ ?_
  ·exact⟨_,_,Wk.refl _,0,n-1,Nat.zero_le _,rfl,oM,oM,hR,rfl⟩
  ·clear hR;rintro r s ⟨j,m,hj,rfl,hm0,hm1,hinv,rfl⟩;by_cases hlt:j<ps.length
   ·have hx:=nth_encT hlt;have hd:=dT hlt;have hwl:IntKind.i64.wrap (9-((k+1:Nat):Int)+1)=9-k:=by rw[wrap64 oM oM];push_cast;omega
    have hc:=(walk156 k m ps[j] oM hm0 hm1).cnt (ds:=[encT ps[j],.int .i64 (9-k)]) 1000;have hok:=chkT_ok k m ps[j] hm0;rw[List.drop_eq_getElem_cons hlt,chkPs]at hinv;have c193:=fun(h:vT ps[j])=>(walk193 ps[j] (dfl0 (t.fields.getD j tf0)) h).call trivial
    have hfd:t.kind=9→∃h:j<t.fields.length,t.fields.getD j tf0=t.fields[j]:=by
     intro e9;have:=hp9 e9;exact⟨oM,by rw[List.getD_eq_getElem?_getD,List.getElem?_eq_getElem oM];rfl⟩
    generalize hX:chkT k m ps[j]=X at*;generalize hB:accB ps[j] (dfl0 (t.fields.getD j tf0))=B at*;simp only[List.map_cons,List.map_nil,List.cons_append,List.nil_append]at hc;rw[encT_eq]at hc c193;simp only[go_sem,hx,hd,hwl,Int.toNat_natCast,List.length_map,Nat.reduceAdd,Nat.reduceEqDiff,Nat.reduceBEq,Nat.reduceLeDiff,reduceCtorEq,↓reduceIte];refine⟨oM,wn hc ?_⟩;refine zz1 ?_;apply ik<;>intro h
    ·rw[if_pos h]at hinv;subst hinv;exact zz1 trivial
    rw[if_neg (nF h)]at hinv;obtain⟨w1,w2,w3⟩:=hok (sX h);clear h hok
    try refine zz1 ?_
    refine scQ_pure ((t.fields.getD j tf0).need==3) (fun h=>?_) ?_
    ·obtain⟨hjf,hgd⟩:=hfd (sX h);have hx2:=nth_encG hjf;simp only[go_sem,hgd,hx2,Int.toNat_natCast,List.length_map,Nat.reduceAdd,Nat.reduceEqDiff,Nat.reduceBEq,Nat.reduceLeDiff,reduceCtorEq,↓reduceIte];omega
    refine zz1 ?_;refine scQ_pure (!B) (fun h=>?_) ?_
    ·simp only[Bool.and_eq_true,beq_iff_eq]at h;obtain⟨hjf,hgd⟩:=hfd h.1;have hx2:=nth_encG hjf;have hn3:=h.2;rw[hgd]at hn3;have hl1:=(fld_ok (o8 j hjf)).2.2.2.1 hn3;have h0:0<t.fields[j].dflt.length:=oM;have hx3:=nth_encV h0;have hc2:=c193 w1;rw[hgd]at hc2;have hdf:dfl0 t.fields[j]=t.fields[j].dflt[0]:=by rw[dfl0,List.getElem?_eq_getElem h0];rfl
     rw[hdf,encV_eq]at hc2;simp only[go_sem,hx2,hx3,Int.toNat_natCast,Int.toNat_zero,List.length_map,Nat.reduceAdd,Nat.reduceEqDiff,Nat.reduceBEq,Nat.reduceLeDiff,reduceCtorEq,↓reduceIte];refine⟨oM,oM,⟨oM,oM⟩,wn hc2 ?_⟩;exact zz1 trivial
    refine zz1 ?_;apply ik<;>intro h
    ·rw[if_pos h]at hinv;subst hinv;exact zz1 trivial
    rw[if_neg (nF h)]at hinv;clear h;refine⟨ps.length-(j+1),_,oM,Wk.less ?_,j+1,X.2,oM,rfl,w3,oM,hinv,rfl⟩;exact zz18 trivial
   ·have hd:=dF hlt;rw[List.drop_eq_nil_of_le oM,chkPs]at hinv;subst hinv;exact zz5 trivial
end Go.Proofs
namespace Go.Proofs
open Go Av
open Av.Y
def asg249:Ic:=S
def body249:Ic:=D (.block 1<|R (ol 8 3<|oi 9 .add 8 1<|os 3 9<|N) [2,3,5,6,7,8,9]) [2,3,5,6,7,8,9]
noncomputable def ir249:Ic:=q (R (ox 1 0<|oz 2 0<|N) [0])<|q (.reg (oN 3 [.int .i64 0]<|on (.sto none (t 3) (i 0))<|N))<|q (q (R (oL 4 6 1<|cl 5 281 [t 4]<|N) [1,4])<|D (.block 0<|D (.rng (t 5) 11 17 #[6,7] (subC (codeOf Tryz.f249) [1,1,0,1,0,0]) (subC (codeOf Tryz.f249) [1,1,0,1,0,1]) asg249 body249) [2,5]) [2,5])<|q (R (ol 10 3<|om 2 10<|N) [3,10])<|.ret
theorem ok249:FT 249 11 ir249 [.tmp 2]:=.o Tryz.func249
end Go.Proofs
namespace Go.Proofs
open Go Av
variable {c:Dat}{n:Int}
def sizF:Nat→Val→Nat
 |0,_=>0
 |k+1,v=>1+((partsV v).map (sizF k)).sum
theorem sz_parts(v:Val):szVs (partsV v)+1≤szV v:=by
 have e:=szV_eq v;unfold partsV;split
 ·omega
 split
 ·rw[←szFs_map];omega
 ·simp only[szVs];omega
theorem sum_sz{f:Val→Nat}(hf:∀v,f v≤szV v):∀l:List Val,(l.map f).sum≤szVs l
 |[]=>by simp
 |v::r=>by
  have:=hf v;have:=sum_sz hf r;simp only[List.map_cons,List.sum_cons,szVs];omega
theorem sizF_le:∀(k:Nat) (v:Val),sizF k v≤szV v
 |0,v=>Nat.zero_le _
 |k+1,v=>by
  have:=sum_sz (sizF_le k) (partsV v);have:=sz_parts v;rw[sizF];omega
noncomputable def lpS(tm:List (Nat×Av))(s:LoopState)(j:Option Code):Lp:=⟨tm,11,#[6,7],subC (codeOf Tryz.f249) [1,1,0,1,0,0],subC (codeOf Tryz.f249) [1,1,0,1,0,1],s,j⟩
def tmS(c:Dat):List (Nat×Av):=[(2,.d (.int .i64 0)),(3,.ref 1003 0),(5,.d c)]
noncomputable abbrev TS(c:Dat)(n:Int):List (Nat×Av.Obj):=[(1000,.lp (lpS (tmS c) .ready none)),(1003,.box [.d (.int .i64 n)])]
theorem closedS(c:Dat)(n:Int):closed (get (TS c n)):=by
 refine closed_of ?_;simp[TS,closedH,objIn,idsInL,idsIn,idsInT,tmS,lpS,Av.get]
theorem closedSu(c:Dat)(n m:Int):closed (hputs (get (TS c n)) (TS c m)):=by
 refine closed_puts ?_;simp[TS,puts,put,closedH,objIn,idsInL,idsIn,idsInT,tmS,lpS,Av.get]
theorem TS_dom{i:Nat}(h:(get (TS c n) i).isSome=true):i=1000∨i=1003:=by
 simp only[TS,Av.get]at h;split at h
 ·rename_i e;exact .inl e.symm
 ·split at h
  ·rename_i e;exact .inr e.symm
  ·cases h
theorem TSu_dom{m:Int}{i:Nat}(h:(hputs (get (TS c n)) (TS c m) i).isSome=true):i=1000∨i=1003:=by
 simp only[TS,hputs,upd]at h;split at h
 ·exact .inr (by assumption)
 ·split at h
  ·exact .inl (by assumption)
  ·exact TS_dom h
theorem round358(c:Dat)(n level:Int)(v:Val)(h0:0≤n)(h1:n≤1000000000000):
  RCon Tryz.prog 1000 [.d (.int .i64 level),.d (encV v)] (TS c n) (.d (.bool true)) (TS c (n+1)):=by
 refine RCon.of_code (asg:=asg249) (body:=body249) rfl rfl kR kR rfl (show∀p∈[6,7],p<11 by decide) (closedSu c n _) ?_;have hw:IntKind.i64.wrap (n+1)=n+1:=wrap64 oM oM;generalize hD:(fun i=>(get (TS c n) i).isSome=true)=D;generalize hK:RoundEnds 1000 (TS c n) D (.d (.bool true)) _=K;have leaf:K .normal ⟨[],[(1000,.lp (lpS (tmS c) .busy none)),(1003,.box [.d (.int .i64 (n+1))])]⟩:=by
  rw[←hK,←hD];refine⟨_,_,rfl,rfl,⟨[],[(1000,.lp (lpS (tmS c) .ready none)),(1003,.box [.d (.int .i64 (n+1))])]⟩,Wk.less ?_,?_⟩
  ·simp[put,tmS,lpS,go_sem]
  ·intro i o h;rw[←h,←get_puts];simp[puts,put]
 clear hK hD;simp only[TS,lpS,tmS,asg249,body249,hw,go_sem,simprocAttr];exact⟨_,rfl,rfl,leaf⟩
theorem yield358(c:Dat)(n level:Int)(v:Val)(h0:0≤n)(h1:n≤1000000000000):
  CT .yld [.mp 1000,.d (.int .i64 level),.d (encV v)] ((TS c n).map fun x=>(x.1,some x.2)) (.d (.bool true)) (TS c (n+1)):=by
 have:=(round358 c n level v h0 h1).call (fun i=>i) ⟨_,rfl⟩ (fun i j _ _ h=>h) (by simp[idsIn]) (closedS c n) [] (by simp[Av.get]) (closedSu c n _) trivial;simp only[TS,List.map_cons,List.map_nil]at this;simp only[TS,List.map_cons,List.map_nil,Obj.ren,Av.ren,renL,ren_id_dat,lpS,tmS,renT,List.append_nil]at this⊢;exact this
theorem call344s{level m:Int}{v:Val}(h:KT 344 [.d (encV v),.d (.int .i64 level),.mp 1000] (TS c n) (.d (.bool true)) (TS c m)):
  CT 344 [.d (encV v),.d (.int .i64 level),.mp 1000] ((TS c n).map fun x=>(x.1,some x.2)) (.d (.bool true)) (TS c m):=by
 have:=h.call (fun i=>i) (fun i hi=>by rcases TS_dom hi with rfl|rfl<;>decide) (fun i j _ _ h=>h) (by simp[idsIn,Av.get]) (closedS c n) [] (by simp[Av.get]) (closedSu c n _) trivial;simp only[TS,List.map_cons,List.map_nil]at this;simp only[TS,List.map_cons,List.map_nil,Obj.ren,Av.ren,renL,ren_id_dat,lpS,tmS,renT,List.append_nil]at this⊢;exact this
theorem visit358(c:Dat):∀(k:Nat) (level n:Int) (v:Val),szV v≤k→0≤level→level+k≤1000000000000→0≤n→n+szV v≤1000000000000→
  KT 344 [.d (encV v),.d (.int .i64 level),.mp 1000] (TS c n) (.d (.bool true)) (TS c (n+sizF k v))
 |0,level,n,v,h,_,_,_,_=>by have:=szV_eq v;omega
 |k+1,level,n,v,h,hl,hlk,h0,h1=>by
  refine Con.of_fits ok344.has fun hfit=>?_
  obtain⟨_,f2,f3,_⟩:=fits_V (hfit (encV v) sP);have hps:=sz_parts v;generalize hF:n+(sizF (k+1) v:Int)=F;rw[sizF]at hF;refine ok344.co (k:=false) (closedSu c n _) trivial ?_;have hy:=yield358 c n level v h0 oM;have h217:=(walk387 v f3).call trivial;have hpl:=partsV_len v f2 f3;rw[encV_eq]at hy h217⊢;simp only[TS,go_sem,ir344,simprocAttr];refine wn hy ?_;refine zz19 ?_;refine wc h217 ?_;clear h217 hy hfit;generalize hP:partsV v=ps at*;simp only[List.length_map];refine wpc_loop (fun r s=>∃(j:Nat) (m:Int),j≤ps.length∧r=ps.length-j∧0≤m∧m+szVs (ps.drop j)≤1000000000000∧m+(((ps.drop j).map (sizF k)).sum:Nat)=F∧
   s=⟨[(1,.d (.int .i64 level)),(2,.mp 1000),(15,.d (.list 6 (ps.map encV))),(16,.d (.int .i64 ps.length)),(17,.d (.int .i64 j))],
    [(1000,.lp (lpS (tmS c) .ready none)),(1003,.box [.d (.int .i64 m)])]⟩) ?_ ?_
  ·refine⟨_,_,Wk.less ?_,0,n+1,Nat.zero_le _,rfl,oM,by rw[List.drop_zero];omega,by rw[←hF,List.drop_zero];push_cast;omega,rfl⟩;simp[go_sem,lpS,tmS]
  ·rintro r s ⟨j,m,hj,rfl,hm0,hm1,hinv,rfl⟩;by_cases hlt:j<ps.length
   ·have hx':=nth_encV hlt;have hd:=dT hlt;have hw:IntKind.i64.wrap (level+1)=level+1:=wrap64 oM oM;rw[List.drop_eq_getElem_cons hlt,szVs]at hm1;rw[List.drop_eq_getElem_cons hlt,List.map_cons,List.sum_cons]at hinv;have hmem:szV ps[j]≤k:=by
     have:szV ps[j]≤szVs ps:=szVs_mem (List.getElem_mem hlt);omega
    have hc:=call344s (visit358 c k (level+1) m ps[j] hmem oM (by push_cast at hlk;omega) hm0 (by push_cast at hm1;omega));have hle:=sizF_le k ps[j];generalize sizF k ps[j]=V at*;rw[encV_eq]at hc;refine zz38 ?_;refine⟨oM,wn hc ?_⟩;refine zz19 ?_;refine⟨ps.length-(j+1),_,oM,Wk.less ?_,j+1,m+V,oM,rfl,oM,by push_cast at hm1;omega,by rw[←hinv];push_cast;omega,rfl⟩;simp[go_sem,wrap64s j oM,lpS,tmS]
   ·have hd:=dF hlt;obtain rfl:j=ps.length:=oM;rw[List.drop_length]at hinv;simp only[List.map_nil,List.sum_nil]at hinv;obtain rfl:m=F:=oM;exact zz5 trivial
theorem walk343s(v:Val)(c:Dat)(hv:szV v≤1000000):KT 343 [.mp 1000,.d (.ptr (encV v).cells)] (TS c 0) (.tup []) (TS c (0+sizF (szV v) v)):=by
 refine ok343.co (k:=false) (closedSu c 0 _) trivial ?_;have hc:=call344s (visit358 c (szV v) 1 0 v (Nat.le_refl _) dC oM dC oM);generalize sizF (szV v) v=V at*;rw[encV_eq]at hc⊢;simp only[TS,go_sem,ir343,simprocAttr];refine wc hc trivial
noncomputable def lp358(c:Dat):Av.Obj:=.lp ⟨[(2,.d (.int .i64 0)),(3,.ref 3 0),(5,.d c)],11,#[6,7],subC (codeOf Tryz.f249) [1,1,0,1,0,0],subC (codeOf Tryz.f249) [1,1,0,1,0,1],.ready,none⟩
theorem call343s(v:Val)(c:Dat)(hv:szV v≤1000000):
  CT 343 [.mp 17,.d (.ptr (encV v).cells)] [(17,some (lp358 c)),(3,some (.box [.d (.int .i64 0)]))] (.tup []) [(17,lp358 c),(3,.box [.d (.int .i64 (0+sizF (szV v) v))])]:=by
 have:=(walk343s v c hv).call (fun i=>if i=1000 then 17 else i-1000) (fun i hi=>by rcases TS_dom hi with rfl|rfl<;>decide)
  (fun i j hi hj h=>by rcases TSu_dom hi with rfl|rfl<;>rcases TSu_dom hj with rfl|rfl<;>first|rfl|simp at h) (by simp[idsIn,Av.get]) (closedS c 0) [] (by simp[Av.get]) (closedSu c 0 _) trivial
 simp only[TS,List.map_cons,List.map_nil]at this;simp only[Obj.ren,Av.ren,renL,lpS,tmS,renT,List.append_nil,Nat.reduceSub,simprocAttr]at this;exact this
theorem walk249(v:Val)(hv:szV v≤1000000):PT 249 [encV v] (.d (.int .i64 (sizF (szV v) v))):=by
 refine ok249.pc ?_;have h91:=(walk281 v).call trivial;have h180:=call343s v (.fn (.func 343) [] [.ptr (encV v).cells]) hv;rw[Int.zero_add]at h180;generalize sizF (szV v) v=V at*;rw[encV_eq]at h91 h180⊢;simp only[go_sem,ir249,simprocAttr];refine wc h91 ?_;refine wpc_rng rfl rfl ok343.has h180 ⟨rfl,rfl,trivial⟩ rfl sP (.inl ⟨rfl,?_⟩);exact zz trivial
end Go.Proofs
namespace Go.Proofs
open Go Av
abbrev w64(n:Int):Int:=IntKind.i64.wrap n
def szD(g:TFl):Int:=(sizF (szV (dfl0 g)) (dfl0 g):Nat)
def lsR(f:Typ→Int):Int→List TFl→Int
 |n,[]=>n
 |n,g::r=>lsR f (if g.need=1 then w64 (n+f g.type)else if g.need=3 then w64 (n+szD g)else n) r
def lsB(f:Typ→Int)(t:Typ):Int:=
 if t.kind=8 then(if decide (t.min>0)=true then w64 (1+w64 (t.min*f ((t.elem[0]?).getD ty0)))else 1)
 else if t.kind=10 then w64 (1+f ((t.fields[0]?).getD tf0).type)
 else if t.kind=9 then lsR f 1 t.fields else 1
def lsF:Nat→Typ→Int
 |0,_=>0
 |k+1,t=>if 4097<lsB (lsF k) t then 4097 else lsB (lsF k) t
theorem walk194:∀(k:Nat) (t:Typ),szT t≤k→vT t→PT 194 [encT t] (.d (.int .i64 (lsF k t)))
 |0,t,h,_=>by rw[szT_eq]at h;omega
 |k+1,t,h,ht=>by
  refine PCon.of_fits ok194.has fun hfit=>?_
  obtain⟨hw,he,hf⟩:=fits_T (hfit (encT t) sP);have e:=szT_eq t;obtain⟨t1,t2,t3,t4,t5,t6⟩:=(vT_eq t).1 ht;refine ok194.pc ?_;generalize hR:lsF (k+1) t=R;rw[lsF]at hR;have cE:∀x∈t.elem,CT 194 [.d (encT x)] [] (.d (.int .i64 (lsF k x))) []:=fun x hx=>(walk194 k x (by have:=szTs_mem x hx;omega) (vTs_mem t5 x hx)).call trivial
  have cG:∀g∈t.fields,CT 194 [.d (encT g.type)] [] (.d (.int .i64 (lsF k g.type))) []:=fun g hg=>(walk194 k g.type (by have:=szGs_mem g hg;omega) (vTf_mem t6 g hg).2.2).call trivial
  have hD:=fun g (hg:g∈t.fields)=>(vTf_mem t6 g hg).1
  generalize hB:lsB (lsF k) t=B at*;unfold lsB at hB;rw[encT_eq];have hks:t.kind=8∨t.kind=9∨t.kind=10∨(t.kind≠8∧t.kind≠9∧t.kind≠10):=oM;rcases hks with hk|hk|hk|⟨k8,k9,k10⟩
  ·rw[if_pos hk]at hB;have hl:=t2 hk;have h0:0<t.elem.length:=oM;have hx:=nth_encT h0;rw[List.getElem?_eq_getElem h0,Option.getD_some]at hB;have c:=cE t.elem[0] (List.getElem_mem h0);generalize lsF k t.elem[0]=X at*;rw[encT_eq]at c;simp only[go_sem,ir194,hk,hx,Int.reduceBEq,Int.toNat_zero,List.length_map,Nat.reduceAdd,Nat.reduceEqDiff,Nat.reduceBEq,Nat.reduceLeDiff,reduceCtorEq,↓reduceIte];apply ik<;>intro h
   ·rw[if_pos h]at hB;subst hB;subst hR;refine⟨oM,wpsL_call rfl c trivial ?_⟩;refine zz ?_;decide
   ·rw[if_neg (nF h)]at hB;subst hB;subst hR
    try refine zz ?_
    exact zf
  ·rw[if_neg oM,if_neg oM,if_pos hk]at hB;have e8:(t.kind==8)=false:=by rw[hk];rfl
   have e9:(t.kind==9)=true:=by rw[hk];rfl
   have e10:(t.kind==10)=false:=by rw[hk];rfl
   simp only[go_sem,ir194,e8,e9,e10,List.length_map,Nat.reduceAdd,Nat.reduceEqDiff,Nat.reduceBEq,Nat.reduceLeDiff,reduceCtorEq,↓reduceIte];refine wpc_loop (fun n s=>∃(j:Nat) (m:Int),j≤t.fields.length∧n=t.fields.length-j∧lsR (lsF k) m (t.fields.drop j)=B∧
    s=⟨[(3,.d (.int .i64 m)),(36,.d (.list 11 (t.fields.map encG))),(37,.d (.int .i64 t.fields.length)),(38,.d (.int .i64 j))],[]⟩) ?_ ?_
   ·refine⟨_,_,Wk.less ?_,0,1,Nat.zero_le _,rfl,hB,rfl⟩;simp[put,go_sem]
   ·clear hB;rintro n s ⟨j,m,hj,rfl,hinv,rfl⟩;by_cases hlt:j<t.fields.length
    ·have hx:=nth_encG hlt;have hd:=dT hlt;have hmem:=List.getElem_mem hlt;rw[List.drop_eq_getElem_cons hlt,lsR]at hinv;have c:=cG t.fields[j] hmem;have hd3:=hD t.fields[j] hmem;generalize t.fields[j]=g at*;generalize lsF k g.type=X at*;rw[encT_eq]at c;refine zz6 ?_;refine⟨oM,⟨fun h=>?_,fun h=>⟨fun h2=>?_,fun h2=>?_⟩⟩⟩
     ·rw[if_pos (sX h)]at hinv;refine wc c ?_;refine⟨t.fields.length-(j+1),_,oM,Wk.less ?_,j+1,_,oM,rfl,hinv,rfl⟩;exact zz18 trivial
     ·rw[if_neg (sX h),if_pos (sX h2)]at hinv;obtain⟨q1,q2⟩:=hd3 (sX h2);have h0:0<g.dflt.length:=oM;have hx3:=nth_encV h0;have hdf:dfl0 g=g.dflt[0]:=by rw[dfl0,List.getElem?_eq_getElem h0];rfl
      have hsz:=(chkV_sz (q2 _ (List.getElem_mem h0))).1;have cs:=(walk249 g.dflt[0] oM).call trivial;unfold szD at hinv;rw[hdf]at hinv;rw[encV_eq]at cs;simp only[go_sem,hx3,Int.toNat_zero,List.length_map,Nat.reduceAdd,Nat.reduceEqDiff,Nat.reduceBEq,Nat.reduceLeDiff,reduceCtorEq,↓reduceIte];refine⟨oM,wn cs ?_⟩;refine zz ?_;refine⟨t.fields.length-(j+1),_,oM,Wk.less ?_,j+1,_,oM,rfl,hinv,rfl⟩;exact zz18 trivial
     ·rw[if_neg (sX h),if_neg (sX h2)]at hinv
      try refine zz ?_
      refine⟨t.fields.length-(j+1),_,oM,Wk.less ?_,j+1,_,oM,rfl,hinv,rfl⟩;exact zz18 trivial
    ·have hd:=dF hlt;rw[List.drop_eq_nil_of_le oM,lsR]at hinv;subst hinv;subst hR;exact zz5 trivial
  ·rw[if_neg oM,if_pos hk]at hB;have hne:=t3 hk;have h0:0<t.fields.length:=List.length_pos_iff.2 hne;have hx:=nth_encG h0;rw[List.getElem?_eq_getElem h0,Option.getD_some]at hB;have c:=cG t.fields[0] (List.getElem_mem h0);generalize lsF k t.fields[0].type=X at*;rw[encT_eq]at c;have e8:(t.kind==8)=false:=by rw[hk];rfl
   have e10:(t.kind==10)=true:=by rw[hk];rfl
   simp only[go_sem,ir194,e8,e10,hx,Int.toNat_zero,List.length_map,Nat.reduceAdd,Nat.reduceEqDiff,Nat.reduceBEq,Nat.reduceLeDiff,reduceCtorEq,↓reduceIte];subst hB;subst hR;refine⟨⟨oM,oM⟩,wn c ?_⟩;exact zz trivial
  ·rw[if_neg k8,if_neg k10,if_neg k9]at hB;have e8:(t.kind==8)=false:=sX k8;have e9:(t.kind==9)=false:=sX k9;have e10:(t.kind==10)=false:=sX k10;subst hB;subst hR;simp only[go_sem,ir194,e8,e9,e10,Nat.reduceAdd,Nat.reduceEqDiff,Nat.reduceBEq,Nat.reduceLeDiff,reduceCtorEq,↓reduceIte]
   try rfl
def gsR(f:Typ→Int):Int→List Typ→Int
 |n,[]=>n
 |n,x::r=>gsR f (if f x>n then f x else n) r
def gsF:Nat→Typ→Int
 |0,_=>0
 |k+1,t=>gsR (gsF k) (gsR (gsF k) (lsF (szT t) t) t.elem) (t.fields.map TFl.type)
theorem walk157:∀(k:Nat) (t:Typ),szT t≤k→vT t→PT 157 [encT t] (.d (.int .i64 (gsF k t)))
 |0,t,h,_=>by rw[szT_eq]at h;omega
 |k+1,t,h,ht=>by
  refine PCon.of_fits ok157.has fun hfit=>?_
  obtain⟨hw,he,hf⟩:=fits_T (hfit (encT t) sP);have e:=szT_eq t;obtain⟨t1,t2,t3,t4,t5,t6⟩:=(vT_eq t).1 ht;refine ok157.pc ?_;generalize hR:gsF (k+1) t=R;rw[gsF]at hR;have c0:=(walk194 (szT t) t (Nat.le_refl _) ht).call trivial;have cE:∀x∈t.elem,CT 157 [.d (encT x)] [] (.d (.int .i64 (gsF k x))) []:=fun x hx=>(walk157 k x (by have:=szTs_mem x hx;omega) (vTs_mem t5 x hx)).call trivial
  have cG:∀g∈t.fields,CT 157 [.d (encT g.type)] [] (.d (.int .i64 (gsF k g.type))) []:=fun g hg=>(walk157 k g.type (by have:=szGs_mem g hg;omega) (vTf_mem t6 g hg).2.2).call trivial
  generalize lsF (szT t) t=L at*;rw[encT_eq]at c0;rw[encT_eq];simp only[go_sem,ir157,List.length_map,simprocAttr];refine wn c0 ?_;refine zz4 ?_;refine wpc_loop (fun n s=>∃(j:Nat) (m:Int),j≤t.elem.length∧n=t.elem.length-j∧gsR (gsF k) (gsR (gsF k) m (t.elem.drop j)) (t.fields.map TFl.type)=R∧
   s=⟨[(1,.ref 1 0),(3,.d (.int .i64 m)),(11,.d (.list 7 (t.elem.map encT))),(12,.d (.int .i64 t.elem.length)),(13,.d (.int .i64 j))],[(1,.box [.d (.int .i64 t.kind),.d (.int .i64 t.min),.d (.int .i64 t.max),.d (.int .i64 t.scale),.d (.list 1 (t.words.map .str)),.d (.list 7 (t.elem.map encT)),.d (.list 11 (t.fields.map encG))])]⟩) ?_ ?_
  ·exact⟨_,_,Wk.refl _,0,L,Nat.zero_le _,rfl,hR,rfl⟩
  ·clear hR c0;rintro n s ⟨j,m,hj,rfl,hinv,rfl⟩;by_cases hlt:j<t.elem.length
   ·have hx:=nth_encT hlt;have hd:=dT hlt;rw[List.drop_eq_getElem_cons hlt,gsR]at hinv;have c:=cE t.elem[j] (List.getElem_mem hlt);generalize gsF k t.elem[j]=X at*;rw[encT_eq]at c;refine zz6 ?_;refine⟨oM,wn c ?_⟩;refine zz ?_;refine⟨t.elem.length-(j+1),_,oM,Wk.less ?_,j+1,_,oM,rfl,hinv,rfl⟩;exact zz18 trivial
   ·have hd:=dF hlt;rw[List.drop_eq_nil_of_le oM,gsR]at hinv;refine zz22 ?_;refine wpc_loop (fun n s=>∃(j:Nat) (m:Int),j≤t.fields.length∧n=t.fields.length-j∧gsR (gsF k) m ((t.fields.drop j).map TFl.type)=R∧
     s=⟨[(3,.d (.int .i64 m)),(23,.d (.list 11 (t.fields.map encG))),(24,.d (.int .i64 t.fields.length)),(25,.d (.int .i64 j))],[]⟩) ?_ ?_
    ·refine⟨_,_,Wk.less ?_,0,m,Nat.zero_le _,rfl,hinv,rfl⟩;simp[put,go_sem]
    ·clear hinv;rintro n s ⟨j,m,hj,rfl,hinv,rfl⟩;by_cases hlt:j<t.fields.length
     ·have hx:=nth_encG hlt;have hd:=dT hlt;rw[List.drop_eq_getElem_cons hlt,List.map_cons,gsR]at hinv;have c:=cG t.fields[j] (List.getElem_mem hlt);generalize gsF k t.fields[j].type=X at*;rw[encT_eq]at c;refine zz6 ?_;refine⟨oM,wn c ?_⟩;refine zz ?_;refine⟨t.fields.length-(j+1),_,oM,Wk.less ?_,j+1,_,oM,rfl,hinv,rfl⟩;exact zz18 trivial
     ·have hd:=dF hlt;rw[List.drop_eq_nil_of_le oM,List.map_nil,gsR]at hinv;subst hinv;exact zz5 trivial
def chkY(t:Typ):Int:=if((chkT 8 4096 t).1 !=0)=true then(chkT 8 4096 t).1 else if decide (gsF (szT t) t>4096)=true then 9 else 0
theorem walk115(t:Typ):PT 115 [encT t] (.d (.int .i64 (chkY t))):=by
 refine ok115.pc ?_;have hc:=(walk156 8 4096 t dC dC dC).cnt (ds:=[encT t,.int .i64 1]) 3;have hok:=chkT_ok 8 4096 t dC;have hg:=fun h=>(walk157 (szT t) t (Nat.le_refl _) h).call trivial
 generalize hR:chkY t=R;unfold chkY at hR;generalize chkT 8 4096 t=X at*;generalize gsF (szT t) t=G at*;simp only[List.map_cons,List.map_nil,List.cons_append,List.nil_append]at hc;rw[encT_eq]at hc hg;rw[encT_eq];simp only[go_sem,ir115,simprocAttr];refine wc hc ?_;apply ik<;>intro h
 ·rw[if_pos h]at hR;subst hR;exact zz trivial
 rw[if_neg (nF h)]at hR;obtain⟨a,b,c⟩:=hok (sX h);clear h
 try refine zz ?_
 refine wc (hg a) ?_;apply ik<;>intro h
 ·rw[if_pos h]at hR;subst hR;rfl
 ·rw[if_neg (nF h)]at hR;subst hR;rfl
def cnBad(i:Int)(c:Int):Bool:= !(decide (c≥97)&&decide (c≤122))&&(i==0||(c !=95&&(decide (c<48)||decide (c>57))))
def cnGo:Nat→Str→Bool
 |_,[]=>true
 |i,c::r=> !cnBad i c.toNat&&cnGo (i+1) r
def cnS(s:Str):Bool:= !(decide ((s.length:Int)<1)||decide ((s.length:Int)>32))&&cnGo 0 s
theorem walk38(s:Str):PT 38 [.str s] (.d (.bool (cnS s))):=by
 refine ok38.pc ?_;simp only[go_sem,ir38,simprocAttr];refine sq (decide ((s.length:Int)>32)) ?_ ?_
 ·exact zz trivial
 unfold cnS;refine zz ?_;cases hb:(decide ((s.length:Int)<1)||decide ((s.length:Int)>32))with
 |true=>simp only[go_sem,Bool.not_true,Bool.false_and,simprocAttr]
 |false=>
  simp only[Bool.or_eq_false_iff,decide_eq_false_iff_not]at hb;simp only[go_sem,Bool.not_false,Bool.true_and,simprocAttr];refine wpc_loop (fun r st=>∃k:Nat,k≤s.length∧r=s.length-k∧cnGo k (s.drop k)=cnGo 0 s∧
   st=⟨[(0,.d (.str s)),(15,.d (.int .i64 s.length)),(16,.d (.int .i64 k))],[]⟩) ?_ ?_
  ·refine⟨_,_,Wk.less ?_,0,Nat.zero_le _,rfl,rfl,rfl⟩;simp[go_sem]
  ·rintro r st ⟨k,hk,rfl,hinv,rfl⟩;by_cases hlt:k<s.length
   ·have hd:=dT hlt;have hg:s.getD k 0=s[k]:=by simp[List.getD,List.getElem?_eq_getElem hlt]
    rw[List.drop_eq_getElem_cons hlt,cnGo]at hinv;simp only[go_sem,hd,hg,Int.toNat_natCast,simprocAttr];generalize((s[k].toNat:Nat):Int)=c at*;refine⟨⟨oM,oM⟩,?_⟩;refine sq (decide (c≤122)) ?_ ?_
    ·exact zz trivial
    refine zz ?_;refine sq ((k:Int)==0||(c !=95&&(decide (c<48)||decide (c>57)))) ?_ ?_
    ·refine zz ?_;refine sq (c !=95&&(decide (c<48)||decide (c>57))) ?_ ?_
     ·refine zz ?_;refine sq (decide (c<48)||decide (c>57)) ?_ ?_
      ·refine zz ?_;refine sq (decide (c>57)) ?_ ?_
       ·exact zz trivial
       exact zz trivial
      exact zz trivial
     exact zz trivial
    refine zz ?_;cases hq:cnBad k c with
    |true=>
     rw[hq]at hinv;unfold cnBad at hq;simp only[Bool.not_true,Bool.false_and]at hinv;rw[←hinv];simp only[go_sem,hq,simprocAttr]
    |false=>
     rw[hq]at hinv;unfold cnBad at hq;simp only[Bool.not_false,Bool.true_and]at hinv;simp only[go_sem,hq,simprocAttr];refine⟨s.length-(k+1),_,oM,Wk.less ?_,k+1,oM,rfl,hinv,rfl⟩;exact zz7 trivial
   ·have hd:=dF hlt;obtain rfl:k=s.length:=oM;rw[List.drop_length,cnGo]at hinv;rw[←hinv];exact zz5 trivial
def csY(c:Sch):Int:=if nameS c.name then(if inI c.version 1 999 then(if c.type.kind !=9 then 11 else chkY c.type)else 2)else 12
theorem walk51(c:Sch):PT 51 [encC c] (.d (.int .i64 (csY c))):=by
 refine ok51.pc ?_;have h1:=(walk113' c.name).call trivial;have h2:=(walk114 c.version 1 999).call trivial;have h3:=(walk115 c.type).call trivial;rw[encT_eq]at h3;unfold csY;simp only[go_sem,ir51,encC,simprocAttr];refine wn h1 ?_;cases nameS c.name with
 |false=>simp only[go_sem,Bool.not_false,Bool.not_true,simprocAttr]
 |true=>
  refine zz19 ?_;refine wn h2 ?_;cases inI c.version 1 999 with
  |false=>simp only[go_sem,Bool.not_false,simprocAttr]
  |true=>
   refine zz19 ?_;cases c.type.kind !=9 with
   |true=>simp only[go_sem,simprocAttr]
   |false=>
    refine zz ?_;refine wc h3 trivial
theorem walk40(x:Rou)(cs:List Dat)(n:Str):PT 40 [encO x,.ptr (.str n::cs)] (.d (.bool (x.name==n))):=by
 refine ok40.pc ?_;simp only[go_sem,ir40,encO,simprocAttr];simp
theorem walk41(x:Rou)(a:Dat)(cs:List Dat)(n:Str):PT 41 [encO x,.ptr (a::.str n::cs)] (.d (.bool (x.src==n))):=by
 refine ok41.pc ?_;simp only[go_sem,ir41,encO,simprocAttr];simp
def deepK(x:Wlk):Bool:=decide ((((x.place.length+1)/2:Nat):Int)>4)
theorem walk74(x:Wlk)(h:x.place.length≤68719476736):PT 74 [encWk x] (.d (.bool (deepK x))):=by
 refine ok74.pc ?_;have hw:IntKind.i64.wrap ((x.place.length:Int)+1)=(x.place.length:Int)+1:=wrap64 oM oM;simp only[go_sem,ir74,encWk,List.length_map,hw,Nat.reduceAdd,Nat.reduceEqDiff,Nat.reduceBEq,Nat.reduceLeDiff,reduceCtorEq,↓reduceIte];have e:((x.place.length:Int)+1).tdiv 2=(((x.place.length+1)/2:Nat):Int):=(Int.ofNat_tdiv (x.place.length+1) 2).symm;rw[e,wrap64 oM oM];exact⟨dC,rfl⟩
theorem join_cons2(a b:Str)(r:List Str)(sep:Str):Lib.join (a::b::r) sep=a++(sep++Lib.join (b::r) sep):=by
 simp[Lib.join,List.intercalate,List.intersperse]
theorem join_one(a:Str)(sep:Str):Lib.join [a] sep=a:=by simp[Lib.join,List.intercalate]
theorem join_len(sep:Str)(M:Nat):∀ss:List Str,(∀s∈ss,s.length≤M)→(Lib.join ss sep).length≤ss.length*(M+sep.length)
 |[],_=>by simp[Lib.join,List.intercalate]
 |[a],h=>by
  rw[join_one];have:=h a (List.mem_singleton.2 rfl);simp only[List.length_singleton];omega
 |a::b::r,h=>by
  rw[join_cons2];have h1:=h a List.mem_cons_self;have h2:=join_len sep M (b::r) (fun s hs=>h s (List.mem_cons_of_mem _ hs));simp only[List.length_append,List.length_cons]at h2⊢;rw[Nat.add_mul (r.length+1) 1];omega
def itoas(l:List Int):List Str:=l.map Lib.itoa
def i64ok(l:List Int):Prop:=∀n∈l,-9223372036854775808≤n∧n≤9223372036854775807
theorem itoas_len{l:List Int}(h:i64ok l)(sep:Str)(hs:sep.length≤1):(Lib.join (itoas l) sep).length≤l.length*22:=by
 have:=join_len sep 21 (itoas l) (fun s hs=>by
  obtain⟨n,hn,rfl⟩:=List.mem_map.1 hs;exact Lib.itoa_length_le n (h n hn).1 (h n hn).2)
 have e:(itoas l).length=l.length:=by simp[itoas]
 rw[e]at this;refine Nat.le_trans this (Nat.mul_le_mul_left _ oM)
theorem fits_ints{l:List Int}(h:fits (.list 1 (l.map (.int .i64)))):i64ok l:=by
 intro n hn;have:=fitsL_iff.1 h.2 (.int .i64 n) (List.mem_map.2 ⟨n,hn,rfl⟩);have e1:IntKind.i64.min= -9223372036854775808:=dC;have e2:IntKind.i64.max=9223372036854775807:=dC;simpa only[fits,e1,e2]using this
theorem fits_int{n:Int}(h:fits (.int .i64 n)): -9223372036854775808≤n∧n≤9223372036854775807:=by
 have e1:IntKind.i64.min= -9223372036854775808:=dC;have e2:IntKind.i64.max=9223372036854775807:=dC;simpa only[fits,e1,e2]using h
theorem walk187(l:List Int)(hne:l≠[])(hl:l.length≤1000000000)(sep:Str)(hs:sep.length≤1):PT 187 [.list 1 (l.map (.int .i64)),.str sep] (.d (.str (Lib.join (itoas l) sep))):=by
 refine PCon.of_fits ok187.has fun hfit=>?_
 have hok:i64ok l:=fits_ints (hfit _ (List.mem_cons_self));clear hfit;refine ok187.pc ?_;have hj:=join349 (itoas l) sep (by simpa[itoas]using hne) (by have:=itoas_len hok sep hs;omega);simp only[go_sem,ir187,List.length_map,simprocAttr];refine wpc_loop (fun n s=>∃k:Nat,k≤l.length∧n=l.length-k∧
  s=⟨[(1,.d (.str sep)),(5,.ms 18 k),(8,.d (.list 1 (l.map (.int .i64)))),(9,.d (.int .i64 l.length)),(10,.d (.int .i64 k))],[(18,.row k 1 ((itoas (l.take k)).map .str))]⟩) ?_ ?_
 ·refine⟨_,_,(Wk.nilT 5 18 1 rfl rfl dC).trans (Wk.less ?_),0,Nat.zero_le _,rfl,rfl⟩;simp[put,go_sem,itoas]
 ·rintro n s ⟨k,hk,rfl,rfl⟩;by_cases hlt:k<l.length
  ·have hx:=nth_map (fun n=>Dat.int .i64 n) hlt;have hd:=dT hlt;have hc:=call167 l[k] (hok _ (List.getElem_mem hlt)).1 (hok _ (List.getElem_mem hlt)).2;refine zz6 ?_;refine⟨oM,dC,wn hc ?_⟩;refine zz ?_;refine⟨sP,by simp[itoas];omega,l.length-(k+1),_,oM,Wk.less ?_,k+1,oM,rfl,rfl⟩;rw[List.take_succ_eq_append_getElem hlt];simp only[go_sem,itoas,wrap64s k oM,List.map_append,List.map_cons,List.map_nil,simprocAttr]
  ·have hd:=dF hlt;obtain rfl:k=l.length:=oM;have hc2:=CallOK.datA (hp:=[(18,.row l.length 1 ((itoas (l.take l.length)).map .str))]) (vs:=[.ms 18 l.length,.d (.str sep)]) rfl ⟨rfl,trivial,trivial⟩ (by rw[List.take_length];exact hj);refine zz5 ?_;refine wc hc2 trivial
def autoS(r:Int)(l:List Int):Str:=115::Lib.join (itoas (r::l)) [95]
theorem walk151(r:Int)(l:List Int)(hl:l.length≤500000000):PT 151 [.int .i64 r,.list 1 (l.map (.int .i64))] (.d (.str (autoS r l))):=by
 refine PCon.of_fits ok151.has fun hfit=>?_
 have hb:(Lib.join (itoas (r::l)) [95]).length≤68719476735:=by
  have h0:i64ok (r::l):=fun n hn=>by
   rcases List.mem_cons.1 hn with rfl|hn
   ·exact fits_int (hfit _ (List.mem_cons_self))
   ·exact fits_ints (hfit (.list 1 (l.map (.int .i64))) sP) n hn
  have:=itoas_len h0 [95] dC;simp only[List.length_cons]at this;omega
 refine ok151.pc ?_;have hc:=(walk187 (r::l) sP sO [95] dC).call trivial;have hc2:=CallOK.datA (hp:=[(6,.row 1 1 (.int .i64 r::l.map (.int .i64)))]) (vs:=[.ms 6 1,.d (.str [95])]) rfl ⟨rfl,trivial,trivial⟩ hc;simp only[go_sem,ir151,simprocAttr];refine⟨sP,sO,wn hc2 ?_⟩;simp only[go_sem,autoS,hb,simprocAttr]
def nameK(x:Wlk):Str:=orS x.step.name (autoS x.route x.place)
theorem walk105(x:Wlk)(hl:x.place.length≤500000000):PT 105 [encWk x] (.d (.str (nameK x))):=by
 refine ok105.pc ?_;have h1:=(walk151 x.route x.place hl).call trivial;have h2:=(walk150 x.step.name (autoS x.route x.place)).call trivial;unfold nameK;simp only[go_sem,ir105,encWk,simprocAttr];refine wpsL_call rfl h1 trivial ?_;refine zz ?_;refine⟨sP,wpsL_call rfl h2 trivial ?_⟩;refine zz ?_;rfl
end Go.Proofs
namespace Go.Proofs
open Go Av
variable {pd:Dat}{l:List Int}
theorem CallOK.canonR{P:Program}{f:Nat}{args:List Av}{T:List (Nat×Option Av.Obj)}{v:Av}{ups:List (Nat×Av.Obj)}(h:CallOK P (.fn f) args T v ups):CallOK P (.fn f) args T v.canon ups:=by
 intro β A w H vs hT hc hvs;rcases h β A w H vs hT hc hvs with⟨a1,a2⟩|⟨u,w',a1,β',A',a2,a3⟩
 ·refine .inl ⟨a1,a2.mono ?_⟩;rintro e w' ⟨u,rfl,β',A',b1,b2⟩;exact⟨u,rfl,β',A',b1,b2.canonA⟩
 ·exact .inr ⟨u,w',a1,β',A',a2,a3.canonA⟩
theorem CallOK.nilRes{P:Program}{f:Nat}{args:List Av}{sz:Nat}(h:CallOK P (.fn f) args [] (.d (.nil sz)) [])(hsz:0<sz)(t:Nat):CallOK P (.fn f) args [(t,none)] (.ms t 0) [(t,.row 0 sz [])]:=by
 intro β A w H vs hT hc hvs;have ht:H t=none:=hT (t,none) (List.mem_singleton.2 rfl);rcases h β A w H vs (by intro e he;cases he) hc hvs with⟨a1,a2⟩|⟨u,w',a1,β',A',a2,a3⟩
 ·refine .inl ⟨a1,a2.mono ?_⟩;rintro e w' ⟨u,rfl,β',A',b1,b2⟩;have hst:=Stp.rowNil (β:=β') b1.core ht hsz;exact⟨u,rfl,_,A',b1.trans hst,VRep.rowNil b2.of_d⟩
 ·have hst:=Stp.rowNil (β:=β') a2.core ht hsz;exact .inr ⟨u,w',a1,_,A',a2.trans hst,VRep.rowNil a3.of_d⟩
def PD(pd:Dat)(l:List Int):Prop:=pd=.list 1 (l.map (.int .i64))∨(pd=.nil 1∧l=[])
theorem walk31(a:Dat)(r:List Dat)(ha:a.canon=a)(hr:canonL r=r)(h1:∀x∈a::r,x.cells.length=1):PT 31 [.list 1 (a::r)] (.d (.list 1 (a::r))):=by
 refine PCon.of_fits ok31.has fun hfit=>?_
 have hl:r.length≤68719476735:=by have:=(hfit _ (List.mem_cons_self)).1;simpa using this
 clear hfit;refine ok31.pc ?_;simp only[go_sem,ir31,Nat.reduceAdd,Nat.reduceEqDiff,Nat.reduceBEq,Nat.reduceLeDiff,reduceCtorEq,↓reduceIte];exact⟨sP,⟨dC,oM,fun y hy=>h1 y hy⟩,by rw[ha,hr]⟩
theorem has57:Has Tryz.prog 31:=⟨_,Tryz.func31,kR,kR⟩
theorem call31d(hp:PD pd l):CT (.fn 31) [.d pd] [] (.d (.list 1 (l.map (.int .i64)))) []:=by
 rcases hp with rfl|⟨rfl,rfl⟩
 ·cases l with
  |nil=>exact CallOK.canonR (of_cl has57 cl57 (n:=1) (.inr rfl))
  |cons a r=>exact(walk31 (.int .i64 a) (r.map (.int .i64)) (by simp[Dat.canon]) (canonL_ints r) (fun x hx=>by
    rcases List.mem_cons.1 hx with rfl|hx
    ·rfl
    ·obtain⟨n,_,rfl⟩:=List.mem_map.1 hx;rfl)).call trivial
 ·exact CallOK.canonR (of_cl has57 cl57 (n:=1) (.inl rfl))
theorem con31f(a:Dat)(r:List Dat)(h1:∀x∈a::r,x.cells.length=1):KT 31 [.d (.list 1 (a::r))] [] (.ms 7 0) [(7,.row 0 1 (a::r))]:=by
 refine Con.of_fits ok31.has fun hfit=>?_
 have hl:r.length≤68719476735:=by have:=(hfit (.list 1 (a::r)) sP).1;simpa using this
 clear hfit;refine ok31.con (k:=some true) (Nat.le_of_ble_eq_true rfl) (closed_puts (by simp[puts,put,closedH,objIn])) (by simp[hputs,upd,inT,idsIn]) ?_;simp only[go_sem,ir31,Nat.reduceAdd,Nat.reduceEqDiff,Nat.reduceBEq,Nat.reduceLeDiff,reduceCtorEq,↓reduceIte];exact⟨sP,⟨dC,oM,fun y hy=>h1 y hy⟩⟩
theorem call31r(hp:PD pd l)(t:Nat):CT (.fn 31) [.d pd] [(t,none)] (.ms t 0) [(t,.row 0 1 (l.map (.int .i64)))]:=by
 have hcons:∀(a:Int) (r:List Int),CT (.fn 31) [.d (.list 1 ((a::r).map (.int .i64)))] [(t,none)] (.ms t 0) [(t,.row 0 1 ((a::r).map (.int .i64)))]:=by
  intro a r;have h:=(con31f (.int .i64 a) (r.map (.int .i64)) (fun x hx=>by
    rcases List.mem_cons.1 hx with rfl|hx
    ·rfl
    ·obtain⟨n,_,rfl⟩:=List.mem_map.1 hx;rfl)).call (fun _=>t) (by intro j h;cases h) ?_ ?_ (by intro j o h;cases h) [7] ?_ ?_ ?_
  ·simp only[Av.ren,Obj.ren,renL,List.map_cons,List.map_nil,List.nil_append]at h;exact h
  ·intro a b ha hb _;simp only[hputs,upd,Av.get]at ha hb;split at ha
   ·split at hb
    ·omega
    ·cases hb
   ·cases ha
  ·intro c hc;simp only[List.mem_singleton]at hc;subst hc;trivial
  ·intro e he;simp only[List.mem_singleton]at he;subst he;exact .inr sP
  ·exact closed_puts (by simp[puts,put,closedH,objIn])
  ·simp[hputs,upd,inT,idsIn]
 rcases hp with rfl|⟨rfl,rfl⟩
 ·cases l with
  |nil=>exact CallOK.nilRes (of_cl has57 cl57 (n:=1) (.inr rfl)) dC t
  |cons a r=>exact hcons a r
 ·exact CallOK.nilRes (of_cl has57 cl57 (n:=1) (.inl rfl)) dC t
def addP(is:Bool)(x:Prb)(o:List Prb):List Prb:=if is then o++[x]else o
abbrev LT(ro:Str)(pd:Dat)(o:List Prb):List (Nat×Av.Obj):=[(1000,.box [.d (.str ro),.d pd,.ms 1001 o.length]),(1001,.row o.length 4 (o.map encQ))]
theorem closedLT(ro ro':Str)(pd pd':Dat)(o o':List Prb):closed (hputs (get (LT ro pd o)) (LT ro' pd' o')):=closed_puts (by simp[LT,puts,put,closedH,objIn,idsInL,idsIn,Av.get])
theorem con37(ro:Str)(hp:PD pd l)(o:List Prb)(is:Bool)(code:Int)(nm:Str)(ho:o.length<68719476736):
  KT 37 [.ref 1000 0,.d (.bool is),.d (.int .i64 code),.d (.str nm)] (LT ro pd o) (.tup []) (LT ro pd (addP is ⟨code,ro,l,nm⟩ o)):=by
 refine ok37.con (k:=some false) (Nat.le_of_ble_eq_true rfl) (closedLT _ _ _ _ _ _) trivial ?_;have hc:=call31d hp;cases is with
 |false=>simp only[LT,addP,go_sem,ir37,Bool.false_eq_true,simprocAttr]
 |true=>
  simp only[LT,addP,go_sem,ir37,simprocAttr];refine wpsL_call rfl hc trivial ?_;refine zz ?_;exact⟨sP,sO,rfl,sP,by simp[encQ],sP,by simp[encQ]⟩
theorem LT_dom{ro ro':Str}{pd':Dat}{o o':List Prb}{i:Nat}(h:(hputs (get (LT ro pd o)) (LT ro' pd' o') i).isSome=true):i=1000∨i=1001:=by
 refine Decidable.byContradiction fun hn=>?_
 simp only[not_or]at hn;obtain⟨a1,a2⟩:=hn;simp[LT,hputs,upd,Av.get,a1,a2,Ne.symm a1,Ne.symm a2]at h
theorem LT_big{ro:Str}{o:List Prb}{i:Nat}(h:(get (LT ro pd o) i).isSome=true):1000≤i:=by
 simp only[LT,Av.get]at h
 repeat' split at h
 all_goals first|(cases h;done)|omega
theorem closedLT1(ro:Str)(pd:Dat)(o:List Prb):closed (get (LT ro pd o)):=closed_of (by simp[LT,closedH,objIn,idsInL,idsIn,Av.get])
theorem call37(i k:Nat)(hik:i≠k)(ro:Str)(hp:PD pd l)(o:List Prb)(is:Bool)(code:Int)(nm:Str)(ho:o.length<68719476736):
  CT (.fn 37) [.ref i 0,.d (.bool is),.d (.int .i64 code),.d (.str nm)] [(i,some (.box [.d (.str ro),.d pd,.ms k o.length])),(k,some (.row o.length 4 (o.map encQ)))] (.tup [])
   [(i,.box [.d (.str ro),.d pd,.ms k (addP is ⟨code,ro,l,nm⟩ o).length]),(k,.row (addP is ⟨code,ro,l,nm⟩ o).length 4 ((addP is ⟨code,ro,l,nm⟩ o).map encQ))]:=by
 have hc:=con37 ro hp o is code nm ho;generalize addP is ⟨code,ro,l,nm⟩ o=o' at*;have h:=hc.call (fun j=>if j=1000 then i else if j=1001 then k else j) (fun j hj=>LT_big hj) (fun a b ha hb h=>by
  rcases LT_dom ha with rfl|rfl<;>rcases LT_dom hb with rfl|rfl<;>first|rfl|(simp at h;omega)) (by simp[idsIn,Av.get]) (closedLT1 _ _ _) [] (by simp[Av.get]) (closedLT _ _ _ _ _ _) trivial
 simp only[LT,List.map_cons,List.map_nil,Obj.ren,Av.ren,renL,rn_dat,List.append_nil,Nat.reduceEqDiff,↓reduceIte]at h;exact h
end Go.Proofs
namespace Go.Proofs
open Go Av
theorem addP_len(is:Bool)(x:Prb)(o:List Prb):(addP is x o).length≤o.length+1:=by
 unfold addP;split<;>simp
theorem p74(x:Wlk):PT 74 [encWk x] (.d (.bool (deepK x))):=PCon.of_fits ok74.has fun h=>walk74 x (by
 have:=h _ (List.mem_cons_self);simp only[encWk,fits,fitsL,List.length_map]at this
 omega)
theorem fits_Pg{p:Prg}(h:fits (encPg p)):p.schemas.length≤68719476736∧p.endpoints.length≤68719476736∧p.services.length≤68719476736∧p.routes.length≤68719476736:=by
 simp only[encPg,fits,fitsL,List.length_map]at h;omega
theorem p25(p:Prg)(n:Str)(v:Int):PT 25 [encPg p,.str n,.int .i64 v] (.tup [.d (.int .i64 (fdQ (fun x:Sch=>x.name==n&&x.version==v) p.schemas)),.d (.bool (p.schemas.any fun x=>x.name==n&&x.version==v))]):=
 PCon.of_fits ok25.has fun h=>walk25 p n v (fits_Pg (h _ (List.mem_cons_self))).1
theorem p24(p:Prg)(n:Str):PT 24 [encPg p,.str n] (.tup [.d (.int .i64 (fdQ (fun x:Epd=>x.name==n) p.endpoints)),.d (.bool (p.endpoints.any fun x=>x.name==n))]):=
 PCon.of_fits ok24.has fun h=>walk24 p n (fits_Pg (h _ (List.mem_cons_self))).2.1
theorem p153(p:Prg)(n:Str):PT 153 [encPg p,.str n] (.tup [.d (.int .i64 (fdQ (fun x:Svc=>x.name==n) p.services)),.d (.bool (p.services.any fun x=>x.name==n))]):=
 PCon.of_fits ok153.has fun h=>walk153 p n (fits_Pg (h _ (List.mem_cons_self))).2.2.1
theorem p49(p:Prg)(n:Str):PT 49 [encPg p,.str n] (.tup [.d (.int .i64 (latF p.schemas n).1),.d (.bool (latF p.schemas n).2)]):=
 PCon.of_fits ok49.has fun h=>walk49 p n (fits_Pg (h _ (List.mem_cons_self))).1
def limP(ro:Str)(l:List Int)(p:Prg)(w:List Wlk)(o:List Prb):List Prb:=addP (decide ((p.endpoints.length:Int)+(p.services.length:Int)+(w.length:Int)>128)) ⟨16,ro,l,[110,111,100,101,115]⟩ (addP (w.any deepK) ⟨16,ro,l,[108,101,118,101,108,115]⟩ (addP (decide ((w.length:Int)>64)) ⟨16,ro,l,[115,116,101,112,115]⟩ (addP (decide ((p.routes.length:Int)>64)) ⟨16,ro,l,[114,111,117,116,101,115]⟩ (addP (decide ((p.services.length:Int)>64)) ⟨16,ro,l,[115,101,114,118,105,99,101,115]⟩ (addP (decide ((p.endpoints.length:Int)>64)) ⟨16,ro,l,[101,110,100,112,111,105,110,116,115]⟩ (addP (decide ((p.schemas.length:Int)>64)) ⟨16,ro,l,[115,99,104,101,109,97,115]⟩ o))))))
theorem con34(ro:Str){pd:Dat}{l:List Int}(hp:PD pd l)(p:Prg)(o:List Prb)(ho:o.length≤10000000000)(hsz:szRs p.routes≤1000000000):
  KT 34 [.ref 1000 0,.d (encPg p)] (LT ro pd o) (.tup []) (LT ro pd (limP ro l p (wkN p.routes p.routes.length) o)):=by
 refine Con.of_fits ok34.has fun hfit=>?_
 obtain⟨f1,f2,f3,f4⟩:=fits_Pg (hfit (encPg p) sP);clear hfit;have hw:=(walk72 p hsz).call trivial;have hwl:(wkN p.routes p.routes.length).length≤1000000000:=Nat.le_trans (wkN_len p.routes _ (Nat.le_refl _)) (Nat.le_trans (szRs_take _ _) hsz);generalize wkN p.routes p.routes.length=w at*;have hd:=(walk73 (cs:=[]) w (fun x _=>p74 x) oM).call trivial;unfold limP;have w1:IntKind.i64.wrap ((p.endpoints.length:Int)+(p.services.length:Int))=(p.endpoints.length:Int)+(p.services.length:Int):=wrap64 oM oM;have w2:IntKind.i64.wrap ((p.endpoints.length:Int)+(p.services.length:Int)+(w.length:Int))=(p.endpoints.length:Int)+(p.services.length:Int)+(w.length:Int):=wrap64 oM oM;have b0:=addP_len (decide ((p.schemas.length:Int)>64)) ⟨16,ro,l,[115,99,104,101,109,97,115]⟩ o;have c0:=call37 1000 1001 dC ro hp o (decide ((p.schemas.length:Int)>64)) 16 [115,99,104,101,109,97,115] oM;generalize addP (decide ((p.schemas.length:Int)>64)) ⟨16,ro,l,[115,99,104,101,109,97,115]⟩ o=o0 at*;have b1:=addP_len (decide ((p.endpoints.length:Int)>64)) ⟨16,ro,l,[101,110,100,112,111,105,110,116,115]⟩ o0;have c1:=call37 1000 1001 dC ro hp o0 (decide ((p.endpoints.length:Int)>64)) 16 [101,110,100,112,111,105,110,116,115] oM;generalize addP (decide ((p.endpoints.length:Int)>64)) ⟨16,ro,l,[101,110,100,112,111,105,110,116,115]⟩ o0=o1 at*;have b2:=addP_len (decide ((p.services.length:Int)>64)) ⟨16,ro,l,[115,101,114,118,105,99,101,115]⟩ o1;have c2:=call37 1000 1001 dC ro hp o1 (decide ((p.services.length:Int)>64)) 16 [115,101,114,118,105,99,101,115] oM;generalize addP (decide ((p.services.length:Int)>64)) ⟨16,ro,l,[115,101,114,118,105,99,101,115]⟩ o1=o2 at*;have b3:=addP_len (decide ((p.routes.length:Int)>64)) ⟨16,ro,l,[114,111,117,116,101,115]⟩ o2;have c3:=call37 1000 1001 dC ro hp o2 (decide ((p.routes.length:Int)>64)) 16 [114,111,117,116,101,115] oM;generalize addP (decide ((p.routes.length:Int)>64)) ⟨16,ro,l,[114,111,117,116,101,115]⟩ o2=o3 at*;have b4:=addP_len (decide ((w.length:Int)>64)) ⟨16,ro,l,[115,116,101,112,115]⟩ o3;have c4:=call37 1000 1001 dC ro hp o3 (decide ((w.length:Int)>64)) 16 [115,116,101,112,115] oM;generalize addP (decide ((w.length:Int)>64)) ⟨16,ro,l,[115,116,101,112,115]⟩ o3=o4 at*;have b5:=addP_len (w.any deepK) ⟨16,ro,l,[108,101,118,101,108,115]⟩ o4;have c5:=call37 1000 1001 dC ro hp o4 (w.any deepK) 16 [108,101,118,101,108,115] oM;generalize addP (w.any deepK) ⟨16,ro,l,[108,101,118,101,108,115]⟩ o4=o5 at*;have b6:=addP_len (decide ((p.endpoints.length:Int)+(p.services.length:Int)+(w.length:Int)>128)) ⟨16,ro,l,[110,111,100,101,115]⟩ o5;have c6:=call37 1000 1001 dC ro hp o5 (decide ((p.endpoints.length:Int)+(p.services.length:Int)+(w.length:Int)>128)) 16 [110,111,100,101,115] oM;generalize addP (decide ((p.endpoints.length:Int)+(p.services.length:Int)+(w.length:Int)>128)) ⟨16,ro,l,[110,111,100,101,115]⟩ o5=o6 at*;refine ok34.con (k:=some false) (Nat.le_of_ble_eq_true rfl) (closedLT _ _ _ _ _ _) trivial ?_;simp only[encPg]at hw;simp only[LT,go_sem,ir34,encPg,simprocAttr];refine wn hw ?_;simp only[go_sem,List.length_map,w1,w2,simprocAttr];refine wn c0 ?_;simp only[go_sem,List.length_map,w1,w2,simprocAttr];refine wn c1 ?_;simp only[go_sem,List.length_map,w1,w2,simprocAttr];refine wn c2 ?_;simp only[go_sem,List.length_map,w1,w2,simprocAttr];refine wn c3 ?_;simp only[go_sem,List.length_map,w1,w2,simprocAttr];refine wn c4 ?_;simp only[go_sem,List.length_map,w1,w2,simprocAttr];refine wn hd ?_;simp only[go_sem,List.length_map,w1,w2,simprocAttr];refine wn c5 ?_;simp only[go_sem,List.length_map,w1,w2,simprocAttr];refine wn c6 ?_;simp only[go_sem,List.length_map,w1,w2,simprocAttr]
theorem limP_len(ro:Str)(l:List Int)(p:Prg)(w:List Wlk)(o:List Prb):(limP ro l p w o).length≤o.length+7:=by
 unfold limP;have:=addP_len (decide ((p.schemas.length:Int)>64)) ⟨16,ro,l,[115,99,104,101,109,97,115]⟩ o;have:=addP_len (decide ((p.endpoints.length:Int)>64)) ⟨16,ro,l,[101,110,100,112,111,105,110,116,115]⟩ (addP (decide ((p.schemas.length:Int)>64)) ⟨16,ro,l,[115,99,104,101,109,97,115]⟩ o);have:=addP_len (decide ((p.services.length:Int)>64)) ⟨16,ro,l,[115,101,114,118,105,99,101,115]⟩ (addP (decide ((p.endpoints.length:Int)>64)) ⟨16,ro,l,[101,110,100,112,111,105,110,116,115]⟩ (addP (decide ((p.schemas.length:Int)>64)) ⟨16,ro,l,[115,99,104,101,109,97,115]⟩ o));have:=addP_len (decide ((p.routes.length:Int)>64)) ⟨16,ro,l,[114,111,117,116,101,115]⟩ (addP (decide ((p.services.length:Int)>64)) ⟨16,ro,l,[115,101,114,118,105,99,101,115]⟩ (addP (decide ((p.endpoints.length:Int)>64)) ⟨16,ro,l,[101,110,100,112,111,105,110,116,115]⟩ (addP (decide ((p.schemas.length:Int)>64)) ⟨16,ro,l,[115,99,104,101,109,97,115]⟩ o)));have:=addP_len (decide ((w.length:Int)>64)) ⟨16,ro,l,[115,116,101,112,115]⟩ (addP (decide ((p.routes.length:Int)>64)) ⟨16,ro,l,[114,111,117,116,101,115]⟩ (addP (decide ((p.services.length:Int)>64)) ⟨16,ro,l,[115,101,114,118,105,99,101,115]⟩ (addP (decide ((p.endpoints.length:Int)>64)) ⟨16,ro,l,[101,110,100,112,111,105,110,116,115]⟩ (addP (decide ((p.schemas.length:Int)>64)) ⟨16,ro,l,[115,99,104,101,109,97,115]⟩ o))));have:=addP_len (w.any deepK) ⟨16,ro,l,[108,101,118,101,108,115]⟩ (addP (decide ((w.length:Int)>64)) ⟨16,ro,l,[115,116,101,112,115]⟩ (addP (decide ((p.routes.length:Int)>64)) ⟨16,ro,l,[114,111,117,116,101,115]⟩ (addP (decide ((p.services.length:Int)>64)) ⟨16,ro,l,[115,101,114,118,105,99,101,115]⟩ (addP (decide ((p.endpoints.length:Int)>64)) ⟨16,ro,l,[101,110,100,112,111,105,110,116,115]⟩ (addP (decide ((p.schemas.length:Int)>64)) ⟨16,ro,l,[115,99,104,101,109,97,115]⟩ o)))));have:=addP_len (decide ((p.endpoints.length:Int)+(p.services.length:Int)+(w.length:Int)>128)) ⟨16,ro,l,[110,111,100,101,115]⟩ (addP (w.any deepK) ⟨16,ro,l,[108,101,118,101,108,115]⟩ (addP (decide ((w.length:Int)>64)) ⟨16,ro,l,[115,116,101,112,115]⟩ (addP (decide ((p.routes.length:Int)>64)) ⟨16,ro,l,[114,111,117,116,101,115]⟩ (addP (decide ((p.services.length:Int)>64)) ⟨16,ro,l,[115,101,114,118,105,99,101,115]⟩ (addP (decide ((p.endpoints.length:Int)>64)) ⟨16,ro,l,[101,110,100,112,111,105,110,116,115]⟩ (addP (decide ((p.schemas.length:Int)>64)) ⟨16,ro,l,[115,99,104,101,109,97,115]⟩ o))))));omega
def hasE(p:Prg)(n:Str):Bool:=p.endpoints.any fun x=>x.name==n
def epF(p:Prg)(n:Str):Nat:=fdQ (fun x:Epd=>x.name==n) p.endpoints
def hasV(p:Prg)(n:Str):Bool:=p.services.any fun x=>x.name==n
def svF(p:Prg)(n:Str):Nat:=fdQ (fun x:Svc=>x.name==n) p.services
def hasC(p:Prg)(n:Str)(v:Int):Bool:=p.schemas.any fun x=>x.name==n&&x.version==v
def scF(p:Prg)(n:Str)(v:Int):Nat:=fdQ (fun x:Sch=>x.name==n&&x.version==v) p.schemas
theorem epF_lt{p:Prg}{n:Str}(h:hasE p n=true):epF p n<p.endpoints.length:=by
 refine fdQ_lt ?_;cases e:p.endpoints with
 |nil=>simp[hasE,e]at h
 |cons x r=>simp
theorem svF_lt{p:Prg}{n:Str}(h:hasV p n=true):svF p n<p.services.length:=by
 refine fdQ_lt ?_;cases e:p.services with
 |nil=>simp[hasV,e]at h
 |cons x r=>simp
def epKind(p:Prg)(n:Str):Int:=(p.endpoints[epF p n]?.map Epd.kind).getD 0
def svUndo(p:Prg)(n:Str):Bool:=(p.services[svF p n]?.map Svc.undo).getD false
def undoB(p:Prg)(s:Ste)(k:Nat)(n:Str):Bool:=((hasV p n&&(s.kind==10))&&decide ((k:Int)<(s.calls.length:Int)-1))&& !svUndo p n
def callsP(ro:Str)(l:List Int)(p:Prg)(s:Ste):Nat→List Kal→List Prb→List Prb
 |_,[],o=>o
 |k,c::r,o=>callsP ro l p s (k+1) r (addP (undoB p s k c.service) ⟨12,ro,l,c.service⟩ (addP (!hasV p c.service) ⟨3,ro,l,c.service⟩ o))
theorem callsP_len(ro:Str)(l:List Int)(p:Prg)(s:Ste):∀(k:Nat) (r:List Kal) (o:List Prb),(callsP ro l p s k r o).length≤o.length+2*r.length
 |_,[],o=>by simp[callsP]
 |k,c::r,o=>by
  rw[callsP];have h1:=callsP_len ro l p s (k+1) r (addP (undoB p s k c.service) ⟨12,ro,l,c.service⟩ (addP (!hasV p c.service) ⟨3,ro,l,c.service⟩ o));have h2:=addP_len (undoB p s k c.service) ⟨12,ro,l,c.service⟩ (addP (!hasV p c.service) ⟨3,ro,l,c.service⟩ o);have h3:=addP_len (!hasV p c.service) ⟨3,ro,l,c.service⟩ o;simp only[List.length_cons];omega
def toP(ro:Str)(l:List Int)(p:Prg)(s:Ste)(o:List Prb):List Prb:=if s.kind==13 then addP (hasE p s.text&&(epKind p s.text==1)) ⟨4,ro,l,s.text⟩ (addP (!hasE p s.text) ⟨3,ro,l,s.text⟩ o)else o
def stepP(ro:Str)(l:List Int)(p:Prg)(s:Ste)(o:List Prb):List Prb:=
 callsP ro l p s 0 s.calls (addP (!(s.schema==[])&& !(latF p.schemas s.schema).2) ⟨3,ro,l,s.schema⟩ (toP ro l p s o))
theorem toP_len(ro:Str)(l:List Int)(p:Prg)(s:Ste)(o:List Prb):(toP ro l p s o).length≤o.length+2:=by
 unfold toP;split
 ·have h2:=addP_len (hasE p s.text&&(epKind p s.text==1)) ⟨4,ro,l,s.text⟩ (addP (!hasE p s.text) ⟨3,ro,l,s.text⟩ o);have h3:=addP_len (!hasE p s.text) ⟨3,ro,l,s.text⟩ o;omega
 ·omega
theorem stepP_len(ro:Str)(l:List Int)(p:Prg)(s:Ste)(o:List Prb):(stepP ro l p s o).length≤o.length+3+2*s.calls.length:=by
 unfold stepP;have h1:=toP_len ro l p s o;have h2:=addP_len (!(s.schema==[])&& !(latF p.schemas s.schema).2) ⟨3,ro,l,s.schema⟩ (toP ro l p s o);have h3:=callsP_len ro l p s 0 s.calls (addP (!(s.schema==[])&& !(latF p.schemas s.schema).2) ⟨3,ro,l,s.schema⟩ (toP ro l p s o));omega
set_option maxHeartbeats 2000000 in
theorem con107(ro:Str){pd:Dat}{l:List Int}(hp:PD pd l)(p:Prg)(s:Ste)(o:List Prb)(ho:o.length+3+2*s.calls.length≤10000000000):
  KT 107 [.ref 1000 0,.d (encPg p),.d (encSt s)] (LT ro pd o) (.tup []) (LT ro pd (stepP ro l p s o)):=by
 refine Con.of_fits ok107.has fun hfit=>?_
 obtain⟨f1,f2,f3,f4⟩:=fits_Pg (hfit (encPg p) sP);clear hfit;have h58:=(p24 p s.text).call (by simp[pureR]);have h147:=(p49 p s.schema).call (by simp[pureR]);have h242:=fun n=>(p153 p n).call (by simp[pureR])
 have b1:=toP_len ro l p s o;generalize hO:stepP ro l p s o=O;unfold stepP at hO;refine ok107.con (k:=some false) (Nat.le_of_ble_eq_true rfl) (closedLT _ _ _ _ _ _) trivial ?_;simp only[encPg]at h58 h147 h242;change CallOK _ _ _ _ (.tup [.d (.int .i64 (epF p s.text)),.d (.bool (hasE p s.text))]) _ at h58;change ∀n,CallOK _ _ _ _ (.tup [.d (.int .i64 (svF p n)),.d (.bool (hasV p n))]) _ at h242;rw[encSt_eq];simp only[LT,go_sem,ir107,encPg,List.length_map,Nat.reduceAdd,Nat.reduceEqDiff,Nat.reduceBEq,Nat.reduceLeDiff,reduceCtorEq,↓reduceIte];apply ik<;>intro hk
 ·have hto:toP ro l p s o=addP (hasE p s.text&&(epKind p s.text==1)) ⟨4,ro,l,s.text⟩ (addP (!hasE p s.text) ⟨3,ro,l,s.text⟩ o):=by unfold toP;rw[if_pos hk]
  have d1:=addP_len (!hasE p s.text) ⟨3,ro,l,s.text⟩ o;have a1:=call37 1000 1001 dC ro hp o (!hasE p s.text) 3 s.text oM;generalize addP (!hasE p s.text) ⟨3,ro,l,s.text⟩ o=o1 at*;have a2:=call37 1000 1001 dC ro hp o1 (hasE p s.text&&(epKind p s.text==1)) 4 s.text oM;rw[←hto]at a2;clear hto d1;generalize toP ro l p s o=o2 at*;refine wc h58 ?_;refine wc a1 ?_;refine scQ_pure (epKind p s.text==1) (fun hx=>?_) ?_
  ·have hlt:=epF_lt hx;have hn:=nth_map encEp hlt;have e:epKind p s.text=p.endpoints[epF p s.text].kind:=by unfold epKind;rw[List.getElem?_eq_getElem hlt];rfl
   simp only[encEp]at hn;simp only[go_sem,hn,e,Int.toNat_natCast,List.length_map,Nat.reduceAdd,Nat.reduceEqDiff,Nat.reduceBEq,Nat.reduceLeDiff,reduceCtorEq,↓reduceIte];exact⟨⟨oM,oM⟩,dC⟩
  refine zz ?_;refine wc a2 ?_;clear a1 a2 hk;have d1:=addP_len (!(s.schema==[])&& !(latF p.schemas s.schema).2) ⟨3,ro,l,s.schema⟩ o2;have a1:=call37 1000 1001 dC ro hp o2 (!(s.schema==[])&& !(latF p.schemas s.schema).2) 3 s.schema oM;generalize addP (!(s.schema==[])&& !(latF p.schemas s.schema).2) ⟨3,ro,l,s.schema⟩ o2=o3 at*;refine wc h147 ?_;refine sq (!(latF p.schemas s.schema).2) ?_ ?_
  ·exact zz trivial
  refine zz ?_;refine wc a1 ?_;clear a1 h147 h58;have hcl:s.calls.length≤10000000000:=oM;refine wpc_loop (fun n st=>∃(k:Nat) (q:List Prb),k≤s.calls.length∧n=s.calls.length-k∧callsP ro l p s k (s.calls.drop k) q=O∧q.length+2*(s.calls.length-k)≤10000000000∧
   st=⟨[(0,.ref 1000 0),(4,.ref 4 0),(5,.ref 5 0),(63,.d (.list 2 (s.calls.map encCl))),(64,.d (.int .i64 s.calls.length)),(65,.d (.int .i64 k))],LT ro pd q++[(4,.box [.d (.int .i64 p.version),.d (.list 9 (p.schemas.map encC)),.d (.list 7 (p.endpoints.map encEp)),.d (.list 4 (p.services.map encX)),.d (.list 3 (p.routes.map encO))]),(5,.box [.d (.str s.name),.d (.int .i64 s.kind),.d (.int .i64 s.number),.d (.int .i64 s.time),.d (.int .i64 s.limit),.d (.str s.text),.d (.str s.schema),.d (.list 5 (s.exprs.map encE)),.d (.list 6 (s.rules.map encR)),.d (.list 2 (s.calls.map encCl)),.d (.list 2 (s.branches.map encB))])]⟩) ?_ ?_
  ·refine⟨_,_,Wk.less ?_,0,o3,Nat.zero_le _,rfl,hO,oM,rfl⟩;simp[go_sem,LT]
  ·rintro n st ⟨k,q,hk,rfl,hinv,hq,rfl⟩;by_cases hlt:k<s.calls.length
   ·have hx:=nth_map encCl hlt;have hd:=dT hlt;have hw:IntKind.i64.wrap ((s.calls.length:Int)-1)=(s.calls.length:Int)-1:=wrap64 oM oM;rw[List.drop_eq_getElem_cons hlt,callsP]at hinv;simp only[encCl]at hx;generalize s.calls[k]=c at*;have h242:=h242 c.service;have d1:=addP_len (!hasV p c.service) ⟨3,ro,l,c.service⟩ q;have a1:=call37 1000 1001 dC ro hp q (!hasV p c.service) 3 c.service oM;generalize addP (!hasV p c.service) ⟨3,ro,l,c.service⟩ q=q1 at*;have d2:=addP_len (undoB p s k c.service) ⟨12,ro,l,c.service⟩ q1;have a2:=call37 1000 1001 dC ro hp q1 (undoB p s k c.service) 12 c.service oM;generalize addP (undoB p s k c.service) ⟨12,ro,l,c.service⟩ q1=q2 at*;simp only[LT,go_sem,hx,hd,Int.toNat_natCast,List.length_map,Nat.reduceAdd,Nat.reduceEqDiff,Nat.reduceBEq,Nat.reduceLeDiff,reduceCtorEq,↓reduceIte];refine⟨oM,wn h242 ?_⟩;refine zz ?_;refine wc a1 ?_;refine sq (s.kind==10) ?_ ?_
    ·exact zz trivial
    refine zz ?_;refine sq (decide ((k:Int)<(s.calls.length:Int)-1)) ?_ ?_
    ·simp only[go_sem,hw,List.length_map,Nat.reduceAdd,Nat.reduceEqDiff,Nat.reduceBEq,Nat.reduceLeDiff,reduceCtorEq,↓reduceIte]
    refine zz ?_;refine scQ_pure (!svUndo p c.service) (fun hx=>?_) ?_
    ·have hv:hasV p c.service=true:=by
      simp only[Bool.and_eq_true]at hx;exact hx.1.1
     have hlv:=svF_lt hv;have hn:=nth_map encX hlv;have e:svUndo p c.service=p.services[svF p c.service].undo:=by unfold svUndo;rw[List.getElem?_eq_getElem hlv];rfl
     simp only[encX]at hn;simp only[go_sem,hn,e,Int.toNat_natCast,List.length_map,Nat.reduceAdd,Nat.reduceEqDiff,Nat.reduceBEq,Nat.reduceLeDiff,reduceCtorEq,↓reduceIte];exact⟨⟨oM,oM⟩,dC⟩
    refine zz ?_;refine wc a2 ?_;refine⟨s.calls.length-(k+1),_,oM,Wk.less ?_,k+1,q2,oM,rfl,hinv,oM,rfl⟩;simp only[go_sem,LT,wrap64s k oM,Nat.reduceAdd,Nat.reduceEqDiff,Nat.reduceBEq,Nat.reduceLeDiff,reduceCtorEq,↓reduceIte]
   ·have hd:=dF hlt;obtain rfl:k=s.calls.length:=oM;rw[List.drop_length,callsP]at hinv;subst hinv;simp only[LT,go_sem,hd,Nat.reduceAdd,Nat.reduceEqDiff,Nat.reduceBEq,Nat.reduceLeDiff,reduceCtorEq,↓reduceIte]
 ·have hto:toP ro l p s o=o:=by unfold toP;rw[if_neg (by rw[hk];decide)]
  rw[hto]at hO;clear hto b1;generalize ho2:o=o2 at*;have b1:o2.length≤o2.length+2:=oM;have d1:=addP_len (!(s.schema==[])&& !(latF p.schemas s.schema).2) ⟨3,ro,l,s.schema⟩ o2;have a1:=call37 1000 1001 dC ro hp o2 (!(s.schema==[])&& !(latF p.schemas s.schema).2) 3 s.schema oM;generalize addP (!(s.schema==[])&& !(latF p.schemas s.schema).2) ⟨3,ro,l,s.schema⟩ o2=o3 at*;refine wc h147 ?_;refine sq (!(latF p.schemas s.schema).2) ?_ ?_
  ·exact zz trivial
  refine zz ?_;refine wc a1 ?_;clear a1 h147 h58;have hcl:s.calls.length≤10000000000:=oM;refine wpc_loop (fun n st=>∃(k:Nat) (q:List Prb),k≤s.calls.length∧n=s.calls.length-k∧callsP ro l p s k (s.calls.drop k) q=O∧q.length+2*(s.calls.length-k)≤10000000000∧
   st=⟨[(0,.ref 1000 0),(4,.ref 4 0),(5,.ref 5 0),(63,.d (.list 2 (s.calls.map encCl))),(64,.d (.int .i64 s.calls.length)),(65,.d (.int .i64 k))],LT ro pd q++[(4,.box [.d (.int .i64 p.version),.d (.list 9 (p.schemas.map encC)),.d (.list 7 (p.endpoints.map encEp)),.d (.list 4 (p.services.map encX)),.d (.list 3 (p.routes.map encO))]),(5,.box [.d (.str s.name),.d (.int .i64 s.kind),.d (.int .i64 s.number),.d (.int .i64 s.time),.d (.int .i64 s.limit),.d (.str s.text),.d (.str s.schema),.d (.list 5 (s.exprs.map encE)),.d (.list 6 (s.rules.map encR)),.d (.list 2 (s.calls.map encCl)),.d (.list 2 (s.branches.map encB))])]⟩) ?_ ?_
  ·refine⟨_,_,Wk.less ?_,0,o3,Nat.zero_le _,rfl,hO,oM,rfl⟩;simp[go_sem,LT]
  ·rintro n st ⟨k,q,hk,rfl,hinv,hq,rfl⟩;by_cases hlt:k<s.calls.length
   ·have hx:=nth_map encCl hlt;have hd:=dT hlt;have hw:IntKind.i64.wrap ((s.calls.length:Int)-1)=(s.calls.length:Int)-1:=wrap64 oM oM;rw[List.drop_eq_getElem_cons hlt,callsP]at hinv;simp only[encCl]at hx;generalize s.calls[k]=c at*;have h242:=h242 c.service;have d1:=addP_len (!hasV p c.service) ⟨3,ro,l,c.service⟩ q;have a1:=call37 1000 1001 dC ro hp q (!hasV p c.service) 3 c.service oM;generalize addP (!hasV p c.service) ⟨3,ro,l,c.service⟩ q=q1 at*;have d2:=addP_len (undoB p s k c.service) ⟨12,ro,l,c.service⟩ q1;have a2:=call37 1000 1001 dC ro hp q1 (undoB p s k c.service) 12 c.service oM;generalize addP (undoB p s k c.service) ⟨12,ro,l,c.service⟩ q1=q2 at*;simp only[LT,go_sem,hx,hd,Int.toNat_natCast,List.length_map,Nat.reduceAdd,Nat.reduceEqDiff,Nat.reduceBEq,Nat.reduceLeDiff,reduceCtorEq,↓reduceIte];refine⟨oM,wn h242 ?_⟩;refine zz ?_;refine wc a1 ?_;refine sq (s.kind==10) ?_ ?_
    ·exact zz trivial
    refine zz ?_;refine sq (decide ((k:Int)<(s.calls.length:Int)-1)) ?_ ?_
    ·simp only[go_sem,hw,List.length_map,Nat.reduceAdd,Nat.reduceEqDiff,Nat.reduceBEq,Nat.reduceLeDiff,reduceCtorEq,↓reduceIte]
    refine zz ?_;refine scQ_pure (!svUndo p c.service) (fun hx=>?_) ?_
    ·have hv:hasV p c.service=true:=by
      simp only[Bool.and_eq_true]at hx;exact hx.1.1
     have hlv:=svF_lt hv;have hn:=nth_map encX hlv;have e:svUndo p c.service=p.services[svF p c.service].undo:=by unfold svUndo;rw[List.getElem?_eq_getElem hlv];rfl
     simp only[encX]at hn;simp only[go_sem,hn,e,Int.toNat_natCast,List.length_map,Nat.reduceAdd,Nat.reduceEqDiff,Nat.reduceBEq,Nat.reduceLeDiff,reduceCtorEq,↓reduceIte];exact⟨⟨oM,oM⟩,dC⟩
    refine zz ?_;refine wc a2 ?_;refine⟨s.calls.length-(k+1),_,oM,Wk.less ?_,k+1,q2,oM,rfl,hinv,oM,rfl⟩;simp only[go_sem,LT,wrap64s k oM,Nat.reduceAdd,Nat.reduceEqDiff,Nat.reduceBEq,Nat.reduceLeDiff,reduceCtorEq,↓reduceIte]
   ·have hd:=dF hlt;obtain rfl:k=s.calls.length:=oM;rw[List.drop_length,callsP]at hinv;subst hinv;simp only[LT,go_sem,hd,Nat.reduceAdd,Nat.reduceEqDiff,Nat.reduceBEq,Nat.reduceLeDiff,reduceCtorEq,↓reduceIte]
def mpS(ns:List Str):List (Dat×Dat):=ns.map fun s=>(.str s,.bool true)
def insS(ns:List Str)(k:Str):List Str:=if ns.contains k then ns else ns++[k]
theorem findM_mpS(k:Str):∀ns:List Str,findM .s (mpS ns) (.str k)=some (if ns.contains k then some (.bool true)else none)
 |[]=>rfl
 |a::r=>by
  have ih:=findM_mpS k r;simp only[mpS,List.map_cons,findM,cellEq]at ih⊢;rw[ih,List.contains_cons];cases k==a<;>simp
theorem putM_mpS(k:Str):∀ns:List Str,putM .s (mpS ns) (.str k) (.bool true)=mpS (insS ns k)
 |[]=>rfl
 |a::r=>by
  have ih:=putM_mpS k r;simp only[mpS,List.map_cons,putM,cellEq,insS]at ih⊢;rw[ih,List.contains_cons];by_cases h:(k==a)=true
  ·have e:k=a:=sX h;subst e;simp
  ·simp only[Bool.not_eq_true]at h;simp only[h,Bool.false_or];split<;>rfl
theorem getD_mp(c:Bool):(if c=true then some (Dat.bool true)else none).getD (.bool false)=.bool c:=by cases c<;>rfl
abbrev LM(ro:Str)(pd:Dat)(o:List Prb)(ns:List Str):List (Nat×Av.Obj):=LT ro pd o++[(1002,.mapo (mpS ns))]
def thCs(ro:Str)(l:List Int)(p:Prg):Nat→List Sch→List Prb→List Prb
 |_,[],o=>o
 |i,x::r,o=>thCs ro l p (i+1) r (addP (decide ((scF p x.name x.version:Int)<(i:Int))) ⟨2,ro,l,x.name⟩ (addP (cnS x.name&&(csY x !=0)) ⟨5,ro,l,x.name⟩ (addP (!cnS x.name) ⟨1,ro,l,x.name⟩ (o))))
def thEs(ro:Str)(l:List Int)(p:Prg):List Epd→List Str×List Prb→List Str×List Prb
 |[],s=>s
 |x::r,(ns,o)=>thEs ro l p r (insS ns x.name,addP (!hasC p x.schema x.version) ⟨3,ro,l,x.schema⟩ (addP (!inR x.kind 1 3|| !inR x.fkind 1 4) ⟨5,ro,l,x.name⟩ (addP (ns.contains x.name) ⟨2,ro,l,x.name⟩ (addP (!cnS x.name) ⟨1,ro,l,x.name⟩ (o)))))
def thVs(ro:Str)(l:List Int)(p:Prg):List Svc→List Str×List Prb→List Str×List Prb
 |[],s=>s
 |x::r,(ns,o)=>thVs ro l p r (insS ns x.name,addP (!(latF p.schemas x.reply).2) ⟨3,ro,l,x.reply⟩ (addP (!(latF p.schemas x.request).2) ⟨3,ro,l,x.request⟩ (addP (ns.contains x.name) ⟨2,ro,l,x.name⟩ (addP (!cnS x.name) ⟨1,ro,l,x.name⟩ (o)))))
def thP(ro:Str)(l:List Int)(p:Prg)(ns:List Str)(o:List Prb):List Str×List Prb:=
 thVs ro l p p.services (thEs ro l p p.endpoints (ns,thCs ro l p 0 p.schemas (addP (!inR p.version 1 999) ⟨5,ro,l,[118,101,114,115,105,111,110]⟩ o)))
theorem thCs_len(ro:Str)(l:List Int)(p:Prg):∀(r:List Sch) (i:Nat) (o:List Prb),(thCs ro l p i r o).length≤o.length+3*r.length
 |[],i,o=>by simp[thCs]
 |x::r,i,o=>by
  rw[thCs];have:=addP_len (!cnS x.name) ⟨1,ro,l,x.name⟩ (o);have:=addP_len (cnS x.name&&(csY x !=0)) ⟨5,ro,l,x.name⟩ (addP (!cnS x.name) ⟨1,ro,l,x.name⟩ (o));have:=addP_len (decide ((scF p x.name x.version:Int)<(i:Int))) ⟨2,ro,l,x.name⟩ (addP (cnS x.name&&(csY x !=0)) ⟨5,ro,l,x.name⟩ (addP (!cnS x.name) ⟨1,ro,l,x.name⟩ (o)));have:=thCs_len ro l p r (i+1) (addP (decide ((scF p x.name x.version:Int)<(i:Int))) ⟨2,ro,l,x.name⟩ (addP (cnS x.name&&(csY x !=0)) ⟨5,ro,l,x.name⟩ (addP (!cnS x.name) ⟨1,ro,l,x.name⟩ (o))));simp only[List.length_cons];omega
theorem thEs_len(ro:Str)(l:List Int)(p:Prg):∀(r:List Epd) (s:List Str×List Prb),(thEs ro l p r s).2.length≤s.2.length+4*r.length
 |[],s=>by simp[thEs]
 |x::r,(ns,o)=>by
  rw[thEs];have:=addP_len (!cnS x.name) ⟨1,ro,l,x.name⟩ (o);have:=addP_len (ns.contains x.name) ⟨2,ro,l,x.name⟩ (addP (!cnS x.name) ⟨1,ro,l,x.name⟩ (o));have:=addP_len (!inR x.kind 1 3|| !inR x.fkind 1 4) ⟨5,ro,l,x.name⟩ (addP (ns.contains x.name) ⟨2,ro,l,x.name⟩ (addP (!cnS x.name) ⟨1,ro,l,x.name⟩ (o)));have:=addP_len (!hasC p x.schema x.version) ⟨3,ro,l,x.schema⟩ (addP (!inR x.kind 1 3|| !inR x.fkind 1 4) ⟨5,ro,l,x.name⟩ (addP (ns.contains x.name) ⟨2,ro,l,x.name⟩ (addP (!cnS x.name) ⟨1,ro,l,x.name⟩ (o))));have:=thEs_len ro l p r (insS ns x.name,addP (!hasC p x.schema x.version) ⟨3,ro,l,x.schema⟩ (addP (!inR x.kind 1 3|| !inR x.fkind 1 4) ⟨5,ro,l,x.name⟩ (addP (ns.contains x.name) ⟨2,ro,l,x.name⟩ (addP (!cnS x.name) ⟨1,ro,l,x.name⟩ (o)))));simp only[List.length_cons]at this⊢;omega
theorem thVs_len(ro:Str)(l:List Int)(p:Prg):∀(r:List Svc) (s:List Str×List Prb),(thVs ro l p r s).2.length≤s.2.length+4*r.length
 |[],s=>by simp[thVs]
 |x::r,(ns,o)=>by
  rw[thVs];have:=addP_len (!cnS x.name) ⟨1,ro,l,x.name⟩ (o);have:=addP_len (ns.contains x.name) ⟨2,ro,l,x.name⟩ (addP (!cnS x.name) ⟨1,ro,l,x.name⟩ (o));have:=addP_len (!(latF p.schemas x.request).2) ⟨3,ro,l,x.request⟩ (addP (ns.contains x.name) ⟨2,ro,l,x.name⟩ (addP (!cnS x.name) ⟨1,ro,l,x.name⟩ (o)));have:=addP_len (!(latF p.schemas x.reply).2) ⟨3,ro,l,x.reply⟩ (addP (!(latF p.schemas x.request).2) ⟨3,ro,l,x.request⟩ (addP (ns.contains x.name) ⟨2,ro,l,x.name⟩ (addP (!cnS x.name) ⟨1,ro,l,x.name⟩ (o))));have:=thVs_len ro l p r (insS ns x.name,addP (!(latF p.schemas x.reply).2) ⟨3,ro,l,x.reply⟩ (addP (!(latF p.schemas x.request).2) ⟨3,ro,l,x.request⟩ (addP (ns.contains x.name) ⟨2,ro,l,x.name⟩ (addP (!cnS x.name) ⟨1,ro,l,x.name⟩ (o)))));simp only[List.length_cons]at this⊢;omega
theorem thP_len(ro:Str)(l:List Int)(p:Prg)(ns:List Str)(o:List Prb):(thP ro l p ns o).2.length≤o.length+1+3*p.schemas.length+4*p.endpoints.length+4*p.services.length:=by
 unfold thP;have h0:=addP_len (!inR p.version 1 999) ⟨5,ro,l,[118,101,114,115,105,111,110]⟩ o;have h1:=thCs_len ro l p p.schemas 0 (addP (!inR p.version 1 999) ⟨5,ro,l,[118,101,114,115,105,111,110]⟩ o);have h2:=thEs_len ro l p p.endpoints (ns,thCs ro l p 0 p.schemas (addP (!inR p.version 1 999) ⟨5,ro,l,[118,101,114,115,105,111,110]⟩ o));have h3:=thVs_len ro l p p.services (thEs ro l p p.endpoints (ns,thCs ro l p 0 p.schemas (addP (!inR p.version 1 999) ⟨5,ro,l,[118,101,114,115,105,111,110]⟩ o)));simp only at h2;omega
theorem closedLM(ro ro':Str)(pd pd':Dat)(o o':List Prb)(ns ns':List Str):closed (hputs (get (LM ro pd o ns)) (LM ro' pd' o' ns')):=closed_puts (by simp[LM,LT,puts,put,closedH,objIn,idsInL,idsIn,Av.get])
theorem closedLM1(ro:Str)(pd:Dat)(o:List Prb)(ns:List Str):closed (get (LM ro pd o ns)):=closed_of (by simp[LM,LT,closedH,objIn,idsInL,idsIn,Av.get])
set_option maxHeartbeats 4000000 in
theorem con35(ro:Str){pd:Dat}{l:List Int}(hp:PD pd l)(p:Prg)(ns:List Str)(o:List Prb)(ho:o.length+1+3*p.schemas.length+4*p.endpoints.length+4*p.services.length≤10000000000):
    Con Tryz.prog 35 [.ref 1000 0,.d (encPg p),.mp 1002] (LM ro pd o ns) (.tup []) (LM ro pd (thP ro l p ns o).2 (thP ro l p ns o).1):=by
  generalize hO:thP ro l p ns o=O
  unfold thP at hO
  refine ok35.con (k:=some false) (Nat.le_of_ble_eq_true rfl) (closedLM _ _ _ _ _ _ _ _) trivial ?_
  have h146:=fun n a b=>(walk75 n a b).call trivial
  have h82:=fun s=>(walk38 s).call trivial
  have h91:=fun c=>(walk51 c).call trivial
  have h52:=fun n v=>(p25 p n v).call (by simp[pureR])
  have h147:=fun n=>(p49 p n).call (by simp[pureR])
  simp only[encPg]at h52 h147
  change ∀n v,CallOK _ _ _ _ (.tup [.d (.int .i64 (scF p n v)),.d (.bool (hasC p n v))]) _ at h52
  have d0:=addP_len (!inR p.version 1 999) ⟨5,ro,l,[118,101,114,115,105,111,110]⟩ o
  have a0:=call37 1000 1001 (by decide) ro hp o (!inR p.version 1 999) 5 [118,101,114,115,105,111,110] (by omega)
  generalize addP (!inR p.version 1 999) ⟨5,ro,l,[118,101,114,115,105,111,110]⟩ o=o1 at*
  simp only[LM,LT,go_sem,ir35,encPg,List.length_map,Nat.reduceAdd,Nat.reduceEqDiff,Nat.reduceBEq,Nat.reduceLeDiff,reduceCtorEq,↓reduceIte]
  refine wps_call rfl (h146 p.version 1 999) trivial ?_
  simp only[go_sem,findM_mpS,putM_mpS,getD_mp,Nat.reduceAdd,Nat.reduceEqDiff,Nat.reduceBEq,Nat.reduceLeDiff,reduceCtorEq,↓reduceIte]
  refine wps_call rfl a0 ⟨rfl,rfl,trivial⟩ ?_
  simp only[go_sem,findM_mpS,putM_mpS,getD_mp,Nat.reduceAdd,Nat.reduceEqDiff,Nat.reduceBEq,Nat.reduceLeDiff,reduceCtorEq,↓reduceIte]
  generalize hQ1:thCs ro l p 0 p.schemas o1=Q1 at*
  refine wpc_loop (fun n st=>∃(k:Nat) (q:List Prb),k≤p.schemas.length∧n=p.schemas.length-k∧thCs ro l p k (p.schemas.drop k) q=Q1∧q.length+3*(p.schemas.length-k)+4*p.endpoints.length+4*p.services.length≤10000000000∧
      st=⟨[(0,.ref 1000 0),(2,.mp 1002),(4,.ref 4 0),(28,.d (.list 9 (p.schemas.map encC))),(29,.d (.int .i64 p.schemas.length)),(30,.d (.int .i64 k))],LM ro pd q ns++[(4,.box [.d (.int .i64 p.version),.d (.list 9 (p.schemas.map encC)),.d (.list 7 (p.endpoints.map encEp)),.d (.list 4 (p.services.map encX)),.d (.list 3 (p.routes.map encO))])]⟩) ?_ ?_
  · refine⟨_,_,Wk.less ?_,0,o1,Nat.zero_le _,rfl,hQ1,by omega,rfl⟩
    simp[go_sem,LM,LT]
  · rintro n st ⟨i,q,hk,rfl,hinv,hq,rfl⟩
    by_cases hlt:i<p.schemas.length
    · have hx:=nth_map encC hlt
      have hd:decide ((i:Int)<(p.schemas.length:Int))=true:=by simp;omega
      rw[List.drop_eq_getElem_cons hlt,thCs]at hinv
      generalize p.schemas[i]=x at*
      have h91:=h91 x
      simp only[encC]at hx
      simp only[encC,List.map_cons,List.map_nil]at h91
      clear a0 d0
      have d0:=addP_len (!cnS x.name) ⟨1,ro,l,x.name⟩ q
      have a0:=call37 1000 1001 (by decide) ro hp q (!cnS x.name) 1 x.name (by omega)
      generalize addP (!cnS x.name) ⟨1,ro,l,x.name⟩ q=q0 at*
      have d1:=addP_len (cnS x.name&&(csY x !=0)) ⟨5,ro,l,x.name⟩ q0
      have a1:=call37 1000 1001 (by decide) ro hp q0 (cnS x.name&&(csY x !=0)) 5 x.name (by omega)
      generalize addP (cnS x.name&&(csY x !=0)) ⟨5,ro,l,x.name⟩ q0=q1 at*
      have d2:=addP_len (decide ((scF p x.name x.version:Int)<(i:Int))) ⟨2,ro,l,x.name⟩ q1
      have a2:=call37 1000 1001 (by decide) ro hp q1 (decide ((scF p x.name x.version:Int)<(i:Int))) 2 x.name (by omega)
      generalize addP (decide ((scF p x.name x.version:Int)<(i:Int))) ⟨2,ro,l,x.name⟩ q1=q2 at*
      simp only[LM,LT,go_sem,hx,hd,Int.toNat_natCast,List.length_map,Nat.reduceAdd,Nat.reduceEqDiff,Nat.reduceBEq,Nat.reduceLeDiff,reduceCtorEq,↓reduceIte]
      refine⟨by omega,wps_call rfl (h82 x.name) trivial ?_⟩
      simp only[go_sem,Nat.reduceAdd,Nat.reduceEqDiff,Nat.reduceBEq,Nat.reduceLeDiff,reduceCtorEq,↓reduceIte]
      refine wps_call rfl (h52 x.name x.version) trivial ?_
      simp only[go_sem,findM_mpS,putM_mpS,getD_mp,Nat.reduceAdd,Nat.reduceEqDiff,Nat.reduceBEq,Nat.reduceLeDiff,reduceCtorEq,↓reduceIte]
      refine wps_call rfl a0 ⟨rfl,rfl,trivial⟩ ?_
      simp only[go_sem,findM_mpS,putM_mpS,getD_mp,Nat.reduceAdd,Nat.reduceEqDiff,Nat.reduceBEq,Nat.reduceLeDiff,reduceCtorEq,↓reduceIte]
      refine⟨csY x !=0,_,[([7],[]),([],[]),([],[])],rfl,fun _=>wpsL_call rfl h91 trivial ?_,fun _=>rfl,?_⟩
      · simp only[go_sem,Nat.reduceAdd,Nat.reduceEqDiff,Nat.reduceBEq,Nat.reduceLeDiff,reduceCtorEq,↓reduceIte]
        try exact⟨rfl,rfl,rfl⟩
      simp only[go_sem,Nat.reduceAdd,Nat.reduceEqDiff,Nat.reduceBEq,Nat.reduceLeDiff,reduceCtorEq,↓reduceIte]
      refine wpsL_call rfl a1 ⟨rfl,rfl,trivial⟩ ?_
      simp only[go_sem,findM_mpS,putM_mpS,getD_mp,Nat.reduceAdd,Nat.reduceEqDiff,Nat.reduceBEq,Nat.reduceLeDiff,reduceCtorEq,↓reduceIte]
      refine⟨rfl,?_⟩
      refine wps_call rfl a2 ⟨rfl,rfl,trivial⟩ ?_
      simp only[go_sem,findM_mpS,putM_mpS,getD_mp,Nat.reduceAdd,Nat.reduceEqDiff,Nat.reduceBEq,Nat.reduceLeDiff,reduceCtorEq,↓reduceIte]
      refine⟨p.schemas.length-(i+1),_,by omega,Wk.less ?_,i+1,q2,by omega,rfl,hinv,by omega,rfl⟩
      simp only[go_sem,LM,LT,wrap64s i (by omega),Nat.reduceAdd,Nat.reduceEqDiff,Nat.reduceBEq,Nat.reduceLeDiff,reduceCtorEq,↓reduceIte]
    · have hd:decide ((i:Int)<(p.schemas.length:Int))=false:=by simp;omega
      obtain rfl:i=p.schemas.length:=by omega
      rw[List.drop_length,thCs]at hinv
      subst hinv
      simp only[LM,LT,go_sem,hd,List.length_map,Nat.reduceAdd,Nat.reduceEqDiff,Nat.reduceBEq,Nat.reduceLeDiff,reduceCtorEq,↓reduceIte]
      generalize hQ2:thEs ro l p p.endpoints (ns,q)=Q2 at*
      refine wpc_loop (fun n st=>∃(k:Nat) (t:List Str×List Prb),k≤p.endpoints.length∧n=p.endpoints.length-k∧thEs ro l p (p.endpoints.drop k) t=Q2∧t.2.length+4*(p.endpoints.length-k)+4*p.services.length≤10000000000∧
          st=⟨[(0,.ref 1000 0),(2,.mp 1002),(4,.ref 4 0),(72,.d (.list 7 (p.endpoints.map encEp))),(73,.d (.int .i64 p.endpoints.length)),(74,.d (.int .i64 k))],LM ro pd t.2 t.1++[(4,.box [.d (.int .i64 p.version),.d (.list 9 (p.schemas.map encC)),.d (.list 7 (p.endpoints.map encEp)),.d (.list 4 (p.services.map encX)),.d (.list 3 (p.routes.map encO))])]⟩) ?_ ?_
      · refine⟨_,_,Wk.less ?_,0,(ns,q),Nat.zero_le _,rfl,hQ2,by simp only;omega,rfl⟩
        simp[go_sem,LM,LT]
      · rintro n st ⟨i,⟨ns,q⟩,hk,rfl,hinv,hq,rfl⟩
        simp only at hq
        by_cases hlt:i<p.endpoints.length
        · have hx:=nth_map encEp hlt
          have hd:decide ((i:Int)<(p.endpoints.length:Int))=true:=by simp;omega
          rw[List.drop_eq_getElem_cons hlt,thEs]at hinv
          generalize p.endpoints[i]=x at*
          simp only[encEp]at hx
          clear a0 d0
          have d0:=addP_len (!cnS x.name) ⟨1,ro,l,x.name⟩ q
          have a0:=call37 1000 1001 (by decide) ro hp q (!cnS x.name) 1 x.name (by omega)
          generalize addP (!cnS x.name) ⟨1,ro,l,x.name⟩ q=q0 at*
          have d1:=addP_len (ns.contains x.name) ⟨2,ro,l,x.name⟩ q0
          have a1:=call37 1000 1001 (by decide) ro hp q0 (ns.contains x.name) 2 x.name (by omega)
          generalize addP (ns.contains x.name) ⟨2,ro,l,x.name⟩ q0=q1 at*
          have d2:=addP_len (!inR x.kind 1 3|| !inR x.fkind 1 4) ⟨5,ro,l,x.name⟩ q1
          have a2:=call37 1000 1001 (by decide) ro hp q1 (!inR x.kind 1 3|| !inR x.fkind 1 4) 5 x.name (by omega)
          generalize addP (!inR x.kind 1 3|| !inR x.fkind 1 4) ⟨5,ro,l,x.name⟩ q1=q2 at*
          have d3:=addP_len (!hasC p x.schema x.version) ⟨3,ro,l,x.schema⟩ q2
          have a3:=call37 1000 1001 (by decide) ro hp q2 (!hasC p x.schema x.version) 3 x.schema (by omega)
          generalize addP (!hasC p x.schema x.version) ⟨3,ro,l,x.schema⟩ q2=q3 at*
          simp only[LM,LT,go_sem,hx,hd,Int.toNat_natCast,List.length_map,Nat.reduceAdd,Nat.reduceEqDiff,Nat.reduceBEq,Nat.reduceLeDiff,reduceCtorEq,↓reduceIte]
          refine⟨by omega,wps_call rfl (h52 x.schema x.version) trivial ?_⟩
          simp only[go_sem,Nat.reduceAdd,Nat.reduceEqDiff,Nat.reduceBEq,Nat.reduceLeDiff,reduceCtorEq,↓reduceIte]
          refine wpsL_call rfl (h82 x.name) trivial ?_
          simp only[go_sem,findM_mpS,putM_mpS,getD_mp,Nat.reduceAdd,Nat.reduceEqDiff,Nat.reduceBEq,Nat.reduceLeDiff,reduceCtorEq,↓reduceIte]
          refine wpsL_call rfl a0 ⟨rfl,rfl,trivial⟩ ?_
          simp only[go_sem,findM_mpS,putM_mpS,getD_mp,Nat.reduceAdd,Nat.reduceEqDiff,Nat.reduceBEq,Nat.reduceLeDiff,reduceCtorEq,↓reduceIte]
          refine⟨rfl,?_⟩
          refine wps_call rfl a1 ⟨rfl,rfl,trivial⟩ ?_
          simp only[go_sem,findM_mpS,putM_mpS,getD_mp,Nat.reduceAdd,Nat.reduceEqDiff,Nat.reduceBEq,Nat.reduceLeDiff,reduceCtorEq,↓reduceIte]
          refine wpsL_call rfl (h146 x.kind 1 3) trivial ?_
          simp only[go_sem,findM_mpS,putM_mpS,getD_mp,Nat.reduceAdd,Nat.reduceEqDiff,Nat.reduceBEq,Nat.reduceLeDiff,reduceCtorEq,↓reduceIte]
          refine⟨!inR x.fkind 1 4,_,[([],[]),([],[]),([12],[]),([],[]),([],[])],rfl,fun _=>wpsL_call rfl (h146 x.fkind 1 4) trivial ?_,fun _=>rfl,?_⟩
          · simp only[go_sem,Nat.reduceAdd,Nat.reduceEqDiff,Nat.reduceBEq,Nat.reduceLeDiff,reduceCtorEq,↓reduceIte]
            try exact⟨rfl,rfl,rfl⟩
          simp only[go_sem,Nat.reduceAdd,Nat.reduceEqDiff,Nat.reduceBEq,Nat.reduceLeDiff,reduceCtorEq,↓reduceIte]
          refine wpsL_call rfl a2 ⟨rfl,rfl,trivial⟩ ?_
          simp only[go_sem,findM_mpS,putM_mpS,getD_mp,Nat.reduceAdd,Nat.reduceEqDiff,Nat.reduceBEq,Nat.reduceLeDiff,reduceCtorEq,↓reduceIte]
          refine⟨rfl,?_⟩
          refine wps_call rfl a3 ⟨rfl,rfl,trivial⟩ ?_
          simp only[go_sem,findM_mpS,putM_mpS,getD_mp,Nat.reduceAdd,Nat.reduceEqDiff,Nat.reduceBEq,Nat.reduceLeDiff,reduceCtorEq,↓reduceIte]
          refine⟨p.endpoints.length-(i+1),_,by omega,Wk.less ?_,i+1,(insS ns x.name,q3),by omega,rfl,hinv,by simp only;omega,rfl⟩
          simp only[go_sem,LM,LT,wrap64s i (by omega),Nat.reduceAdd,Nat.reduceEqDiff,Nat.reduceBEq,Nat.reduceLeDiff,reduceCtorEq,↓reduceIte]
        · have hd:decide ((i:Int)<(p.endpoints.length:Int))=false:=by simp;omega
          obtain rfl:i=p.endpoints.length:=by omega
          rw[List.drop_length,thEs]at hinv
          subst hinv
          simp only[LM,LT,go_sem,hd,List.length_map,Nat.reduceAdd,Nat.reduceEqDiff,Nat.reduceBEq,Nat.reduceLeDiff,reduceCtorEq,↓reduceIte]
          refine wpc_loop (fun n st=>∃(k:Nat) (t:List Str×List Prb),k≤p.services.length∧n=p.services.length-k∧thVs ro l p (p.services.drop k) t=O∧t.2.length+4*(p.services.length-k)≤10000000000∧
              st=⟨[(0,.ref 1000 0),(2,.mp 1002),(4,.ref 4 0),(129,.d (.list 4 (p.services.map encX))),(130,.d (.int .i64 p.services.length)),(131,.d (.int .i64 k))],LM ro pd t.2 t.1++[(4,.box [.d (.int .i64 p.version),.d (.list 9 (p.schemas.map encC)),.d (.list 7 (p.endpoints.map encEp)),.d (.list 4 (p.services.map encX)),.d (.list 3 (p.routes.map encO))])]⟩) ?_ ?_
          · refine⟨_,_,Wk.less ?_,0,(ns,q),Nat.zero_le _,rfl,hO,by simp only;omega,rfl⟩
            simp[go_sem,LM,LT]
          · rintro n st ⟨i,⟨ns,q⟩,hk,rfl,hinv,hq,rfl⟩
            simp only at hq
            by_cases hlt:i<p.services.length
            · have hx:=nth_map encX hlt
              have hd:decide ((i:Int)<(p.services.length:Int))=true:=by simp;omega
              rw[List.drop_eq_getElem_cons hlt,thVs]at hinv
              generalize p.services[i]=x at*
              simp only[encX]at hx
              clear a0 d0
              have d0:=addP_len (!cnS x.name) ⟨1,ro,l,x.name⟩ q
              have a0:=call37 1000 1001 (by decide) ro hp q (!cnS x.name) 1 x.name (by omega)
              generalize addP (!cnS x.name) ⟨1,ro,l,x.name⟩ q=q0 at*
              have d1:=addP_len (ns.contains x.name) ⟨2,ro,l,x.name⟩ q0
              have a1:=call37 1000 1001 (by decide) ro hp q0 (ns.contains x.name) 2 x.name (by omega)
              generalize addP (ns.contains x.name) ⟨2,ro,l,x.name⟩ q0=q1 at*
              have d2:=addP_len (!(latF p.schemas x.request).2) ⟨3,ro,l,x.request⟩ q1
              have a2:=call37 1000 1001 (by decide) ro hp q1 (!(latF p.schemas x.request).2) 3 x.request (by omega)
              generalize addP (!(latF p.schemas x.request).2) ⟨3,ro,l,x.request⟩ q1=q2 at*
              have d3:=addP_len (!(latF p.schemas x.reply).2) ⟨3,ro,l,x.reply⟩ q2
              have a3:=call37 1000 1001 (by decide) ro hp q2 (!(latF p.schemas x.reply).2) 3 x.reply (by omega)
              generalize addP (!(latF p.schemas x.reply).2) ⟨3,ro,l,x.reply⟩ q2=q3 at*
              simp only[LM,LT,go_sem,hx,hd,Int.toNat_natCast,List.length_map,Nat.reduceAdd,Nat.reduceEqDiff,Nat.reduceBEq,Nat.reduceLeDiff,reduceCtorEq,↓reduceIte]
              refine⟨by omega,wps_call rfl (h147 x.request) trivial ?_⟩
              simp only[go_sem,Nat.reduceAdd,Nat.reduceEqDiff,Nat.reduceBEq,Nat.reduceLeDiff,reduceCtorEq,↓reduceIte]
              refine wps_call rfl (h147 x.reply) trivial ?_
              simp only[go_sem,findM_mpS,putM_mpS,getD_mp,Nat.reduceAdd,Nat.reduceEqDiff,Nat.reduceBEq,Nat.reduceLeDiff,reduceCtorEq,↓reduceIte]
              refine wpsL_call rfl (h82 x.name) trivial ?_
              simp only[go_sem,findM_mpS,putM_mpS,getD_mp,Nat.reduceAdd,Nat.reduceEqDiff,Nat.reduceBEq,Nat.reduceLeDiff,reduceCtorEq,↓reduceIte]
              refine wpsL_call rfl a0 ⟨rfl,rfl,trivial⟩ ?_
              simp only[go_sem,findM_mpS,putM_mpS,getD_mp,Nat.reduceAdd,Nat.reduceEqDiff,Nat.reduceBEq,Nat.reduceLeDiff,reduceCtorEq,↓reduceIte]
              refine⟨rfl,?_⟩
              refine wps_call rfl a1 ⟨rfl,rfl,trivial⟩ ?_
              simp only[go_sem,findM_mpS,putM_mpS,getD_mp,Nat.reduceAdd,Nat.reduceEqDiff,Nat.reduceBEq,Nat.reduceLeDiff,reduceCtorEq,↓reduceIte]
              refine wps_call rfl a2 ⟨rfl,rfl,trivial⟩ ?_
              simp only[go_sem,findM_mpS,putM_mpS,getD_mp,Nat.reduceAdd,Nat.reduceEqDiff,Nat.reduceBEq,Nat.reduceLeDiff,reduceCtorEq,↓reduceIte]
              refine wps_call rfl a3 ⟨rfl,rfl,trivial⟩ ?_
              simp only[go_sem,findM_mpS,putM_mpS,getD_mp,Nat.reduceAdd,Nat.reduceEqDiff,Nat.reduceBEq,Nat.reduceLeDiff,reduceCtorEq,↓reduceIte]
              refine⟨p.services.length-(i+1),_,by omega,Wk.less ?_,i+1,(insS ns x.name,q3),by omega,rfl,hinv,by simp only;omega,rfl⟩
              simp only[go_sem,LM,LT,wrap64s i (by omega),Nat.reduceAdd,Nat.reduceEqDiff,Nat.reduceBEq,Nat.reduceLeDiff,reduceCtorEq,↓reduceIte]
            · have hd:decide ((i:Int)<(p.services.length:Int))=false:=by simp;omega
              obtain rfl:i=p.services.length:=by omega
              rw[List.drop_length,thVs]at hinv
              subst hinv
              simp only[LM,LT,go_sem,hd,List.length_map,Nat.reduceAdd,Nat.reduceEqDiff,Nat.reduceBEq,Nat.reduceLeDiff,reduceCtorEq,↓reduceIte]
end Go.Proofs
namespace Go.Proofs
open Go Av
variable {i:Nat}{pd:Dat}
theorem CallOK.seeFrz{P:Program}{f:Nat}{args:List Av}{v:Av}{ups:List (Nat×Av.Obj)}{T:List (Nat×Option Av.Obj)}{k sz j ver:Nat}{cs:List Av}{xs:List Dat}
  (h:CallOK P (.fn f) args ((i,some (.box (cs.set j (.d (.list sz xs)))))::T) v ups)(hT:∀e∈T,e.1≠i)(hj:cs[j]? =some (.ms k ver))
  (hui:(get ups i).isSome=true):CallOK P (.fn f) args ((i,some (.box cs))::(k,some (.frz ver sz xs))::T) v ups:=by
 intro β A w H vs hT' hc hvs;have hi:H i=some (.box cs):=hT' (i,some (.box cs)) List.mem_cons_self;have hk:H k=some (.frz ver sz xs):=hT' (k,_) (List.mem_cons_of_mem _ List.mem_cons_self);have hst:=Stp.boxSee (cs':=cs.set j (.d (.list sz xs))) hc hi sP (fun n c c' u h1 h2 hv=>by
  rcases set_see hj h1 h2 with⟨_,rfl,rfl⟩|rfl
  ·cases hv with
   |ms _ _ _ hu h0 h1 h2=>exact .d _ _ (h2 sz xs hk)
  ·exact hv)
 have hput:hputs (upd H i (some (.box (cs.set j (.d (.list sz xs)))))) ups=hputs H ups:=by
  funext m;by_cases hm:(get ups m).isSome=true
  ·exact hputs_same ups _ _ m hm
  ·have hmi:m≠i:=fun e=>hm (e▸hui)
   rw[hputs_out ups _ m hm,hputs_out ups _ m hm,upd_ne _ _ hmi]
 have:=h β A w _ vs (fun e he=>?_) hst.core ⟨hvs.1,fun n c u h1 h2=>hst.vals c u (hvs.2 n c u h1 h2)⟩
 ·rw[hput]at this;rcases this with⟨a1,a2⟩|⟨u,w',a1,β',A',a2,a3⟩
  ·refine .inl ⟨a1,a2.mono ?_⟩;rintro e w' ⟨u,rfl,β',A',b1,b2⟩;exact⟨u,rfl,β',A',hst.trans b1,b2⟩
  ·exact .inr ⟨u,w',a1,β',A',hst.trans a2,a3⟩
 ·simp only[List.mem_cons]at he;rcases he with rfl|he
  ·exact upd_same _ _ _
  ·rw[upd_ne _ _ (hT e he)];exact hT' e (List.mem_cons_of_mem _ (List.mem_cons_of_mem _ he))
abbrev NP:=List Str×List Prb
mutual
def wtS:Ste→Nat
 |.mk _ _ _ _ _ _ _ _ _ a b=>10+2*a.length+wtBs b
def wtSs:List Ste→Nat
 |[]=>0
 |v::r=>wtS v+wtSs r
def wtB:Brn→Nat
 |.mk _ s=>wtSs s
def wtBs:List Brn→Nat
 |[]=>0
 |v::r=>wtB v+wtBs r
end
theorem wtS_eq(s:Ste):wtS s=10+2*s.calls.length+wtBs s.branches:=by cases s;simp only[wtS,Ste.calls,Ste.branches]
theorem wtB_eq(b:Brn):wtB b=wtSs b.steps:=by cases b;simp only[wtB,Brn.steps]
def ownP(ro:Str)(r:Int)(p:Prg)(x:Ste)(e:Bool)(l:List Int)(s:NP):NP:=
 let o3:=addP e ⟨7,ro,l,[]⟩ (addP (s.1.contains (nameK ⟨r,l,x⟩)) ⟨2,ro,l,nameK ⟨r,l,x⟩⟩ (addP (!(x.name==[])&& !cnS x.name) ⟨1,ro,l,x.name⟩ s.2))
 (insS s.1 (nameK ⟨r,l,x⟩),if formS x then stepP ro l p x o3 else addP true ⟨5,ro,l,[]⟩ o3)
mutual
def stpP(ro:Str)(r:Int)(p:Prg):Ste→Bool→Int→List Int→NP→NP
 |.mk n k u t l x c e ru a b,ends,i,pl,s=>bsP ro r p b 0 (pl++[i]) (ownP ro r p (.mk n k u t l x c e ru a b) ends (pl++[i]) s)
def ssP(ro:Str)(r:Int)(p:Prg):List Ste→Bool→Int→List Int→NP→NP
 |[],_,_,_,s=>s
 |x::y,e,i,pl,s=>ssP ro r p y (endsS x) (i+1) pl (stpP ro r p x e i pl s)
def bP(ro:Str)(r:Int)(p:Prg):Brn→Int→List Int→NP→NP
 |.mk _ st,k,pl,s=>ssP ro r p st false 0 (pl++[k]) s
def bsP(ro:Str)(r:Int)(p:Prg):List Brn→Int→List Int→NP→NP
 |[],_,_,s=>s
 |x::y,k,pl,s=>bsP ro r p y (k+1) pl (bP ro r p x k pl s)
end
theorem sP_eq(ro:Str)(r:Int)(p:Prg)(x:Ste)(e:Bool)(i:Int)(pl:List Int)(s:NP):stpP ro r p x e i pl s=bsP ro r p x.branches 0 (pl++[i]) (ownP ro r p x e (pl++[i]) s):=by
 cases x;simp only[stpP,Ste.branches]
theorem bP_eq(ro:Str)(r:Int)(p:Prg)(x:Brn)(k:Int)(pl:List Int)(s:NP):bP ro r p x k pl s=ssP ro r p x.steps false 0 (pl++[k]) s:=by
 cases x;simp only[bP,Brn.steps]
theorem ownP_len(ro:Str)(r:Int)(p:Prg)(x:Ste)(e:Bool)(l:List Int)(s:NP):(ownP ro r p x e l s).2.length≤s.2.length+6+2*x.calls.length:=by
 unfold ownP;have h1:=addP_len (!(x.name==[])&& !cnS x.name) ⟨1,ro,l,x.name⟩ s.2;generalize addP (!(x.name==[])&& !cnS x.name) ⟨1,ro,l,x.name⟩ s.2=o1 at*;have h2:=addP_len (s.1.contains (nameK ⟨r,l,x⟩)) ⟨2,ro,l,nameK ⟨r,l,x⟩⟩ o1;generalize addP (s.1.contains (nameK ⟨r,l,x⟩)) ⟨2,ro,l,nameK ⟨r,l,x⟩⟩ o1=o2 at*;have h3:=addP_len e ⟨7,ro,l,[]⟩ o2;generalize addP e ⟨7,ro,l,[]⟩ o2=o3 at*;have h4:=stepP_len ro l p x o3;have h5:=addP_len true ⟨5,ro,l,[]⟩ o3;simp only;split<;>omega
mutual
theorem sP_len(ro:Str)(r:Int)(p:Prg):∀(x:Ste) (e:Bool) (i:Int) (pl:List Int) (s:NP),(stpP ro r p x e i pl s).2.length≤s.2.length+wtS x
 |.mk n k u t l x c e ru a b,ends,i,pl,s=>by
  rw[stpP,wtS];have h1:=ownP_len ro r p (.mk n k u t l x c e ru a b) ends (pl++[i]) s;have h2:=bsP_len ro r p b 0 (pl++[i]) (ownP ro r p (.mk n k u t l x c e ru a b) ends (pl++[i]) s);simp only[Ste.calls]at h1;omega
theorem ssP_len(ro:Str)(r:Int)(p:Prg):∀(x:List Ste) (e:Bool) (i:Int) (pl:List Int) (s:NP),(ssP ro r p x e i pl s).2.length≤s.2.length+wtSs x
 |[],_,_,_,s=>by simp[ssP]
 |x::y,e,i,pl,s=>by
  rw[ssP,wtSs];have h1:=sP_len ro r p x e i pl s;have h2:=ssP_len ro r p y (endsS x) (i+1) pl (stpP ro r p x e i pl s);omega
theorem bP_len(ro:Str)(r:Int)(p:Prg):∀(x:Brn) (k:Int) (pl:List Int) (s:NP),(bP ro r p x k pl s).2.length≤s.2.length+wtB x
 |.mk _ st,k,pl,s=>by
  rw[bP,wtB];exact ssP_len ro r p st false 0 (pl++[k]) s
theorem bsP_len(ro:Str)(r:Int)(p:Prg):∀(x:List Brn) (k:Int) (pl:List Int) (s:NP),(bsP ro r p x k pl s).2.length≤s.2.length+wtBs x
 |[],_,_,s=>by simp[bsP]
 |x::y,k,pl,s=>by
  rw[bsP,wtBs];have h1:=bP_len ro r p x k pl s;have h2:=bsP_len ro r p y (k+1) pl (bP ro r p x k pl s);omega
end
def prevE(l:List Ste)(k:Nat):Bool:=match k with
 |0=>false
 |j+1=>(l[j]?.map endsS).getD false
theorem prevE_eq{l:List Ste}{k:Nat}(h:k<l.length)(hk:0<k):prevE l k=endsS (l[k-1]'oM):=by
 cases k with
 |zero=>omega
 |succ j=>simp only[prevE,Nat.add_sub_cancel];rw[List.getElem?_eq_getElem oM];rfl
theorem LM_dom{ro ro':Str}{pd':Dat}{o o':List Prb}{ns ns':List Str}(h:(hputs (get (LM ro pd o ns)) (LM ro' pd' o' ns') i).isSome=true):i=1000∨i=1001∨i=1002:=by
 refine Decidable.byContradiction fun hn=>?_
 simp only[not_or]at hn;obtain⟨a1,a2,a3⟩:=hn;simp[LM,LT,hputs,upd,Av.get,a1,a2,a3,Ne.symm a1,Ne.symm a2,Ne.symm a3]at h
theorem LM_big{ro:Str}{o:List Prb}{ns:List Str}(h:(get (LM ro pd o ns) i).isSome=true):1000≤i:=by
 simp only[LM,LT,List.cons_append,List.nil_append,Av.get]at h
 repeat' split at h
 all_goals first|(cases h;done)|omega
theorem call107(ro:Str){l:List Int}(hp:PD pd l)(p:Prg)(s:Ste)(o:List Prb)(ho:o.length+3+2*s.calls.length≤10000000000):
  CT (.fn 107) [.ref 1000 0,.d (encPg p),.d (encSt s)] [(1000,some (.box [.d (.str ro),.d pd,.ms 1001 o.length])),(1001,some (.row o.length 4 (o.map encQ)))] (.tup []) (LT ro pd (stepP ro l p s o)):=by
 have h:=(con107 ro hp p s o ho).call (fun i=>i) (fun j hj=>LT_big hj) (fun a b _ _ h=>h) (by simp[idsIn,Av.get]) (closedLT1 _ _ _) [] (by simp[Av.get]) (closedLT _ _ _ _ _ _) trivial;simp only[LT,List.map_cons,List.map_nil,Obj.ren,Av.ren,renL,rn_dat,List.append_nil]at h⊢;exact h
def V87(p:Prg)(st:List Ste):Prop:=∀(ro:Str) (r:Int) (pd:Dat) (l:List Int) (o:List Prb) (ns:List Str),PD pd l→l.length+2*szSs st≤400000000→o.length+wtSs st≤10000000000→
 KT 43 [.ref 1000 0,.d (encPg p),.d (.int .i64 r),.d (.list 11 (st.map encSt)),.mp 1002,.d (.map rulesM)] (LM ro pd o ns) (.tup []) (LM ro pd (ssP ro r p st false 0 l (ns,o)).2 (ssP ro r p st false 0 l (ns,o)).1)
theorem call43{p:Prg}{st:List Ste}(h:V87 p st)(ro:Str)(r:Int)(pd:Dat)(l:List Int)(o:List Prb)(ns:List Str)(hp:PD pd l)(h1:l.length+2*szSs st≤400000000)(h2:o.length+wtSs st≤10000000000):
  CT (.fn 43) [.ref 1000 0,.d (encPg p),.d (.int .i64 r),.d (.list 11 (st.map encSt)),.mp 1002,.d (.map rulesM)] ((LM ro pd o ns).map fun x=>(x.1,some x.2)) (.tup [])
   (LM ro pd (ssP ro r p st false 0 l (ns,o)).2 (ssP ro r p st false 0 l (ns,o)).1):=by
 have hc:=h ro r pd l o ns hp h1 h2;generalize ssP ro r p st false 0 l (ns,o)=R at*;have h:=hc.call (fun i=>i) (fun j hj=>LM_big hj) (fun a b _ _ h=>h) (by simp[idsIn,Av.get]) (closedLM1 _ _ _ _) [] (by simp[Av.get]) (closedLM _ _ _ _ _ _ _ _) trivial;simp only[LM,LT,List.map_cons,List.map_nil,List.cons_append,List.nil_append,Obj.ren,Av.ren,renL,rn_dat,List.append_nil]at h⊢;exact h
end Go.Proofs
namespace Go.Proofs
open Go Av
theorem CallOK.seeA{P:Program}{f:Nat}{args:List Av}{v:Av}{ups:List (Nat×Av.Obj)}{T:List (Nat×Option Av.Obj)}{i sz j ver:Nat}{xs:List Dat}
  (h:CallOK P (.fn f) (args.set j (.d (.list sz xs))) T v ups)(hj:args[j]? =some (.ms i ver)):CallOK P (.fn f) args ((i,some (.frz ver sz xs))::T) v ups:=by
 intro β A w H vs hT' hc hvs;have hi:H i=some (.frz ver sz xs):=hT' (i,_) List.mem_cons_self;refine h β A w H vs (fun e he=>hT' e (List.mem_cons_of_mem _ he)) hc ⟨by simpa using hvs.1,fun n c u h1 h2=>?_⟩;have hn:n<args.length:=by
  have:=(List.getElem?_eq_some_iff.1 h1).1;simpa using this
 rcases set_see hj (List.getElem?_eq_getElem hn) h1 with⟨rfl,e,rfl⟩|e
 ·have hv:=hvs.2 n _ u hj h2;cases hv with
  |ms _ _ _ hu h0 h1 h2=>exact .d _ _ (h2 sz xs hi)
 ·rw[e];exact hvs.2 n _ u (List.getElem?_eq_getElem hn) h2
theorem CallOK.frzA{P:Program}{f:Nat}{args:List Av}{v:Av}{ups:List (Nat×Av.Obj)}{T:List (Nat×Option Av.Obj)}{i sz j ver:Nat}{xs:List Dat}
  (h:CallOK P (.fn f) (args.set j (.d (.list sz xs))) T v ups)(hj:args[j]? =some (.ms i ver))(hT:∀e∈T,e.1≠i):CallOK P (.fn f) args ((i,some (.row ver sz xs))::T) v ((i,.frz ver sz xs)::ups):=by
 have h':=CallOK.seeA (ver:=ver) h hj;intro β A w H vs hT' hc hvs;have hi:H i=some (.row ver sz xs):=hT' (i,_) List.mem_cons_self;have hst:=Stp.freeze hc hi;have hq:∀e∈(i,some (Av.Obj.frz ver sz xs))::T,upd H i (some (.frz ver sz xs)) e.1=e.2:=by
  intro e he;rcases List.mem_cons.1 he with rfl|he
  ·exact upd_same _ _ _
  ·rw[upd_ne _ _ (hT e he)];exact hT' e (List.mem_cons_of_mem _ he)
 rcases h' β _ w _ vs hq hst.core ⟨hvs.1,fun n c u h1 h2=>hst.vals c u (hvs.2 n c u h1 h2)⟩with⟨a1,a2⟩|⟨u,w',a1,β',A',a2,a3⟩
 ·refine .inl ⟨a1,a2.mono ?_⟩;rintro e w' ⟨u,rfl,β',A',b1,b2⟩;exact⟨u,rfl,β',A',hst.trans b1,b2⟩
 ·exact .inr ⟨u,w',a1,β',A',hst.trans a2,a3⟩
theorem Wk.seeT{D:Nat→Prop}{st:St}(t i ver sz:Nat)(xs:List Dat)(ht:get st.tm t=some (.ms i ver))(hi:get st.hp i=some (.frz ver sz xs)):Wk D st ⟨put st.tm t (.d (.list sz xs)),st.hp⟩:=by
 intro β A w a hc htr;refine⟨β,A,hc,fun t' v hv=>?_,fun i o b h1 h2 h3=>⟨i,o,h1,h2,h3⟩,fun _ h=>.inl h,fun c u _ h=>h⟩;rw[get_put]at hv;split at hv
 ·rename_i e;subst e;cases hv;obtain⟨u,q1,q2⟩:=htr t' _ ht;refine⟨u,q1,?_⟩;cases q2 with
  |ms _ _ _ hu h0 h1 h2=>exact .d _ _ (h2 sz xs hi)
 ·exact htr t' v hv
theorem p43(l:List Int):PD (.list 1 (l.map (.int .i64))) l:=.inl rfl
set_option maxHeartbeats 8000000 in
theorem step43(p:Prg)(l:List Ste)(h:∀x∈l,∀b∈x.branches,V87 p b.steps):V87 p l:=by
  intro ro r pd pl o ns hp hx ho
  refine Con.of_fits ok43.has fun hfit=>?_
  have hl:l.length≤68719476736:=by have:=(hfit (.list 11 (l.map encSt)) (by simp)).1;simpa using this
  have hfs:∀x∈l,x.branches.length≤68719476736:=by
    intro x hxm
    have:=fitsL_iff.1 (hfit (.list 11 (l.map encSt)) (by simp)).2 _ (List.mem_map.2 ⟨x,hxm,rfl⟩)
    rw[encSt_eq]at this
    simp only[fits,fitsL,List.length_map]at this
    omega
  clear hfit
  generalize hR:ssP ro r p l false 0 pl (ns,o)=R
  refine ok43.con (k:=some false) (Nat.le_of_ble_eq_true rfl) (closedLM _ _ _ _ _ _ _ _) trivial ?_
  simp only[LM,LT,go_sem,ir43,encPg,List.length_map,Nat.reduceAdd,Nat.reduceEqDiff,Nat.reduceBEq,Nat.reduceLeDiff,reduceCtorEq,↓reduceIte]
  refine wpc_loop (fun n st=>∃(k:Nat) (S:NP) (z:Dat),k≤l.length∧n=l.length-k∧ssP ro r p (l.drop k) (prevE l k) k pl S=R∧S.2.length+wtSs (l.drop k)≤10000000000∧
    st=⟨[(0,.ref 1000 0),(2,.d (.int .i64 r)),(3,.d (.list 11 (l.map encSt))),(4,.mp 1002),(5,.d (.map rulesM)),(7,.ref 7 0),(12,.d pd),(23,.d (.list 11 (l.map encSt))),(24,.d (.int .i64 l.length)),(25,.d (.int .i64 k))],LM ro z S.2 S.1++[(7,.box [.d (.int .i64 p.version),.d (.list 9 (p.schemas.map encC)),.d (.list 7 (p.endpoints.map encEp)),.d (.list 4 (p.services.map encX)),.d (.list 3 (p.routes.map encO))])]⟩) ?_ ?_
  · refine⟨_,_,Wk.less ?_,0,(ns,o),pd,Nat.zero_le _,rfl,hR,ho,rfl⟩
    simp[go_sem,LM,LT]
  · rintro n st ⟨k,⟨ns,q⟩,z,hk,rfl,hinv,hq,rfl⟩
    simp only at hq
    by_cases hlt:k<l.length
    · have hn:=nth_encSt hlt
      have hdk:decide ((k:Int)<(l.length:Int))=true:=by simp;omega
      have hbr:=hfs _ (List.getElem_mem hlt)
      have hV:=h _ (List.getElem_mem hlt)
      have hE:(decide ((k:Int)>0)&&(if hz:0<k then endsS (l[k-1]'(by omega))else false))=prevE l k:=by
        by_cases hz:0<k
        · rw[dif_pos hz,prevE_eq hlt hz]
          have:decide ((k:Int)>0)=true:=by simp;omega
          rw[this,Bool.true_and]
        · rw[dif_neg hz,Bool.and_false]
          obtain rfl:k=0:=by omega
          rfl
      have hEn:ssP ro r p (l.drop (k+1)) (prevE l (k+1)) ((k+1:Nat):Int) pl (stpP ro r p l[k] (prevE l k) k pl (ns,q))=R:=by
        rw[List.drop_eq_getElem_cons hlt,ssP]at hinv
        have e1:prevE l (k+1)=endsS l[k]:=by simp only[prevE];rw[List.getElem?_eq_getElem hlt];rfl
        rw[e1]
        simpa using hinv
      clear hinv
      rw[List.drop_eq_getElem_cons hlt,wtSs,wtS_eq]at hq
      rw[sP_eq]at hEn
      have hszd:szS l[k]≤szSs l:=szSs_mem (List.getElem_mem hlt)
      rw[szS_eq]at hszd
      generalize hend:(if hz:0<k then endsS (l[k-1]'(by omega))else false)=ey at hE
      generalize hxx:l[k]=x at*
      have hlen:(pl++[(k:Int)]).length=pl.length+1:=by simp
      generalize hpl':pl++[(k:Int)]=pl' at*
      have c31:=call31r hp 32
      have c105:=(walk105 ⟨r,pl',x⟩ (by show pl'.length≤_;omega)).call trivial
      have cN:=CallOK.datA (hp:=[(32,.row 1 1 (pl'.map (.int .i64)))]) (vs:=[.agg [.d (.int .i64 r),.ms 32 1,.d (.str x.name),.d (.int .i64 x.kind),.d (.int .i64 x.number),.d (.int .i64 x.time),.d (.int .i64 x.limit),.d (.str x.text),.d (.str x.schema),.d (.list 5 (x.exprs.map encE)),.d (.list 6 (x.rules.map encR)),.d (.list 2 (x.calls.map encCl)),.d (.list 2 (x.branches.map encB))]]) (f:=105) (v:=.d (.str (nameK ⟨r,pl',x⟩))) rfl (by simp) (by simpa[encWk]using c105)
      clear c105
      unfold ownP at hEn
      simp only at hEn
      generalize hnm:nameK ⟨r,pl',x⟩=nm at*
      have d1:=addP_len (!(x.name==[])&& !cnS x.name) ⟨1,ro,pl',x.name⟩ q
      have a1:=CallOK.seeFrz (j:=1) (k:=32) (ver:=1) (sz:=1) (xs:=pl'.map (.int .i64)) (cs:=[.d (.str ro),.ms 32 1,.ms 1001 q.length]) (call37 1000 1001 (by decide) ro (p43 pl') q (!(x.name==[])&& !cnS x.name) 1 x.name (by omega)) (by simp) rfl rfl
      generalize addP (!(x.name==[])&& !cnS x.name) ⟨1,ro,pl',x.name⟩ q=o1 at*
      have d2:=addP_len (ns.contains nm) ⟨2,ro,pl',nm⟩ o1
      have a2:=call37 1000 1001 (by decide) ro (p43 pl') o1 (ns.contains nm) 2 nm (by omega)
      generalize addP (ns.contains nm) ⟨2,ro,pl',nm⟩ o1=o2 at*
      have d3:=addP_len (prevE l k) ⟨7,ro,pl',[]⟩ o2
      have a3:=call37 1000 1001 (by decide) ro (p43 pl') o2 (prevE l k) 7 [] (by omega)
      generalize addP (prevE l k) ⟨7,ro,pl',[]⟩ o2=o3 at*
      have d4:=stepP_len ro pl' p x o3
      have a4:=call107 ro (p43 pl') p x o3 (by omega)
      have d5:=addP_len true ⟨5,ro,pl',[]⟩ o3
      have a5:=call37 1000 1001 (by decide) ro (p43 pl') o3 true 5 [] (by omega)
      have c38:=(walk38 x.name).call trivial
      have c106:=(walk106 x).call trivial
      simp only[encPg]at a4
      rw[encSt_eq]at c106 a4
      simp only[LM,LT,go_sem,hn,hdk,Int.toNat_natCast,List.length_map,Nat.reduceAdd,Nat.reduceEqDiff,Nat.reduceBEq,Nat.reduceLeDiff,reduceCtorEq,↓reduceIte]
      have hm:pl.map (.int .i64)++[Dat.int .i64 (k:Int)]=pl'.map (.int .i64):=by rw[←hpl',List.map_append];rfl
      refine⟨⟨by omega,by omega⟩,wps_call rfl c31 ⟨rfl,trivial⟩ ?_⟩
      simp only[go_sem,hm,Nat.reduceAdd,Nat.reduceEqDiff,Nat.reduceBEq,Nat.reduceLeDiff,reduceCtorEq,↓reduceIte]
      refine⟨by simp,by simp;omega,wps_call rfl cN ⟨rfl,trivial⟩ ?_⟩
      simp only[go_sem,Nat.reduceAdd,Nat.reduceEqDiff,Nat.reduceBEq,Nat.reduceLeDiff,reduceCtorEq,↓reduceIte]
      refine⟨!cnS x.name,_,[([],[]),([14],[]),([],[]),([],[])],rfl,fun _=>wpsL_call rfl c38 trivial ?_,fun _=>rfl,?_⟩
      · simp only[go_sem,Nat.reduceAdd,Nat.reduceEqDiff,Nat.reduceBEq,Nat.reduceLeDiff,reduceCtorEq,↓reduceIte]
        try exact⟨rfl,rfl,rfl⟩
      simp only[go_sem,Nat.reduceAdd,Nat.reduceEqDiff,Nat.reduceBEq,Nat.reduceLeDiff,reduceCtorEq,↓reduceIte]
      refine wpsL_call rfl a1 ⟨rfl,rfl,rfl,trivial⟩ ?_
      simp only[go_sem,findM_mpS,putM_mpS,getD_mp,Nat.reduceAdd,Nat.reduceEqDiff,Nat.reduceBEq,Nat.reduceLeDiff,reduceCtorEq,↓reduceIte]
      refine⟨rfl,wps_call rfl a2 ⟨rfl,rfl,trivial⟩ ?_⟩
      simp only[go_sem,findM_mpS,putM_mpS,getD_mp,Nat.reduceAdd,Nat.reduceEqDiff,Nat.reduceBEq,Nat.reduceLeDiff,reduceCtorEq,↓reduceIte]
      refine scQ_pure ey (fun hz=>?_) ?_
      · have hz':0<k:=by have:=of_decide_eq_true hz;omega
        have hlk:k-1<l.length:=by omega
        have hw:IntKind.i64.wrap ((k:Int)-1)=((k-1:Nat):Int):=nat_cast_sub k hz' (by omega)
        have hn2:=nth_encSt hlk
        have c104:=(p104 l[k-1]).call trivial
        rw[encSt_eq]at c104
        rw[dif_pos hz']at hend
        rw[hend]at c104
        simp only[go_sem,hw,hn2,Int.toNat_natCast,List.length_map,Nat.reduceAdd,Nat.reduceEqDiff,Nat.reduceBEq,Nat.reduceLeDiff,reduceCtorEq,↓reduceIte]
        refine⟨⟨by omega,by omega⟩,wps_call rfl c104 trivial ?_⟩
        simp only[go_sem,Nat.reduceAdd,Nat.reduceEqDiff,Nat.reduceBEq,Nat.reduceLeDiff,reduceCtorEq,↓reduceIte]
      simp only[go_sem,hE,Nat.reduceAdd,Nat.reduceEqDiff,Nat.reduceBEq,Nat.reduceLeDiff,reduceCtorEq,↓reduceIte]
      refine wps_call rfl a3 ⟨rfl,rfl,trivial⟩ ?_
      simp only[go_sem,Nat.reduceAdd,Nat.reduceEqDiff,Nat.reduceBEq,Nat.reduceLeDiff,reduceCtorEq,↓reduceIte]
      refine wps_call rfl c106 trivial ?_
      simp only[go_sem,Nat.reduceAdd,Nat.reduceEqDiff,Nat.reduceBEq,Nat.reduceLeDiff,reduceCtorEq,↓reduceIte]
      obtain⟨o4,ho4,hb4⟩:∃o4,(if formS x=true then stepP ro pl' p x o3 else addP true ⟨5,ro,pl',[]⟩ o3)=o4∧o4.length≤o3.length+3+2*x.calls.length:=⟨_,rfl,by split<;>omega⟩
      rw[ho4]at hEn
      clear a1 a2 a3 c38 c106 cN c31 hn hdk hE hend d4 d5
      generalize hRB:bsP ro r p x.branches 0 pl' (insS ns nm,o4)=RB at*
      generalize hbs:x.branches=bs at*
      generalize formS x=F at*
      cases F
      all_goals simp only[go_sem,encPg,Nat.reduceAdd,Nat.reduceEqDiff,Nat.reduceBEq,Nat.reduceLeDiff,reduceCtorEq,↓reduceIte]
      all_goals first
        |(rw[if_pos rfl]at ho4;rw[ho4]at a4;refine wps_call rfl a4 ⟨rfl,rfl,trivial⟩ ?_)
        |(rw[if_neg (by decide)]at ho4;rw[ho4]at a5;refine wps_call rfl a5 ⟨rfl,rfl,trivial⟩ ?_)
      all_goals
        simp only[LT,go_sem,List.length_map,Nat.reduceAdd,Nat.reduceEqDiff,Nat.reduceBEq,Nat.reduceLeDiff,reduceCtorEq,↓reduceIte]
        clear a4 a5 ho4
        refine wpc_loop (fun n st=>∃(b:Nat) (T:NP) (z:Dat),b≤bs.length∧n=bs.length-b∧bsP ro r p (bs.drop b) b pl' T=RB∧T.2.length+wtBs (bs.drop b)+wtSs (l.drop (k+1))≤10000000000∧
          st=⟨[(0,.ref 1000 0),(2,.d (.int .i64 r)),(3,.d (.list 11 (l.map encSt))),(4,.mp 1002),(5,.d (.map rulesM)),(7,.ref 7 0),(12,.d pd),(23,.d (.list 11 (l.map encSt))),(24,.d (.int .i64 l.length)),(25,.d (.int .i64 k)),(16,.d (.list 1 (pl'.map (.int .i64)))),(93,.d (.list 2 (bs.map encB))),(94,.d (.int .i64 bs.length)),(95,.d (.int .i64 b))],LM ro z T.2 T.1++[(7,.box [.d (.int .i64 p.version),.d (.list 9 (p.schemas.map encC)),.d (.list 7 (p.endpoints.map encEp)),.d (.list 4 (p.services.map encX)),.d (.list 3 (p.routes.map encO))])]⟩) ?_ ?_
        · refine⟨_,_,Wk.less ?_,0,(insS ns nm,o4),.list 1 (pl'.map (.int .i64)),Nat.zero_le _,rfl,hRB,by simp only[List.drop_zero];omega,rfl⟩
          simp[go_sem,LM,LT]
        · rintro n st ⟨b,⟨ms,q5⟩,z2,hbk,rfl,hinv2,hq2,rfl⟩
          simp only at hq2
          by_cases hbl:b<bs.length
          · have hbn:=nth_encB hbl
            have hdb:decide ((b:Int)<(bs.length:Int))=true:=by simp;omega
            have hVb:=hV _ (List.getElem_mem hbl)
            have hszb:szB bs[b]≤szBs bs:=szBs_mem (List.getElem_mem hbl)
            rw[List.drop_eq_getElem_cons hbl,wtBs,wtB_eq]at hq2
            rw[List.drop_eq_getElem_cons hbl,bsP,bP_eq]at hinv2
            rw[szB_eq]at hszb
            generalize bs[b]=br at*
            have hlen2:(pl'++[(b:Int)]).length=pl'.length+1:=by simp
            have hmb:pl'.map (.int .i64)++[Dat.int .i64 (b:Int)]=(pl'++[(b:Int)]).map (.int .i64):=by rw[List.map_append];rfl
            generalize pl'++[(b:Int)]=pb at*
            have c31b:=call31r (p43 pl') 102
            have dU:=ssP_len ro r p br.steps false 0 pb (ms,q5)
            have c43:=CallOK.frzBox (i:=1000) (j:=1) (k:=102) (ver:=1) (sz:=1) (xs:=pb.map (.int .i64)) (cs:=[.d (.str ro),.ms 102 1,.ms 1001 q5.length]) (call43 hVb ro r (.list 1 (pb.map (.int .i64))) pb q5 ms (p43 pb) (by omega) (by omega)) (by simp) (by decide) rfl rfl
            generalize ssP ro r p br.steps false 0 pb (ms,q5)=U at*
            simp only[encPg]at c43
            simp only[LM,LT,go_sem,hbn,hdb,Int.toNat_natCast,List.length_map,Nat.reduceAdd,Nat.reduceEqDiff,Nat.reduceBEq,Nat.reduceLeDiff,reduceCtorEq,↓reduceIte]
            refine⟨⟨by omega,by omega⟩,wps_call rfl c31b ⟨rfl,trivial⟩ ?_⟩
            simp only[go_sem,hmb,Nat.reduceAdd,Nat.reduceEqDiff,Nat.reduceBEq,Nat.reduceLeDiff,reduceCtorEq,↓reduceIte]
            refine⟨by simp,by simp;omega,wps_call rfl c43 ⟨rfl,rfl,rfl,rfl,trivial⟩ ?_⟩
            simp only[go_sem,LM,LT,Nat.reduceAdd,Nat.reduceEqDiff,Nat.reduceBEq,Nat.reduceLeDiff,reduceCtorEq,↓reduceIte]
            refine⟨bs.length-(b+1),_,by omega,Wk.less ?_,b+1,U,.list 1 (pb.map (.int .i64)),by omega,rfl,by simpa using hinv2,by simp only at dU;omega,rfl⟩
            simp only[go_sem,LM,LT,wrap64s b (by omega),Nat.reduceAdd,Nat.reduceEqDiff,Nat.reduceBEq,Nat.reduceLeDiff,reduceCtorEq,↓reduceIte]
          · have hdb:decide ((b:Int)<(bs.length:Int))=false:=by simp;omega
            obtain rfl:b=bs.length:=by omega
            rw[List.drop_length,bsP]at hinv2
            subst hinv2
            rw[List.drop_length,wtBs]at hq2
            simp only[LM,LT,go_sem,hdb,Nat.reduceAdd,Nat.reduceEqDiff,Nat.reduceBEq,Nat.reduceLeDiff,reduceCtorEq,↓reduceIte]
            refine⟨l.length-(k+1),_,by omega,Wk.less ?_,k+1,(ms,q5),z2,by omega,rfl,hEn,by simp only;omega,rfl⟩
            simp only[go_sem,LM,LT,wrap64s k (by omega),Nat.reduceAdd,Nat.reduceEqDiff,Nat.reduceBEq,Nat.reduceLeDiff,reduceCtorEq,↓reduceIte]
    · have hdk:decide ((k:Int)<(l.length:Int))=false:=by simp;omega
      obtain rfl:k=l.length:=by omega
      rw[List.drop_length,ssP]at hinv
      subst hinv
      rcases hp with rfl|⟨rfl,rfl⟩
      all_goals simp only[LM,LT,go_sem,hdk,Nat.reduceAdd,Nat.reduceEqDiff,Nat.reduceBEq,Nat.reduceLeDiff,reduceCtorEq,↓reduceIte]
mutual
theorem v87s(p:Prg):∀(l:List Ste),∀x∈l,∀b∈x.branches,V87 p b.steps
 |[],x,h,_,_=>by cases h
 |v::q,x,h,b,hb=>by
  by_cases e:x=v
  ·rw[e]at hb;exact v87S p v b hb
  ·exact v87s p q x ((List.mem_cons.1 h).resolve_left e) b hb
theorem v87S(p:Prg):∀(x:Ste),∀b∈x.branches,V87 p b.steps
 |.mk n k u t l x c e ru a bs=>v87bs p bs
theorem v87bs(p:Prg):∀(l:List Brn),∀b∈l,V87 p b.steps
 |[],b,h=>by cases h
 |v::q,b,h=>by
  by_cases e:b=v
  ·rw[e];exact v87B p v
  ·exact v87bs p q b ((List.mem_cons.1 h).resolve_left e)
theorem v87B(p:Prg):∀(b:Brn),V87 p b.steps
 |.mk w s=>step43 p s (v87s p s)
end
theorem w87(p:Prg)(l:List Ste):V87 p l:=step43 p l (v87s p l)
def rouP(p:Prg)(i:Nat)(x:Rou)(s:NP):NP:=
 ssP x.name i p x.steps false 0 [] (s.1,addP (!finSs x.steps) ⟨6,x.name,[],[]⟩ (addP ((p.routes.take i).any fun y=>y.src==x.src) ⟨2,x.name,[],x.src⟩ (addP (hasE p x.src&&(epKind p x.src==2)) ⟨4,x.name,[],x.src⟩ (addP (!hasE p x.src) ⟨3,x.name,[],x.src⟩ (addP ((p.routes.take i).any fun y=>y.name==x.name) ⟨2,x.name,[],x.name⟩ (addP (!cnS x.name) ⟨1,x.name,[],x.name⟩ (s.2)))))))
def rousP(p:Prg):Nat→List Rou→NP→NP
 |_,[],s=>s
 |i,x::r,s=>rousP p (i+1) r (rouP p i x s)
def wtRs:List Rou→Nat
 |[]=>0
 |x::r=>6+wtSs x.steps+wtRs r
def limS(p:Prg):List Prb:=limP [] [] p (wkN p.routes p.routes.length) []
def allS(p:Prg):List Prb:=(rousP p 0 p.routes (thP [] [] p [] (limS p))).2
def prbS(p:Prg):List Prb:=if 0<(limS p).length then limS p else(allS p).take 200
theorem call34(p:Prg)(hsz:szRs p.routes≤1000000000):
  CT (.fn 34) [.ref 11 0,.d (encPg p)] [(11,some (.box [.d (.str []),.d (.nil 1),.d (.nil 4)])),(12,none)] (.tup []) [(11,.box [.d (.str []),.d (.nil 1),.ms 12 (limS p).length]),(12,.row (limS p).length 4 ((limS p).map encQ))]:=by
 have hc:=con34 [] (pd:=.nil 1) (l:=[]) (.inr ⟨rfl,rfl⟩) p [] sP hsz;change Con _ _ _ _ _ (LT [] (.nil 1) (limS p))at hc;generalize limS p=o' at*;have h:=hc.call (fun j=>if j=1000 then 11 else if j=1001 then 12 else j) (fun j hj=>LT_big hj) (fun a b ha hb h=>by
  rcases LT_dom ha with rfl|rfl<;>rcases LT_dom hb with rfl|rfl<;>first|rfl|(revert h;decide)) (by simp[idsIn,Av.get]) (closedLT1 _ _ _) [] (by simp[Av.get]) (closedLT _ _ _ _ _ _) trivial
 simp only[LT,List.map_cons,List.map_nil,List.length_nil,Obj.ren,Av.ren,renL,rn_dat,List.append_nil,Nat.reduceEqDiff,↓reduceIte]at h;exact CallOK.nilBox (j:=2) (CallOK.subT h sP) sP dC rfl dC rfl rfl
abbrev ren9(j:Nat):Nat:=if j=1000 then 11 else if j=1001 then 12 else if j=1002 then 25 else j
theorem ren9_inj{i j:Nat}(hi:i=1000∨i=1001∨i=1002)(hj:j=1000∨j=1001∨j=1002)(h:ren9 i=ren9 j):i=j:=by
 rcases hi with rfl|rfl|rfl<;>rcases hj with rfl|rfl|rfl<;>first|rfl|(revert h;decide)
theorem call35(ro:Str){pd:Dat}{l:List Int}(hp:PD pd l)(p:Prg)(ns:List Str)(o:List Prb)(ho:o.length+1+3*p.schemas.length+4*p.endpoints.length+4*p.services.length≤10000000000):
  CT (.fn 35) [.ref 11 0,.d (encPg p),.mp 25] [(11,some (.box [.d (.str ro),.d pd,.ms 12 o.length])),(12,some (.row o.length 4 (o.map encQ))),(25,some (.mapo (mpS ns)))] (.tup [])
   [(11,.box [.d (.str ro),.d pd,.ms 12 (thP ro l p ns o).2.length]),(12,.row (thP ro l p ns o).2.length 4 ((thP ro l p ns o).2.map encQ)),(25,.mapo (mpS (thP ro l p ns o).1))]:=by
 have hc:=con35 ro hp p ns o ho;generalize thP ro l p ns o=R at*;have h:=hc.call ren9 (fun j hj=>LM_big hj) (fun a b ha hb h=>ren9_inj (LM_dom ha) (LM_dom hb) h) (by simp[idsIn,Av.get]) (closedLM1 _ _ _ _) [] (by simp[Av.get]) (closedLM _ _ _ _ _ _ _ _) trivial;simp only[LM,LT,List.map_cons,List.map_nil,List.cons_append,List.nil_append,Obj.ren,Av.ren,renL,rn_dat,List.append_nil,ren9,Nat.reduceEqDiff,↓reduceIte]at h;exact h
theorem call43a(p:Prg)(st:List Ste)(ro:Str)(r:Int)(pd:Dat)(l:List Int)(o:List Prb)(ns:List Str)(hp:PD pd l)(h1:l.length+2*szSs st≤400000000)(h2:o.length+wtSs st≤10000000000):
  CT (.fn 43) [.ref 11 0,.d (encPg p),.d (.int .i64 r),.d (.list 11 (st.map encSt)),.mp 25,.d (.map rulesM)] [(11,some (.box [.d (.str ro),.d pd,.ms 12 o.length])),(12,some (.row o.length 4 (o.map encQ))),(25,some (.mapo (mpS ns)))] (.tup [])
   [(11,.box [.d (.str ro),.d pd,.ms 12 (ssP ro r p st false 0 l (ns,o)).2.length]),(12,.row (ssP ro r p st false 0 l (ns,o)).2.length 4 ((ssP ro r p st false 0 l (ns,o)).2.map encQ)),(25,.mapo (mpS (ssP ro r p st false 0 l (ns,o)).1))]:=by
 have hc:=w87 p st ro r pd l o ns hp h1 h2;generalize ssP ro r p st false 0 l (ns,o)=R at*;have h:=hc.call ren9 (fun j hj=>LM_big hj) (fun a b ha hb h=>ren9_inj (LM_dom ha) (LM_dom hb) h) (by simp[idsIn,Av.get]) (closedLM1 _ _ _ _) [] (by simp[Av.get]) (closedLM _ _ _ _ _ _ _ _) trivial;simp only[LM,LT,List.map_cons,List.map_nil,List.cons_append,List.nil_append,Obj.ren,Av.ren,renL,rn_dat,List.append_nil,ren9,Nat.reduceEqDiff,↓reduceIte]at h;exact h
set_option maxHeartbeats 4000000 in
theorem walk20(p:Prg)(hsz:szRs p.routes≤100000000)(hwt:wtRs p.routes+3*p.schemas.length+4*p.endpoints.length+4*p.services.length≤8000000000):PT 20 [encPg p] (.d (.list 4 ((prbS p).map encQ))):=by
 refine PCon.of_fits ok20.has fun hfit=>?_
 obtain⟨f1,f2,f3,f4⟩:=fits_Pg (hfit (encPg p) sP);clear hfit;refine ok20.pc ?_;have c34:=call34 p oM;have hl7:(limS p).length≤7:=by
  have h:=limP_len [] [] p (wkN p.routes p.routes.length) [];simpa[limS]using h
 unfold prbS allS;generalize limS p=o0 at*;have c36:=walk36.call trivial;have hT:=thP_len [] [] p [] o0;have c35:=call35 [] (pd:=.nil 1) (l:=[]) (.inr ⟨rfl,rfl⟩) p [] o0 oM;generalize thP [] [] p [] o0=T at*;simp only[encPg]at c34 c35;simp only[go_sem,ir20,encPg,Nat.reduceAdd,Nat.reduceEqDiff,Nat.reduceBEq,Nat.reduceLeDiff,reduceCtorEq,↓reduceIte];refine wn c34 ?_;refine zz4 ?_;by_cases hpos:0<o0.length
 ·rw[if_pos hpos];have hg:decide ((o0.length:Int)>0)=true:=decide_eq_true oM;simp only[go_sem,hg,Nat.reduceAdd,Nat.reduceEqDiff,Nat.reduceBEq,Nat.reduceLeDiff,reduceCtorEq,↓reduceIte]
 ·rw[if_neg hpos];have hg:decide ((o0.length:Int)>0)=false:=decide_eq_false oM;simp only[go_sem,hg,Nat.reduceAdd,Nat.reduceEqDiff,Nat.reduceBEq,Nat.reduceLeDiff,reduceCtorEq,↓reduceIte];have e0:([]:List (Dat×Dat))=mpS []:=rfl;refine wps_call rfl c35 ⟨rfl,rfl,rfl,trivial⟩ ?_;refine zz ?_;refine wn c36 ?_;refine zz4 ?_;generalize hR:rousP p 0 p.routes T=R at*;clear c34 c35 c36 hg hpos;have hb0:T.2.length+wtRs p.routes≤9000000000:=oM;refine wpc_loop (fun n st=>∃(k:Nat) (S:NP) (ro:Str),k≤p.routes.length∧n=p.routes.length-k∧rousP p k (p.routes.drop k) S=R∧S.2.length+wtRs (p.routes.drop k)≤9000000000∧
   st=⟨[(1,.ref 1 0),(3,.ref 11 0),(4,.mp 25),(5,.d (.map rulesM)),(32,.d (.list 3 (p.routes.map encO))),(33,.d (.int .i64 p.routes.length)),(34,.d (.int .i64 k))],
    [(11,.box [.d (.str ro),.d (.nil 1),.ms 12 S.2.length]),(12,.row S.2.length 4 (S.2.map encQ)),(25,.mapo (mpS S.1)),(1,.box [.d (.int .i64 p.version),.d (.list 9 (p.schemas.map encC)),.d (.list 7 (p.endpoints.map encEp)),.d (.list 4 (p.services.map encX)),.d (.list 3 (p.routes.map encO))])]⟩) ?_ ?_
  ·refine⟨_,_,Wk.less ?_,0,T,[],Nat.zero_le _,rfl,hR,hb0,rfl⟩;simp[go_sem]
  ·rintro n st ⟨i,⟨ns,q⟩,ro,hk,rfl,hinv,hq,rfl⟩;simp only at hq;by_cases hlt:i<p.routes.length
   ·have hx:=nth_map encO hlt;have hd:=dT hlt;have hsx:szSs p.routes[i].steps≤szRs p.routes:=szRs_mem (List.getElem_mem hlt);rw[List.drop_eq_getElem_cons hlt,wtRs]at hq;rw[List.drop_eq_getElem_cons hlt,rousP]at hinv;unfold rouP at hinv;generalize p.routes[i]=x at*;simp only at hinv;simp only[encO]at hx;have d0:=addP_len (!cnS x.name) ⟨1,x.name,[],x.name⟩ q;have a0:=call37 11 12 dC x.name (pd:=.nil 1) (l:=[]) (.inr ⟨rfl,rfl⟩) q (!cnS x.name) 1 x.name oM;generalize addP (!cnS x.name) ⟨1,x.name,[],x.name⟩ q=q0 at*;have d1:=addP_len ((p.routes.take i).any fun y=>y.name==x.name) ⟨2,x.name,[],x.name⟩ q0;have a1:=call37 11 12 dC x.name (pd:=.nil 1) (l:=[]) (.inr ⟨rfl,rfl⟩) q0 ((p.routes.take i).any fun y=>y.name==x.name) 2 x.name oM;generalize addP ((p.routes.take i).any fun y=>y.name==x.name) ⟨2,x.name,[],x.name⟩ q0=q1 at*;have d2:=addP_len (!hasE p x.src) ⟨3,x.name,[],x.src⟩ q1;have a2:=call37 11 12 dC x.name (pd:=.nil 1) (l:=[]) (.inr ⟨rfl,rfl⟩) q1 (!hasE p x.src) 3 x.src oM;generalize addP (!hasE p x.src) ⟨3,x.name,[],x.src⟩ q1=q2 at*;have d3:=addP_len (hasE p x.src&&(epKind p x.src==2)) ⟨4,x.name,[],x.src⟩ q2;have a3:=call37 11 12 dC x.name (pd:=.nil 1) (l:=[]) (.inr ⟨rfl,rfl⟩) q2 (hasE p x.src&&(epKind p x.src==2)) 4 x.src oM;generalize addP (hasE p x.src&&(epKind p x.src==2)) ⟨4,x.name,[],x.src⟩ q2=q3 at*;have d4:=addP_len ((p.routes.take i).any fun y=>y.src==x.src) ⟨2,x.name,[],x.src⟩ q3;have a4:=call37 11 12 dC x.name (pd:=.nil 1) (l:=[]) (.inr ⟨rfl,rfl⟩) q3 ((p.routes.take i).any fun y=>y.src==x.src) 2 x.src oM;generalize addP ((p.routes.take i).any fun y=>y.src==x.src) ⟨2,x.name,[],x.src⟩ q3=q4 at*;have d5:=addP_len (!finSs x.steps) ⟨6,x.name,[],[]⟩ q4;have a5:=call37 11 12 dC x.name (pd:=.nil 1) (l:=[]) (.inr ⟨rfl,rfl⟩) q4 (!finSs x.steps) 6 [] oM;generalize addP (!finSs x.steps) ⟨6,x.name,[],[]⟩ q4=q5 at*;have dU:=ssP_len x.name i p x.steps false 0 [] (ns,q5);have c43:=call43a p x.steps x.name i (.nil 1) [] q5 ns (.inr ⟨rfl,rfl⟩) sO oM;generalize ssP x.name i p x.steps false 0 [] (ns,q5)=U at*;have h58:=(p24 p x.src).call (by simp[pureR]);have h82:=(walk38 x.name).call trivial;have h86:=(p42 x.steps).call trivial;have hti:(p.routes.take i).length≤68719476736:=sO;have h84:=CallOK.clo (P:=Tryz.prog) (ds:=[.list 3 ((p.routes.take i).map encO)]) (g:=40) (cs:=[.str x.name,.str x.src,.list 11 (x.steps.map encSt)]) (walk39 (cs:=[.ptr [.str x.name,.str x.src,.list 11 (x.steps.map encSt)]]) (p.routes.take i) (fun y _=>walk40 y _ x.name) hti) rfl 7;have h85:=CallOK.clo (P:=Tryz.prog) (ds:=[.list 3 ((p.routes.take i).map encO)]) (g:=41) (cs:=[.str x.name,.str x.src,.list 11 (x.steps.map encSt)]) (walk39 (cs:=[.ptr [.str x.name,.str x.src,.list 11 (x.steps.map encSt)]]) (p.routes.take i) (fun y _=>walk41 y _ _ x.src) hti) rfl 7;simp only[encPg]at c43 h58;change CallOK _ _ _ _ (.tup [.d (.int .i64 (epF p x.src)),.d (.bool (hasE p x.src))]) _ at h58;refine zz6 ?_;have hsl:min i p.routes.length=i:=oM;have hst:((i:Int)-0).toNat=i:=oM;have hs0:Int.toNat 0=0:=rfl;refine⟨⟨oM,oM⟩,wn h58 ?_⟩;refine zz ?_;refine wpsL_call rfl h82 trivial ?_;refine zz ?_;refine wpsL_call rfl a0 ⟨rfl,rfl,trivial⟩ ?_;refine zz4 ?_;refine⟨rfl,?_⟩;simp only[go_sem,hst,hs0,List.drop_zero,←List.map_take,List.length_map,Nat.reduceAdd,Nat.reduceEqDiff,Nat.reduceBEq,Nat.reduceLeDiff,reduceCtorEq,↓reduceIte];refine⟨⟨oM,oM,oM⟩,wpsL_call rfl h84 ⟨rfl,trivial⟩ ?_⟩;refine zz ?_;refine wpsL_call rfl a1 ⟨rfl,rfl,trivial⟩ ?_;refine zz4 ?_;refine⟨rfl,?_⟩;refine wn a2 ?_;refine zz4 ?_;refine scQ_pure (epKind p x.src==2) (fun hh=>?_) ?_
    ·have hlt2:=epF_lt hh;have hn:=nth_map encEp hlt2;have e:epKind p x.src=p.endpoints[epF p x.src].kind:=by unfold epKind;rw[List.getElem?_eq_getElem hlt2];rfl
     simp only[encEp]at hn;simp only[go_sem,hn,e,Int.toNat_natCast,List.length_map,Nat.reduceAdd,Nat.reduceEqDiff,Nat.reduceBEq,Nat.reduceLeDiff,reduceCtorEq,↓reduceIte];exact⟨⟨oM,oM⟩,dC⟩
    refine zz ?_;refine wn a3 ?_;refine zz4 ?_;simp only[go_sem,hst,hs0,List.drop_zero,←List.map_take,List.length_map,Nat.reduceAdd,Nat.reduceEqDiff,Nat.reduceBEq,Nat.reduceLeDiff,reduceCtorEq,↓reduceIte];refine⟨⟨oM,oM,oM⟩,wpsL_call rfl h85 ⟨rfl,trivial⟩ ?_⟩;refine zz ?_;refine wpsL_call rfl a4 ⟨rfl,rfl,trivial⟩ ?_;refine zz4 ?_;refine⟨rfl,?_⟩;refine wc h86 ?_;refine wn a5 ?_;refine zz4 ?_;refine wps_call rfl c43 ⟨rfl,rfl,rfl,trivial⟩ ?_;refine zz ?_;refine⟨p.routes.length-(i+1),_,oM,Wk.less ?_,i+1,U,x.name,oM,rfl,hinv,by simp only at dU;omega,rfl⟩;simp only[go_sem,wrap64s i oM,Nat.reduceAdd,Nat.reduceEqDiff,Nat.reduceBEq,Nat.reduceLeDiff,reduceCtorEq,↓reduceIte]
   ·have hd:=dF hlt;obtain rfl:i=p.routes.length:=oM;rw[List.drop_length,rousP]at hinv;subst hinv;refine zz22 ?_;have hs0:Int.toNat 0=0:=rfl;refine⟨⟨oM,by split<;>omega,by split<;>omega⟩,?_⟩;rw[hs0,List.drop_zero,←List.map_take,canonL_prbs];by_cases hh:200<q.length
    ·rw[if_pos oM];rfl
    ·rw[if_neg oM,List.take_of_length_le oM,List.take_of_length_le oM]
end Go.Proofs
