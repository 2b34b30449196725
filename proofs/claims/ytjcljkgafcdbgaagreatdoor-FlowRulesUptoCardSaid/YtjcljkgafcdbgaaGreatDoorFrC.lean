/- Part C of a proof. -/
import Derived.Test.YtjcljkgafcdbgaaGreatDoorFrB
import Derived.RangeFuncRecord
import Derived.Test.YtjcljkgafcdbgaaGreatDoorFrA
import Derived.Test.YtjcljkgafcdbgaaGreatDoorProg
import Derived.Lib.DecodeN
import Derived.ChangeArms
import Derived.DataReads
import Derived.Test.YtjcljkgafcdbgaaGreatDoorRows
import Derived.LaidByTextLater
import Derived.SevenTiedAt
set_option linter.unusedVariables false
set_option linter.unusedSimpArgs false
set_option linter.unusedSectionVars false
set_option linter.constructorNameAsVariable false
set_option linter.unnecessarySimpa false
set_option maxRecDepth 10000
namespace Av
open Go
variable [Glb][Rls]
variable {c:Code}{H H':Heap}{w':World}{β':JM}{A':Nat→Prop}{Q:Exit→St→Prop}{i lid l0:Nat}{l:Lp}{r:Loop}
section
variable {P:Program}{N:Nat}{β:JM}{A:Nat→Prop}{w:World}{a:Act}{ro:Option Nat}{n:Nat}{st:St}{E:Ent}
theorem Sat.b(h:Sat E N st a w β A):SatB N st a w β A:=⟨h.core,h.tmps,h.size⟩
theorem least{p:Nat→Prop}(h:∃n,p n):∃n,p n∧∀m,p m→n≤m:=by
 obtain⟨n,hn⟩:=h
 induction n using Nat.strongRecOn with
 |_ n ih=>
  by_cases hm:∃m,m<n∧p m
  ·obtain⟨m,h1,h2⟩:=hm;exact ih m h1 h2
  ·exact⟨n,hn,fun m h=>Nat.le_of_not_lt fun hlt=>hm ⟨m,hlt,h⟩⟩
theorem JHt{F:Fence}{Q:Exit→Act→World→Prop}(I:Nat→Act→World→Prop)(h0:∃n,I n a w)
  (round:∀k a w,I k a w→c.wpIn F n P (Exit.then (fun a' w'=>∃m,m<k∧I m a' w') Q) a w):(Code.loop c).wpIn F n P Q a w:=by
 refine wpIn_loop (fun a w=>∃k,I k a w) (fun a w=>Classical.epsilon fun k=>I k a w∧∀m,I m a w→k≤m) h0 ?_;intro a w hI;obtain⟨k,hk,hmin⟩:=least hI;refine wpIn_mono (round k a w hk) ?_;intro e a' w' hq;cases e with
 |normal=>
  obtain⟨m,hlt,hm⟩:=hq;refine⟨⟨m,hm⟩,?_⟩;have e1:=Classical.epsilon_spec (least (p:=fun k=>I k a' w') ⟨m,hm⟩);have e2:=Classical.epsilon_spec (least (p:=fun k=>I k a w) ⟨k,hk⟩);have:=e1.2 m hm;have:=hmin _ e2.1;omega
 |_=>exact hq
theorem Marks.step{a':Act}(hst:Stp β A w H β' A' w' H')(hd:a'.defers=a.defers)(h:Marks E a w β A H):Marks E a' w' β' A' H':=by
 obtain⟨ms,h0,h1,h2⟩:=h;refine⟨ms,h0,hd.trans h1,?_⟩;intro r hr;obtain⟨g1,g2,g3,g4⟩:=h2 r hr;have hlt:r<w.heap.size:=(Array.getElem?_eq_some_iff.1 g2).1;refine⟨g1,by rw[hst.same r hlt g4];exact g2,?_,?_⟩
 ·intro hA;rcases hst.data r hA with h|h|⟨i,o,q1,q2,q3⟩
  ·exact g3 h
  ·omega
  ·exact g4 i o q1 q2 q3
 ·intro i o q1 q2 q3;rcases hst.mine i o r q1 q2 q3 with h|⟨i',o',p1,p2,p3⟩
  ·omega
  ·exact g4 i' o' p1 p2 p3
theorem Sat.wk{st':St}(h:Sat E N st a w β A)(hw:Wk E.D st st'):∃β' A',Sat E N st' a w β' A':=by
 obtain⟨β',A',h1,h2,h3,h5,h4⟩:=hw β A w a h.core h.tmps;refine⟨β',A',h1,h2,h.size,⟨h.since.os,h.since.tape,h.since.output,h.since.size,h.since.same,h.since.loops,?_,?_,fun c u hb hv=>h4 c u hb (h.since.vals c u hb hv)⟩,?_,h.round⟩
 ·intro b hb;rcases h5 b hb with h0|⟨i,o,g1,g2,g3⟩
  ·exact h.since.data b h0
  ·exact .inr (h.since.mine i o b g1 g2 g3)
 ·intro i o b hi ho hb;obtain⟨i',o',g1,g2,g3⟩:=h3 i o b hi ho hb;exact h.since.mine i' o' b g1 g2 g3
 ·obtain⟨ms,q0,q1,q2⟩:=h.marks;refine⟨ms,q0,q1,fun r hr=>?_⟩;obtain⟨p1,p2,p3,p4⟩:=q2 r hr;refine⟨p1,p2,fun hA=>?_,fun i o hi ho hb=>?_⟩
  ·rcases h5 r hA with h0|⟨i,o,g1,g2,g3⟩
   ·exact p3 h0
   ·exact p4 i o g1 g2 g3
  ·obtain⟨i',o',g1,g2,g3⟩:=h3 i o r hi ho hb;exact p4 i' o' g1 g2 g3
theorem Sat.kill{ts:List Nat}(h:Sat E N st a w β A):Sat E N ⟨Un st.tm ts,st.hp⟩ a w β A:=by
 refine⟨h.core,?_,h.size,h.since,h.marks,h.round⟩;intro t v ht;simp only[JCX]at ht;split at ht
 ·cases ht
 ·exact h.tmps t v ht
theorem Sat.step{st':St}{a':Act}(h:Sat E N st a w β A)(hst:Stp β A w (get st.hp) β' A' w' (get st'.hp))(hs:SatB N st' a' w' β' A')(hd:a'.defers=a.defers):Sat E N st' a' w' β' A':=
 ⟨hs.core,hs.tmps,hs.size,h.since.trans hst,h.marks.step hst hd,fun l hl=>by obtain⟨r,hr⟩:=h.round l hl;exact hst.loops l r hr⟩
def At(E:Ent)(N:Nat)(Q:Exit→St→Prop)(e:Exit)(a:Act)(w:World):Prop:=∃st β A,Q e st∧Sat E N st a w β A
theorem At.mono{Q':Exit→St→Prop}{e e':Exit}{a:Act}{w:World}(h:At E N Q e a w)(hq:∀st,Q e st→Q' e' st):At E N Q' e' a w:=by
 obtain⟨st,β,A,h1,h2⟩:=h;exact⟨st,β,A,hq st h1,h2⟩
theorem Js{code:Code}{ic:Ic}(h:Jj P N code=some ic):match ic with
  |.skip=>code=.skip
  |.reg s=>∃id ops draw,code=.region id ops draw∧YU P N ops (2*ops.size+2) none [] (List.range ops.size)=some (s,[])∧
    (draw=true→P.follows .mixedOrders=true∧JAf ops.toList=true∧JFm (closure ops.toList []) (fl [] s) []=true)
  |.regd un s=>∃id ops,code=.region id ops true∧YU P N ops (2*ops.size+2) none [] (List.range ops.size)=some (s,[])∧
    P.follows .mixedOrders=true∧JAf ops.toList=true∧JFm (closure ops.toList []) (fl [] s) un=true
  |.seq a b=>∃x y,code=.seq x y∧Jj P N x=some a∧Jj P N y=some b
  |.ite c a b=>∃c' x y,code=.cond c' x y∧opd P 0 c'=some c∧Jj P N x=some a∧Jj P N y=some b
  |.block id b=>∃x,code=.block id x∧Jj P N x=some b
  |.loop b=>∃x,code=.loop x∧Jj P N x=some b
  |.exit id=>code=.exit id
  |.ret=>code=.ret
  |.bad=>True
  |.scp b=>∃x,code=.scope x∧Jj P N x=some b
  |.lab=>∃l,code=.label l
  |.rng f N' lid ps c1 c2 a b=>N'=N∧∃g,code=.rangeFunc g ps c1 c2∧opd P 0 g=some f∧Jj P N c1=some a∧Jj P N c2=some b∧∀t∈ps,t<N
  |_=>False:=by
 cases code with
 |skip=>simp only[Jj,Vd]at h;subst h;rfl
 |region id ops draw=>
  cases draw with
  |false=>
   simp only[Jj]at h;split at h
   ·rename_i s hs;cases h;exact⟨id,ops,false,rfl,hs,by intro h;cases h⟩
   ·cases h;trivial
  |true=>
   simp only[Jj]at h;split at h
   ·rename_i s hs;split at h
    ·rename_i hc;simp only[Vi]at hc;obtain⟨c1,c2,c3⟩:=hc;split at h
     ·rename_i hun;cases h;exact⟨id,ops,true,rfl,hs,fun _=>⟨c1,c2,by rw[←hun];exact c3⟩⟩
     ·rename_i hun;cases h;exact⟨id,ops,rfl,hs,c1,c2,c3⟩
    ·cases h;trivial
   ·cases h;trivial
 |seq x y=>
  simp only[Jj]at h;split at h
  ·rename_i a b h1 h2;cases h;exact⟨x,y,rfl,h1,h2⟩
  ·cases h
 |cond c x y=>
  simp only[Jj]at h;split at h
  ·rename_i c' a b h0 h1 h2;cases h;exact⟨c,x,y,rfl,h0,h1,h2⟩
  ·cases h
 |block id x=>obtain⟨b,h1,rfl⟩:=JW (by simpa only[Jj]using h);exact⟨x,rfl,h1⟩
 |loop x=>obtain⟨b,h1,rfl⟩:=JW (by simpa only[Jj]using h);exact⟨x,rfl,h1⟩
 |scope x=>obtain⟨b,h1,rfl⟩:=JW (by simpa only[Jj]using h);exact⟨x,rfl,h1⟩
 |label l=>simp only[Jj,Vd]at h;subst h;exact⟨l,rfl⟩
 |exit id=>simp only[Jj,Vd]at h;subst h;rfl
 |ret=>simp only[Jj,Vd]at h;subst h;rfl
 |rangeFunc g ps x y=>
  simp only[Jj]at h;split at h
  ·rename_i f a b h0 h1 h2;split at h
   ·rename_i hps;cases h;exact⟨rfl,g,rfl,h0,h1,h2,fun t ht=>by
     obtain⟨i,hi,e⟩:=Array.getElem_of_mem ht;have hps':∀(i:Nat) (x:i<ps.size),ps[i]<N:=sX hps;rw[←e];exact hps' i hi⟩
   ·cases h
  ·cases h
 |_=>simp only[Jj,Vd]at h;subst h;trivial
theorem UN{K K':St→Log→Prop}(hK:∀st lg,K st lg→K' st lg):∀(s:Ss) (st:St) (lg:Log),UZ P s K st lg→UZ P s K' st lg
 |.nil,st,lg,h=>hK _ _ h
 |.op d o r,st,lg,h=>by
  simp only[UZ]at h⊢;split at h
  ·exact⟨h.1,UN hK r _ _ h.2⟩
  ·exact h.elim
 |.call d f args r,st,lg,h=>by
  simp only[UZ]at h⊢;split at h
  ·obtain⟨T,v,ups,hp,h1,h2,h3,h4⟩:=h;exact⟨T,v,ups,hp,h1,h2,h3,UN hK r _ _ h4⟩
  ·exact h.elim
 |.sc c b body y d r,st,lg,h=>by
  simp only[UZ]at h⊢;split at h
  ·obtain⟨yv,hp,l,h1,h2,h3,h4⟩:=h;exact⟨yv,hp,l,h1,h2,h3,UN hK r _ _ h4⟩
  ·exact h.elim
theorem JBz:∀(s:Ss) (K:St→Prop) (st:St),wps P s K st→∃l:Log,l.length=s.len∧∀lg,UZ P s (fun st' l'=>K st'∧l'=lg++l) st lg
 |.nil,K,st,h=>⟨[],rfl,fun lg=>⟨h,sP⟩⟩
 |.op d o r,K,st,h=>by
  simp only[wps]at h;split at h
  ·rename_i x hx;obtain⟨l,h1,h2⟩:=JBz r K _ h.2;refine⟨(rd (get st.tm) (d.getD 0) o,x.ups.map (·.1))::l,by simp[Ss.len,h1],fun lg=>?_⟩;simp only[UZ,hx];refine⟨h.1,UN ?_ r _ _ (h2 _)⟩;rintro st' l' ⟨q1,q2⟩;exact⟨q1,by rw[q2,List.append_assoc];rfl⟩
  ·exact h.elim
 |.call d f args r,K,st,h=>by
  simp only[wps]at h;split at h
  ·rename_i f' vs hx;obtain⟨T,v,ups,hp,g1,g2,g3,g4⟩:=h;obtain⟨l,h1,h2⟩:=JBz r K _ g4;refine⟨(T.map (·.1),ups.map (·.1))::l,by simp[Ss.len,h1],fun lg=>?_⟩;simp only[UZ,hx];refine⟨T,v,ups,hp,g1,g2,g3,UN ?_ r _ _ (h2 _)⟩;rintro st' l' ⟨q1,q2⟩;exact⟨q1,by rw[q2,List.append_assoc];rfl⟩
  ·exact h.elim
 |.sc c b body y d r,K,st,h=>by
  simp only[wps]at h;split at h
  ·rename_i x hx;obtain⟨yv,hp,hbody,hskip,hrest⟩:=h;obtain⟨l,h1,h2⟩:=JBz r K _ hrest;have hb:∃lb:Log,lb.length=body.len∧(x=b→UZ P body (fun st' l'=>val (get st'.tm) y=some (.d (.bool yv))∧st'.hp=hp∧l'=lb) st []):=by
    by_cases e:x=b
    ·obtain⟨lb,q1,q2⟩:=JBz body _ st (hbody e);refine⟨lb,q1,fun _=>UN ?_ body _ _ (q2 [])⟩;rintro st' l' ⟨⟨r1,r2⟩,r3⟩;exact⟨r1,r2,by simpa using r3⟩
    ·exact⟨List.replicate body.len ([],[]),sP,fun h=>absurd h e⟩
   obtain⟨lb,q1,q2⟩:=hb;refine⟨lb++([],[])::l,by simp[Ss.len,h1,q1],fun lg=>?_⟩;simp only[UZ,hx];refine⟨yv,hp,lb,q1,q2,hskip,UN ?_ r _ _ (h2 _)⟩;rintro st' l' ⟨r1,r2⟩;exact⟨r1,by rw[r2];simp⟩
  ·exact h.elim
theorem JHu{ops:Array Oper}{l:List Nat}{fs:List Fo}{lg:Log}{τ τ':UX}{E:List En}(h:Chain P N ops l fs lg τ H E τ' H'):
  E.length=l.length∧fs.length=l.length∧lg.length=l.length∧τ'=YP τ E∧H'=Xj H E∧
   (∀(j:Nat) i o e,l[j]? =some i→ops[i]? =some o→E[j]? =some e→Do P N ops o (YP τ (E.take j)) (Xj H (E.take j)) e)∧∀(j:Nat) f g e,fs[j]? =some f→lg[j]? =some g→E[j]? =some e→Al f g e:=by
 induction h with
 |nil τ H=>exact⟨rfl,rfl,rfl,rfl,rfl,sP,sP⟩
 |cons i o l f fs g lg τ H e E τ' H' ho hd ha hc ih=>
  obtain⟨i1,i2,i3,i4,i5,i6,i7⟩:=ih;refine⟨by simp[i1],by simp[i2],by simp[i3],by rw[i4];rfl,by rw[i5];rfl,?_,?_⟩
  ·intro j i' o' e' h1 h2 h3;cases j with
   |zero=>
    simp only[List.getElem?_cons_zero,Vd]at h1 h3;subst h1 h3;rw[ho]at h2;cases h2;exact hd
   |succ j=>exact i6 j i' o' e' (sX h1) h2 (sX h3)
  ·intro j f' g' e' h1 h2 h3;cases j with
   |zero=>
    simp only[List.getElem?_cons_zero,Vd]at h1 h2 h3;subst h1 h2 h3;exact ha
   |succ j=>exact i7 j f' g' e' (sX h1) (sX h2) (sX h3)
theorem JCZ:∀(E:List En) (k:Nat) (L:Nat→Bool),(∀j,L j=false)→sel L E k=[]
 |[],_,_,_=>rfl
 |e::r,k,L,h=>by simp only[sel,h k];exact JCZ r (k+1) L h
theorem JEG{id:Nat}{ops:Array Oper}{s:Ss}{un:List (Nat×Nat)}(hm:P.follows .mixedOrders=true)(htr:YU P N ops (2*ops.size+2) none [] (List.range ops.size)=some (s,[]))
  (hed:JAf ops.toList=true)(hsep:JFm (closure ops.toList []) (fl [] s) un=true)(hw:UZ P s (fun st lg=>X7 lg un=true∧Q .normal st) st [])(hs:Sat E N st a w β A):
  (Code.region id ops true).wpIn (FW ro) n P (At E N Q) a w:=by
 refine wpIn_region_any hm ?_;obtain⟨pre,Es,lg,τ',st',h1,h2,⟨h3,h4⟩,h5,h6⟩:=JGd _ none [] _ s [] _ st [] (get st.tm) htr sP hw (fun _ _ h=>h);rw[List.append_nil]at h1;subst h1;obtain⟨f1,f2,f3,f4,f5,f6,f7⟩:=JHu h2;rw[List.length_range]at f1 f2 f3;have hdr:Stp β A w (get st.hp) β A {w with drawn:=w.drawn+1} (get st.hp):=Stp.draw hs.core rfl rfl rfl rfl;have hL0:∀j,(Array.replicate ops.size false).getD j false=false:=by
  intro j;simp only[Array.getD_eq_getD_getElem?,Array.getElem?_replicate];split<;>rfl
 refine any_ok (τ:=get st.tm) (H:=get st.hp) f1 f2 f3 (fun i o e ho he=>f6 i i o e (by
   have:i<ops.size:=(Array.getElem?_eq_some_iff.1 ho).1;simp[this]) ho he) f7 hsep hed (sX h3) (β0:=β) (A0:=A) (w0:=w) (ds:=a.defers) ?_ ops.size _ a _ β A sP ?_ ?_ ?_ ?_ rfl
 ·intro a' w' β' A' hs' hst' hd';rw[←f4,←f5]at hs';rw[←f5]at hst';refine⟨st',β',A',h4,?_⟩;exact hs.step hst' ⟨hs'.core,fun t v ht=>hs'.tmps t v (h5 t v ht),hs'.size⟩ hd'
 ·intro i o _ hL;simp only[hL0]at hL;cases hL
 ·exact Nat.le_trans (List.length_filter_le _ _) sP
 ·rw[JCZ _ _ _ hL0];exact⟨hdr.core,fun t v ht=>by obtain⟨u,q1,q2⟩:=hs.tmps t v ht;exact⟨u,q1,hdr.vals _ _ q2⟩,hs.size⟩
 ·rw[JCZ _ _ _ hL0];exact hdr
theorem JL0(hi:H i=none)(c:Av)(u:Value)
  (hcase:(∃off,c=.ref i off)∨(∃ver,c=.ms i ver)∨(∃ver off len,c=.sub i ver off len)∨(∃ver k off,c=.el i ver k off)∨c=.mp i∨(∃h,c=.tr i h))(hvr:VRep β A w H c u):False:=by
 rcases hcase with⟨off,rfl⟩|⟨ver,rfl⟩|⟨ver,off,len,rfl⟩|⟨ver,k,off,rfl⟩|rfl|⟨h,rfl⟩<;>cases hvr<;>simp_all
theorem JNd(hi:H i=none)(c:Av)(u:Value)
  (hcase:(∃off,c=.ref i off)∨(∃ver,c=.ms i ver)∨(∃ver off len,c=.sub i ver off len)∨(∃ver k off,c=.el i ver k off)∨c=.mp i)(hvr:VRep β A w H c u):False:=by
 rcases hcase with⟨off,rfl⟩|⟨ver,rfl⟩|⟨ver,off,len,rfl⟩|⟨ver,k,off,rfl⟩|rfl<;>cases hvr<;>simp_all
theorem JNe(hi:H' i=some .gone)(c:Av)(u:Value)
  (hcase:(∃off,c=.ref i off)∨(∃ver,c=.ms i ver)∨(∃ver off len,c=.sub i ver off len)∨(∃ver k off,c=.el i ver k off)∨c=.mp i)(hvr:VRep β A w H c u):VRep β' A' w' H' c u:=by
 rcases hcase with⟨off,rfl⟩|⟨ver,rfl⟩|⟨ver,off,len,rfl⟩|⟨ver,k,off,rfl⟩|rfl
 ·cases hvr with|ref _ _ b p _ hu h0 h1 h2=>exact .ref _ _ b p _ hu (by rw[hi];rfl) (by rw[hi];intro _ h;cases h) (by rw[hi];intro _ h;cases h)
 ·cases hvr with|ms _ _ _ hu h0 h1 h2=>exact .ms _ _ _ hu (by rw[hi];rfl) (by rw[hi];intro _ _ _ h;cases h) (by rw[hi];intro _ _ h;cases h)
 ·cases hvr with|sub _ _ _ _ _ hu h0 h1 h2=>exact .sub _ _ _ _ _ hu (by rw[hi];rfl) (by rw[hi];intro _ _ _ h;cases h) (by rw[hi];intro _ _ h;cases h)
 ·cases hvr with|el _ _ _ _ b p _ hu h0 h1=>exact .el _ _ _ _ b p _ hu (by rw[hi];rfl) (by rw[hi];intro _ _ _ h;cases h)
 ·cases hvr with|mp _ _ hu h0 h1 h2 h3=>exact .mp _ _ hu (by rw[hi];rfl) (by rw[hi];intro _ h;cases h) (by rw[hi];intro _ h;cases h) (by rw[hi];intro _ _ h;cases h)
theorem Stp.lpNew(hc:Core β A w H)(hlid:H lid=none)(hos:w'.os=w.os)(htape:w'.tape=w.tape)(hout:w'.output=w.output)
  (hl0:w.heap.size≤l0)(hrec:w'.heap[l0]? =some (.loop r))(hsame:∀b,b<w.heap.size→w'.heap[b]? =w.heap[b]?)(hr:r.state=l.s∧r.pending=l.j∧r.params=l.ps∧r.assign=l.asg∧r.body=l.body∧r.tmps.size=l.N)
  (ht:∀t v,get l.tm t=some v→∃u,r.tmps[t]? =some u∧VRep β A w H v u):Stp β A w H (upd β lid (some l0)) A w' (upd H lid (some (.lp l))):=by
 have hlt:l0<w'.heap.size:=(Array.getElem?_eq_some_iff.1 hrec).1;refine Stp.one hc lid (.lp l) (some l0) hos htape hout oM (fun b hb _=>hsame b hb) (fun _ h=>h) (fun _ h=>.inl h) (fun b hb=>by have:=hc.old b hb;omega) ?_
  (fun c u hcase hvr=>(JNd hlid c u hcase hvr).elim) ?_ (by rw[hlid];intro l h;cases h)
 ·intro b hb _;cases hb;exact⟨.inl hl0,fun h=>by have:=hc.old _ h;omega⟩
 ·intro hall;obtain⟨g1,g2,g4,g5,g6,g7⟩:=hr;refine⟨l0,r,JB _ _ _,hrec,g1,g2,g4,g5,g6,g7,fun t v htv=>?_⟩;obtain⟨u,q1,q2⟩:=ht t v htv;exact⟨u,q1,hall _ _ q2⟩
theorem Stp.lpSet(hc:Core β A w H){l':Lp}(hlid:H lid=some (.lp l))(hb:β lid=some l0)(hl0:l0<w.heap.size)
  (hr:r.state=l'.s∧r.pending=l'.j∧r.params=l'.ps∧r.assign=l'.asg∧r.body=l'.body∧r.tmps.size=l'.N)
  (ht:∀t v,get l'.tm t=some v→∃u,r.tmps[t]? =some u∧VRep β A w H v u):Stp β A w H β A (w.putObj l0 (.loop r)) (upd H lid (some (.lp l'))):=by
 have hβ:upd β lid (some l0)=β:=funext fun j=>by unfold upd;split;rename_i e;rw[e,hb];rfl
 have:=Stp.one (w':=w.putObj l0 (.loop r)) (A':=A) hc lid (.lp l') (some l0) rfl rfl rfl sP (fun b _ hn=>World.putObj_heap_other (fun e=>hn _ hlid rfl (by rw[hb,e])))
  (fun _ h=>h) (fun _ h=>.inl h) (fun b hb=>by simpa using hc.old b hb) (fun b e _=>by cases e;exact⟨.inr ⟨_,hlid,rfl,hb⟩,hc.JSF _ _ _ hlid rfl hb⟩)
  (fun c u hcase hvr=>by
   rw[hβ];rcases hcase with⟨off,rfl⟩|⟨ver,rfl⟩|⟨ver,off,len,rfl⟩|⟨ver,k,off,rfl⟩|rfl
   ·cases hvr with|ref _ _ b p _ hu h0 h1 h2=>exact .ref _ _ b p _ hu sU sU sU
   ·cases hvr with|ms _ _ _ hu h0 h1 h2=>exact .ms _ _ _ hu sU sU sU
   ·cases hvr with|sub _ _ _ _ _ hu h0 h1 h2=>exact .sub _ _ _ _ _ hu sU sU sU
   ·cases hvr with|el _ _ _ _ b p _ hu h0 h1=>exact .el _ _ _ _ b p _ hu sU sU
   ·cases hvr with|mp _ _ hu h0 h1 h2 h3=>exact .mp _ _ hu sU sU (fun _ _=>h2 _ hlid) sU)
  (fun hall=>by
   obtain⟨g1,g2,g4,g5,g6,g7⟩:=hr;refine⟨l0,r,JB _ _ _,World.putObj_heap_same hl0,g1,g2,g4,g5,g6,g7,fun t v htv=>?_⟩;obtain⟨u,q1,q2⟩:=ht t v htv;exact⟨u,q1,hall _ _ q2⟩)
  (fun l2 _ b hb2=>by rw[hb]at hb2;cases hb2;exact⟨r,World.putObj_heap_same hl0⟩)
 rwa[hβ]at this
theorem Stp.lpEnd(hc:Core β A w H)(hlid:H lid=some (.lp l))(hb:β lid=some l0)(hl0:l0<w.heap.size):
  Stp β A w H (upd β lid (none:Option Nat)) A (w.putObj l0 (.loop r)) (upd H lid (some .gone)):=
 Stp.one (w':=w.putObj l0 (.loop r)) (A':=A) hc lid .gone none rfl rfl rfl sP (fun b _ hn=>World.putObj_heap_other (fun e=>hn _ hlid rfl (by rw[hb,e])))
  (fun _ h=>h) (fun _ h=>.inl h) (fun b hb=>by simpa using hc.old b hb) (fun b e _=>by cases e)
  (fun c u hcase hvr=>JNe (JB _ _ _) c u hcase hvr) (fun _=>trivial)
  (fun l2 _ b hb2=>by rw[hb]at hb2;cases hb2;exact⟨r,World.putObj_heap_same hl0⟩)
theorem JB0(ups:List (Nat×Obj))(H:Heap)(lid i:Nat)(o:Option Obj)(h:i≠lid):JA (upd H lid o) ups i=JA H ups i:=JAC ups (JN _ _ h)
abbrev JKd(fn:Nat)(tmps:Array Value)(ps:Array Nat)(c1 c2:Code)(d:Nat):Loop:={state:=.ready,pending:=none,fn,tmps,params:=ps,assign:=c1,body:=c2,defers:=d}
theorem JNf{ro:Option Nat}(fn:Nat)(tmps:Array Value)(ps:Array Nat)(c1 c2:Code)(hround:∀l,ro=some l→∃r,w.heap[l]? =some (.loop r)):
  ∃(l0:Nat) (mark:List Deferred) (w1:World) (ms':List Nat),(Instr.enterLoop fn tmps ps c1 c2 ro).run P w=.ok (l0,mark) w1∧w.heap.size≤l0∧(∃d,w1.heap[l0]? =some (.loop (JKd fn tmps ps c1 c2 d)))∧
   (∀b,b<w.heap.size→w1.heap[b]? =w.heap[b]?)∧w1.os=w.os∧w1.tape=w.tape∧w1.output=w.output∧mark=ms'.map (fun r=>({target:=.collected r,args:=#[]}:Deferred))∧ms'.Nodup∧
   ∀r∈ms',w.heap.size≤r∧r≠l0∧w1.heap[r]? =some (.deferred (some [])):=by
 cases ro with
 |none=>
  refine⟨w.heap.size+1,_,(w.alloc (.deferred (some []))).alloc (.loop (JKd fn tmps ps c1 c2 w.heap.size)),[w.heap.size],run_enterLoop_outer fn tmps ps c1 c2,oM,⟨w.heap.size,?_⟩,?_,rfl,rfl,rfl,rfl,sP,?_⟩
  ·have:=World.alloc_heap_new (w.alloc (.deferred (some []))) (.loop (JKd fn tmps ps c1 c2 w.heap.size));rw[World.size_alloc]at this;exact this
  ·intro b hb;rw[Go.RowKit.Below.heap_alloc _ _ b (by rw[World.size_alloc];omega),Go.RowKit.Below.heap_alloc _ _ b hb]
  ·intro r hr;simp only[List.mem_singleton]at hr;subst hr;refine⟨Nat.le_refl _,oM,?_⟩;rw[Go.RowKit.Below.heap_alloc _ _ _ (by rw[World.size_alloc];omega)];exact World.alloc_heap_new w _
 |some l'=>
  obtain⟨r',hr'⟩:=hround l' rfl;refine⟨w.heap.size,[],w.alloc (.loop (JKd fn tmps ps c1 c2 r'.defers)),[],?_,Nat.le_refl _,⟨r'.defers,World.alloc_heap_new w _⟩,?_,rfl,rfl,rfl,rfl,sP,sP⟩
  ·unfold Instr.enterLoop;simp only[Sem.run_bind,run_getLoop hr',run_newObj_alloc,Result.andThen,Sem.run_pure]
  ·intro b hb;exact Go.RowKit.Below.heap_alloc _ _ b hb
theorem JJd{H1:Heap}{β1:JM}{w1:World}{f:Opd}{g:Operand}{gN:Nat}{vs:List Av}(h0:opd P 0 g=some f)(hts:UD β A w H (get st.tm) a)(htg:Xz (get st.tm) (.dyn f) [.mp lid]=some (.fn gN,vs))
  (hvals:∀c u,VRep β A w H c u→VRep β1 A w1 H1 c u)(hyv:VRep β1 A w1 H1 (.mp lid) (.func (.yield l0) #[] #[])):
  ∃a1 a2,a.eval g=.func (.func gN) a1 a2∧JBl β1 A w1 H1 vs (a1++ #[.func (.yield l0) #[] #[]]++a2):=by
 have clo:∀(fs cs:List Av) (a1 a2:Array Value),vs=fs++[.mp lid]++cs→fs.length=a1.size→cs.length=a2.size→
   (∀(i:Nat) c v,fs[i]? =some c→a1[i]? =some v→VRep β A w H c v)→(∀(i:Nat) c v,cs[i]? =some c→a2[i]? =some v→VRep β A w H c v)→
   JBl β1 A w1 H1 vs (a1++ #[.func (.yield l0) #[] #[]]++a2):=by
  intro fs cs a1 a2 hvs l1 l2 r1 r2;refine⟨by rw[hvs];simp;omega,?_⟩;subst hvs;intro i c v hc hv;rw[←Array.getElem?_toList,Array.toList_append,Array.toList_append]at hv;by_cases h1:i<fs.length
  ·rw[List.append_assoc,Vz h1]at hc;rw[List.append_assoc,Vz sO]at hv;exact hvals _ _ (r1 i c v hc (sX hv))
  ·by_cases h2:i<fs.length+1
   ·have hi:i=fs.length:=oM;subst hi;rw[List.append_assoc,Vy oM]at hc;rw[List.append_assoc,Vy sO]at hv;simp[l1]at hc hv;rw[←hc,←hv];exact hyv
   ·rw[Vy sO]at hc;rw[Vy sO]at hv;refine hvals _ _ (r2 _ c v hc ?_);rw[←hv,Array.getElem?_toList];congr 1;simp;omega
 unfold Xz at htg;cases ex:val (get st.tm) f with
 |none=>simp[ex]at htg
 |some c=>
  have hc:=JD h0 ex hts;simp only[ex]at htg;split at htg
  ·rename_i k fs cs hcc;simp only[Vd,Ve,Cee.fn.injEq]at htg hcc;obtain⟨rfl,rfl⟩:=htg;subst hcc;have hr:=hc.JU;generalize hgu:a.eval g=u at*;cases hr with
   |fn _ _ _ a1 a2 l1 l2 r1 r2=>
    refine⟨a1,a2,rfl,clo (fs.map .d) (cs.map .d) a1 a2 rfl (sX l1) (sX l2) ?_ ?_⟩
    ·intro i c v h1 h2;rw[Vo]at h1;cases e1:fs[i]? with
     |none=>simp[e1]at h1
     |some y=>simp only[e1,Vj,Vd]at h1;subst h1;exact .d _ _ (r1 i y v e1 h2)
    ·intro i c v h1 h2;rw[Vo]at h1;cases e1:cs[i]? with
     |none=>simp[e1]at h1
     |some y=>simp only[e1,Vj,Vd]at h1;subst h1;exact .d _ _ (r2 i y v e1 h2)
  ·rename_i k fs cs hcc;simp only[Vd,Ve,Cee.fn.injEq]at htg hcc;obtain⟨rfl,rfl⟩:=htg;subst hcc;generalize hgu:a.eval g=u at*;cases hc with
   |clo _ _ _ a1 a2 l1 l2 r1 r2=>exact⟨a1,a2,rfl,clo fs cs a1 a2 rfl l1 l2 r1 r2⟩
  ·simp at htg
  ·simp at htg
theorem rng_ok{f:Opd}{g:Operand}{ps:Array Nat}{c1 c2:Code}{asg body:Ic}(h0:opd P 0 g=some f)(h1:Jj P N c1=some (strip asg))(h2:Jj P N c2=some (strip body))
  (hw:wpc P E.D (.rng f N lid ps c1 c2 asg body) Q st)(hs:Sat E N st a w β A):(Code.rangeFunc g ps c1 c2).wpIn (FW E.ro) n P (At E N Q) a w:=by
 obtain⟨hlid,hw⟩:=hw;refine wpIn_rangeFunc (fun fn _=>?_);have hw:=hw h1 h2;generalize hL:({tm:=st.tm,N:=N,ps:=ps,asg:=c1,body:=c2,s:=.ready,j:=none}:Lp)=L at hw;obtain⟨l0,mark,w1,ms',e1,e2,⟨dd,e3⟩,e4,e5,e6,e7,e8,e9,e10⟩:=JNf (P:=P) fn a.tmps ps c1 c2 hs.round;have st1:Stp β A w (get st.hp) (upd β lid (some l0)) A w1 (upd (get st.hp) lid (some (.lp L))):=by
  subst hL;exact Stp.lpNew hs.core hlid e5 e6 e7 e2 e3 e4 ⟨rfl,rfl,rfl,rfl,rfl,hs.size⟩ hs.tmps
 have hyv:VRep (upd β lid (some l0)) A w1 (upd (get st.hp) lid (some (.lp L))) (.mp lid) (.func (.yield l0) #[] #[]):=
  .mp _ _ rfl sU sU (fun l _=>⟨l0,JB _ _ _,rfl⟩) sU
 split at hw
 case h_2=>exact hw.elim
 rename_i gN vs htg;obtain⟨T,v,ups,hhas,hcok,hT,hp,l,hhp,hgone,hlp,hbusy,hj⟩:=hw;have hT':∀e∈T,upd (get st.hp) lid (some (.lp L)) e.1=e.2:=by
  clear hcok
  induction T with
  |nil=>simp
  |cons e T ih=>intro e' he';rcases VA.1 he' with rfl|h;exact hT.1;exact ih hT.2 e' h
 obtain⟨a1,a2,hev,hvs⟩:=JJd h0 hs.tmps htg st1.vals hyv;have hcall:Calls P gN (a1++ #[.func (.yield l0) #[] #[]]++a2) w1 fun e w'=>∃u,e=.returned u∧∃β' A',Stp (upd β lid (some l0)) A w1 (upd (get st.hp) lid (some (.lp L))) β' A' w' (JA (upd (get st.hp) lid (some (.lp L))) ups)∧
   VRep β' A' w' (JA (upd (get st.hp) lid (some (.lp L))) ups) v u:=by
  rcases hcok _ A w1 _ _ hT' st1.core hvs with⟨_,h⟩|⟨u,w',h,_⟩
  ·exact h
  ·rw[Zc hhas]at h;cases h
 refine⟨l0,mark,w1,{target:=.fn (.func gN) a2,args:=a1++ #[.func (.yield l0) #[] #[]]},w1,gN,a1++ #[.func (.yield l0) #[] #[]]++a2,w1,?_,?_,?_,?_,?_,?_⟩
 ·exact e1
 ·show((Deferred.ofValue (a.eval g) (#[.const (.func (.yield l0) #[] #[])].map a.eval)).run P w1)=_;rw[hev];simp only[Deferred.ofValue,Sem.run_pure,List.map_toArray,Va,Vb,Act.eval]
 ·exact fun _ _=>trivial
 ·exact Zc hhas _ _
 ·intro h;cases h
 refine JD7 (hcall.mono ?_);rintro e w3 ⟨u,rfl,β3,A3,st3,hv3⟩;have hy3:=st3.vals _ _ hyv;have hb3:β3 lid=some l0:=by
  cases hy3 with
  |mp _ _ _ _ _ h2 _=>
   obtain⟨b,q1,q2⟩:=h2 l hlp;cases q2;exact q1
 obtain⟨b,r3,g1,g2,g3,g4,g6,g7,g8,g9,g10⟩:=st3.core.objs _ _ hlp;rw[hb3]at g1;cases g1;have hlt3:l0<w3.heap.size:=(Array.getElem?_eq_some_iff.1 g2).1;refine⟨l.j,w3.putObj l0 (.loop {r3 with state:=.exhausted}),by rw[←g4];exact run_endLoop g2 (by rw[g3];exact hbusy),?_⟩;have st4:=Stp.lpEnd (r:={r3 with state:=.exhausted}) st3.core hlp hb3 hlt3;have hend:upd (JA (upd (get st.hp) lid (some (.lp L))) ups) lid (some .gone)=get hp:=by
  funext i;by_cases e:i=lid
  ·subst e;rw[JB,hgone]
  ·rw[JN _ _ e,hhp i e,JB0 _ _ _ _ _ e]
 rw[hend]at st4;have st34:=st3.trans st4;have st14:=st1.trans st34;have hm1:Marks E {a with defers:=mark++a.defers} w1 (upd β lid (some l0)) A (upd (get st.hp) lid (some (.lp L))):=by
  obtain⟨ms,q0,q1,q2⟩:=hs.marks;have hold:∀r∈ms,r<w.heap.size:=fun r hr=>(Array.getElem?_eq_some_iff.1 (q2 r hr).2.1).1
  refine⟨ms'++ms,?_,by simp[e8,q1],?_⟩
  ·rw[List.nodup_append];refine⟨e9,q0,?_⟩;intro x hx y hy e;subst e;have:=(e10 x hx).1;have:=hold x hy;omega
  ·intro r hr;rcases List.mem_append.1 hr with hr|hr
   ·obtain⟨p1,p2,p3⟩:=e10 r hr;refine⟨Nat.le_trans hs.since.size p1,p3,fun h=>by have:=hs.core.old r h;omega,?_⟩;intro i o hi ho hb;by_cases e:i=lid
    ·subst e;rw[JB]at hb;cases BK.Jo.1 hb;exact p2 rfl
    ·rw[JN _ _ e]at hi hb;have:=hs.core.lt hi ho hb;omega
   ·obtain⟨p1,p2,p3,p4⟩:=q2 r hr;have hlt:=hold r hr;refine⟨p1,by rw[e4 r hlt];exact p2,p3,?_⟩;intro i o hi ho hb;by_cases e:i=lid
    ·subst e;rw[JB]at hb;cases BK.Jo.1 hb;omega
    ·rw[JN _ _ e]at hi hb;exact p4 i o hi ho hb
 have hsat:Sat E N ⟨st.tm,hp⟩ {a with defers:=mark++a.defers} (w3.putObj l0 (.loop {r3 with state:=.exhausted})) (upd β3 lid (none:Option Nat)) A3:=by
  refine⟨st4.core,?_,hs.size,hs.since.trans st14,hm1.step st34 rfl,fun l hl=>by obtain⟨r,hr⟩:=hs.round l hl;exact st14.loops l r hr⟩;intro t v ht;obtain⟨u,q1,q2⟩:=hs.tmps t v ht;exact⟨u,q1,st14.vals _ _ q2⟩
 split at hj
 ·rename_i hj0;rw[hj0];exact⟨_,_,_,hj,hsat⟩
 ·rename_i hj0;rw[hj0];exact wpIn_ret ⟨_,_,_,hj,hsat⟩
 ·rename_i id hj0;rw[hj0];exact wpIn_exit ⟨_,_,_,hj,hsat⟩
 ·exact hj.elim
theorem Xa{b:Frame}{a:Act}{k:List Item}{cs:List Frame}{w:World}:Go.step P (lone (b.atR a (.code (.scope c)::k)) cs w)=.next (lone (b.atR a (.code c::.inScope c::k)) cs w):=
 Go.step_lone_go (by simp[Go.stepG,Go.stepG.exec,Frame.atR])
theorem JFL{b:Frame}{a:Act}{k:List Item}{cs:List Frame}{w:World}:Go.step P (lone (b.atR a (.inScope c::k)) cs w)=.next (lone (b.atR a k) cs w):=
 Go.step_lone_go (by simp[Go.stepG,Go.stepG.exec,Frame.atR])
theorem JJe{F:Fence}{n:Nat}{Q:Exit→Act→World→Prop}{a:Act}{w:World}(h:c.wpIn F n P (fun e a w=>(∀l,e≠ .goto l)∧Q e a w) a w):(Code.scope c).wpIn F n P Q a w:=by
 intro b k cs hro hb hr;have h0:(lone (b.atR a (.code (.scope c)::k)) cs w).fenced P F:=fenced_calm hb hr rfl;obtain⟨e,a₁,w₁,⟨hne,hq⟩,harr⟩:=h b (.inScope c::k) cs hro hb hr;cases e with
 |normal=>exact⟨.normal,a₁,w₁,hq,.head h0 Xa (StepsIn.trans harr (.one (fenced_calm hb hr rfl) JFL))⟩
 |exit id'=>
  have hx:exitTo id' (.inScope c::k)=exitTo id' k:=by simp[exitTo]
  exact⟨.exit id',a₁,w₁,hq,fun k' hk=>.head h0 Xa (harr.1 k' (by rw[hx];exact hk)),
   fun hr' hk=>let⟨k₁,h1,h2⟩:=harr.2 hr' (by rw[hx];exact hk);⟨k₁,h1,.head h0 Xa h2⟩⟩
 |goto l=>exact absurd rfl (hne l)
 |ret=>exact⟨_,a₁,w₁,hq,.of_steps (.one h0 Xa) harr⟩
 |panic ch=>exact⟨_,a₁,w₁,hq,.of_steps (.one h0 Xa) harr⟩
 |outgrown=>exact⟨_,a₁,w₁,hq,.of_steps (.one h0 Xa) harr⟩
theorem JGe:∀(ic:Ic) (code:Code) (Q:Exit→St→Prop) (st:St) (a:Act) (w:World) (β:JM) (A:Nat→Prop),Jj P N code=some (strip ic)→wpc P E.D ic Q st→Sat E N st a w β A→
  code.wpIn (FW E.ro) n P (At E N Q) a w:=by
 intro ic
 induction ic with
 |skip=>
  intro code Q st a w β A h hw hs;have e:code=.skip:=Js h;subst e;exact wpIn_skip ⟨st,β,A,hw,hs⟩
 |reg s=>
  intro code Q st a w β A h hw hs;obtain⟨id,ops,draw,rfl,htr,hdraw⟩:=Js h;cases draw with
  |true=>
   obtain⟨hm,hed,hsep⟩:=hdraw rfl;obtain⟨l,_,hl⟩:=JBz s _ st hw;exact JEG hm htr hed hsep (UN (fun st' l' h=>⟨rfl,h.1⟩) s st [] (hl [])) hs
  |false=>
  refine wpIn_region ?_;refine JGb _ none [] _ s [] _ st a w β A htr sP hw hs.b ?_;intro a' w' β' A' st' hK hst hs' _ hd;exact⟨st',β',A',hK,hs.step hst hs' hd⟩
 |regd un s=>
  intro code Q st a w β A h hw hs;obtain⟨id,ops,rfl,htr,hm,hed,hsep⟩:=Js h;exact JEG hm htr hed hsep hw hs
 |dn x ts ih=>
  intro code Q st a w β A h hw hs;refine wpIn_mono (ih code _ st a w β A h hw hs) ?_;intro e a' w' hq;obtain⟨st',β',A',g1,g2⟩:=hq;cases e with
  |normal=>exact⟨_,β',A',g1,g2.kill⟩
  |_=>exact⟨st',β',A',g1,g2⟩
 |seq x y ihx ihy=>
  intro code Q st a w β A h hw hs;obtain⟨cx,cy,rfl,h1,h2⟩:=Js h;refine wpIn_seq (wpIn_mono (ihx cx _ st a w β A h1 hw hs) ?_);intro e a' w' hq;cases e with
  |normal=>obtain⟨st',β',A',g1,g2⟩:=hq;exact ihy cy Q st' a' w' β' A' h2 g1 g2
  |_=>exact hq
 |ite c x y ihx ihy=>
  intro code Q st a w β A h hw hs;obtain⟨c',cx,cy,rfl,h0,h1,h2⟩:=Js h;simp only[wpc]at hw;split at hw
  case h_2=>exact hw.elim
  rename_i b hb;have hv:=(JD h0 hb hs.tmps).JU;have hc:a.eval c'=.bool b:=by generalize a.eval c'=u at hv;cases hv;rfl
  refine wpIn_cond hc ?_;cases b with
  |true=>exact ihx cx Q st a w β A h1 (hw.1 rfl) hs
  |false=>exact ihy cy Q st a w β A h2 (hw.2 rfl) hs
 |block id x ih=>
  intro code Q st a w β A h hw hs;obtain⟨cx,rfl,h1⟩:=Js h;refine wpIn_block (wpIn_mono (ih cx _ st a w β A h1 hw hs) ?_);intro e a' w' hq;obtain⟨st',β',A',g1,g2⟩:=hq;cases e with
  |exit id'=>
   simp only[Exit.inBlock]at g1⊢;split at g1
   ·rename_i e;rw[if_pos e];exact⟨st',β',A',g1,g2⟩
   ·rename_i e;rw[if_neg e];exact⟨st',β',A',g1,g2⟩
  |_=>exact⟨st',β',A',g1,g2⟩
 |loop x ih=>
  intro code Q st a w β A h hw hs;obtain⟨cx,rfl,h1⟩:=Js h;obtain⟨I,⟨n0,s0,hwk,hI0⟩,hround⟩:=hw;refine JHt (fun k a w=>∃s β A,I k s∧Sat E N s a w β A) ?_ ?_
  ·obtain⟨β',A',hs'⟩:=hs.wk hwk;exact⟨n0,s0,β',A',hI0,hs'⟩
  ·rintro k a w ⟨s,β,A,hI,hs⟩;refine wpIn_mono (ih cx _ s a w β A h1 (hround k s hI) hs) ?_;intro e a' w' hq;obtain⟨st',β',A',g1,g2⟩:=hq;cases e with
   |normal=>
    obtain⟨m,s'',hlt,hwk',hI'⟩:=g1;obtain⟨β'',A'',hs''⟩:=g2.wk hwk';exact⟨m,hlt,s'',β'',A'',hI',hs''⟩
   |_=>exact⟨st',β',A',g1,g2⟩
 |exit id=>
  intro code Q st a w β A h hw hs;have e:code=.exit id:=Js h;subst e;exact wpIn_exit ⟨st,β,A,hw,hs⟩
 |ret=>
  intro code Q st a w β A h hw hs;have e:code=.ret:=Js h;subst e;exact wpIn_ret ⟨st,β,A,hw,hs⟩
 |bad=>intro code Q st a w β A h hw hs;exact hw.elim
 |lab=>
  intro code Q st a w β A h hw hs;obtain⟨l,rfl⟩:=Js h;exact wpIn_label ⟨st,β,A,hw,hs⟩
 |scp x ih=>
  intro code Q st a w β A h hw hs;obtain⟨cx,rfl,h1⟩:=Js h;refine JJe (wpIn_mono (ih cx _ st a w β A h1 hw hs) ?_);intro e a' w' hq;obtain⟨st',β',A',g1,g2⟩:=hq;cases e with
  |goto l=>exact g1.elim
  |_=>exact⟨fun l=>by simp,st',β',A',g1,g2⟩
 |rng f N' lid ps c1 c2 x y _ _=>
  intro code Q st a w β A h hw hs;obtain⟨rfl,g,rfl,h0,h1,h2,_⟩:=Js h;exact rng_ok h0 h1 h2 hw hs
end
end Av
namespace Av
open Go
variable [Glb][Rls]
variable {G:Heap}{u:Value}{β1:JM}{A1 D:Nat→Prop}{ups:List (Nat×Obj)}{v:Av}
mutual
def Av.ren(ρ:Nat→Nat):Av→Av
 |.ref i off=>.ref (ρ i) off
 |.ms i ver=>.ms (ρ i) ver
 |.sub i ver off len=>.sub (ρ i) ver off len
 |.el i ver k off=>.el (ρ i) ver k off
 |.mp i=>.mp (ρ i)
 |.tr i h=>.tr (ρ i) h
 |.agg cs=>.agg (J3 ρ cs)
 |.tup cs=>.tup (J3 ρ cs)
 |.clo f a b=>.clo f (J3 ρ a) (J3 ρ b)
 |.d x=>.d x
 |.any=>.any
 |.und=>.und
 |.ful sz xs=>.ful sz xs
def J3(ρ:Nat→Nat):List Av→List Av
 |[]=>[]
 |c::r=>c.ren ρ::J3 ρ r
end
theorem J7(ρ:Nat→Nat):∀cs:List Av,J3 ρ cs=cs.map (Av.ren ρ)
 |[]=>by simp[J3]
 |c::r=>by simp[J3,J7 ρ r]
def X9(ρ:Nat→Nat):List (Nat×Av)→List (Nat×Av)
 |[]=>[]
 |(t,c)::r=>(t,c.ren ρ)::X9 ρ r
def Obj.ren(ρ:Nat→Nat):Obj→Obj
 |.box cs=>.box (J3 ρ cs)
 |.lp l=>.lp {l with tm:=X9 ρ l.tm}
 |.row v s x=>.row v s x
 |.mapo es=>.mapo es
 |.fbox ds=>.fbox ds
 |.frz v s x=>.frz v s x
 |.gone=>.gone
 |.sit s p=>.sit s p
 |.tre a b c d=>.tre a b c d
theorem JAE(ρ:Nat→Nat):∀(l:List (Nat×Av)) (t:Nat),get (X9 ρ l) t=(get l t).map (Av.ren ρ)
 |[],_=>rfl
 |(k,c)::r,t=>by simp only[X9,get];split;rfl;exact JAE ρ r t
mutual
def JV(G:Nat→Option Obj):Av→Prop
 |.ref i _|.ms i _|.sub i _ _ _|.el i _ _ _|.mp i|.tr i _=>(G i).isSome=true
 |.agg cs=>JR G cs
 |.tup cs=>JR G cs
 |.clo _ a b=>JR G a∧JR G b
 |_=>True
def JR(G:Nat→Option Obj):List Av→Prop
 |[]=>True
 |c::r=>JV G c∧JR G r
end
def Uz(G:Nat→Option Obj):List (Nat×Av)→Prop
 |[]=>True
 |e::r=>JV G e.2∧Uz G r
def J8(G:Nat→Option Obj):Obj→Prop
 |.box cs=>JR G cs
 |.lp l=>Uz G l.tm
 |_=>True
def closed(G:Heap):Prop:=∀i o,G i=some o→J8 G o
theorem UJ{G:Nat→Option Obj}:∀{cs:List Av},JR G cs→∀(i:Nat) c,cs[i]? =some c→JV G c
 |[],_,i,c,h=>by simp at h
 |x::r,h,0,c,hc=>by simp only[List.getElem?_cons_zero,Vd]at hc;subst hc;simp only[JR]at h;exact h.1
 |x::r,h,i+1,c,hc=>by simp only[JR]at h;exact UJ h.2 i c (sX hc)
theorem JEH{G:Nat→Option Obj}{cs:List Av}(h:JR G cs)(c:Av)(hc:c∈cs):JV G c:=by
 obtain⟨i,hi⟩:=List.getElem?_of_mem hc;exact UJ h i c hi
theorem XT{G:Nat→Option Obj}:∀{l:List (Nat×Av)},Uz G l→∀t c,get l t=some c→JV G c
 |[],_,t,c,h=>by cases h
 |(k,x)::r,h,t,c,hc=>by
  simp only[get]at hc;split at hc
  ·cases hc;exact h.1
  ·exact XT h.2 t c hc
abbrev inT:=JV
abbrev JFM:=JV
def Con(P:Program)(f:Nat)(args:List Av)(T:List (Nat×Obj))(v:Av)(ups:List (Nat×Obj)):Prop:=
 Has P f∧∀β A w vs,Core β A w (get T)→JBl β A w (get T) args vs→Calls P f vs w fun e w'=>∃u β' A',e=.returned u∧
  Since ⟨β,A,w,get T,D0,none⟩ β' A' w' (JA (get T) ups)∧Core β' A' w' (JA (get T) ups)∧VRep β' A' w' (JA (get T) ups) v u
def JFN(P:Program)(lid:Nat)(args:List Av)(T:List (Nat×Obj))(v:Av)(ups:List (Nat×Obj)):Prop:=
 ∀β A w l vs,Core β A w (get T)→β lid=some l→JBl β A w (get T) args vs→∃fn tmps asg body,(Instr.yield l vs).run P w=.ok (.round l fn tmps asg body) w∧
  RoundIn Fence.wide 0 P l fn tmps asg body w fun e w'=>∃u,e=.returned u∧∃β' A',
   Since ⟨β,A,w,get T,fun i=>(get T i).isSome=true,some l⟩ β' A' w' (JA (get T) ups)∧Core β' A' w' (JA (get T) ups)∧VRep β' A' w' (JA (get T) ups) v u
section
variable {P:Program}{β:JM}{A:Nat→Prop}{w:World}{H:Heap}{ρ:Nat→Nat}
theorem UU(o:Obj):(o.ren ρ).live=o.live:=by cases o<;>rfl
def Y1(ρ:Nat→Nat)(G H:Heap):Prop:=∀i o,G i=some o→H (ρ i)=some (o.ren ρ)
theorem VRep.Xv(hu:Y1 ρ G H){c':Av}(h:VRep β A w H c' u):∀c,c'=c.ren ρ→inT G c→VRep (fun i=>β (ρ i)) A w G c u:=by
 have lst:∀{cs':List Av} {arr:Array Value},(∀(i:Nat) c v,cs'[i]? =some c→arr[i]? =some v→∀d,c=d.ren ρ→inT G d→VRep (fun i=>β (ρ i)) A w G d v)→∀cs,cs'=J3 ρ cs→JR G cs→
   ∀(i:Nat) c v,cs[i]? =some c→arr[i]? =some v→VRep (fun i=>β (ρ i)) A w G c v:=by
  intro cs' arr ih cs hcs hin i c v hc hv;refine ih i (c.ren ρ) v ?_ hv c rfl (UJ hin i c hc);rw[hcs,J7,Vo,hc];rfl
 induction h with
 |d x u h=>intro c hc hin;cases c<;>simp only[Av.ren]at hc<;>cases hc;exact .d _ _ h
 |ref i off b p u h1 h0 h2 h3=>
  intro c hc hin;cases c<;>simp only[Av.ren]at hc<;>cases hc
  refine .ref _ off b p u h1 hin ?_ ?_
  ·intro cs hcs;exact h2 _ (hu _ _ hcs)
  ·intro ds hds;exact h3 ds (hu _ _ hds)
 |ms i ver u h1 h0 h2 h3=>
  intro c hc hin;cases c<;>simp only[Av.ren]at hc<;>cases hc
  exact .ms _ ver u h1 hin (fun v' sz xs hr=>h2 v' sz xs (hu _ _ hr)) (fun sz xs hr=>h3 sz xs (hu _ _ hr))
 |sub i ver off len u h1 h0 h2 h3=>
  intro c hc hin;cases c<;>simp only[Av.ren]at hc<;>cases hc
  exact .sub _ ver off len u h1 hin (fun v' sz xs hr=>h2 v' sz xs (hu _ _ hr)) (fun sz xs hr=>h3 sz xs (hu _ _ hr))
 |el i ver k off b p u h1 h0 h2=>
  intro c hc hin;cases c<;>simp only[Av.ren]at hc<;>cases hc
  exact .el _ ver k off b p u h1 hin (fun v' sz xs hr=>h2 v' sz xs (hu _ _ hr))
 |mp i u h1 h0 h2 h3 h4=>
  intro c hc hin;cases c<;>simp only[Av.ren]at hc<;>cases hc
  exact .mp _ u h1 hin (fun es hr=>h2 es (hu _ _ hr)) (fun l hr=>h3 _ (hu _ _ hr)) (fun s p hr=>h4 s p (hu _ _ hr))
 |tr i h u h1 h0 hk h2=>
  intro c hc hin;cases c<;>simp only[Av.ren]at hc<;>cases hc
  exact .tr _ h u h1 hin hk (fun v' s' sz xs hr=>h2 v' s' sz xs (hu _ _ hr))
 |agg cs arr hl h1 hv ih=>
  intro c hc hin;cases c<;>simp only[Av.ren]at hc<;>cases hc
  rename_i cs;exact .agg _ _ (by rw[←hl,J7,Vc]) h1 (lst ih cs rfl hin)
 |tup cs arr hl hv ih=>
  intro c hc hin;cases c<;>simp only[Av.ren]at hc<;>cases hc
  rename_i cs;exact .tup _ _ (by rw[←hl,J7,Vc]) (lst ih cs rfl hin)
 |clo f fs cs a1 a2 h1 h2 hf hv ihf ihv=>
  intro c hc hin;cases c<;>simp only[Av.ren]at hc<;>cases hc
  rename_i fs cs;exact .clo _ _ _ _ _ (by rw[←h1,J7,Vc]) (by rw[←h2,J7,Vc]) (lst ihf fs rfl hin.1) (lst ihv cs rfl hin.2)
 |any u=>intro c hc hin;cases c<;>simp only[Av.ren]at hc<;>cases hc;exact .any u
 |und=>intro c hc hin;cases c<;>simp only[Av.ren]at hc<;>cases hc;exact .und
 |ful sz xs u h hn=>intro c hc hin;cases c<;>simp only[Av.ren]at hc<;>cases hc;exact .ful _ _ _ h hn
theorem Ug(hu:Y1 ρ G H){i:Nat}{o':Obj}(hin:(G i).isSome=true)(h:H (ρ i)=some o'):∃o,G i=some o∧o'=o.ren ρ:=by
 obtain⟨o,ho⟩:=Option.isSome_iff_exists.1 hin;have:=hu i o ho;rw[this]at h;exact⟨o,ho,by cases h;rfl⟩
theorem VRep.ren{A':Nat→Prop}(hu:Y1 ρ G H)(hβ:∀i,(G i).isSome=true→β (ρ i)=β1 i)(hA:∀b,A1 b→A' b){c:Av}(hin:inT G c)(h:VRep β1 A1 w G c u):
  VRep β A' w H (c.ren ρ) u:=by
 have hr:∀x u,Rep A1 w x u→Rep A' w x u:=fun x u h=>h.mono (fun _ _=>rfl) hA
 have hsome:∀i,(G i).isSome=true→(H (ρ i)).isSome=true:=by
  intro i hi;obtain⟨o,ho⟩:=Option.isSome_iff_exists.1 hi;rw[hu i o ho];rfl
 have lst:∀{cs:List Av} {arr:Array Value},JR G cs→(∀(i:Nat) c v,cs[i]? =some c→arr[i]? =some v→inT G c→VRep β A' w H (c.ren ρ) v)→
   ∀(i:Nat) c v,(J3 ρ cs)[i]? =some c→arr[i]? =some v→VRep β A' w H c v:=by
  intro cs arr hin ih i c v hc hv;rw[J7,Vo]at hc;cases hci:cs[i]? with
  |none=>simp[hci]at hc
  |some c0=>
   simp only[hci,Vj,Vd]at hc;subst hc;exact ih i c0 v hci hv (UJ hin i c0 hci)
 induction h with
 |d x u h=>exact .d _ _ (hr _ _ h)
 |ref i off b p u h1 h0 h2 h3=>
  refine .ref _ off b p u h1 (hsome i hin) ?_ ?_
  ·intro cs hcs;obtain⟨o,g1,g2⟩:=Ug hu hin hcs;cases o<;>simp only[Obj.ren]at g2<;>cases g2
   rw[hβ i hin];exact h2 _ g1
  ·intro ds hds;obtain⟨o,g1,g2⟩:=Ug hu hin hds;cases o<;>simp only[Obj.ren]at g2<;>cases g2
   exact hr _ _ (h3 _ g1)
 |ms i ver u h1 h0 h2 h3=>
  refine .ms _ ver u h1 (hsome i hin) ?_ ?_
  ·intro v' sz xs hr';obtain⟨o,g1,g2⟩:=Ug hu hin hr';cases o<;>simp only[Obj.ren]at g2<;>cases g2
   obtain⟨q1,q2⟩:=h2 _ _ _ g1;refine⟨q1,fun e=>?_⟩;have:=q2 e;unfold JJP at this⊢;rw[hβ i hin];exact this
  ·intro sz xs hr';obtain⟨o,g1,g2⟩:=Ug hu hin hr';cases o<;>simp only[Obj.ren]at g2<;>cases g2
   exact hr _ _ (h3 _ _ g1)
 |sub i ver off len u h1 h0 h2 h3=>
  refine .sub _ ver off len u h1 (hsome i hin) ?_ ?_
  ·intro v' sz xs hr';obtain⟨o,g1,g2⟩:=Ug hu hin hr';cases o<;>simp only[Obj.ren]at g2<;>cases g2
   obtain⟨q1,q2⟩:=h2 _ _ _ g1;refine⟨q1,fun e=>?_⟩;have:=q2 e;unfold JMj at this⊢;rw[hβ i hin];exact this
  ·intro sz xs hr';obtain⟨o,g1,g2⟩:=Ug hu hin hr';cases o<;>simp only[Obj.ren]at g2<;>cases g2
   exact hr _ _ (h3 _ _ g1)
 |el i ver k off b p u h1 h0 h2=>
  refine .el _ ver k off b p u h1 (hsome i hin) ?_;intro v' sz xs hr';obtain⟨o,g1,g2⟩:=Ug hu hin hr';cases o<;>simp only[Obj.ren]at g2<;>cases g2
  rw[hβ i hin];exact h2 _ _ _ g1
 |mp i u h1 h0 h2 h3 h4=>
  refine .mp _ u h1 (hsome i hin) ?_ ?_ ?_
  ·intro es hr';obtain⟨o,g1,g2⟩:=Ug hu hin hr';cases o<;>simp only[Obj.ren]at g2<;>cases g2
   rw[hβ i hin];exact h2 _ g1
  ·intro l hr';obtain⟨o,g1,g2⟩:=Ug hu hin hr';cases o<;>simp only[Obj.ren]at g2<;>cases g2
   rw[hβ i hin];exact h3 _ g1
  ·intro s p hr';obtain⟨o,g1,g2⟩:=Ug hu hin hr';cases o<;>simp only[Obj.ren]at g2<;>cases g2
   rw[hβ i hin];exact h4 _ _ g1
 |tr i h u h1 h0 hk h2=>
  refine .tr _ h u h1 (hsome i hin) hk ?_;intro v' s' sz xs hr';obtain⟨o,g1,g2⟩:=Ug hu hin hr';cases o<;>simp only[Obj.ren]at g2<;>cases g2
  obtain⟨q1,q2,q3⟩:=h2 _ _ _ _ g1;refine⟨q1,q2,fun e1 e2=>?_⟩;obtain⟨u0,u1,r1,r2,r3⟩:=q3 e1 e2;refine⟨u0,u1,?_,r2,r3⟩;unfold Xe at r1⊢;rw[hβ i hin];exact r1
 |agg cs arr hl h1 hv ih=>exact .agg _ _ (by rw[J7,Vc];exact hl) h1 (lst hin fun i c v hc hv hin'=>ih i c v hc hv hin')
 |tup cs arr hl hv ih=>exact .tup _ _ (by rw[J7,Vc];exact hl) (lst hin fun i c v hc hv hin'=>ih i c v hc hv hin')
 |clo f fs cs a1 a2 h1 h2 hf hv ihf ihv=>exact .clo _ _ _ _ _ (by rw[J7,Vc];exact h1) (by rw[J7,Vc];exact h2) (lst hin.1 fun i c v hc hv hin'=>ihf i c v hc hv hin') (lst hin.2 fun i c v hc hv hin'=>ihv i c v hc hv hin')
 |any u=>exact .any u
 |und=>exact .und
 |ful sz xs u h hn=>exact .ful _ _ _ (h.mono (fun _ _=>rfl) hA) hn
theorem JBC.ren{A':Nat→Prop}(hu:Y1 ρ G H)(hβ:∀i,(G i).isSome=true→β (ρ i)=β1 i)(hA:∀b,A1 b→A' b){i:Nat}{o:Obj}(hi:(G i).isSome=true)(hin:J8 G o)(h:JBC β1 A1 w G i o):
  JBC β A' w H (ρ i) (o.ren ρ):=by
 cases o with
 |box cs=>
  obtain⟨b,C,Ty,e1,e2,e3,e4,e5⟩:=h;refine⟨b,C,Ty,by rw[hβ i hi];exact e1,e2,by rw[J7,Vc];exact e3,e4,?_⟩;intro k c u hk hu';rw[J7,Vo]at hk;cases hck:cs[k]? with
  |none=>simp[hck]at hk
  |some c0=>
   simp only[hck,Vj,Vd]at hk;subst hk;exact VRep.ren hu hβ hA (UJ hin k c0 hck) (e5 k c0 u hck hu')
 |row ver sz xs=>
  obtain⟨g1',g2',g3',⟨e1,e2⟩|⟨b,C,Ty,cap,e1,e2,e3,e4,e5,e6⟩⟩:=h
  ·exact⟨g1',g2',g3',.inl ⟨by rw[hβ i hi];exact e1,e2⟩⟩
  ·exact⟨g1',g2',g3',.inr ⟨b,C,Ty,cap,by rw[hβ i hi];exact e1,e2,e3,e4,e5,fun k c v q1 q2=>(e6 k c v q1 q2).mono (fun _ _=>rfl) hA⟩⟩
 |mapo es=>
  obtain⟨b,ents,clk,e1,e2,e3,e4,e5⟩:=h;exact⟨b,ents,clk,by rw[hβ i hi];exact e1,e2,e3,fun k e m q1 q2=>⟨(e4 k e m q1 q2).1.mono (fun _ _=>rfl) hA,(e4 k e m q1 q2).2.mono (fun _ _=>rfl) hA⟩,e5⟩
 |lp l=>
  obtain⟨b,r,e1,e2,e3,e4,e6,e7,e8,e9,e10⟩:=h;refine⟨b,r,by rw[hβ i hi];exact e1,e2,e3,e4,e6,e7,e8,e9,?_⟩;intro t v ht;simp only[JAE]at ht;cases htc:get l.tm t with
  |none=>simp[htc]at ht
  |some c0=>
   simp only[htc,Vj,Vd]at ht;subst ht;obtain⟨u,q1,q2⟩:=e10 t c0 htc;exact⟨u,q1,VRep.ren hu hβ hA (XT hin t c0 htc) q2⟩
 |fbox ds=>trivial
 |frz ver sz xs=>trivial
 |gone=>trivial
 |sit s p=>
  obtain⟨b,e1,e2,e3⟩:=h;exact⟨b,by rw[hβ i hi];exact e1,e2,e3⟩
 |tre ver sv sz xs=>
  obtain⟨u,q1,q2,q3,q4⟩:=h;refine⟨u,by rw[hβ i hi];exact q1.mono (fun _ _=>rfl) hA fun _ _=>rfl,by rw[hβ i hi];exact q2,?_,by rw[hβ i hi];exact q4⟩;unfold Xe at q3⊢;rw[hβ i hi];exact q3
theorem Core.Xv(hc:Core β A w H)(hun:Y1 ρ G H)(hinj:∀i j,(G i).isSome=true→(G j).isSome=true→ρ i=ρ j→i=j)(hcl:closed G):Core (fun i=>β (ρ i)) A w G:=by
 refine⟨?_,?_,?_,hc.old,hc.glob⟩
 ·intro i o hi;have:=hc.objs _ _ (hun i o hi);have hin:=hcl i o hi;cases o with
  |box cs=>
   obtain⟨b,C,Ty,e1,e2,e3,e4,e5⟩:=this;refine⟨b,C,Ty,e1,e2,by rw[J7,Vc]at e3;exact e3,e4,?_⟩;intro j c u hj hu;exact(e5 j (c.ren ρ) u (by rw[J7,Vo,hj];rfl) hu).Xv hun c rfl (UJ hin j c hj)
  |lp l=>
   obtain⟨b,r,e1,e2,e3,e4,e6,e7,e8,e9,e10⟩:=this;refine⟨b,r,e1,e2,e3,e4,e6,e7,e8,e9,?_⟩;intro t v ht;obtain⟨u,q1,q2⟩:=e10 t (v.ren ρ) (by simp only[JAE,ht,Vj]);exact⟨u,q1,q2.Xv hun v rfl (XT hin t v ht)⟩
  |row ver sz xs=>exact this
  |mapo es=>exact this
  |fbox ds=>trivial
  |frz ver sz xs=>trivial
  |gone=>trivial
  |sit s p=>exact this
  |tre a b c d=>exact this
 ·intro i j o o' b hi hl hj hl' hb hb';exact hinj i j (by rw[hi];rfl) (by rw[hj];rfl) (hc.inj _ _ _ _ b (hun i o hi) (by rw[UU];exact hl) (hun j o' hj) (by rw[UU];exact hl') hb hb')
 ·intro i o b hi hl hb;exact hc.sep _ _ b (hun i o hi) (by rw[UU];exact hl) hb
theorem lift{G1 H':Heap}{ro:Option Nat}{w':World}(hc:Core β A w H)(hun:Y1 ρ G H)(hinj:∀i j,(G1 i).isSome=true→(G1 j).isSome=true→ρ i=ρ j→i=j)
  (hdom:∀i,(G i).isSome=true→(G1 i).isSome=true)(hnew:∀i,G i=none→(G1 i).isSome=true→H (ρ i)=none)(hD:∀i,(G i).isSome=true→D i)(hcl:closed G1)
  (hsince:Since ⟨fun i=>β (ρ i),A,w,G,D,ro⟩ β1 A1 w' G1)(hc1:Core β1 A1 w' G1)(hun1:Y1 ρ G1 H')(hHo:∀j,(∀i,(G1 i).isSome=true→ρ i≠j)→H' j=H j):
  ∃β' A',Stp β A w H β' A' w' H'∧∀c u,inT G1 c→VRep β1 A1 w' G1 c u→VRep β' A' w' H' (c.ren ρ) u:=by
 obtain⟨s1,s2,s3,s4,s5,sl,s6,s7,s8⟩:=hsince;dsimp only at s1 s2 s3 s4 s5 s6 s7 s8 sl
 let D1:Nat→Prop:=fun i=>(G1 i).isSome=true
 have hexβ:∃β':JM,(∀i,D1 i→β' (ρ i)=β1 i)∧∀j,(∀i,D1 i→ρ i≠j)→β' j=β j:=by
  classical
  refine⟨fun j=>if h:∃i,D1 i∧ρ i=j then β1 (Classical.choose h)else β j,?_,?_⟩
  ·intro i hi;have hex:∃k,D1 k∧ρ k=ρ i:=⟨i,hi,rfl⟩;simp only[hex,dif_pos];have:=Classical.choose_spec hex;rw[hinj _ i this.1 hi this.2]
  ·intro j hj;have hno:¬∃i,D1 i∧ρ i=j:=fun⟨i,h1,h2⟩=>hj i h1 h2
   simp only[hno,dif_neg,not_false_iff]
 obtain⟨β',hβi,hβo⟩:=hexβ;have hsA:XG A w w':=fun b hb=>s5 b (hc.old b hb) fun i o hi hl hbi=>hc.sep _ _ b (hun i o hi) (by rw[UU];exact hl) hbi hb
 have hblk:∀j o b,(∀i,D1 i→ρ i≠j)→H j=some o→o.live=true→(β j).has b→w'.heap[b]? =w.heap[b]? :=by
  intro j o b hj hHj hl hb;refine s5 b (hc.lt hHj hl hb) ?_;intro i o' hi hl' hbi;exact hj i (hdom i (by rw[hi];rfl)) (hc.inj _ _ _ _ b (hun i o' hi) (by rw[UU];exact hl') hHj hl hbi hb)
 have hd:∀x u,Rep A w x u→Rep (fun b=>A b∨A1 b) w' x u:=fun x u h=>h.mono hsA fun _ h=>.inl h
 have one:∀c u,inT G1 c→VRep β1 A1 w' G1 c u→VRep β' (fun b=>A b∨A1 b) w' H' (c.ren ρ) u:=fun c u hin hvr=>VRep.ren hun1 hβi (fun _ h=>.inr h) hin hvr
 have old:∀i,D1 i→∀(c c':Av) (u:Value),c'=c.ren ρ→((∃off,c=.ref i off)∨(∃ver,c=.ms i ver)∨(∃ver off len,c=.sub i ver off len)∨(∃ver k off,c=.el i ver k off)∨c=.mp i∨(∃h,c=.tr i h))→VRep β A w H c' u→VRep β' (fun b=>A b∨A1 b) w' H' c' u:=by
  intro i hi c c' u hcc hcase hvr;cases hGi:G i with
  |none=>
   exfalso;refine JL0 (hnew i hGi hi) c' u ?_ hvr
   subst hcc;rcases hcase with⟨off,rfl⟩|⟨ver,rfl⟩|⟨ver,off,len,rfl⟩|⟨ver,k,off,rfl⟩|rfl|⟨h,rfl⟩<;>simp[Av.ren]
  |some o=>
   have hs:(G i).isSome=true:=by rw[hGi];rfl
   have hinG:inT G c∧inT G1 c∧base D c:=by
    rcases hcase with⟨off,rfl⟩|⟨ver,rfl⟩|⟨ver,off,len,rfl⟩|⟨ver,k,off,rfl⟩|rfl|⟨h,rfl⟩<;>exact⟨hs,hi,hD i hs⟩
   subst hcc;exact one c u hinG.2.1 (s8 c u hinG.2.2 (hvr.Xv hun c rfl hinG.1))
 have split:∀j,(∃i,D1 i∧ρ i=j)∨∀i,D1 i→ρ i≠j:=by
  intro j;by_cases h:∃i,D1 i∧ρ i=j
  ·exact .inl h
  ·exact .inr fun i hi e=>h ⟨i,hi,e⟩
 have hall:∀c u,VRep β A w H c u→VRep β' (fun b=>A b∨A1 b) w' H' c u:=by
  refine VRep.JCQ hd ?_ ?_ ?_ ?_ ?_ ?_
  ·intro j off u hvr;rcases split j with⟨i,hi,rfl⟩|hj
   ·exact old i hi (.ref i off) _ u rfl (.inl ⟨_,rfl⟩) hvr
   ·cases hvr with
    |ref _ _ b p _ h1 h0 h2 h3=>exact .ref _ _ b p _ h1 (by rw[hHo j hj];exact h0) (by rw[hHo j hj,hβo j hj];exact h2) (by rw[hHo j hj];exact fun ds hds=>hd _ _ (h3 ds hds))
  ·intro j ver u hvr;rcases split j with⟨i,hi,rfl⟩|hj
   ·exact old i hi (.ms i ver) _ u rfl (.inr (.inl ⟨_,rfl⟩)) hvr
   ·cases hvr with
    |ms _ _ _ h1 h0 h2 h3=>
     refine .ms _ _ _ h1 (by rw[hHo j hj];exact h0) ?_ (by rw[hHo j hj];exact fun sz xs hds=>hd _ _ (h3 sz xs hds));rw[hHo j hj];intro v' sz xs hr;obtain⟨q1,q2⟩:=h2 v' sz xs hr;refine⟨q1,fun e=>?_⟩;rcases q2 e with⟨r1,r2⟩|⟨b,C,Ty,fz,cap,r1,r2,r3⟩
     ·exact .inl ⟨by rw[hβo j hj];exact r1,r2⟩
     ·exact .inr ⟨b,C,Ty,fz,cap,by rw[hβo j hj];exact r1,by rw[hblk j _ b hj hr rfl (by rw[r1];exact BK.Jo.2 rfl)];exact r2,r3⟩
  ·intro j ver off len u hvr;rcases split j with⟨i,hi,rfl⟩|hj
   ·exact old i hi (.sub i ver off len) _ u rfl (.inr (.inr (.inl ⟨_,_,_,rfl⟩))) hvr
   ·cases hvr with
    |sub _ _ _ _ _ h1 h0 h2 h3=>
     refine .sub _ _ _ _ _ h1 (by rw[hHo j hj];exact h0) ?_ (by rw[hHo j hj];exact fun sz xs hds=>hd _ _ (h3 sz xs hds));rw[hHo j hj];intro v' sz xs hr;obtain⟨q1,q2⟩:=h2 v' sz xs hr;refine⟨q1,fun e=>?_⟩;obtain⟨q3,⟨r1,r2⟩|⟨b,C,Ty,fz,cap,ad,r1,r2,r3⟩⟩:=q2 e
     ·exact⟨q3,.inl ⟨by rw[hβo j hj];exact r1,r2⟩⟩
     ·exact⟨q3,.inr ⟨b,C,Ty,fz,cap,ad,by rw[hβo j hj];exact r1,by rw[hblk j _ b hj hr rfl (by rw[r1];exact BK.Jo.2 rfl)];exact r2,r3⟩⟩
  ·intro j ver k off u hvr;rcases split j with⟨i,hi,rfl⟩|hj
   ·exact old i hi (.el i ver k off) _ u rfl (.inr (.inr (.inr (.inl ⟨_,_,_,rfl⟩)))) hvr
   ·cases hvr with
    |el _ _ _ _ b p _ h1 h0 h2=>exact .el _ _ _ _ b p _ h1 (by rw[hHo j hj];exact h0) (by rw[hHo j hj,hβo j hj];exact h2)
  ·intro j u hvr;rcases split j with⟨i,hi,rfl⟩|hj
   ·exact old i hi (.mp i) _ u rfl (.inr (.inr (.inr (.inr (.inl rfl))))) hvr
   ·cases hvr with
    |mp _ _ h1 h0 h2 h3 h4=>exact .mp _ _ h1 (by rw[hHo j hj];exact h0) (by rw[hHo j hj,hβo j hj];exact h2) (by rw[hHo j hj,hβo j hj];exact h3) (by rw[hHo j hj,hβo j hj];exact h4)
  ·intro j h u hvr;rcases split j with⟨i,hi,rfl⟩|hj
   ·exact old i hi (.tr i h) _ u rfl (.inr (.inr (.inr (.inr (.inr ⟨h,rfl⟩))))) hvr
   ·cases hvr with
    |tr _ _ _ h1 h0 hk h2=>
     refine .tr _ _ _ h1 (by rw[hHo j hj];exact h0) hk ?_;rw[hHo j hj];intro v' s' sz xs hr;obtain⟨q1,q2,q3⟩:=h2 v' s' sz xs hr;exact⟨q1,q2,fun e1 e2=>(q3 e1 e2).mono (hc.objs _ _ hr) (hβo j hj) fun b hb=>hblk j _ b hj hr rfl hb⟩
 have hmine1:∀i o b,G1 i=some o→o.live=true→(β1 i).has b→w.heap.size≤b∨∃i' o',H (ρ i')=some o'∧o'.live=true∧(β (ρ i')).has b∧D1 i':=by
  intro i o b hi hl hb;rcases s7 i o b hi hl hb with h|⟨i',o',g1,g2,g3⟩
  ·exact .inl h
  ·exact .inr ⟨i',_,hun i' o' g1,by rw[UU];exact g2,g3,hdom i' (by rw[g1];rfl)⟩
 have inv:∀j o,H' j=some o→(∃i o1,D1 i∧ρ i=j∧G1 i=some o1∧o=o1.ren ρ)∨((∀i,D1 i→ρ i≠j)∧H j=some o):=by
  intro j o hj;rcases split j with⟨i,hi,rfl⟩|hn
  ·obtain⟨o1,g1,g2⟩:=Ug hun1 hi hj;exact .inl ⟨i,o1,hi,rfl,g1,g2⟩
  ·exact .inr ⟨hn,by rw[←hHo j hn];exact hj⟩
 refine⟨β',_,⟨⟨?_,?_,?_,?_,fun g cs hg=>(hc.glob g cs hg).mono hsA fun _ h=>.inl h⟩,hall,s1,s2,s3,s4,?_,sl,?_,?_⟩,one⟩
 ·intro j o hj;rcases inv j o hj with⟨i,o1,hi,rfl,g1,rfl⟩|⟨hn,hHj⟩
  ·exact JBC.ren hun1 hβi (fun _ h=>.inr h) hi (hcl i o1 g1) (hc1.objs i o1 g1)
  ·exact(hc.objs j o hHj).mono hall hsA (fun _ h=>.inl h) (hβo j hn) fun b hb hl=>hblk j o b hn hHj hl hb
 ·intro j k o o' b hj hl hk hl' hb hb';rcases inv j o hj with⟨i,o1,hi,rfl,g1,rfl⟩|⟨hn,hHj⟩
  ·rw[hβi i hi]at hb;rw[UU]at hl;rcases inv k o' hk with⟨i',o1',hi',rfl,g1',rfl⟩|⟨hn',hHk⟩
   ·rw[hβi i' hi']at hb';rw[UU]at hl';rw[hc1.inj i i' o1 o1' b g1 hl g1' hl' hb hb']
   ·exfalso;rw[hβo k hn']at hb'
    rcases hmine1 i o1 b g1 hl hb with h|⟨i',o2,q1,q2,q3,q4⟩
    ·have:=hc.lt hHk hl' hb';omega
    ·exact hn' i' q4 (hc.inj _ _ _ _ b q1 q2 hHk hl' q3 hb')
  ·rw[hβo j hn]at hb;rcases inv k o' hk with⟨i',o1',hi',rfl,g1',rfl⟩|⟨hn',hHk⟩
   ·exfalso;rw[hβi i' hi']at hb'
    rw[UU]at hl';rcases hmine1 i' o1' b g1' hl' hb' with h|⟨i2,o2,q1,q2,q3,q4⟩
    ·have:=hc.lt hHj hl hb;omega
    ·exact hn i2 q4 (hc.inj _ _ _ _ b q1 q2 hHj hl q3 hb)
   ·rw[hβo k hn']at hb';exact hc.inj j k o o' b hHj hl hHk hl' hb hb'
 ·rintro j o b hj hl hb (hAb|hAb)
  ·rcases inv j o hj with⟨i,o1,hi,rfl,g1,rfl⟩|⟨hn,hHj⟩
   ·rw[hβi i hi]at hb;rw[UU]at hl;rcases hmine1 i o1 b g1 hl hb with h|⟨i',o2,q1,q2,q3,q4⟩
    ·have:=hc.old b hAb;omega
    ·exact hc.sep _ _ b q1 q2 q3 hAb
   ·rw[hβo j hn]at hb;exact hc.sep j o b hHj hl hb hAb
  ·rcases inv j o hj with⟨i,o1,hi,rfl,g1,rfl⟩|⟨hn,hHj⟩
   ·rw[hβi i hi]at hb;rw[UU]at hl;exact hc1.sep i o1 b g1 hl hb hAb
   ·rw[hβo j hn]at hb;rcases s6 b hAb with h|h|⟨i',o',q1,q2,q3⟩
    ·exact hc.sep j o b hHj hl hb h
    ·have:=hc.lt hHj hl hb;omega
    ·exact hn i' (hdom i' (by rw[q1];rfl)) (hc.inj _ _ _ _ b (hun i' o' q1) (by rw[UU];exact q2) hHj hl q3 hb)
 ·rintro b (h|h)
  ·exact Nat.lt_of_lt_of_le (hc.old b h) s4
  ·exact hc1.old b h
 ·intro b hb hn;refine s5 b hb ?_;intro i o hi hl hbi;exact hn _ _ (hun i o hi) (by rw[UU];exact hl) hbi
 ·rintro b (h|h)
  ·exact .inl h
  ·rcases s6 b h with h|h|⟨i',o',q1,q2,q3⟩
   ·exact .inl h
   ·exact .inr (.inl h)
   ·exact .inr (.inr ⟨_,_,hun i' o' q1,by rw[UU];exact q2,q3⟩)
 ·intro j o b hj hl hb;rcases inv j o hj with⟨i,o1,hi,rfl,g1,rfl⟩|⟨hn,hHj⟩
  ·rw[hβi i hi]at hb;rw[UU]at hl;rcases hmine1 i o1 b g1 hl hb with h|⟨i',o2,q1,q2,q3,q4⟩
   ·exact .inl h
   ·exact .inr ⟨_,o2,q1,q2,q3⟩
  ·rw[hβo j hn]at hb;exact .inr ⟨j,o,hHj,hl,hb⟩
theorem JC7(hinj:∀i j,D i→D j→ρ i=ρ j→i=j):∀(ups:List (Nat×Obj)) (G H:Heap),(∀i,(G i).isSome=true→D i)→(∀e∈ups,D e.1)→Y1 ρ G H→
  Y1 ρ (JA G ups) (JA H (ups.map fun e=>(ρ e.1,e.2.ren ρ)))
 |[],G,H,_,_,hu=>hu
 |(i,o)::r,G,H,hG,hd,hu=>by
  simp only[Va,JA];have hi:D i:=hd (i,o) Vh;refine JC7 hinj r _ _ ?_ (fun e he=>hd e (Vn _ he)) ?_
  ·intro j hj;unfold upd at hj;split at hj
   ·rename_i e;rw[e];exact hi
   ·exact hG j hj
  ·intro j o' hj;unfold upd at hj⊢;split at hj
   ·rename_i e;subst e;cases hj;rw[if_pos rfl]
   ·rename_i e;rw[if_neg (fun e2=>e (hinj j i (hG j (by rw[hj];rfl)) hi e2))];exact hu j o' hj
theorem get_mem:∀(T:List (Nat×Obj)) (i:Nat) (o:Obj),get T i=some o→(i,o)∈T:=by
 intro T
 induction T with
 |nil=>intro i o h;cases h
 |cons e r ih=>
  obtain⟨k,x⟩:=e;intro i o h;simp only[get]at h;split at h
  ·rename_i e;subst e;cases h;exact Vh
  ·exact Vn _ (ih i o h)
theorem JBN:∀(ups:List (Nat×Obj)) (H:Heap) (j:Nat),(JA H ups j).isSome=true→(H j).isSome=true∨∃e∈ups,e.1=j
 |[],_,_,h=>.inl h
 |(i,o)::r,H,j,h=>by
  rcases JBN r _ j h with h|⟨e,he,h⟩
  ·unfold upd at h;split at h
   ·rename_i e;exact .inr ⟨(i,o),Vh,e.symm⟩
   ·exact .inl h
  ·exact .inr ⟨e,Vn _ he,h⟩
theorem JHv:∀(ups:List (Nat×Obj)) (H:Heap),∀e∈ups,(JA H ups e.1).isSome=true
 |(i,o)::r,H,e,he=>by
  rcases VA.1 he with rfl|he
  ·exact Ui r _ _ sU
  ·exact JHv r _ e he
theorem use{ro:Option Nat}{w':World}(hc:Core β A w H)(hun:Y1 ρ G H)
  (hinj:∀i j,(JA G ups i).isSome=true→(JA G ups j).isSome=true→ρ i=ρ j→i=j)(hnew:∀e∈ups,G e.1=none→H (ρ e.1)=none)(hD:∀i,(G i).isSome=true→D i)(hcl:closed (JA G ups))(hv:inT (JA G ups) v)
  (hsince:Since ⟨fun i=>β (ρ i),A,w,G,D,ro⟩ β1 A1 w' (JA G ups))(hc1:Core β1 A1 w' (JA G ups))(hv1:VRep β1 A1 w' (JA G ups) v u):
  ∃β' A',Stp β A w H β' A' w' (JA H (ups.map fun e=>(ρ e.1,e.2.ren ρ)))∧VRep β' A' w' (JA H (ups.map fun e=>(ρ e.1,e.2.ren ρ))) (v.ren ρ) u:=by
 have hup:∀e∈ups,(JA G ups e.1).isSome=true:=JHv ups G;obtain⟨β',A',h1,h2⟩:=lift (H':=JA H (ups.map fun e=>(ρ e.1,e.2.ren ρ))) hc hun hinj (fun i hi=>Ui ups G i hi) (fun i hi h=>by
   rcases JBN ups G i h with h|⟨e,he,rfl⟩
   ·rw[hi]at h;cases h
   ·exact hnew e he hi) hD hcl hsince hc1
  (JC7 (D:=fun i=>(JA G ups i).isSome=true) hinj ups _ _ (fun i h=>Ui ups G i h) hup hun)
  (fun j hj=>JAA _ _ j fun e he=>by
   obtain⟨e',g1,rfl⟩:=VC.1 he;exact hj _ (hup e' g1))
 exact⟨β',A',h1,h2 v u hv hv1⟩
theorem Con.call{f:Nat}{args:List Av}{T:List (Nat×Obj)}(h:Con P f args T v ups)(ρ:Nat→Nat)(hbig:∀i,(get T i).isSome=true→1000≤i)
  (hinj:∀i j,(JA (get T) ups i).isSome=true→(JA (get T) ups j).isSome=true→ρ i=ρ j→i=j)(hargs:∀c∈args,inT (get T) c)(hcl:closed (get T))(nw:List Nat)
  (hups:∀e∈ups,(get T e.1).isSome=true∨e.1∈nw)(hcl':closed (JA (get T) ups))(hv:inT (JA (get T) ups) v):
  JC P f (args.map (Av.ren ρ)) ((T.map fun e=>(ρ e.1,some (e.2.ren ρ)))++nw.map fun i=>(ρ i,none)) (v.ren ρ) (ups.map fun e=>(ρ e.1,e.2.ren ρ)):=by
 intro β A w H vs hT hc hvs;have hun:Y1 ρ (get T) H:=by
  intro i o hi;exact hT _ (List.mem_append_left _ (VC.2 ⟨(i,o),get_mem T i o hi,rfl⟩))
 have hvs0:JBl (fun i=>β (ρ i)) A w (get T) args vs:=by
  refine⟨by have:=hvs.1;simpa using this,?_⟩;intro i c u hi hu;exact(hvs.2 i (c.ren ρ) u (by rw[Vo,hi];rfl) hu).Xv hun c rfl (hargs c (List.mem_of_getElem? hi))
 have hinj':∀i j,(get T i).isSome=true→(get T j).isSome=true→ρ i=ρ j→i=j:=fun i j hi hj=>hinj i j (Ui ups _ i hi) (Ui ups _ j hj)
 refine .inl ⟨h.1,(h.2 _ A w vs (hc.Xv hun hinj' hcl) hvs0).mono ?_⟩;rintro e w' ⟨u,β1,A1,rfl,hsince,hc1,hv1⟩;refine⟨u,rfl,use hc hun hinj (fun e he hn=>?_) hbig hcl' hv hsince hc1 hv1⟩;rcases hups e he with h|h
 ·rw[hn]at h;cases h
 ·exact hT (ρ e.1,none) (List.mem_append_right _ (VC.2 ⟨e.1,h,rfl⟩))
theorem JFN.call{lid:Nat}{args:List Av}{T:List (Nat×Obj)}(h:JFN P lid args T v ups)(ρ:Nat→Nat)(hlid:∃l,get T lid=some (.lp l))
  (hinj:∀i j,(JA (get T) ups i).isSome=true→(JA (get T) ups j).isSome=true→ρ i=ρ j→i=j)(hargs:∀c∈args,inT (get T) c)(hcl:closed (get T))(nw:List Nat)
  (hups:∀e∈ups,(get T e.1).isSome=true∨e.1∈nw)(hcl':closed (JA (get T) ups))(hv:inT (JA (get T) ups) v):
  JC P .yld (.mp (ρ lid)::args.map (Av.ren ρ)) ((T.map fun e=>(ρ e.1,some (e.2.ren ρ)))++nw.map fun i=>(ρ i,none)) (v.ren ρ) (ups.map fun e=>(ρ e.1,e.2.ren ρ)):=by
 intro β A w H vs hT hc hvs;obtain⟨l,hl⟩:=hlid;have hun:Y1 ρ (get T) H:=by
  intro i o hi;exact hT _ (List.mem_append_left _ (VC.2 ⟨(i,o),get_mem T i o hi,rfl⟩))
 obtain⟨hlen,hvs⟩:=hvs;obtain⟨y,rest,rfl⟩:∃y rest,vs=#[y]++rest:=by
  refine⟨vs[0]'(by simp at hlen;omega),vs.extract 1 vs.size,?_⟩;apply Array.ext
  ·simp at hlen⊢;omega
  ·intro i h1 h2;cases i with
   |zero=>simp
   |succ i=>rw[Array.getElem_append_right sP];simp[Nat.add_comm]
 have hy:=hvs 0 (.mp (ρ lid)) y rfl (by rw[Array.getElem?_append_left sP];rfl);obtain⟨l0,hb,rfl⟩:∃l0,β (ρ lid)=some l0∧y=.func (.yield l0) #[] #[]:=by
  cases hy with
  |mp _ _ _ _ _ h2 _=>exact h2 _ (hun lid _ hl)
 have hvs0:JBl (fun i=>β (ρ i)) A w (get T) args rest:=by
  refine⟨by simp at hlen;omega,?_⟩;intro i c u hi hu;refine(hvs (i+1) (c.ren ρ) u (by simp[hi]) ?_).Xv hun c rfl (hargs c (List.mem_of_getElem? hi));rw[Array.getElem?_append_right sP];simpa using hu
 have hinj':∀i j,(get T i).isSome=true→(get T j).isSome=true→ρ i=ρ j→i=j:=fun i j hi hj=>hinj i j (Ui ups _ i hi) (Ui ups _ j hj)
 obtain⟨fn,tmps,asg,body,e1,e2⟩:=h _ A w l0 rest (hc.Xv hun hinj' hcl) hb hvs0;refine⟨l0,rest,rfl,fn,tmps,asg,body,e1,e2.mono ?_⟩;rintro e w' ⟨u,rfl,β1,A1,hsince,hc1,hv1⟩;refine⟨u,rfl,use hc hun hinj (fun e he hn=>?_) (fun i hi=>hi) hcl' hv hsince hc1 hv1⟩;rcases hups e he with h|h
 ·rw[hn]at h;cases h
 ·exact hT (ρ e.1,none) (List.mem_append_right _ (VC.2 ⟨e.1,h,rfl⟩))
end
end Av
namespace Av
open Go
variable [Glb][Rls]
variable {c v:Av}{u:Value}{ups:List (Nat×Obj)}{k:Option Bool}
mutual
def Dat.canon:Dat→Dat
 |.nil sz=>.list sz []
 |.list sz xs=>.list sz (JK xs)
 |.agg cs=>.agg (JK cs)
 |.ptr cs=>.ptr (JK cs)
 |.iface t d=>.iface t d.canon
 |x=>x
def JK:List Dat→List Dat
 |[]=>[]
 |x::r=>x.canon::JK r
end
theorem Ub:∀(xs:List Dat),JK xs=xs.map Dat.canon
 |[]=>by simp[JK]
 |x::r=>by simp[JK,Ub r]
theorem JC8(x:Dat):x.canon.cells=x.cells.map Dat.canon:=by
 cases x<;>simp[Dat.canon,Dat.cells,Ub]
theorem JEI(xs:List Dat):flat (xs.map Dat.canon)=(flat xs).map Dat.canon:=by
 induction xs with
 |nil=>rfl
 |cons x xs ih=>simp only[Va,flat,List.flatMap_cons,Vw]at ih⊢;rw[JC8,ih]
theorem Rep.canon{A:Nat→Prop}{w:World}{x:Dat}{v:Value}(h:Rep A w x v):Rep A w x.canon v:=by
 induction h with
 |bool b=>exact .bool b
 |int k n h=>exact .int k n h
 |str s h=>exact .str s h
 |nil sz a=>exact .emp sz a 0
 |emp sz a cap=>simp only[Dat.canon,JK];exact .emp sz a cap
 |list sz xs b o n cap vs hn hAb hl hc h1 hsz hh hvl hv ih=>
  simp only[Dat.canon,Ub];refine .list sz _ b o n cap vs (sX hn) hAb (sX hl) (sX hc) h1 ?_ hh (by rw[JEI];simpa using hvl) ?_
  ·intro y hy;obtain⟨x,hx,rfl⟩:=VC.1 hy;rw[JC8,Vc];exact hsz x hx
  ·intro i c v hc hv;rw[JEI,Vo]at hc;cases e:(flat xs)[i]? with
   |none=>simp[e]at hc
   |some c0=>simp only[e,Vj,Vd]at hc;subst hc;exact ih i c0 v e hv
 |agg cs arr hl h1 hv ih=>
  simp only[Dat.canon,Ub];refine .agg _ arr (sX hl) h1 ?_;intro i c v hc hv;rw[Vo]at hc;cases e:cs[i]? with
  |none=>simp[e]at hc
  |some c0=>simp only[e,Vj,Vd]at hc;subst hc;exact ih i c0 v e hv
 |fn f fs cs a1 a2 h1 h2 hf hv ihf ihv=>simp only[Dat.canon];exact .fn f fs cs a1 a2 h1 h2 hf hv
 |ptr cs b o vs hAb h1 hh hvl hv ih=>
  simp only[Dat.canon,Ub];refine .ptr _ b o vs hAb h1 hh (sX hvl) ?_;intro i c v hc hv;rw[Vo]at hc;cases e:cs[i]? with
  |none=>simp[e]at hc
  |some c0=>simp only[e,Vj,Vd]at hc;subst hc;exact ih i c0 v e hv
 |map es r ents clk hAb hr hl hk hv ihk ihv=>simp only[Dat.canon];exact .map es r ents clk hAb hr hl hk hv
 |nilFn=>exact .nilFn
 |nilPtr=>exact .nilPtr
 |nilMap=>exact .nilMap
 |nilIface=>exact .nilIface
 |glo g=>exact .glo g
 |iface t x v h ih=>simp only[Dat.canon];exact .iface t _ v ih
 |opq v h1=>exact .opq v h1
inductive RI where
 |tmp (t:Nat)
 |cell (a:Nat) (n:Option Nat)
 deriving Inhabited
def JB1(P:Program):ResultVar→Option RI
 |.tmp t=>some (.tmp t)
 |.cell a t=>(shT P t).map (.cell a)
def outs:List RI→St→Option (Prop×List Av)
 |[],_=>some (True,[])
 |.tmp t::r,st=>match get st.tm t,outs r st with
  |some c,some (p,cs)=>some (p,c::cs)
  |_,_=>none
 |.cell a n::r,st=>match step (get st.tm) (get st.hp) 0 (.ld n (.t a)),outs r st with
  |some x,some (p,cs)=>some (x.c∧p,x.v::cs)
  |_,_=>none
def mine:Av→Bool
 |.ref i _|.ms i _|.sub i _ _ _|.el i _ _ _|.mp i=>decide (1000≤i)
 |.tr _ _=>true
 |.tup _|.any|.und|.ful _ _=>true
 |_=>false
def Y2(H:Heap)(c:Av):Prop×Av×List (Nat×Obj):=if mine c then(True,c,[])else match XD H c with
 |some (p,x,u)=>(p,.d x.canon,u)
 |none=>(True,c,[])
def Jn(H:Heap):List Av→Prop×List Av×List (Nat×Obj)
 |[]=>(True,[],[])
 |c::r=>(((Y2 H c).1∧(Jn (JA H (Y2 H c).2.2) r).1),(Y2 H c).2.1::(Jn (JA H (Y2 H c).2.2) r).2.1,(Y2 H c).2.2++(Jn (JA H (Y2 H c).2.2) r).2.2)
def JL1(H:Heap):Av→Option (Prop×Av×List (Nat×Obj))
 |.d x=>some (True,.d x.canon,[])
 |.ref i off=>some (True,.ref i off,[])
 |.tr i h=>some (True,.tr i h,[])
 |.el i ver k off=>if 1000≤i then some (True,.el i ver k off,[])else none
 |.mp i=>if 1000≤i then some (True,.mp i,[])else match XD H (.mp i)with
  |some (p,x,u)=>some (p,.d x.canon,u)
  |none=>none
 |.ms i ver=>if 1000≤i then some (True,.ms i ver,[])else match XD H (.ms i ver)with
  |some (p,x,u)=>some (p,.d x.canon,u)
  |none=>none
 |.sub i ver off len=>if 1000≤i then some (True,.sub i ver off len,[])else match XD H (.sub i ver off len)with
  |some (p,x,u)=>some (p,.d x.canon,u)
  |none=>none
 |.agg cs=>match XD H (.agg cs)with
  |some (p,x,u)=>some (p,.d x.canon,u)
  |none=>some ((Jn H cs).1,.agg (Jn H cs).2.1,(Jn H cs).2.2)
 |.clo f fs cs=>match Jn H fs with
  |(p,fs',u)=>match Jn (JA H u) cs with
   |(q,cs',u')=>match YL fs',YL cs' with
    |some a,some b=>some (p∧q,.d (.fn f a b),u++u')
    |_,_=>some (p∧q,.clo f fs' cs',u++u')
 |_=>none
def JL2:Av→Option (Prop×Av×List (Nat×Obj))
 |.tup _|.any|.und|.ful _ _=>none
 |c=>some (True,c,[])
def JL3(H:Heap)(c:Av):Option (Prop×Av×List (Nat×Obj)):=match XD H c with
 |some (p,x,u)=>some (p,.d x,u)
 |none=>none
def JL4(k:Option Bool)(H:Heap)(c:Av):Option (Prop×Av×List (Nat×Obj)):=match k with
 |some true=>JL2 c
 |some false=>JL1 H c
 |none=>JL3 H c
def JDd(k:Option Bool)(H:Heap):List Av→Option (Prop×List Av×List (Nat×Obj))
 |[]=>some (True,[],[])
 |c::r=>match JL4 k H c with
  |some (p,v,u)=>match JDd k (JA H u) r with
   |some (q,vs,u')=>some (p∧q,v::vs,u++u')
   |none=>none
  |none=>none
def retV:List Av→Av
 |[c]=>c
 |cs=>.tup cs
def JKe(H H':Heap):List (Nat×Obj)→Prop
 |[]=>True
 |e::r=>H e.1=H' e.1∧JKe H H' r
def JEJ(k:Option Bool)(ris:List RI)(T:List (Nat×Obj))(v:Av)(ups:List (Nat×Obj))(e:Exit)(st:St):Prop:=
 (e=.normal∨e=.ret)∧match outs ris st with
  |some (p,cs)=>p∧match JDd k (get st.hp) cs with
   |some (q,rs,u)=>q∧retV rs=v∧JKe (JA (get st.hp) u) (JA (get T) ups) (T++ups)
   |none=>False
  |none=>False
abbrev Ends:=JEJ false
def enum:Nat→List Av→List (Nat×Av)
 |_,[]=>[]
 |n,c::r=>(n,c)::enum (n+1) r
theorem JHw:∀(cs:List Av) (n t:Nat),get (enum n cs) t=if n≤t then cs[t-n]? else none
 |[],n,t=>by simp[enum,get]
 |c::r,n,t=>by
  simp only[enum,get,JHw r (n+1) t];by_cases h:n=t
  ·subst h;simp
  ·rw[if_neg h];by_cases h2:n+1≤t
   ·rw[if_pos h2,if_pos oM];have:t-n=(t-(n+1))+1:=oM;rw[this,List.getElem?_cons_succ]
   ·rw[if_neg h2,if_neg oM]
section
variable {P:Program}{β:JM}{A:Nat→Prop}{w:World}{H:Heap}{a:Act}{st:St}
theorem JNg(hc:Core β A w H)(hp:(Y2 H c).1)(hv:VRep β A w H c u):
  ∃A',Stp β A w H β A' w (JA H (Y2 H c).2.2)∧VRep β A' w (JA H (Y2 H c).2.2) (Y2 H c).2.1 u∧∀k,A k→A' k:=by
 unfold Y2 at hp⊢;by_cases hm:mine c=true
 ·simp only[hm,if_true]at hp⊢;exact⟨A,Stp.refl hc,hv,fun _ h=>h⟩
 ·simp only[hm,Vu,if_false]at hp⊢;cases hd:XD H c with
  |none=>exact⟨A,Stp.refl hc,hv,fun _ h=>h⟩
  |some q=>
   obtain⟨p,x,us⟩:=q;simp only[hd]at hp⊢;obtain⟨A',g1,g2,g3⟩:=JBs hc hd hp hv;exact⟨A',g1,.d _ _ g2.canon,g3⟩
theorem JAh:∀{cs:List Av} {us:List Value} {A:Nat→Prop} {H:Heap},Core β A w H→(Jn H cs).1→cs.length=us.length→
  (∀(i:Nat) c v,cs[i]? =some c→us[i]? =some v→VRep β A w H c v)→
  ∃A',Stp β A w H β A' w (JA H (Jn H cs).2.2)∧(Jn H cs).2.1.length=us.length∧(∀(i:Nat) c v,(Jn H cs).2.1[i]? =some c→us[i]? =some v→VRep β A' w (JA H (Jn H cs).2.2) c v)∧∀k,A k→A' k
 |[],us,A,H,hc,hp,hl,hv=>⟨A,Stp.refl hc,hl,by simp[Jn],fun _ h=>h⟩
 |c::cs,[],A,H,hc,hp,hl,hv=>by simp at hl
 |c::cs,u::us,A,H,hc,hp,hl,hv=>by
  simp only[Jn]at hp⊢;obtain⟨A1,s1,r1,m1⟩:=JNg hc hp.1 (hv 0 c u rfl rfl);obtain⟨A2,s2,l2,r2,m2⟩:=JAh s1.core hp.2 (us:=us) (sX hl) (fun i c' v' h1 h2=>s1.vals _ _ (hv (i+1) c' v' (sX h1) (sX h2)));refine⟨A2,by rw[Ua];exact s1.trans s2,by simp[l2],?_,fun k h=>m2 k (m1 k h)⟩;rw[Ua];intro i z v h1 h2;cases i with
  |zero=>simp at h1 h2;rw[←h1,←h2];exact s2.vals _ _ r1
  |succ i=>exact r2 i z v (sX h1) (sX h2)
theorem JSh{p:Prop}(hc:Core β A w H)(h:JL1 H c=some (p,v,ups))(hp:p)(hv:VRep β A w H c u):
  ∃A',Stp β A w H β A' w (JA H ups)∧VRep β A' w (JA H ups) v u∧∀k,A k→A' k:=by
 have dd:∀{c:Av} {p:Prop} {x:Dat} {us:List (Nat×Obj)},XD H c=some (p,x,us)→p→VRep β A w H c u→∃A',Stp β A w H β A' w (JA H us)∧VRep β A' w (JA H us) (.d x.canon) u∧∀k,A k→A' k:=by
  intro c p x us h hp hv;obtain⟨A',g1,g2,g3⟩:=JBs hc h hp hv;exact⟨A',g1,.d _ _ g2.canon,g3⟩
 have same:∀{c:Av},VRep β A w H c u→∃A',Stp β A w H β A' w (JA H [])∧VRep β A' w (JA H []) c u∧∀k,A k→A' k:=fun hv=>⟨A,Stp.refl hc,hv,fun _ h=>h⟩
 unfold JL1 at h;split at h
 ·cases h;exact⟨A,Stp.refl hc,.d _ _ hv.JU.canon,fun _ h=>h⟩
 ·cases h;exact same hv
 ·cases h;exact same hv
 ·split at h<;>cases h
  exact same hv
 ·split at h
  ·cases h;exact same hv
  ·split at h
   ·rename_i q x us hd;cases h;exact dd hd hp hv
   ·cases h
 ·split at h
  ·cases h;exact same hv
  ·split at h
   ·rename_i q x us hd;cases h;exact dd hd hp hv
   ·cases h
 ·split at h
  ·cases h;exact same hv
  ·split at h
   ·rename_i q x us hd;cases h;exact dd hd hp hv
   ·cases h
 ·rename_i cs;split at h
  ·rename_i q x us hd;cases h;exact dd hd hp hv
  ·simp only[Vd,Ve]at h;obtain⟨rfl,rfl,rfl⟩:=h;cases hv with
   |agg _ arr hl h1 hv=>
    obtain⟨A',s1,l1,r1,m1⟩:=JAh hc hp (us:=arr.toList) (sX hl) (fun i c v h1 h2=>hv i c v h1 (sX h2));exact⟨A',s1,.agg _ _ (sX l1) h1 (fun i c v h1 h2=>r1 i c v h1 (sX h2)),m1⟩
 ·rename_i f fs cs;cases hv with
  |clo _ _ _ a1 a2 h1 h2 hf hv=>
   have key:∀p' (x':Av) u',(Jn H fs).1∧(Jn (JA H (Jn H fs).2.2) cs).1∧u'=(Jn H fs).2.2++(Jn (JA H (Jn H fs).2.2) cs).2.2∧p'∧
     (x'=.clo f (Jn H fs).2.1 (Jn (JA H (Jn H fs).2.2) cs).2.1∨∃a b,YL (Jn H fs).2.1=some a∧YL (Jn (JA H (Jn H fs).2.2) cs).2.1=some b∧x'=.d (.fn f a b))→
     ∃A',Stp β A w H β A' w (JA H u')∧VRep β A' w (JA H u') x' (.func f a1 a2)∧∀k,A k→A' k:=by
    rintro p' x' u' ⟨q1,q2,rfl,_,hx⟩;obtain⟨A1,s1,l1,r1,m1⟩:=JAh hc q1 (us:=a1.toList) (sX h1) (fun i c v e1 e2=>hf i c v e1 (sX e2));obtain⟨A2,s2,l2,r2,m2⟩:=JAh s1.core q2 (us:=a2.toList) (sX h2) (fun i c v e1 e2=>s1.vals _ _ (hv i c v e1 (sX e2)));refine⟨A2,by rw[Ua];exact s1.trans s2,?_,fun k h=>m2 k (m1 k h)⟩;rw[Ua];rcases hx with rfl|⟨a,b,ha,hb,rfl⟩
    ·exact .clo _ _ _ _ _ (sX l1) (sX l2) (fun i c v e1 e2=>s2.vals _ _ (r1 i c v e1 (sX e2))) (fun i c v e1 e2=>r2 i c v e1 (sX e2))
    ·obtain⟨la,ga⟩:=JD1 ha;obtain⟨lb,gb⟩:=JD1 hb;exact .d _ _ (.fn _ _ _ _ _ (by rw[←la];simpa using l1) (by rw[←lb];simpa using l2) (fun i c v e1 e2=>(s2.vals _ _ (r1 i _ v (ga i c e1) (sX e2))).JU) (fun i c v e1 e2=>(r2 i _ v (gb i c e1) (sX e2)).JU))
   split at h;rename_i p1 fs' u1 e1;split at h;rename_i q1 cs' u2 e2;have e1':(Jn H fs).1=p1∧(Jn H fs).2.1=fs'∧(Jn H fs).2.2=u1:=by rw[e1];exact⟨rfl,rfl,rfl⟩
   obtain⟨f1,f2,f3⟩:=e1';rw[←f3]at e2;have e2':(Jn (JA H (Jn H fs).2.2) cs).1=q1∧(Jn (JA H (Jn H fs).2.2) cs).2.1=cs'∧(Jn (JA H (Jn H fs).2.2) cs).2.2=u2:=by rw[e2];exact⟨rfl,rfl,rfl⟩
   obtain⟨g1,g2,g3⟩:=e2';split at h
   ·rename_i a b ha hb;simp only[Vd,Ve]at h;obtain⟨rfl,rfl,rfl⟩:=h;exact key True _ _ ⟨by rw[f1];exact hp.1,by rw[g1];exact hp.2,by rw[g3,f3],trivial,.inr ⟨a,b,by rw[f2];exact ha,by rw[g2];exact hb,rfl⟩⟩
   ·simp only[Vd,Ve]at h;obtain⟨rfl,rfl,rfl⟩:=h;exact key True _ _ ⟨by rw[f1];exact hp.1,by rw[g1];exact hp.2,by rw[g3,f3],trivial,.inl (by rw[f2,g2])⟩
 ·cases h
theorem JSi{p:Prop}(hc:Core β A w H)(h:JL4 k H c=some (p,v,ups))(hp:p)(hv:VRep β A w H c u):
  ∃A',Stp β A w H β A' w (JA H ups)∧VRep β A' w (JA H ups) v u∧∀k,A k→A' k:=by
 rcases k with _|k
 ·have h:JL3 H c=some (p,v,ups):=h;unfold JL3 at h;split at h
  ·rename_i q x us hd;cases h;obtain⟨A',g1,g2,g3⟩:=JBs hc hd hp hv;exact⟨A',g1,.d _ _ g2,g3⟩
  ·cases h
 cases k with
 |false=>exact JSh hc h hp hv
 |true=>
  have h:JL2 c=some (p,v,ups):=h;unfold JL2 at h;split at h
  ·cases h
  ·cases h
  ·cases h
  ·cases h
  ·cases h;exact⟨A,Stp.refl hc,hv,fun _ h=>h⟩
theorem JKf:∀{cs:List Av} {us:List Value} {A:Nat→Prop} {H:Heap} {p:Prop} {vs:List Av} {ups:List (Nat×Obj)},Core β A w H→JDd k H cs=some (p,vs,ups)→p→cs.length=us.length→
  (∀(i:Nat) c v,cs[i]? =some c→us[i]? =some v→VRep β A w H c v)→
  ∃A',Stp β A w H β A' w (JA H ups)∧vs.length=us.length∧(∀(i:Nat) c v,vs[i]? =some c→us[i]? =some v→VRep β A' w (JA H ups) c v)∧∀k,A k→A' k
 |[],us,A,H,p,vs,ups,hc,h,hp,hl,hv=>by
  simp only[JDd,Vd,Ve]at h;obtain⟨_,rfl,rfl⟩:=h;exact⟨A,Stp.refl hc,hl,sP,fun _ h=>h⟩
 |c::cs,[],A,H,p,vs,ups,hc,h,hp,hl,hv=>by simp at hl
 |c::cs,u::us,A,H,p,vs,ups,hc,h,hp,hl,hv=>by
  simp only[JDd]at h;cases e1:JL4 k H c with
  |none=>simp[e1]at h
  |some q=>
   obtain⟨p1,x,u1⟩:=q;simp only[e1]at h;cases e2:JDd k (JA H u1) cs with
   |none=>simp[e2]at h
   |some q2=>
    obtain⟨p2,xs',u2⟩:=q2;simp only[e2,Vd,Ve]at h;obtain⟨rfl,rfl,rfl⟩:=h;obtain⟨A1,s1,r1,m1⟩:=JSi hc e1 hp.1 (hv 0 c u rfl rfl);obtain⟨A2,s2,l2,r2,m2⟩:=JKf s1.core e2 hp.2 (us:=us) (sX hl) (fun i c' v' h1 h2=>s1.vals _ _ (hv (i+1) c' v' (sX h1) (sX h2)));refine⟨A2,by rw[Ua];exact s1.trans s2,by simp[l2],?_,fun k h=>m2 k (m1 k h)⟩;rw[Ua];intro i z v h1 h2;cases i with
    |zero=>simp at h1 h2;rw[←h1,←h2];exact s2.vals _ _ r1
    |succ i=>exact r2 i z v (sX h1) (sX h2)
def JCa(tmps:Array Value):ResultVar→Sem Value
 |.tmp t=>pure (tmps.getD t undef)
 |.cell ad t=>do loadVar t (←asAddr (tmps.getD ad undef))
theorem JKg{N:Nat}(hs:SatB N st a w β A):∀{rvs:List ResultVar} {ris:List RI} {p:Prop} {cs:List Av},Ji (rvs.map (JB1 P))=some ris→outs ris st=some (p,cs)→p→
  ∃us:List Value,(rvs.mapM (JCa a.tmps)).run P w=.ok us w∧cs.length=us.length∧
   ∀(i:Nat) c v,cs[i]? =some c→us[i]? =some v→VRep β A w (get st.hp) c v
 |[],ris,p,cs,h1,h2,hp=>by
  simp only[Vb,Ji,Vd]at h1;subst h1;simp only[outs,Vd,Ve]at h2;obtain⟨_,rfl⟩:=h2;exact⟨[],sP,rfl,sP⟩
 |rv::rvs,ris,p,cs,h1,h2,hp=>by
  simp only[Va]at h1;cases e1:JB1 P rv with
  |none=>simp[e1,Ji]at h1
  |some ri=>
   simp only[e1,Ji]at h1;obtain⟨ris',h3,rfl⟩:=JW h1;have fin:∀(c:Av) (q:Prop) (cs':List Av) (u:Value),outs ris' st=some (q,cs')→q→VRep β A w (get st.hp) c u→
     (JCa a.tmps rv).run P w=.ok u w→cs=c::cs'→
     ∃us:List Value,((rv::rvs).mapM (JCa a.tmps)).run P w=.ok us w∧cs.length=us.length∧
      ∀(i:Nat) c v,cs[i]? =some c→us[i]? =some v→VRep β A w (get st.hp) c v:=by
    intro c q cs' u h2' hq hv hr hcs;subst hcs;obtain⟨us,g1,g2,g3⟩:=JKg hs h3 h2' hq;refine⟨u::us,?_,by simp[g2],?_⟩
    ·rw[List.mapM_cons];simp only[Sem.run_bind,hr,Result.andThen_ok,g1,Sem.run_pure]
    ·intro i c' v' hc' hv';cases i with
     |zero=>simp at hc' hv';rw[←hc',←hv'];exact hv
     |succ i=>exact g3 i c' v' (by simpa using hc') (by simpa using hv')
   cases rv with
   |tmp t=>
    simp only[JB1,Vd]at e1;subst e1;simp only[outs]at h2;split at h2
    ·rename_i c q cs' hc hq;cases h2;obtain⟨u,g1,g2⟩:=hs.tmps t c hc;exact fin c p cs' u hq hp g2 (by simp[JCa,Array.getD_eq_getD_getElem?,g1]) rfl
    ·cases h2
   |cell ad t=>
    obtain⟨n,hn,rfl⟩:=JW (by simpa only[JB1]using e1);simp only[outs]at h2;split at h2
    ·rename_i x q cs' hx hq;cases h2;obtain⟨u,hrun,hv,_⟩:=ld_ok (P:=P) (a:=a) (o:={dst:=none,op:=.load t (.tmp ad),type:=0,pos:= "",after:=#[],guard:=none}) hs.core hs.tmps rfl hn rfl hx hp.1;refine fin x.v q cs' u hq hp.2 hv ?_ rfl;simp only[execOp,Instr.loadAt,Act.eval]at hrun;simp only[JCa];generalize a.tmps.getD ad undef=z at hrun⊢;cases z with
     |pointer ad'=>
      cases ad' with
      |none=>simp[Instr.sureAddr,Sem.run_bind]at hrun
      |some ad'=>
       simp only[Instr.sureAddr,asAddr,Sem.run_bind,Sem.run_pure,Result.andThen_ok]at hrun⊢;generalize(loadVar t ad').run P w=rr at hrun⊢;cases rr with
       |ok u' w'=>simp at hrun;obtain⟨rfl,rfl⟩:=hrun;rfl
       |halt _ _=>simp at hrun
     |_=>simp[Instr.sureAddr,Sem.run_bind]at hrun
    ·cases h2
theorem Av.Zv(c:Av):c.ren id=c:=
 Av.rec (motive_1:=fun c=>c.ren id=c) (motive_2:=fun cs=>J3 id cs=cs) (fun _=>rfl) (fun _ _=>rfl) (fun _ _=>rfl) (fun _ _ _ _=>rfl) (fun _ _ _ _=>rfl)
  (fun cs ih=>by simp only[Av.ren,ih]) (fun cs ih=>by simp only[Av.ren,ih]) (fun f a b iha ihb=>by simp only[Av.ren,iha,ihb]) (fun _=>rfl) (fun _ _=>rfl) rfl rfl (fun _ _=>rfl) rfl (fun c r ihc ihr=>by simp only[J3,ihc,ihr]) c
theorem JKh:∀l:List (Nat×Av),X9 id l=l
 |[]=>rfl
 |(t,c)::r=>by simp only[X9,Av.Zv,JKh r]
theorem JKi(cs:List Av):J3 id cs=cs:=by rw[J7];induction cs with|nil=>rfl|cons c r ih=>simp only[Va,Av.Zv,ih]
theorem Obj.Zv(o:Obj):o.ren id=o:=by
 cases o with
 |box cs=>simp only[Obj.ren,JKi]
 |lp l=>simp only[Obj.ren,JKh]
 |_=>rfl
theorem JHx{H H':Heap}:∀{T:List (Nat×Obj)},JKe H H' T→∀e∈T,H e.1=H' e.1
 |[],_,_,h=>by cases h
 |e::r,hs,e',h=>by
  rcases VA.1 h with rfl|h
  ·exact hs.1
  ·exact JHx hs.2 e' h
theorem JNh{E:Ent}{G1 H2:Heap}{β':JM}{A':Nat→Prop}{w':World}(hs:Since E β' A' w' H2)(hc:Core β' A' w' H2)(hle:∀i o,G1 i=some o→H2 i=some o)(hcl:closed G1)(hdom:∀i,(E.H i).isSome=true→(G1 i).isSome=true):
  Since E β' A' w' G1∧Core β' A' w' G1∧∀c u,inT G1 c→VRep β' A' w' H2 c u→VRep β' A' w' G1 c u:=by
 have hun:Y1 id G1 H2:=fun i o hi=>by rw[Obj.Zv];exact hle i o hi
 have cut:∀c u,inT G1 c→VRep β' A' w' H2 c u→VRep β' A' w' G1 c u:=fun c u hin hvr=>VRep.Xv (ρ:=id) (β:=β') hun hvr c (Av.Zv c).symm hin
 refine⟨⟨hs.os,hs.tape,hs.output,hs.size,hs.same,hs.loops,hs.data,fun i o b hi hl hb=>hs.mine i o b (hle i o hi) hl hb,?_⟩,Core.Xv (ρ:=id) (β:=β') hc hun (fun _ _ _ _ h=>h) hcl,cut⟩;intro c u hb hvr;refine cut c u ?_ (hs.vals c u hb hvr);cases hvr with
 |d _ _ _=>trivial
 |ref _ _ _ _ _ _ h0 _ _=>exact hdom _ h0
 |ms _ _ _ _ h0 _ _=>exact hdom _ h0
 |sub _ _ _ _ _ _ h0 _ _=>exact hdom _ h0
 |el _ _ _ _ _ _ _ _ h0 _=>exact hdom _ h0
 |mp _ _ _ h0 _ _ _=>exact hdom _ h0
 |tr _ _ _ _ h0 _ _=>exact hdom _ h0
 |_=>exact hb.elim
theorem Core.nobody(hc:Core β A w H){r:Nat}{o':Go.Obj}(hA:¬A r)(hn:∀i o,H i=some o→o.live=true→¬(β i).has r):
  Core β A (w.putObj r o') H∧∀c u,VRep β A w H c u→VRep β A (w.putObj r o') H c u:=by
 have hsA:XG A w (w.putObj r o'):=fun b hb=>World.putObj_heap_other (fun e=>hA (e▸hb))
 have hoth:∀j o b,H j=some o→o.live=true→(β j).has b→(w.putObj r o').heap[b]? =w.heap[b]? :=fun j o b h1 h2 h3=>World.putObj_heap_other (fun e=>hn j o h1 h2 (e▸h3))
 have hd:∀x u,Rep A w x u→Rep A (w.putObj r o') x u:=fun x u h=>h.mono hsA fun _ h=>h
 have hall:∀c u,VRep β A w H c u→VRep β A (w.putObj r o') H c u:=by
  refine VRep.JCQ hd ?_ ?_ ?_ ?_ ?_ ?_
  ·intro i off u h;cases h with|ref _ _ b p _ hu h0 h1 h2=>exact .ref _ _ b p _ hu h0 h1 fun ds hds=>hd _ _ (h2 ds hds)
  ·intro i ver u h;cases h with
   |ms _ _ _ hu h0 h1 h2=>
    refine .ms _ _ _ hu h0 ?_ fun sz xs hds=>hd _ _ (h2 sz xs hds)
    intro v' sz xs hr;obtain⟨hle,hx⟩:=h1 v' sz xs hr;refine⟨hle,fun hve=>?_⟩;rcases hx hve with⟨e1,e2⟩|⟨b,C,T,fz,cap,e1,e2,e3⟩
    ·exact .inl ⟨e1,e2⟩
    ·exact .inr ⟨b,C,T,fz,cap,e1,by rw[hoth i _ b hr rfl (by rw[e1];exact BK.Jo.2 rfl)];exact e2,e3⟩
  ·intro i ver off len u h;cases h with
   |sub _ _ _ _ _ hu h0 h1 h2=>
    refine .sub _ _ _ _ _ hu h0 ?_ fun sz xs hds=>hd _ _ (h2 sz xs hds)
    intro v' sz xs hr;obtain⟨hle,hx⟩:=h1 v' sz xs hr;refine⟨hle,fun hve=>?_⟩;obtain⟨g,⟨e1,e2⟩|⟨b,C,T,fz,cap,ad,e1,e2,e3⟩⟩:=hx hve
    ·exact⟨g,.inl ⟨e1,e2⟩⟩
    ·exact⟨g,.inr ⟨b,C,T,fz,cap,ad,e1,by rw[hoth i _ b hr rfl (by rw[e1];exact BK.Jo.2 rfl)];exact e2,e3⟩⟩
  ·intro i ver k off u h;cases h with|el _ _ _ _ b p _ hu h0 h1=>exact .el _ _ _ _ b p _ hu h0 h1
  ·intro i u h;cases h with|mp _ _ hu h0 h1 h2 h3=>exact .mp _ _ hu h0 h1 h2 h3
  ·intro i h u hv;cases hv with
   |tr _ _ _ hu h0 hk h1=>
    refine .tr _ _ _ hu h0 hk fun v' s' sz xs hr=>?_
    obtain⟨l1,l2,h2⟩:=h1 v' s' sz xs hr;exact⟨l1,l2,fun g1 g2=>(h2 g1 g2).mono (hc.objs _ _ hr) rfl fun b hb=>hoth i _ b hr rfl hb⟩
 exact⟨⟨fun i o h=>(hc.objs i o h).mono hall hsA (fun _ h=>h) rfl fun b hb hl=>hoth i o b h hl hb,hc.inj,hc.sep,fun b hb=>by simpa using hc.old b hb,fun g cs hg=>(hc.glob g cs hg).mono hsA fun _ h=>h⟩,hall⟩
theorem JC9{E:Ent}{N:Nat}{n:Nat}{fn:Func}{R:Ending→World→Prop}:∀(ms:List Nat) (a:Act) (w:World),ms.Nodup→a.defers=ms.map (fun r=>{target:=.collected r,args:=#[]})→
  (∀r∈ms,E.w.heap.size≤r∧w.heap[r]? =some (.deferred (some []))∧¬A r∧∀i o,get st.hp i=some o→o.live=true→¬(β i).has r)→Since E β A w (get st.hp)→SatB N st a w β A→
  (∀w',Since E β A w' (get st.hp)→SatB N st {a with defers:=[]} w' β A→∃v,(results fn a.tmps).run P w'=.ok v w'∧R (.returned v) w')→LeavesInM Fence.wide n P fn a.tmps R a.defers .returning w
 |[],a,w,_,hd,_,hs,hb,hk=>by
  rw[hd];simp only[Vb,LeavesInM,LeavesIn];exact hk w hs ⟨hb.core,hb.tmps,hb.size⟩
 |r::ms,a,w,hnd,hd,hm,hs,hb,hk=>by
  rw[hd];simp only[Va,LeavesInM];refine⟨sP,.inl ⟨r,_,rfl,run_takeDeferred (hm r Vh).2.1,?_⟩⟩;obtain⟨g1,g2,g3,g4⟩:=hm r Vh;obtain⟨c1,v1⟩:=hb.core.nobody (o':=.deferred none) g3 g4;have hnd':=List.nodup_cons.1 hnd;have hs':Since E β A (w.putObj r (.deferred none)) (get st.hp):=by
   refine⟨hs.os,hs.tape,hs.output,by simpa using hs.size,?_,?_,hs.data,hs.mine,fun c u hbs hv=>v1 _ _ (hs.vals c u hbs hv)⟩
   ·intro b hlt hn;rw[World.putObj_heap_other oM];exact hs.same b hlt hn
   ·intro b l hl;obtain⟨l',h'⟩:=hs.loops b l hl;refine⟨l',?_⟩;rw[World.putObj_heap_other]
    ·exact h'
    ·intro e;subst e;rw[g2]at h';cases h'
  have:=JC9 (n:=n) (fn:=fn) (R:=R) (E:=E) (N:=N) ms {a with defers:=ms.map (fun r=>{target:=.collected r,args:=#[]})} (w.putObj r (.deferred none)) hnd'.2 rfl ?_ hs' ⟨c1,fun t v ht=>by obtain⟨u,q1,q2⟩:=hb.tmps t v ht;exact⟨u,q1,v1 _ _ q2⟩,hb.size⟩ hk
  ·exact this
  ·intro r' hr';obtain⟨q1,q2,q3,q4⟩:=hm r' (Vn _ hr');refine⟨q1,?_,q3,q4⟩;rw[World.putObj_heap_other (by intro e;subst e;exact hnd'.1 hr')];exact q2
theorem Con.JAu{f:Nat}{fn:Func}{code:Code}{ic:Ic}{ris:List RI}{args:List Av}{T:List (Nat×Obj)}(hf:P.funcs[f]? =some fn)(hb:fn.body=some code)
  (hname:(fn.name== "runtime.NumGoroutine")=false)(htr:Jj P fn.ntmps code=some (strip ic))(hres:Ji (fn.results.toList.map (JB1 P))=some ris)(hn:args.length≤fn.ntmps)
  (hcl:closed (JA (get T) ups))(hv:inT (JA (get T) ups) v)
  (hw:wpc P D0 ic (JEJ k ris T v ups) ⟨enum 0 args,T⟩):Con P f args T v ups:=by
 refine⟨⟨fn,hf,by rw[hb];rfl,hname⟩,?_⟩;intro β A w vs hc hvs;have hsize:args.length=vs.size:=hvs.1;refine callsIn_wide (n:=0) |>.1 (callsIn_of_wp_marks hf hb trivial ?_);have hsat:Sat ⟨β,A,w,get T,D0,none⟩ fn.ntmps ⟨enum 0 args,T⟩ {tmps:=vs++Array.replicate (fn.ntmps-vs.size) undef,defers:=[]} w β A:=by
  refine⟨hc,?_,sO,⟨rfl,rfl,rfl,Nat.le_refl _,fun _ _ _=>rfl,fun _ r h=>⟨r,h⟩,fun _ h=>.inl h,fun i o b h1 h2 h3=>.inr ⟨i,o,h1,h2,h3⟩,fun _ _ _ h=>h⟩,⟨[],sP,rfl,sP⟩,sP⟩;intro t c ht;simp only[JHw,Nat.zero_le,if_true,Nat.sub_zero]at ht;have hlt:t<args.length:=(VB.1 ht).1;have hvt:vs[t]? =some (vs[t]'oM):=by simp[show t<vs.size by omega]
  exact⟨vs[t]'oM,by rw[Array.getElem?_append_left oM];exact hvt,hvs.2 t c _ ht hvt⟩
 refine wpIn_mono (JGe (E:=⟨β,A,w,get T,D0,none⟩) ic code _ _ _ w β A htr hw hsat) ?_;rintro e a' w' ⟨st,β',A',⟨he,hq⟩,hs⟩;have main:∀w',Since ⟨β,A,w,get T,D0,none⟩ β' A' w' (get st.hp)→SatB fn.ntmps st {a' with defers:=[]} w' β' A'→
   ∃u,(results fn a'.tmps).run P w'=.ok u w'∧∃u' β' A',Ending.returned u=.returned u'∧Since ⟨β,A,w,get T,D0,none⟩ β' A' w' (JA (get T) ups)∧Core β' A' w' (JA (get T) ups)∧VRep β' A' w' (JA (get T) ups) v u':=by
  intro w' hsince hsb;split at hq
  case h_2=>exact hq.elim
  rename_i p cs ho;obtain⟨hp,hq⟩:=hq;split at hq
  case h_2=>exact hq.elim
  rename_i q rs u0 hfi;obtain⟨hq',hret,hsame⟩:=hq;obtain⟨us,hrun,hlen,hval⟩:=JKg (P:=P) hsb hres ho hp;obtain⟨A2,st2,hlen2,hval2,_⟩:=JKf hsb.core hfi hq' hlen hval;have hsame':=JHx hsame;have hle:∀i o,JA (get T) ups i=some o→JA (get st.hp) u0 i=some o:=by
   intro i o hi;rcases JBN ups (get T) i (by rw[hi];rfl)with h|⟨e,he,rfl⟩
   ·obtain⟨o',ho'⟩:=Option.isSome_iff_exists.1 h;rw[hsame' (i,o') (List.mem_append_left _ (get_mem T i o' ho')),hi]
   ·rw[hsame' e (List.mem_append_right _ he),hi]
  obtain⟨c1,c2,cut⟩:=JNh (hsince.trans st2) st2.core hle hcl (fun i hi=>Ui ups _ i hi);refine⟨if h:us.toArray.size=1 then us.toArray[0]else .tuple us.toArray,?_,_,β',A2,rfl,c1,c2,?_⟩
  ·have e:results fn a'.tmps=(do let vs ←fn.results.mapM (JCa a'.tmps);pure (if h:vs.size=1 then vs[0]else .tuple vs)):=by
    unfold results;congr 1
   rw[e,Array.mapM_eq_mapM_toList];simp only[Sem.run_bind,Sem.run_map,hrun,Sem.run_pure,Result.andThen_ok]
  ·
   have tup:∀cs',v=.tup cs'→rs=cs'→us.toArray.size≠1→VRep β' A2 w' (JA (get T) ups) v (if h:us.toArray.size=1 then us.toArray[0]else .tuple us.toArray):=by
    intro cs' hv' hrs hne;subst hv' hrs;rw[dif_neg hne];refine .tup _ _ (sX hlen2) ?_;intro i c z hi hz;exact cut c z (UJ hv i c hi) (hval2 i c z hi (sX hz))
   match rs,hret,hlen2,hval2,tup with
   |[c],hret,hlen2,hval2,_=>
    have e:c=v:=hret;subst e;have h1:us.toArray.size=1:=sX hlen2.symm;rw[dif_pos h1];have h0:us[0]? =some us.toArray[0]:=by simp[show 0<us.length by simpa using Nat.lt_of_lt_of_eq Nat.zero_lt_one h1.symm]
    exact cut c _ hv (hval2 0 c _ rfl h0)
   |[],hret,hlen2,hval2,tup=>exact tup [] hret.symm rfl (by simp at hlen2⊢;omega)
   |c1::c2::r,hret,hlen2,hval2,tup=>exact tup _ hret.symm rfl (by simp at hlen2⊢;omega)
 obtain⟨ms,m0,m1,m2⟩:=hs.marks;have hl:=JC9 (P:=P) (n:=0) (fn:=fn) (E:=⟨β,A,w,get T,D0,none⟩) (N:=fn.ntmps) (R:=fun e w'=>∃u β' A',e=.returned u∧
  Since ⟨β,A,w,get T,D0,none⟩ β' A' w' (JA (get T) ups)∧Core β' A' w' (JA (get T) ups)∧VRep β' A' w' (JA (get T) ups) v u) ms a' w' m0 m1 m2 hs.since hs.b main
 rcases he with rfl|rfl
 ·exact hl
 ·exact hl
def YA(e:Exit)(l:Lp):Option (Av×Lp):=match e with
 |.normal=>some (.d (.bool true),{l with s:=.ready,j:=none})
 |.ret=>some (.d (.bool false),{l with s:=.done,j:=some .ret})
 |.exit id=>some (.d (.bool false),{l with s:=.done,j:=some (.exit id)})
 |_=>none
def Zf:List (Nat×Av)→List Nat→List Av→List (Nat×Av)
 |l,p::ps,c::cs=>Zf (put l p c) ps cs
 |l,_,_=>l
def JCb(lid:Nat)(T:List (Nat×Obj))(D:Nat→Prop)(v:Av)(ups:List (Nat×Obj))(e:Exit)(s:St):Prop:=
 ∃l l',get s.hp lid=some (.lp l)∧YA e l=some (v,l')∧∃s',Wk D ⟨[],put s.hp lid (.lp l')⟩ s'∧∀i o,JA (get T) ups i=some o→get s'.hp i=some o
theorem JEK:∀(ps:List Nat) (cs:List Av) (us:List Value) (l:List (Nat×Av)) (tmps:Array Value),ps.length=cs.length→cs.length=us.length→(∀p∈ps,p<tmps.size)→
  (∀t v,get l t=some v→∃u,tmps[t]? =some u∧VRep β A w H v u)→(∀(i:Nat) c v,cs[i]? =some c→us[i]? =some v→VRep β A w H c v)→
  ((ps.zip us).foldl (fun(tmps:Array Value) x=>tmps.setIfInBounds x.1 x.2) tmps).size=tmps.size∧
   ∀t v,get (Zf l ps cs) t=some v→∃u,((ps.zip us).foldl (fun(tmps:Array Value) x=>tmps.setIfInBounds x.1 x.2) tmps)[t]? =some u∧VRep β A w H v u
 |[],[],us,l,tmps,_,_,_,hl,_=>⟨rfl,hl⟩
 |p::ps,c::cs,u::us,l,tmps,h1,h2,hb,hl,hv=>by
  simp only[List.zip_cons_cons,List.foldl_cons,Zf];obtain⟨g1,g2⟩:=JEK ps cs us (put l p c) (tmps.setIfInBounds p u) (sX h1) (sX h2) (fun q hq=>by simpa using hb q (Vn _ hq)) (by
   intro t v ht;rw[UF]at ht;split at ht
   ·rename_i e;subst e;cases ht;exact⟨u,by simp[hb _ Vh],hv 0 _ _ rfl rfl⟩
   ·rename_i e;obtain⟨u',q1,q2⟩:=hl t v ht;exact⟨u',by rw[Array.getElem?_setIfInBounds,if_neg (fun h=>e h.symm)];exact q1,q2⟩) (fun i c v q1 q2=>hv (i+1) c v (sX q1) (sX q2))
  exact⟨by rw[g1];simp,g2⟩
 |[],_::_,_,_,_,h,_,_,_,_=>by simp at h
 |_::_,[],_,_,_,h,_,_,_,_=>by simp at h
 |_::_,_::_,[],_,_,_,h,_,_,_=>by simp at h
theorem JFN.JAu{lid:Nat}{l:Lp}{asg body:Ic}{args:List Av}{T:List (Nat×Obj)}(hl:get T lid=some (.lp l))(hrd:l.s=.ready)(h1:Jj P l.N l.asg=some (strip asg))
  (h2:Jj P l.N l.body=some (strip body))(hps:args.length=l.ps.size)(hpb:∀p∈l.ps.toList,p<l.N)(hcl:closed (JA (get T) ups))
  (hw:wpc P (fun i=>(get T i).isSome=true) asg (fun e s=>e=.normal∧∃l',get s.hp lid=some (.lp l')∧l'.s=.ready∧
   wpc P (fun i=>(get T i).isSome=true) body (JCb lid T (fun i=>(get T i).isSome=true) v ups) ⟨s.tm,put s.hp lid (.lp {l' with s:=.busy})⟩) ⟨Zf l.tm l.ps.toList args,T⟩):JFN P lid args T v ups:=by
 intro β A w l0 vs hc hβ hvs;obtain⟨b,r,e1,e2,e3,e4,e6,e7,e8,e9,e10⟩:=hc.objs lid _ hl;rw[hβ]at e1;cases e1;have hsz:vs.size=r.params.size:=by rw[e6,←hps];exact hvs.1.symm
 refine⟨r.fn,_,r.assign,r.body,run_yield e2 hsz,roundIn_of_wpIn trivial ?_⟩;generalize hD:(fun i=>(get T i).isSome=true)=D at hw
 let E:Ent:=⟨β,A,w,get T,D,some l0⟩
 have hfold:(r.params.zip vs).foldl (fun(tmps:Array Value) (x:Nat×Value)=>tmps.setIfInBounds x.1 x.2) r.tmps=(l.ps.toList.zip vs.toList).foldl (fun(tmps:Array Value) x=>tmps.setIfInBounds x.1 x.2) r.tmps:=by
  rw[←Array.foldl_toList,Array.toList_zip,e6]
 have hpa:=JEK (β:=β) (A:=A) (w:=w) (H:=get T) l.ps.toList args vs.toList l.tm r.tmps (sX hps.symm) (sX hvs.1) (fun p hp=>by rw[e9];exact hpb p hp) e10 (fun i c u q1 q2=>hvs.2 i c u q1 (sX q2));have hy0:VRep β A w (get T) (.mp lid) (.func (.yield l0) #[] #[]):=.mp _ _ rfl (by rw[hl];rfl) (by rw[hl];intro _ h;cases h) (fun _ _=>⟨l0,hβ,rfl⟩) (by rw[hl];intro _ _ h;cases h);have hDl:D lid:=by rw[←hD];show(get T lid).isSome=true;rw[hl];rfl
 have hlid:∀{β':JM} {A':Nat→Prop} {w':World} {H':Heap} {l2:Lp},Since E β' A' w' H'→H' lid=some (.lp l2)→β' lid=some l0:=by
  intro β' A' w' H' l2 hs hl2;cases hs.vals (.mp lid) _ hDl hy0 with
  |mp _ _ _ _ _ g2 _=>
   obtain⟨b,q1,q2⟩:=g2 _ hl2;cases q2;exact q1
 have hsat:Sat E l.N ⟨Zf l.tm l.ps.toList args,T⟩ {tmps:=(r.params.zip vs).foldl (fun tmps (t,a)=>tmps.setIfInBounds t a) r.tmps,defers:=[]} w β A:=by
  refine⟨hc,?_,?_,⟨rfl,rfl,rfl,Nat.le_refl _,fun _ _ _=>rfl,fun _ r h=>⟨r,h⟩,fun _ h=>.inl h,fun i o b h1 h2 h3=>.inr ⟨i,o,h1,h2,h3⟩,fun _ _ _ h=>h⟩,⟨[],sP,rfl,sP⟩,?_⟩
  ·intro t c ht;show∃u,((r.params.zip vs).foldl (fun(tmps:Array Value) (x:Nat×Value)=>tmps.setIfInBounds x.1 x.2) r.tmps)[t]? =some u∧_;rw[hfold];exact hpa.2 t c ht
  ·show((r.params.zip vs).foldl (fun(tmps:Array Value) (x:Nat×Value)=>tmps.setIfInBounds x.1 x.2) r.tmps).size=_;rw[hfold,hpa.1,e9]
  ·intro l' hl';cases hl';exact⟨r,e2⟩
 refine wpIn_mono (JGe (E:=E) (n:=0) asg r.assign _ _ _ w β A (by rw[e7];exact h1) hw hsat) ?_;rintro e a1 w1 ⟨s,β1,A1,⟨rfl,l',g1,g2,g5⟩,hs1⟩;obtain⟨b,r1,q1,q2,q3,q4,q6,q7,q8,q9,q10⟩:=hs1.core.objs lid _ g1;have hb1:=hlid hs1.since g1;rw[hb1]at q1;cases q1;have hlt1:l0<w1.heap.size:=(Array.getElem?_eq_some_iff.1 q2).1;refine⟨w1.putObj l0 (.loop {r1 with state:=.busy}),run_beginRound q2 (by rw[q3,g2]),?_⟩;have hst1:=Stp.lpSet (r:={r1 with state:=.busy}) (l':={l' with s:=.busy}) hs1.core g1 hb1 hlt1 ⟨rfl,q4,q6,q7,q8,q9⟩ q10;have hput:∀(l2:Lp) (hp:List (Nat×Obj)),upd (get hp) lid (some (.lp l2))=get (put hp lid (.lp l2)):=fun l2 hp=>funext fun j=>by rw[UF];rfl
 rw[hput]at hst1;have hs2:Sat E l.N ⟨s.tm,put s.hp lid (.lp {l' with s:=.busy})⟩ a1 (w1.putObj l0 (.loop {r1 with state:=.busy})) β1 A1:=
  hs1.step hst1 ⟨hst1.core,fun t v ht=>by obtain⟨u,p1,p2⟩:=hs1.tmps t v ht;exact⟨u,p1,hst1.vals _ _ p2⟩,hs1.size⟩ rfl
 refine wpIn_mono (JGe (E:=E) (n:=0) body r.body _ _ _ _ β1 A1 (by rw[e8];exact h2) g5 hs2) ?_;rintro e a2 w2 ⟨s2,β2,A2,⟨l2,l3,k1,k2,s3,hwk,hsame⟩,hs3⟩;obtain⟨b,r2,p1,p2,p3,p4,p6,p7,p8,p9,p10⟩:=hs3.core.objs lid _ k1;have hb2:=hlid hs3.since k1;rw[hb2]at p1;cases p1;have hlt2:l0<w2.heap.size:=(Array.getElem?_eq_some_iff.1 p2).1;have fin:∀(jump:Option Code),v=.d (.bool jump.isNone)→l3={l2 with s:=if jump.isNone then .ready else .done,j:=jump}→
   ∃v' w',(Instr.endRound l0 jump).run P w2=.ok v' w'∧∃u,Ending.returned v'=.returned u∧∃β' A',Since ⟨β,A,w,get T,D,some l0⟩ β' A' w' (JA (get T) ups)∧Core β' A' w' (JA (get T) ups)∧VRep β' A' w' (JA (get T) ups) v u:=by
  intro jump hv hl3;subst hl3;refine⟨_,_,run_endRound jump p2,_,rfl,?_⟩;have hst2:=Stp.lpSet (r:={r2 with state:=if jump.isNone then .ready else .done,pending:=jump}) (l':={l2 with s:=if jump.isNone then .ready else .done,j:=jump}) hs3.core k1 hb2 hlt2 ⟨rfl,rfl,p6,p7,p8,p9⟩ p10;rw[hput]at hst2;have hs4:Sat E l.N ⟨[],put s2.hp lid (.lp {l2 with s:=if jump.isNone then .ready else .done,j:=jump})⟩ a2 (w2.putObj l0 (.loop {r2 with state:=if jump.isNone then .ready else .done,pending:=jump})) β2 A2:=
   hs3.step (st':=⟨[],_⟩) hst2 ⟨hst2.core,(fun t v ht=>by cases ht),hs3.size⟩ rfl
  obtain⟨β3,A3,hs5⟩:=hs4.wk hwk;obtain⟨c1,c2,_⟩:=JNh hs5.since hs5.core hsame hcl (fun i hi=>Ui ups _ i hi);exact⟨β3,A3,c1,c2,by rw[hv];exact .d _ _ (.bool _)⟩
 cases e with
 |normal=>simp only[YA,Vd,Ve]at k2;exact fin none k2.1.symm k2.2.symm
 |ret=>simp only[YA,Vd,Ve]at k2;exact fin (some .ret) k2.1.symm k2.2.symm
 |exit id=>simp only[YA,Vd,Ve]at k2;exact fin (some (.exit id)) k2.1.symm k2.2.symm
 |_=>simp[YA]at k2
end
end Av
namespace Av
open Go
variable [Glb][Rls]
variable {f N:Nat}{ic:Ic}{ris:List RI}{v:Av}
structure FnOk(P:Program)(f N:Nat)(ic:Ic)(ris:List RI):Prop where
 ex:∃fn code,P.funcs[f]? =some fn∧fn.body=some code∧(fn.name== "runtime.NumGoroutine")=false∧fn.ntmps=N∧Jj P N code=some (strip ic)∧Ji (fn.results.toList.map (JB1 P))=some ris
theorem FnOk.of{P:Program}{fn:Func}(hf:P.funcs[f]? =some fn)(hname:(fn.name== "runtime.NumGoroutine")=false)(hn:fn.ntmps=N)
  (htr:(fn.body.bind (Jj P N))=some (strip ic))(hres:Ji (fn.results.toList.map (JB1 P))=some ris):FnOk P f N ic ris:=by
 cases hb:fn.body with
 |none=>rw[hb]at htr;cases htr
 |some code=>rw[hb]at htr;exact⟨fn,code,hf,hb,hname,hn,htr,hres⟩
def ZD:Code→List Nat→Code
 |c,[]=>c
 |.seq a _,0::r=>ZD a r
 |.seq _ b,_::r=>ZD b r
 |.cond _ a _,0::r=>ZD a r
 |.cond _ _ b,_::r=>ZD b r
 |.block _ b,_::r=>ZD b r
 |.scope b,_::r=>ZD b r
 |.loop b,_::r=>ZD b r
 |.rangeFunc _ _ a _,0::r=>ZD a r
 |.rangeFunc _ _ _ b,_::r=>ZD b r
 |c,_=>c
def YO(fn:Func):Code:=fn.body.getD .skip
abbrev Jz(P:Program)(f:Nat)(args:List Dat)(v:Av):Prop:=Con P f (args.map .d) [] v []
theorem FnOk.con{k:Option Bool}{P:Program}(h:FnOk P f N ic ris){args:List Av}{T:List (Nat×Obj)}{ups:List (Nat×Obj)}(hn:args.length≤N)
  (hcl:closed (JA (get T) ups))(hv:inT (JA (get T) ups) v)(hw:wpc P D0 ic (JEJ k ris T v ups) ⟨enum 0 args,T⟩):Con P f args T v ups:=by
 obtain⟨fn,code,h1,h2,h3,h4,h5,h6⟩:=h.ex;subst h4;exact Con.JAu h1 h2 h3 h5 h6 hn hcl hv hw
theorem FnOk.pcon{P:Program}(h:FnOk P f N ic ris){args:List Dat}(hn:args.length≤N)(hv:JFM (get []) v)
  (hw:wpc P D0 ic (Ends ris [] v []) ⟨enum 0 (args.map .d),[]⟩):Jz P f args v:=
 h.con (sX hn) (by intro i o h;cases h) hv hw
def J5:Av→Prop
 |.d _=>True
 |.tup cs=>∀c∈cs,∃x,c=.d x
 |_=>False
theorem Jz.call{P:Program}{args:List Dat}(h:Jz P f args v)(hv:J5 v):JC P f (args.map .d) [] v []:=by
 have hin:inT (get []) v:=by
  cases v with
  |d x=>trivial
  |tup cs=>
   show JR _ cs;have hv':∀c∈cs,∃x,c=.d x:=hv;clear hv h
   induction cs with
   |nil=>trivial
   |cons c r ih=>
    obtain⟨x,rfl⟩:=hv' c Vh;exact⟨trivial,ih fun c hc=>hv' c (Vn _ hc)⟩
  |_=>exact hv.elim
 have:=Con.call h id (by intro i h;cases h) (by intro i j h;cases h) (by intro c hc;obtain⟨x,_,rfl⟩:=VC.1 hc;trivial) (by intro i o h;cases h) [] sP (by intro i o h;cases h) hin;have e1:(args.map Av.d).map (Av.ren id)=args.map .d:=by simp[Av.ren]
 rw[e1,Av.Zv]at this;exact this
theorem VRep.canon{β:JM}{A:Nat→Prop}{w:World}{H:Heap}{x:Dat}{u:Value}(h:VRep β A w H (.d x) u):VRep β A w H (.d x.canon) u:=.d _ _ h.JU.canon
def Av.canon:Av→Av
 |.d x=>.d x.canon
 |v=>v
theorem VRep.JKN{β:JM}{A:Nat→Prop}{w:World}{H:Heap}{c:Av}{u:Value}(h:VRep β A w H c u):VRep β A w H c.canon u:=by
 cases c with
 |d x=>exact VRep.canon h
 |_=>exact h
theorem JC.canon{P:Program}{f:Cee}{args:List Av}{T:List (Nat×Option Obj)}{ups:List (Nat×Obj)}(h:JC P f (args.map Av.canon) T v ups):JC P f args T v ups:=by
 refine fun β A w H vs hT hc hvs=>h β A w H vs hT hc ⟨by simpa using hvs.1,?_⟩
 intro i c u hi hu;rw[Vo]at hi;cases e:args[i]? with
 |none=>simp[e]at hi
 |some c0=>simp only[e,Vj,Vd]at hi;subst hi;exact(hvs.2 i c0 u e hu).JKN
end Av
namespace Av
open Go
variable [Glb][Rls]
section
variable {P:Program}{D:Nat→Prop}{Q:Exit→St→Prop}{st:St}
@[congr] theorem wpc_congr{b:Ic}{st':St}(h:st=st'):wpc P D b Q st=wpc P D b Q st':=by rw[h]
@[congr] theorem wps_congr{s:Ss}{K:St→Prop}{st':St}(h:st=st'):wps P s K st=wps P s K st':=by rw[h]
theorem JSj(K:St→Prop):wps P .nil K st=K st:=rfl
theorem wps_op(d:Option Nat)(o:IOp)(r:Ss)(K:St→Prop):wps P (.op d o r) K st=match step (get st.tm) (get st.hp) (d.getD 0) o with
  |some x=>x.c∧wps P r K (st.app d x.v x.ups)
  |none=>False:=rfl
def scQ(P:Program)(x b:Bool)(body:Ss)(y:Opd)(d:Nat)(r:Ss)(K:St→Prop)(st:St):Prop:=
 ∃(yv:Bool) (hp:List (Nat×Obj)),(x=b→wps P body (fun st'=>val (get st'.tm) y=some (.d (.bool yv))∧st'.hp=hp) st)∧(x≠b→hp=st.hp)∧
    wps P r K ⟨put (Un st.tm body.J1) d (.d (.bool (if b then x&&yv else x||yv))),hp⟩
theorem wps_sc(c:Nat)(b:Bool)(body:Ss)(y:Opd)(d:Nat)(r:Ss)(K:St→Prop):wps P (.sc c b body y d r) K st=match get st.tm c with
  |some (.d (.bool x))=>scQ P x b body y d r K st
  |_=>False:=rfl
theorem JBO:∀(s:Ss) (K:St→Prop) (st:St),wps P s K st→∃st',K st'∧wps P s (fun s=>s=st') st
 |.nil,K,st,h=>⟨st,h,rfl⟩
 |.op d o r,K,st,h=>by
  simp only[wps]at h⊢;split at h
  ·obtain⟨st',h1,h2⟩:=JBO r K _ h.2;exact⟨st',h1,h.1,h2⟩
  ·exact h.elim
 |.call d f args r,K,st,h=>by
  simp only[wps]at h⊢;split at h
  ·obtain⟨T,v,ups,hp,h1,h2,h3,h4⟩:=h;obtain⟨st',g1,g2⟩:=JBO r K _ h4;exact⟨st',g1,T,v,ups,hp,h1,h2,h3,g2⟩
  ·exact h.elim
 |.sc c b body y d r,K,st,h=>by
  simp only[wps]at h⊢;split at h
  ·obtain⟨yv,hp,h1,h2,h3⟩:=h;obtain⟨st',g1,g2⟩:=JBO r K _ h3;exact⟨st',g1,yv,hp,h1,h2,g2⟩
  ·exact h.elim
theorem JKj{K K':St→Prop}(hK:∀s,K s→K' s)(s:Ss)(st:St)(h:wps P s K st):wps P s K' st:=by
 obtain⟨st',h1,h2⟩:=JBO s K st h;have main:∀(s:Ss) (st:St),wps P s (fun s=>s=st') st→wps P s K' st:=by
  intro s
  induction s with
  |nil=>intro st h;have h:st=st':=h;subst h;exact hK _ h1
  |op d o r ih=>
   intro st h;simp only[wps]at h⊢;split at h
   ·exact⟨h.1,ih _ h.2⟩
   ·exact h.elim
  |call d f args r ih=>
   intro st h;simp only[wps]at h⊢;split at h
   ·obtain⟨T,v,ups,hp,h1,h2,h3,h4⟩:=h;exact⟨T,v,ups,hp,h1,h2,h3,ih _ h4⟩
   ·exact h.elim
  |sc c b body y d r ihb ihr=>
   intro st h;simp only[wps]at h⊢;split at h
   ·obtain⟨yv,hp,h1,h2,h3⟩:=h;exact⟨yv,hp,h1,h2,ihr _ h3⟩
   ·exact h.elim
 exact main s st h2
theorem J9{x b:Bool}{body:Ss}{y:Opd}{d:Nat}{r:Ss}{K:St→Prop}(yv:Bool)(h1:x=b→wps P body (fun st'=>val (get st'.tm) y=some (.d (.bool yv))∧st'.hp=st.hp) st)
  (h2:wps P r K ⟨put (Un st.tm body.J1) d (.d (.bool (if b then x&&yv else x||yv))),st.hp⟩):scQ P x b body y d r K st:=⟨yv,st.hp,h1,fun _=>rfl,h2⟩
theorem JHy(b:Bool)(body:Ss)(y:Opd)(d:Nat)(r:Ss)(K:St→Prop):scQ P (!b) b body y d r K st=wps P r K ⟨put (Un st.tm body.J1) d (.d (.bool (!b))),st.hp⟩:=by
 refine propext ⟨?_,fun h=>⟨false,st.hp,(by cases b<;>simp),fun _=>rfl,by cases b<;>exact h⟩⟩;rintro⟨yv,hp,_,h2,h3⟩;rw[h2 (by cases b<;>simp)]at h3;cases b<;>exact h3
theorem scQ_ft(body:Ss)(y:Opd)(d:Nat)(r:Ss)(K:St→Prop):scQ P false true body y d r K st=wps P r K ⟨put (Un st.tm body.J1) d (.d (.bool false)),st.hp⟩:=JHy true body y d r K
theorem scQ_tf(body:Ss)(y:Opd)(d:Nat)(r:Ss)(K:St→Prop):scQ P true false body y d r K st=wps P r K ⟨put (Un st.tm body.J1) d (.d (.bool true)),st.hp⟩:=JHy false body y d r K
def scR(P:Program)(y:Opd)(ds:List Nat)(d:Nat)(r:Ss)(K:St→Prop)(tm:List (Nat×Av))(st':St):Prop:=match val (get st'.tm) y with
 |some (.d (.bool yv))=>wps P r K ⟨put (Un tm ds) d (.d (.bool yv)),st'.hp⟩
 |_=>False
theorem JKk(b:Bool)(body:Ss)(y:Opd)(d:Nat)(r:Ss)(K:St→Prop):scQ P b b body y d r K st=wps P body (scR P y body.J1 d r K st.tm) st:=by
 refine propext ⟨?_,fun h=>?_⟩
 ·rintro⟨yv,hp,h1,_,h3⟩;refine JKj ?_ body st (h1 rfl);rintro st' ⟨g1,rfl⟩;unfold scR;rw[g1];cases b<;>simpa using h3
 ·obtain⟨st',g1,g2⟩:=JBO body _ st h;unfold scR at g1;split at g1
  ·rename_i yv hy;refine⟨yv,st'.hp,fun _=>JKj (by rintro s rfl;exact⟨hy,rfl⟩) body st g2,fun h=>absurd rfl h,?_⟩;cases b<;>simpa using g1
  ·exact g1.elim
theorem scQ_tt(body:Ss)(y:Opd)(d:Nat)(r:Ss)(K:St→Prop):scQ P true true body y d r K st=wps P body (scR P y body.J1 d r K st.tm) st:=JKk true body y d r K
theorem scQ_ff(body:Ss)(y:Opd)(d:Nat)(r:Ss)(K:St→Prop):scQ P false false body y d r K st=wps P body (scR P y body.J1 d r K st.tm) st:=JKk false body y d r K
@[congr] theorem scQ_congr{x x' b:Bool}{body:Ss}{y:Opd}{d:Nat}{r:Ss}{K:St→Prop}{st':St}(hx:x=x')(h:st=st'):scQ P x b body y d r K st=scQ P x' b body y d r K st':=by rw[hx,h]
@[congr] theorem wpsL_congr{s:Ss}{K:St→Log→Prop}{st':St}{lg lg':Log}(h:st=st')(h2:lg=lg'):UZ P s K st lg=UZ P s K st' lg':=by rw[h,h2]
theorem JNi(K:St→Log→Prop)(lg:Log):UZ P .nil K st lg=K st lg:=rfl
theorem JSk(d:Option Nat)(o:IOp)(r:Ss)(K:St→Log→Prop)(lg:Log):UZ P (.op d o r) K st lg=match step (get st.tm) (get st.hp) (d.getD 0) o with
  |some x=>x.c∧UZ P r K (st.app d x.v x.ups) (lg++[(rd (get st.tm) (d.getD 0) o,x.ups.map (·.1))])
  |none=>False:=rfl
theorem JSl(c:Nat)(b:Bool)(body:Ss)(y:Opd)(d:Nat)(r:Ss)(K:St→Log→Prop)(lg:Log):UZ P (.sc c b body y d r) K st lg=match get st.tm c with
  |some (.d (.bool x))=>∃(yv:Bool) (hp:List (Nat×Obj)) (l:Log),l.length=body.len∧(x=b→UZ P body (fun st' l'=>val (get st'.tm) y=some (.d (.bool yv))∧st'.hp=hp∧l'=l) st [])∧
    (x≠b→hp=st.hp)∧UZ P r K ⟨put (Un st.tm body.J1) d (.d (.bool (if b then x&&yv else x||yv))),hp⟩ (lg++(l++[([],[])]))
  |_=>False:=rfl
theorem JP{d:Option Nat}{f:Cal}{args:List Opd}{r:Ss}{K:St→Log→Prop}{lg:Log}{f':Cee}{vs:List Av}{T:List (Nat×Option Obj)}{v:Av}{ups:List (Nat×Obj)}(ht:target (get st.tm) f args=some (f',vs))
  (hc:JC P f' vs T v ups)(hT:XE (get st.hp) T)(hr:UZ P r K (st.app d v ups) (lg++[(T.map (·.1),ups.map (·.1))])):UZ P (.call d f args r) K st lg:=by
 simp only[UZ,ht];exact⟨T,v,ups,UH st.hp ups,hc,hT,fun i=>by rw[UA],hr⟩
theorem JI{d:Option Nat}{f:Cal}{args:List Opd}{r:Ss}{K:St→Prop}{f':Cee}{vs:List Av}{T:List (Nat×Option Obj)}{v:Av}{ups:List (Nat×Obj)}(ht:target (get st.tm) f args=some (f',vs))
  (hc:JC P f' vs T v ups)(hT:XE (get st.hp) T)(hr:wps P r K (st.app d v ups)):wps P (.call d f args r) K st:=by
 simp only[wps,ht];exact⟨T,v,ups,UH st.hp ups,hc,hT,fun i=>by rw[UA],hr⟩
theorem UO{d:Option Nat}{f:Cal}{args:List Opd}{r:Ss}{K:St→Prop}{f':Cee}{vs:List Av}{v:Av}(ht:target (get st.tm) f args=some (f',vs))
  (hc:JC P f' (vs.map Av.canon) [] v [])(hr:wps P r K (st.app d v [])):wps P (.call d f args r) K st:=JI ht hc.canon trivial hr
theorem JNj:wpc P D .skip Q st=Q .normal st:=rfl
theorem JSm(s:Ss):wpc P D (.reg s) Q st=wps P s (Q .normal) st:=rfl
def apK(un:List (Nat×Nat))(Q:Exit→St→Prop)(st:St)(lg:Log):Prop:=X7 lg un=true∧Q .normal st
theorem JNk(un:List (Nat×Nat))(s:Ss):wpc P D (.regd un s) Q st=UZ P s (apK un Q) st []:=rfl
def dnK(ts:List Nat)(Q:Exit→St→Prop)(e:Exit)(s:St):Prop:=match e with
 |.normal=>Q .normal ⟨Un s.tm ts,s.hp⟩
 |e=>Q e s
def JSn(P:Program)(D:Nat→Prop)(b:Ic)(Q:Exit→St→Prop)(e:Exit)(s:St):Prop:=match e with
 |.normal=>wpc P D b Q s
 |e=>Q e s
def JGf(id:Nat)(Q:Exit→St→Prop)(e:Exit)(s:St):Prop:=match e with
 |.exit id'=>if id'=id then Q .normal s else Q (.exit id') s
 |e=>Q e s
def JKl(D:Nat→Prop)(I:Nat→St→Prop)(n:Nat)(Q:Exit→St→Prop)(e:Exit)(s':St):Prop:=match e with
 |.normal=>∃m s'',m<n∧Wk D s' s''∧I m s''
 |e=>Q e s'
theorem JJf(ts:List Nat):dnK ts Q .normal st=Q .normal ⟨Un st.tm ts,st.hp⟩:=rfl
theorem JSo(ts:List Nat):dnK ts Q .ret st=Q .ret st:=rfl
theorem JNl(ts:List Nat)(id:Nat):dnK ts Q (.exit id) st=Q (.exit id) st:=rfl
theorem JHz(b:Ic):JSn P D b Q .normal st=wpc P D b Q st:=rfl
theorem JNm(b:Ic):JSn P D b Q .ret st=Q .ret st:=rfl
theorem JL5(b:Ic)(id:Nat):JSn P D b Q (.exit id) st=Q (.exit id) st:=rfl
theorem JFO(id:Nat):JGf id Q .normal st=Q .normal st:=rfl
theorem JJg(id:Nat):JGf id Q .ret st=Q .ret st:=rfl
theorem JH0(id id':Nat):JGf id Q (.exit id') st=if id'=id then Q .normal st else Q (.exit id') st:=rfl
theorem JGg(I:Nat→St→Prop)(n:Nat):JKl D I n Q .normal st=∃m s'',m<n∧Wk D st s''∧I m s'':=rfl
theorem JL6(I:Nat→St→Prop)(n:Nat):JKl D I n Q .ret st=Q .ret st:=rfl
theorem JJh(I:Nat→St→Prop)(n id:Nat):JKl D I n Q (.exit id) st=Q (.exit id) st:=rfl
theorem wpc_dn(a:Ic)(ts:List Nat):wpc P D (.dn a ts) Q st=wpc P D a (dnK ts Q) st:=rfl
theorem JSp(a b:Ic):wpc P D (.seq a b) Q st=wpc P D a (JSn P D b Q) st:=rfl
def JJi(x:Bool)(A B:Prop):Prop:=(x=true→A)∧(x=false→B)
theorem JL7(A B:Prop):JJi true A B=A:=propext ⟨fun h=>h.1 rfl,fun h=>⟨fun _=>h,fun e=>by cases e⟩⟩
theorem JJj(A B:Prop):JJi false A B=B:=propext ⟨fun h=>h.2 rfl,fun h=>⟨fun e=>(by cases e),fun _=>h⟩⟩
@[congr] theorem iteK_congr{x y:Bool}{A B:Prop}(h:x=y):JJi x A B=JJi y A B:=by rw[h]
theorem JGh(c:Opd)(a b:Ic):wpc P D (.ite c a b) Q st=match val (get st.tm) c with
  |some (.d (.bool x))=>JJi x (wpc P D a Q st) (wpc P D b Q st)
  |_=>False:=rfl
theorem JL8(id:Nat)(b:Ic):wpc P D (.block id b) Q st=wpc P D b (JGf id Q) st:=rfl
def JSq(Q:Exit→St→Prop)(e:Exit)(s:St):Prop:=match e with
 |.goto _=>False
 |e=>Q e s
theorem JH1:JSq Q .normal st=Q .normal st:=rfl
theorem JNn:JSq Q .ret st=Q .ret st:=rfl
theorem JL9(id:Nat):JSq Q (.exit id) st=Q (.exit id) st:=rfl
theorem JSr(b:Ic):wpc P D (.scp b) Q st=wpc P D b (JSq Q) st:=rfl
theorem JSs:wpc P D .lab Q st=Q .normal st:=rfl
attribute [go_sem] JH1 JNn JL9 JSr JSs
theorem JNo(id:Nat):wpc P D (.exit id) Q st=Q (.exit id) st:=rfl
theorem JSt:wpc P D .ret Q st=Q .ret st:=rfl
theorem JH{b:Ic}(I:Nat→St→Prop)(h0:∃n s,Wk D st s∧I n s)(h:∀n s,I n s→wpc P D b (JKl D I n Q) s):wpc P D (.loop b) Q st:=⟨I,h0,h⟩
end
theorem wrap64{n:Int}(h1: -9223372036854775808≤n)(h2:n≤9223372036854775807):IntKind.i64.wrap n=n:=by
 simp only[IntKind.wrap,IntKind.signed,IntKind.bits];simp;omega
theorem Jg(k:Nat)(h:k<9223372036854775807):IntKind.i64.wrap ((k:Int)+1)=((k+1:Nat):Int):=by
 rw[wrap64 oM oM];omega
attribute [go_sem] apK JL7 JJj JJf JSo JNl JHz JNm JL5 JFO JJg JH0 JGg JL6 JJh JNj JSm JNk wpc_dn JSp JGh JL8 JNo JSt Ss.J1 Option.toList_some Option.toList_none beq_self_eq_true Av.ren Obj.ren J3 X9 Av.canon Xz YA Zf mine Y2 Jn D0 scQ_ft scQ_tf scQ_tt scQ_ff scR retV JSj wps_op wps_sc JNi JSk JSl rd XJ ids Yv Ss.len Uu XD XH Jl enum step get val Av.cells St.app put UH UR ZZ ZY Un JCy YL target vals XE Jh isNil JGT Ut UQ UG curr JDu UY Dat.cells outs JL1 JL2 JL3 JL4 JDd JKe JA upd Ends JEJ Xr cellAt JBD YR YS JDb X5 Xi JFJ JGU JHX JKS X3 setAt nodeAt Dat.canon JK
 Va Vb Vj Option.map_none Vp Option.getD_none if_true if_false true_and and_true List.getElem?_cons_zero List.getElem?_cons_succ List.contains_cons List.contains_nil
 Bool.or_false Bool.false_or Vu Bool.or_true Bool.true_or Bool.or_self Vf Vm List.take_succ_cons List.take_zero List.drop_succ_cons List.drop_zero List.flatMap_cons List.flatMap_nil List.nil_append List.append_nil List.cons_append
 false_implies true_implies implies_true Option.isSome_none Nat.zero_add Nat.add_zero and_self or_true true_or or_false false_or List.getD_cons_zero List.getD_cons_succ
end Av
namespace Av
open Go
variable [Glb][Rls]
theorem zz{p q:Prop}(h:q)(e:p=q:=by(conv=>lhs;simp only[go_sem,Nat.reduceAdd,Nat.reduceEqDiff,Nat.reduceBEq,Nat.reduceLeDiff,reduceCtorEq,↓reduceIte])):p:=e▸h
theorem zz1{p q:Prop}(h:q)(e:p=q:=by(conv=>lhs;simp only[go_sem,Int.reduceBEq,Vc,Nat.reduceAdd,Nat.reduceEqDiff,Nat.reduceBEq,Nat.reduceLeDiff,reduceCtorEq,↓reduceIte])):p:=e▸h
theorem zz4{p q:Prop}(h:q)(e:p=q:=by(conv=>lhs;simp only[go_sem,Vc,Nat.reduceAdd,Nat.reduceEqDiff,Nat.reduceBEq,Nat.reduceLeDiff,reduceCtorEq,↓reduceIte])):p:=e▸h
theorem zz5{p q:Prop}(h:q)(e:p=q:=by(conv=>lhs;simp only[go_sem,hd,Nat.reduceAdd,Nat.reduceEqDiff,Nat.reduceBEq,Nat.reduceLeDiff,reduceCtorEq,↓reduceIte])):p:=e▸h
theorem zz6{p q:Prop}(h:q)(e:p=q:=by(conv=>lhs;simp only[go_sem,hx,hd,Vv,Vc,Nat.reduceAdd,Nat.reduceEqDiff,Nat.reduceBEq,Nat.reduceLeDiff,reduceCtorEq,↓reduceIte])):p:=e▸h
theorem zz7{p q:Prop}(h:q)(e:p=q:=by(conv=>lhs;simp only[go_sem,Jg k (by omega),Nat.reduceAdd,Nat.reduceEqDiff,Nat.reduceBEq,Nat.reduceLeDiff,reduceCtorEq,↓reduceIte])):p:=e▸h
theorem zz9{p q:Prop}(h:q)(e:p=q:=by(conv=>lhs;simp only[go_sem,Int.reduceBNe,bne_self_eq_false,Nat.reduceAdd,Nat.reduceEqDiff,Nat.reduceBEq,Nat.reduceLeDiff,reduceCtorEq,↓reduceIte])):p:=e▸h
theorem JFP{p q:Prop}(h:q)(e:p=q:=by(conv=>lhs;simp only[hk,Uv,go_sem,Int.reduceToNat,Va,Vb,Vf,Vm,Nat.reduceAdd,Nat.reduceEqDiff,Nat.reduceBEq,Nat.reduceLeDiff,reduceCtorEq,↓reduceIte])):p:=e▸h
theorem JFQ{p q:Prop}(h:q)(e:p=q:=by(conv=>lhs;simp only[go_sem,Int.reduceBNe,bne_self_eq_false,Vc,Nat.reduceAdd,Nat.reduceEqDiff,Nat.reduceBEq,Nat.reduceLeDiff,reduceCtorEq,↓reduceIte])):p:=e▸h
theorem zz14{p q:Prop}(h:q)(e:p=q:=by(conv=>lhs;simp only[go_sem,hd,List.take_length,Vc,Nat.reduceAdd,Nat.reduceEqDiff,Nat.reduceBEq,Nat.reduceLeDiff,reduceCtorEq,↓reduceIte])):p:=e▸h
theorem JMA{p q:Prop}(h:q)(e:p=q:=by(conv=>lhs;simp only[go_sem,Jg j (by omega),Nat.reduceAdd,Nat.reduceEqDiff,Nat.reduceBEq,Nat.reduceLeDiff,reduceCtorEq,↓reduceIte])):p:=e▸h
theorem JSu{p q:Prop}(h:q)(e:p=q:=by(conv=>lhs;simp only[go_sem,Vr,Nat.reduceAdd,Nat.reduceEqDiff,Nat.reduceBEq,Nat.reduceLeDiff,reduceCtorEq,↓reduceIte])):p:=e▸h
theorem JSv{p q:Prop}(h:q)(e:p=q:=by(conv=>lhs;simp only[go_sem,hx,hd,Vv,Nat.reduceAdd,Nat.reduceEqDiff,Nat.reduceBEq,Nat.reduceLeDiff,reduceCtorEq,↓reduceIte])):p:=e▸h
theorem JDe{p q:Prop}(h:q)(e:p=q:=by(conv=>lhs;simp only[go_sem,hd,List.take_length,Nat.reduceAdd,Nat.reduceEqDiff,Nat.reduceBEq,Nat.reduceLeDiff,reduceCtorEq,↓reduceIte])):p:=e▸h
theorem zz22{p q:Prop}(h:q)(e:p=q:=by(conv=>lhs;simp only[go_sem,hd,Vc,Nat.reduceAdd,Nat.reduceEqDiff,Nat.reduceBEq,Nat.reduceLeDiff,reduceCtorEq,↓reduceIte])):p:=e▸h
theorem zz24{p q:Prop}(h:q)(e:p=q:=by(conv=>lhs;simp only[go_sem,hx,Vv,Vc,Nat.reduceAdd,Nat.reduceEqDiff,Nat.reduceBEq,Nat.reduceLeDiff,reduceCtorEq,↓reduceIte])):p:=e▸h
theorem JSw{p q:Prop}(h:q)(e:p=q:=by(conv=>lhs;simp only[go_sem,h,Vc,Nat.reduceAdd,Nat.reduceEqDiff,Nat.reduceBEq,Nat.reduceLeDiff,reduceCtorEq,↓reduceIte])):p:=e▸h
theorem zz34{p q:Prop}(h:q)(e:p=q:=by(conv=>lhs;simp only[go_sem,hk,Int.reduceBEq,Vc,Nat.reduceAdd,Nat.reduceEqDiff,Nat.reduceBEq,Nat.reduceLeDiff,reduceCtorEq,↓reduceIte])):p:=e▸h
theorem zz38{p q:Prop}(h:q)(e:p=q:=by(conv=>lhs;simp only[go_sem,hx',hd,hw,Vv,Vc,Nat.reduceAdd,Nat.reduceEqDiff,Nat.reduceBEq,Nat.reduceLeDiff,reduceCtorEq,↓reduceIte])):p:=e▸h
theorem zz51{p q:Prop}(h:q)(e:p=q:=by(conv=>lhs;simp only[go_sem,hw1 h0,e1,e2,isP,Vc,Nat.reduceAdd,Nat.reduceEqDiff,Nat.reduceBEq,Nat.reduceLeDiff,reduceCtorEq,↓reduceIte])):p:=e▸h
theorem FnOk.o{P:Program}{f N:Nat}{ic:Ic}{ris:List RI}{fn:Func}(hf:P.funcs[f]? =some fn)(hname:(fn.name== "runtime.NumGoroutine")=false:=by kernel_rfl)(hn:fn.ntmps=N:=by kernel_rfl)(htr:(fn.body.bind (Jj P N))=some (strip ic):=by kernel_rfl)(hres:Ji (fn.results.toList.map (JB1 P))=some ris:=by kernel_rfl):FnOk P f N ic ris:=.of hf hname hn htr hres
theorem FnOk.pc{P:Program}{f N:Nat}{ic:Ic}{ris:List RI}(h:FnOk P f N ic ris){args:List Dat}{v:Av}(hw:wpc P D0 ic (Ends ris [] v []) ⟨enum 0 (args.map .d),[]⟩)(hn:args.length≤N:=by exact Nat.le_of_ble_eq_true rfl)(hv:JFM (get []) v:=by first|trivial|simp[JFM,JV,JR]):Jz P f args v:=h.pcon hn hv hw
theorem FnOk.co{k:Bool}{P:Program}{f N:Nat}{ic:Ic}{ris:List RI}(h:FnOk P f N ic ris){args:List Av}{T:List (Nat×Obj)}{v:Av}{ups:List (Nat×Obj)}(hcl:closed (JA (get T) ups))(hv:inT (JA (get T) ups) v)(hw:wpc P D0 ic (JEJ k ris T v ups) ⟨enum 0 args,T⟩)(hn:args.length≤N:=by exact Nat.le_of_ble_eq_true rfl):Con P f args T v ups:=h.con hn hcl hv hw
theorem ik{x:Bool}{A B:Prop}(a:x=true→A)(b:x=false→B):JJi x A B:=⟨a,b⟩
theorem sq{P:Program}{st:St}{x b:Bool}{body:Ss}{y:Opd}{d:Nat}{r:Ss}{K:St→Prop}(yv:Bool)(h1:wps P body (fun z=>val (get z.tm) y=some (.d (.bool yv))∧z.hp=st.hp) st)(h2:wps P r K ⟨put (Un st.tm body.J1) d (.d (.bool (if b then x&&yv else x||yv))),st.hp⟩):scQ P x b body y d r K st:=J9 yv (fun _=>h1) h2
theorem zf{p:Prop}(h:p:=by first|trivial|exact⟨rfl,rfl⟩):p:=h
section
variable {P:Program}{st:St}{d:Option Nat}{f:Cal}{args:List Opd}{rs:Ss}{K:St→Prop}{f1:Cee}{vs:List Av}{T:List (Nat×Option Obj)}{v:Av}{ups:List (Nat×Obj)}{q:Prop}
theorem wc(hc:JC P f1 vs T v ups)(hr:q)(ht:target (get st.tm) f args=some (f1,vs):=by exact rfl)(hT:XE (get st.hp) T:=by first|trivial|exact⟨rfl,trivial⟩|exact⟨rfl,rfl,trivial⟩)(e:wps P rs K (st.app d v ups)=q:=by(conv=>lhs;simp only[go_sem,Nat.reduceAdd,Nat.reduceEqDiff,Nat.reduceBEq,Nat.reduceLeDiff,reduceCtorEq,↓reduceIte])):wps P (.call d f args rs) K st:=JI ht hc hT (e▸hr)
theorem wn(hc:JC P f1 vs T v ups)(hr:wps P rs K (st.app d v ups))(ht:target (get st.tm) f args=some (f1,vs):=by exact rfl)(hT:XE (get st.hp) T:=by first|trivial|exact⟨rfl,trivial⟩|exact⟨rfl,rfl,trivial⟩):wps P (.call d f args rs) K st:=JI ht hc hT hr
end
end Av
namespace Av.Y
open Go
abbrev y6:List Dat:=[.int .i64 0,.int .i64 0,.int .i64 0,.str [],.nil 6,.nil 7]
abbrev y7:List Dat:=[.str [],.int .i64 0,.int .i64 0,.int .i64 0,.str [],.nil 6,.nil 7]
abbrev yT:List Dat:=[.int .i64 0,.int .i64 0,.int .i64 0,.int .i64 0,.nil 1,.nil 7,.nil 11]
abbrev yG:List Dat:=[.int .i64 0,.str [],.int .i64 0,.int .i64 0,.int .i64 0,.int .i64 0,.int .i64 0,.nil 1,.nil 7,.nil 11,.nil 6]
abbrev i(z:Int):Opd:=.k (.int .i64 z)
abbrev B(b:Bool):Opd:=.k (.bool b)
abbrev t(a:Nat):Opd:=.t a
abbrev oo(d:Nat)(x:IOp)(r:Ss):Ss:=.op (some d) x r
abbrev on(x:IOp)(r:Ss):Ss:=.op none x r
abbrev om(d a:Nat)(r:Ss):Ss:=.op (some d) (.mov (.t a)) r
abbrev ok(d:Nat)(x:Opd)(r:Ss):Ss:=.op (some d) (.mov x) r
abbrev oc(d a:Nat)(r:Ss):Ss:=.op (some d) (.nck (.t a)) r
abbrev of(d a k:Nat)(r:Ss):Ss:=.op (some d) (.fa (.t a) k) r
abbrev ol(d a:Nat)(r:Ss):Ss:=.op (some d) (.ld none (.t a)) r
abbrev oL(d k a:Nat)(r:Ss):Ss:=.op (some d) (.ld (some k) (.t a)) r
abbrev os(a b:Nat)(r:Ss):Ss:=.op none (.sto none (.t a) (.t b)) r
abbrev oS(k a b:Nat)(r:Ss):Ss:=.op none (.sto (some k) (.t a) (.t b)) r
abbrev ob(d:Nat)(k:Bk)(x y:Opd)(r:Ss):Ss:=.op (some d) (.bin k x y) r
abbrev og(d a:Nat)(r:Ss):Ss:=.op (some d) (.not (.t a)) r
abbrev ot(d:Nat)(k:Bk)(a b:Nat)(r:Ss):Ss:=.op (some d) (.bin k (.t a) (.t b)) r
abbrev oi(d:Nat)(k:Bk)(a:Nat)(z:Int)(r:Ss):Ss:=.op (some d) (.bin k (.t a) (.k (.int .i64 z))) r
abbrev oj(d a:Nat)(r:Ss):Ss:=.op (some d) (.slen (.t a)) r
abbrev oz(d:Nat)(z:Int)(r:Ss):Ss:=.op (some d) (.mov (.k (.int .i64 z))) r
abbrev ow(d:Nat)(z:Bool)(r:Ss):Ss:=.op (some d) (.mov (.k (.bool z))) r
abbrev oa(b:Bool)(d n a i:Nat)(r:Ss):Ss:=.op (some d) (.ixa b n (.t a) (.t i)) r
abbrev N:Ss:=.nil
abbrev q(a b:Ic):Ic:=.seq a b
abbrev D(a:Ic)(l:List Nat):Ic:=.dn a l
abbrev E(a:Nat):Ic:=.exit a
abbrev S:Ic:=.skip
abbrev oe(d a k:Nat)(r:Ss):Ss:=.op (some d) (.ext (.t a) k) r
abbrev ox(d a:Nat)(r:Ss):Ss:=.op (some d) (.box (.t a)) r
abbrev oN(d:Nat)(z:List Dat)(r:Ss):Ss:=.op (some d) (.new z) r
abbrev oh(d a:Nat)(r:Ss):Ss:=.op (some d) (.len (.t a)) r
abbrev cl(d f:Nat)(a:List Opd)(r:Ss):Ss:=.call (some d) (.fn f) a r
abbrev R(s:Ss)(l:List Nat):Ic:=.dn (.reg s) l
abbrev I(c:Nat)(a b:Ic):Ic:=.ite (.t c) a b
end Av.Y
namespace Go.Proofs
open Go Av
variable [Glb][Rls]
abbrev PT(f:Nat)(a:List Dat)(v:Av):Prop:=Jz Tryz.prog f a v
abbrev CT(f:Cee)(a:List Av)(T:List (Nat×Option Av.Obj))(v:Av)(u:List (Nat×Av.Obj)):Prop:=JC Tryz.prog f a T v u
abbrev KT(f:Nat)(a:List Av)(T:List (Nat×Av.Obj))(v:Av)(u:List (Nat×Av.Obj)):Prop:=Con Tryz.prog f a T v u
abbrev FT(f N:Nat)(ic:Ic)(r:List RI):Prop:=FnOk Tryz.prog f N ic r
end Go.Proofs
namespace Av
open Go
variable [Glb][Rls]
variable {st:St}
section
variable {β:JM}{A:Nat→Prop}{w:World}{H G:Heap}{D:Nat→Prop}
theorem VRep.less(hle:∀i o,G i=some o→H i=some o){c:Av}{u:Value}(h:VRep β A w H c u)(hid:JV G c):VRep β A w G c u:=by
 induction h with
 |d x u h=>exact .d x u h
 |ref i off b p u hu h0 h1 h2=>exact .ref i off b p u hu hid (fun cs hcs=>h1 cs (hle i _ hcs)) fun ds hds=>h2 ds (hle i _ hds)
 |ms i ver u hu h0 h1 h2=>exact .ms i ver u hu hid (fun v' sz xs hr=>h1 v' sz xs (hle i _ hr)) fun sz xs hr=>h2 sz xs (hle i _ hr)
 |sub i ver off len u hu h0 h1 h2=>exact .sub i ver off len u hu hid (fun v' sz xs hr=>h1 v' sz xs (hle i _ hr)) fun sz xs hr=>h2 sz xs (hle i _ hr)
 |el i ver k off b p u hu h0 h1=>exact .el i ver k off b p u hu hid (fun v' sz xs hr=>h1 v' sz xs (hle i _ hr))
 |agg cs arr hl h1 hv ih=>exact .agg cs arr hl h1 fun i c v hc hv'=>ih i c v hc hv' (UJ (by simpa only[JV]using hid) i c hc)
 |tup cs arr hl hv ih=>exact .tup cs arr hl fun i c v hc hv'=>ih i c v hc hv' (UJ (by simpa only[JV]using hid) i c hc)
 |clo f fs cs a1 a2 h1 h2 hf hv ihf ihv=>
  simp only[JV]at hid;exact .clo f fs cs a1 a2 h1 h2 (fun i c v hc hv'=>ihf i c v hc hv' (UJ hid.1 i c hc)) fun i c v hc hv'=>ihv i c v hc hv' (UJ hid.2 i c hc)
 |mp i u hu h0 h1 h2 h3=>exact .mp i u hu hid (fun es hr=>h1 es (hle i _ hr)) (fun l hr=>h2 l (hle i _ hr)) fun s p hr=>h3 s p (hle i _ hr)
 |tr i h u hu h0 hk h1=>exact .tr i h u hu hid hk fun v' s' sz xs hr=>h1 v' s' sz xs (hle i _ hr)
 |any u=>exact .any u
 |und=>exact .und
 |ful sz xs u h hn=>exact .ful sz xs u h hn
def JNp{α:Type}:List (Nat×α)→List (Nat×α)→Prop
 |[],_=>True
 |e::r,l=>get l e.1=some e.2∧JNp r l
theorem JGi{α:Type}{l:List (Nat×α)}:∀{l':List (Nat×α)},JNp l' l→∀t v,get l' t=some v→get l t=some v
 |[],_,t,v,h=>by cases h
 |(k,x)::r,hs,t,v,h=>by
  simp only[get]at h;split at h
  ·rename_i e;subst e;cases h;exact hs.1
  ·exact JGi hs.2 t v h
def JDj(G:Heap):List (Nat×Av)→Prop
 |[]=>True
 |e::r=>JV G e.2∧JDj G r
def Je(G:Heap):List (Nat×Obj)→Prop
 |[]=>True
 |e::r=>J8 G e.2∧Je G r
def JKm(D:Nat→Prop):List (Nat×Obj)→List (Nat×Obj)→Prop
 |[],_=>True
 |e::r,l=>(D e.1→(get l e.1).isSome=true)∧JKm D r l
theorem JEL:∀{l:List (Nat×Av)},JDj G l→∀t v,get l t=some v→JV G v
 |[],_,t,v,h=>by cases h
 |(k,x)::r,hs,t,v,h=>by
  simp only[get]at h;split at h
  ·cases h;exact hs.1
  ·exact JEL hs.2 t v h
theorem Zg:∀{l:List (Nat×Obj)},Je G l→∀i o,get l i=some o→J8 G o
 |[],_,t,v,h=>by cases h
 |(k,x)::r,hs,t,v,h=>by
  simp only[get]at h;split at h
  ·cases h;exact hs.1
  ·exact Zg hs.2 t v h
theorem UK{l:List (Nat×Obj)}(h:Je (get l) l):closed (get l):=fun i o hi=>Zg h i o hi
theorem Jf{l ups:List (Nat×Obj)}(h:Je (get (UH l ups)) (UH l ups)):closed (JA (get l) ups):=by rw[←UA];exact UK h
theorem Ym{l':List (Nat×Obj)}:∀{l:List (Nat×Obj)},JKm D l l'→∀i,D i→(get l i).isSome=true→(get l' i).isSome=true
 |[],_,i,_,h=>by cases h
 |(k,x)::r,hs,i,hi,h=>by
  simp only[get]at h;split at h
  ·rename_i e;subst e;exact hs.1 hi
  ·exact Ym hs.2 i hi h
theorem Wk.refl(st:St):Wk D st st:=fun β A _ _ hc ht=>⟨β,A,hc,ht,fun i o _ h1 h2 h3=>⟨i,o,h1,h2,h3⟩,fun _ h=>.inl h,fun _ _ _ h=>h⟩
theorem Wk.trans{s1 s2 s3:St}(h1:Wk D s1 s2)(h2:Wk D s2 s3):Wk D s1 s3:=by
 intro β A w a hc ht;obtain⟨β1,A1,c1,t1,m1,d1,v1⟩:=h1 β A w a hc ht;obtain⟨β2,A2,c2,t2,m2,d2,v2⟩:=h2 β1 A1 w a c1 t1;refine⟨β2,A2,c2,t2,?_,?_,fun c u hb h=>v2 c u hb (v1 c u hb h)⟩
 ·intro i o b g1 g2 g3;obtain⟨i',o',q1,q2,q3⟩:=m2 i o b g1 g2 g3;exact m1 i' o' b q1 q2 q3
 ·intro b hb;rcases d2 b hb with h|⟨i,o,g1,g2,g3⟩
  ·exact d1 b h
  ·obtain⟨i',o',q1,q2,q3⟩:=m1 i o b g1 g2 g3;exact .inr ⟨i',o',q1,q2,q3⟩
theorem Wk.less{st':St}(h:JNp st'.tm st.tm∧JNp st'.hp st.hp∧JDj (get st'.hp) st'.tm∧Je (get st'.hp) st'.hp∧JKm D st.hp st'.hp):Wk D st st':=by
 obtain⟨h1,h2,h3,h4,h5⟩:=h;intro β A w a hc ht;have hle:=JGi h2;refine⟨β,A,⟨?_,fun i j o o' b q1 l1 q2 l2=>hc.inj i j o o' b (hle i o q1) l1 (hle j o' q2) l2,fun i o b q1=>hc.sep i o b (hle i o q1),hc.old,hc.glob⟩,?_,fun i o b q1 q2 q3=>⟨i,o,hle i o q1,q2,q3⟩,fun _ h=>.inl h,?_⟩
 ·intro i o hi;have:=hc.objs i o (hle i o hi);cases o with
  |box cs=>
   obtain⟨b,C,T,e1,e2,e3,e4,e5⟩:=this;exact⟨b,C,T,e1,e2,e3,e4,fun j c v hj hv=>(e5 j c v hj hv).less hle (UJ (Zg h4 i _ hi:JR _ cs) j c hj)⟩
  |row ver sz xs=>exact this
  |mapo es=>exact this
  |fbox ds=>trivial
  |frz ver sz xs=>trivial
  |gone=>trivial
  |sit s p=>exact this
  |tre a b c d=>exact this
  |lp l=>
   obtain⟨b,r,e1,e2,e3,e4,e6,e7,e8,e9,e10⟩:=this;refine⟨b,r,e1,e2,e3,e4,e6,e7,e8,e9,fun t v htv=>?_⟩;obtain⟨u,q1,q2⟩:=e10 t v htv;exact⟨u,q1,q2.less hle (XT (Zg h4 i _ hi:Uz _ l.tm) t v htv)⟩
 ·intro t v htv;obtain⟨u,q1,q2⟩:=ht t v (JGi h1 t v htv);exact⟨u,q1,q2.less hle (JEL h3 t v htv)⟩
 ·intro c u hb hv;refine hv.less hle ?_;cases hv with
  |d _ _ _=>trivial
  |ref i _ _ _ _ _ h0 _ _=>exact Ym h5 i hb h0
  |ms i _ _ _ h0 _ _=>exact Ym h5 i hb h0
  |sub i _ _ _ _ _ h0 _ _=>exact Ym h5 i hb h0
  |el i _ _ _ _ _ _ _ h0 _=>exact Ym h5 i hb h0
  |mp i _ _ h0 _ _ _=>exact Ym h5 i hb h0
  |tr i _ _ _ h0 _ _=>exact Ym h5 i hb h0
  |_=>exact hb.elim
theorem Wk.JFH{st':St}(h:∀β A w a,Core β A w (get st.hp)→UD β A w (get st.hp) (get st.tm) a→∃β' A',Stp β A w (get st.hp) β' A' w (get st'.hp)∧UD β' A' w (get st'.hp) (get st'.tm) a):Wk D st st':=by
 intro β A w a hc ht;obtain⟨β',A',hst,ht'⟩:=h β A w a hc ht;refine⟨β',A',hst.core,ht',?_,?_,fun c u _ hv=>hst.vals c u hv⟩
 ·intro i o b h1 h2 h3;rcases hst.mine i o b h1 h2 h3 with h|h
  ·have:=hst.core.lt h1 h2 h3;omega
  ·exact h
 ·intro b hb;rcases hst.data b hb with h|h|h
  ·exact .inl h
  ·have:=hst.core.old b hb;omega
  ·exact .inr h
theorem Stp.Yu(hc:Core β A w H){k sz:Nat}(hk:H k=none)(hsz:0<sz):Stp β A w H (upd β k (none:Option Nat)) A w (upd H k (some (.row 0 sz []))):=
 Stp.one hc k (.row 0 sz []) none rfl rfl rfl (Nat.le_refl _) (fun _ _ _=>rfl) (fun _ h=>h) (fun _ h=>.inl h) (fun b h=>hc.old b h) sP (fun c u hcase hvr=>JD4 (.inl hk) c u hcase hvr)
  (fun _=>⟨hsz,sP,sP,.inl ⟨JB _ _ _,rfl⟩⟩)
theorem VRep.Yu{k sz:Nat}{u:Value}(hr:Rep A w (.nil sz) u):VRep (upd β k (none:Option Nat)) A w (upd H k (some (.row 0 sz []))) (.ms k 0) u:=by
 cases hr with
 |nil _ ad=>
  refine .ms _ _ _ rfl sU ?_ sU;intro v3 sz3 xs3 h3;simp only[upd,if_true,Vd,Obj.row.injEq]at h3;obtain⟨rfl,rfl,rfl⟩:=h3;exact⟨Nat.le_refl _,fun _=>.inl ⟨JB _ _ _,rfl,ad,rfl⟩⟩
theorem Wk.JJM(t k sz:Nat)(ht:get st.tm t=some (.d (.nil sz)))(hk:get st.hp k=none)(hsz:0<sz):Wk D st ⟨put st.tm t (.ms k 0),put st.hp k (.row 0 sz [])⟩:=by
 refine Wk.JFH ?_;intro β A w a hc htr;have hh:get (put st.hp k (.row 0 sz []))=upd (get st.hp) k (some (.row 0 sz [])):=funext fun j=>by rw[UF];rfl
 rw[hh];have hst:=Stp.Yu (β:=β) hc hk hsz;refine⟨_,A,hst,?_⟩;intro t' v hv;rw[UF]at hv;split at hv
 ·rename_i e;subst e;cases hv;obtain⟨u,q1,q2⟩:=htr t' _ ht;exact⟨u,q1,VRep.Yu q2.JU⟩
 ·obtain⟨u,q1,q2⟩:=htr t' v hv;exact⟨u,q1,hst.vals _ _ q2⟩
theorem Wk.JKO(b j k sz:Nat)(cs:List Av)(hb:get st.hp b=some (.box cs))(hj:cs[j]? =some (.d (.nil sz)))(hk:get st.hp k=none)(hsz:0<sz):
  Wk D st ⟨st.tm,put (put st.hp k (.row 0 sz [])) b (.box (cs.set j (.ms k 0)))⟩:=by
 refine Wk.JFH ?_;intro β A w a hc htr;have hne:b≠k:=fun e=>by subst e;rw[hk]at hb;cases hb
 have hst:=Stp.Yu (β:=β) hc hk hsz;have hb1:upd (get st.hp) k (some (.row 0 sz [])) b=some (.box cs):=by rw[JN _ _ hne];exact hb
 obtain⟨bb,C,T,e1,e2,e3,e4,e5⟩:=hst.core.objs b _ hb1;have hset:w.setRow bb C=w:=Y0 e2;have hst2:=Stp.JHP (cs':=cs.set j (.ms k 0)) (C':=C) hst.core hb1 e1 e2 (sX e3) e4 (fun hall i c v hc' hv'=>by
  rw[List.getElem?_set]at hc';split at hc'
  ·rename_i e;subst e;split at hc'
   ·cases hc';obtain⟨bb0,C0,T0,q1,q2,q3,q4,q5⟩:=hc.objs b _ hb;have hbb:bb0=bb:=by
     rw[JN _ _ hne]at e1;rw[q1]at e1;exact Option.some.inj (BK.mk.inj e1).1
    subst hbb;rw[e2]at q2;cases q2;have hr:=(q5 j _ v hj hv').JU;exact hall _ _ (VRep.Yu hr)
   ·cases hc'
  ·exact hall _ _ (e5 i c v hc' hv'))
 rw[hset]at hst2;have hh:get (put (put st.hp k (.row 0 sz [])) b (.box (cs.set j (.ms k 0))))=upd (upd (get st.hp) k (some (.row 0 sz []))) b (some (.box (cs.set j (.ms k 0)))):=funext fun i=>by
  rw[UF,UF];rfl
 rw[hh];refine⟨_,A,hst.trans hst2,?_⟩;intro t v hv;obtain⟨u,q1,q2⟩:=htr t v hv;exact⟨u,q1,(hst.trans hst2).vals _ _ q2⟩
end
attribute [go_sem] JNp JDj Je JKm JV JR Uz J8 Option.isSome_some
end Av
namespace Av
open Go
variable [Glb][Rls]
variable {H:Heap}{i sz d:Nat}{h:Hd}{v:Av}{r:Res}{p:Prop}
def JKn(H:Heap):Av→Bool
 |.ms i ver=>match H i with
  |some (.row v' _ _)=>ver==v'
  |some (.frz v' _ _)=>ver==v'
  |_=>true
 |.sub i ver _ _=>match H i with
  |some (.row v' _ _)=>ver==v'
  |some (.frz v' _ _)=>ver==v'
  |_=>true
 |.tr i h=>match H i with
  |some (.tre v _ _ _)=>h.ver==v
  |_=>true
 |_=>true
def JMB(H:Heap)(i:Nat)(h:Hd):Bool:=match H i with
 |some (.tre v s _ _)=>h.ver==v&&(h.p.isEmpty||h.sv==s)
 |_=>false
theorem JDk{c:Prop}{s:Nat}{ys:List Dat}(hr:Xr H i h=some (c,s,sz,ys))(ht:JMB H i h=true):c:=by
 unfold Xr at hr;unfold JMB at ht;split at hr
 ·rename_i v s0 sz0 xs hi;rw[hi]at ht;split at hr
  ·cases hr;simp only[Vi,Vx,beq_iff_eq,List.isEmpty_iff]at ht;exact ht
  ·cases hr
 ·cases hr
def JMC(H:Heap):Av→Bool
 |.tr j h=>match H j with
  |some (.tre v _ _ _)=>h.ver==v
  |_=>false
 |.ms j ver=>match H j with
  |some (.row v _ _)=>ver==v
  |_=>false
 |_=>false
theorem JGj{q:Prop}{j:Nat}{zs:List Dat}(ho:X5 H v=some (q,j,sz,zs))(hq:JMC H v=true):q:=by
 unfold X5 at ho;unfold JMC at hq
 repeat' split at ho
 all_goals first|(cases ho;done)|(cases ho;simp_all)
def JJk(H:Heap):List Av→Bool
 |[]=>true
 |.d _::r=>JJk H r
 |c::r=>JMC H c&&JJk H r
theorem JGk:∀{cs:List Av} {p:Prop} {ds:List Dat} {js:List Nat},Xi H cs=some (p,ds,js)→JJk H cs=true→p
 |[],p,ds,js,h,_=>by simp only[Xi,Vd,Ve]at h;rw[←h.1];trivial
 |c::r,p,ds,js,h,hc=>by
  unfold Xi at h;split at h
  ·rename_i e;cases e
  ·rename_i x r' e;cases e;split at h
   ·rename_i p' ds' js' e';simp only[Vd,Ve]at h;obtain⟨rfl,rfl,rfl⟩:=h;exact JGk e' (by simpa only[JJk]using hc)
   ·cases h
  ·rename_i c' r' hne e;cases e;have hc':JMC H c=true∧JJk H r=true:=by
    cases c<;>first|exact absurd rfl (hne _)|simpa only[JJk,Vi]using hc
   split at h
   ·rename_i p' ds' js' q j sz zs e1 e2;split at h
    ·cases h
    ·simp only[Vd,Ve]at h;obtain⟨rfl,rfl,rfl⟩:=h;exact⟨JGj e2 hc'.1,JGk e1 hc'.2⟩
   ·cases h
def blsC(H:Heap)(sz:Nat):List Av→Bool
 |[.agg cs]=>match Xi H cs with
  |some (_,ds,_)=> !(JKS cs||Rls.tr sz)||(JJk H cs&&decide (ds.length=sz))
  |none=>true
 |_=>true
theorem JSx{vs:List Av}(h:JFJ H d sz vs=some r)(hc:blsC H sz vs=true):r.c:=by
 unfold JFJ at h;split at h
 ·rename_i cs;split at h
  ·rename_i hany;split at h
   ·rename_i p ds js _ e;cases h;simp only[blsC,e,hany,Vr,Bool.false_or,Vi,decide_eq_true_eq]at hc;exact⟨JGk e hc.1,hc.2⟩
   ·cases h
  ·cases h
 ·cases h
def appC(H:Heap)(sz:Nat)(u v:Av):Bool:=match X5 H v with
 |some (_,_,sz',zs)=>JMC H v&&match u with
  |.d (.nil _)=>decide (sz'=sz∧0<sz∧0<zs.length)
  |.tr i h=>match H i with
   |some (.tre vi _ szi xs)=>decide (sz'=sz∧szi=sz∧h.ver=vi∧0<zs.length∧xs.length+zs.length≤68719476736)
   |_=>true
  |_=>true
 |none=>true
theorem JSy{u:Av}(h:JGU H d sz u v=some r)(hc:appC H sz u v=true):r.c:=by
 unfold JGU at h;split at h
 ·split at h
  ·rename_i q j sz' zs ho;simp only[appC,ho,Vi]at hc;obtain⟨h1,h2⟩:=hc;have hq:=JGj ho h1;split at h
   ·split at h
    ·cases h;simp only[decide_eq_true_eq]at h2;exact⟨hq,h2⟩
    ·cases h
   ·split at h
    ·rename_i hi;split at h
     ·cases h
     ·cases h;simp only[hi,decide_eq_true_eq]at h2;exact⟨hq,h2⟩
    ·cases h
   ·cases h
  ·cases h
 ·cases h
def JNq(H:Heap)(sz sz':Nat)(ys:List Dat)(i:Nat)(h:Hd):Bool:=match H i with
 |some (.tre vi si szi xs)=>match h.p with
  |[]=>decide (sz'=sz∧szi=sz∧h.ver=vi∧0<ys.length∧xs.length+ys.length≤68719476736∧∀y∈ys,y.cells.length=sz)
  |_=>match inner szi xs h.p with
   |some (_,_,_,sz2,zs)=>decide (sz'=sz∧sz2=sz∧h.ver=vi∧h.sv=si∧0<ys.length∧zs.length+ys.length≤68719476736∧(∀y∈ys,y.cells.length=sz)∧(flat zs).any Z5=false)
   |none=>true
 |_=>true
theorem JNr{sz':Nat}{q:Prop}{ys:List Dat}(hr:JJQ H d sz q sz' ys i h=some r)(hc:JNq H sz sz' ys i h=true)(hq:q):r.c:=by
 unfold JJQ at hr;unfold JNq at hc;split at hr
 ·rename_i vi si szi xs ek hi;simp only[hi]at hc;split at hr
  ·rename_i ep;cases hr;simp only[ep,decide_eq_true_eq]at hc;exact⟨hq,hc⟩
  ·rename_i ep;split at hr
   ·rename_i p k c sz2 zs ei hd;cases hr;split at hc
    ·rename_i e;exact absurd e ep
    ·simp only[ei,decide_eq_true_eq]at hc;exact⟨hq,hc⟩
   ·cases hr
 ·cases hr
def stoC(H:Heap)(n:Option Nat)(i:Nat)(h:Hd)(v:Av):Bool:=match h.k,H i with
 |some (k,off),some (.tre _ _ sz xs)=>match nodeAt (.own sz xs) h.p with
  |some (.own _ ys)=>JMB H i h&&match v with
   |.d x=>decide (k<ys.length∧x.cells.length=n.getD 1∧off+x.cells.length≤(nth ys k).cells.length)
   |v=>JMC H v&&decide (k<ys.length∧off+1≤(nth ys k).cells.length)
  |_=>true
 |_,_=>true
theorem JSz{n:Option Nat}(hs:JHX H n i h v=some r)(hc:stoC H n i h v=true):r.c:=by
 unfold JHX at hs;split at hs
 ·rename_i k off ver s sz xs ek hi;split at hs
  ·rename_i sz' ys hn;simp only[stoC,ek,hi,hn,Vi]at hc;have ht:h.ver=ver∧(h.p=[]∨h.sv=s):=JDk (H:=H) (i:=i) (s:=s) (sz:=sz') (ys:=ys) (by unfold Xr;rw[hi];simp only[hn]) hc.1;split at hs
   ·cases hs;have h2:=hc.2;simp only[decide_eq_true_eq]at h2;exact⟨ht,h2⟩
   ·rename_i v hne;split at hs
    ·rename_i q j sz2 zs ho;split at hs
     ·cases hs
     ·cases hs;have h2:=hc.2;simp only[Vi,decide_eq_true_eq]at h2;exact⟨ht,JGj ho h2.1,h2.2⟩
    ·cases hs
  ·cases hs
 ·cases hs
def conds(H:Heap):List Av→Bool
 |[]=>true
 |c::r=>JKn H c&&match Uu H c with
  |some (_,_,u)=>conds (JA H u) r
  |none=>true
def JEM(H:Heap):Av→Bool
 |.agg cs=>conds H cs
 |v=>JKn H v
def JB2(H:Heap):List Av→Bool
 |[]=>true
 |c::r=>JEM H c&&match XD H c with
  |some (_,_,u)=>JB2 (JA H u) r
  |none=>true
def JB3(H:Heap):Av→Bool
 |.ms i ver=>match H i with
  |some (.row v' _ _)=>ver==v'
  |some (.frz v' _ _)=>ver==v'
  |_=>false
 |.sub i ver _ _=>match H i with
  |some (.row v' _ _)=>ver==v'
  |some (.frz v' _ _)=>ver==v'
  |_=>false
 |_=>true
theorem JH2{x:Dat}{u:List (Nat×Obj)}(h:Uu H v=some (p,x,u))(hc:JKn H v=true):p:=by
 unfold Uu at h;unfold JKn at hc
 repeat' split at h
 all_goals first
  |(cases h;done)
  |(cases h;trivial)
  |(cases h;simp_all)
theorem JH3:∀{cs:List Av} {H:Heap} {p:Prop} {xs:List Dat} {u:List (Nat×Obj)},XH H cs=some (p,xs,u)→conds H cs=true→p
 |[],H,p,xs,u,h,_=>by simp only[XH,Vd,Ve]at h;rw[←h.1];trivial
 |c::r,H,p,xs,u,h,hc=>by
  simp only[XH]at h;simp only[conds,Vi]at hc;cases e1:Uu H c with
  |none=>simp[e1]at h
  |some q=>
   obtain⟨p1,x,u1⟩:=q;simp only[e1]at h hc;cases e2:XH (JA H u1) r with
   |none=>simp[e2]at h
   |some q2=>
    obtain⟨p2,xs',u2⟩:=q2;simp only[e2,Vd,Ve]at h;rw[←h.1];exact⟨JH2 e1 hc.1,JH3 e2 hc.2⟩
theorem Yn{x:Dat}{u:List (Nat×Obj)}(h:XD H v=some (p,x,u))(hc:JEM H v=true):p:=by
 unfold XD at h;split at h
 ·rename_i cs;cases e:XH H cs with
  |none=>simp[e]at h
  |some q=>
   obtain⟨p1,xs,u1⟩:=q;simp only[e,Vd,Ve]at h;rw[←h.1];exact JH3 e hc
 ·rename_i hne;refine JH2 h ?_;unfold JEM at hc;split at hc
  ·exact absurd rfl (hne _)
  ·exact hc
theorem XU:∀{cs:List Av} {H:Heap} {p:Prop} {xs:List Dat} {u:List (Nat×Obj)},Jl H cs=some (p,xs,u)→JB2 H cs=true→p
 |[],H,p,xs,u,h,_=>by simp only[Jl,Vd,Ve]at h;rw[←h.1];trivial
 |c::r,H,p,xs,u,h,hc=>by
  simp only[Jl]at h;simp only[JB2,Vi]at hc;cases e1:XD H c with
  |none=>simp[e1]at h
  |some q=>
   obtain⟨p1,x,u1⟩:=q;simp only[e1]at h hc;cases e2:Jl (JA H u1) r with
   |none=>simp[e2]at h
   |some q2=>
    obtain⟨p2,xs',u2⟩:=q2;simp only[e2,Vd,Ve]at h;rw[←h.1];exact⟨Yn e1 hc.1,XU e2 hc.2⟩
theorem Yo(h:JB3 H v=true):curr H v:=by
 unfold JB3 at h;unfold curr
 repeat' split at h
 all_goals simp_all
def JGl(b:Bk):Av→Av→Bool
 |.d (.int _ _),.d (.int _ c)=>match b with
  |.quo|.rem=>c !=0
  |_=>true
 |.d (.str a),.d (.str c)=>match b with
  |.cat=>Nat.ble (a++c).length 68719476736
  |_=>true
 |_,_=>true
theorem JMD{b:Bk}{u:Av}{d:Dat}(h:UR b u v=some (p,d))(hc:JGl b u v=true):p:=by
 unfold UR at h;split at h
 ·split at h
  ·unfold ZY at h;unfold JGl at hc;split at h<;>first|(cases h;done)|(cases h;trivial)|(cases h;simpa using hc)
  ·cases h
 ·unfold ZZ at h;unfold JGl at hc;split at h<;>first|(cases h;done)|(cases h;trivial)|(cases h;exact Nat.le_of_ble_eq_true hc)
 ·split at h<;>first|(cases h;done)|(cases h;trivial)
 ·split at h
  ·split at h<;>first|(cases h;done)|(cases h;trivial)
  ·split at h<;>first|(cases h;done)|(cases h;trivial)
  ·cases h
 ·split at h<;>first|(cases h;done)|(cases h;trivial)
 ·cases h
def JNs(op:BinOp)(c:Int):Bool:=match op with
 |.shl|.shr=>decide (0≤c)
 |_=>true
def chk(τ:UX)(H:Heap):IOp→Bool
 |.bls sz ps=>match vals τ ps with
  |some vs=>blsC H sz vs&&(JB2 H vs&&match Jl H vs with
   |some (_,xs,_)=>decide (∀x∈xs,x.cells.length=sz)
   |none=>true)
  |none=>true
 |.ld n a=>match val τ a with
  |some (.ref i off)=>match H i,n with
   |some (.fbox ds),none=>decide (off<ds.length)
   |some (.fbox ds),some n=>decide (off+n≤ds.length)
   |_,_=>true
  |some (.el i ver k off)=>match H i,n with
   |some (.row v' _ xs),none=>decide (ver=v'∧off<(nth xs k).cells.length)
   |some (.row v' _ xs),some n=>decide (ver=v'∧off+n≤(nth xs k).cells.length)
   |_,_=>true
  |some (.d (.ptr cs))=>match n with
   |none=>decide (0<cs.length)
   |some n=>decide (n≤cs.length)
  |some (.d (.glo g))=>match YK g,n with
   |some cs,none=>decide (0<cs.length)
   |some cs,some n=>decide (n≤cs.length)
   |none,_=>true
  |some (.tr i h)=>match h.k,Xr H i h with
   |some (k,off),some (_,_,_,ys)=>JMB H i h&&match n with
    |none=>decide (k<ys.length∧off<(nth ys k).cells.length)
    |some n=>decide (k<ys.length∧off+n≤(nth ys k).cells.length)
   |_,_=>true
  |_=>true
 |.sto n a v=>match val τ a,val τ v with
  |some (.el i ver k off),some (.d x)=>match H i with
   |some (.row v' _ xs)=>match n with
    |none=>decide (ver=v'∧x.cells.length=1∧off+1≤(nth xs k).cells.length)
    |some n=>decide (ver=v'∧x.cells.length=n∧off+n≤(nth xs k).cells.length)
   |_=>true
  |some (.el _ _ _ _),some (.ms _ _)=>false
  |some (.tr i h),some v=>stoC H n i h v
  |_,_=>true
 |.fld n x off=>match val τ x,n with
  |some (.d (.agg cs)),some n=>decide (off+n≤cs.length)
  |_,_=>true
 |.ixa _ sz a i=>match val τ a,val τ i with
  |some (.d (.list sz' xs)),some (.d (.int _ n))=>decide (sz'=sz∧0≤n∧n<xs.length)
  |some (.ms j ver),some (.d (.int _ n))=>match H j with
   |some (.row v' sz' xs)=>decide (ver=v'∧sz'=sz∧0≤n∧n<xs.length)
   |some (.frz v' sz' xs)=>decide (ver=v'∧sz'=sz∧0≤n∧n<xs.length)
   |_=>true
  |some (.sub j ver _ len),some (.d (.int _ n))=>match H j with
   |some (.row v' sz' _)=>decide (ver=v'∧sz'=sz∧0≤n∧n<len)
   |_=>true
  |some (.tr j h),some (.d (.int _ n))=>match h.k,Xr H j h with
   |none,some (_,_,sz',ys)=>JMB H j h&&decide (sz'=sz∧0≤n∧n<ys.length)
   |_,_=>true
  |_,_=>true
 |.ixr len _ a i=>match val τ a,val τ i with
  |some (.ref _ _),some (.d (.int _ n))=>decide (0≤n∧n<len)
  |some (.d (.ptr _)),some (.d (.int _ n))=>decide (0≤n∧n<len)
  |some (.d (.glo _)),some (.d (.int _ n))=>decide (0≤n∧n<len)
  |_,_=>true
 |.ixs x i=>match val τ x,val τ i with
  |some (.d (.str s)),some (.d (.int _ n))=>decide (0≤n∧n<s.length)
  |_,_=>true
 |.ixv n len sz x i=>match val τ x,val τ i,n with
  |some (.d (.agg cs)),some (.d (.int _ k)),none=>decide (0≤k∧k<len∧k.toNat*sz<cs.length)
  |some (.d (.agg cs)),some (.d (.int _ k)),some n=>decide (0≤k∧k<len∧k.toNat*sz+n≤cs.length)
  |_,_,_=>true
 |.mpu _ _ _ v=>match val τ v with
  |some (.ms j w)=>match H j with
   |some (.row w' _ _)=>w==w'
   |_=>true
  |_=>true
 |.bin b x y=>match val τ x,val τ y with
  |some u,some v=>JGl b u v
  |_,_=>true
 |.bit op x y=>match val τ x,val τ y with
  |some (.d (.int _ _)),some (.d (.int _ c))=>JNs op c
  |_,_=>true
 |.mks _ _ len cap=>match val τ len,val τ cap with
  |some (.d (.int _ l)),some (.d (.int _ c))=>decide (0≤l∧l≤c∧c≤68719476736)
  |_,_=>true
 |.slc n x lo hi mx=>match val τ x with
  |some v=>match UG H v with
   |some (sz,xs)=>match mx with
    |none=>match UY τ 0 lo,UY τ xs.length hi with
     |some l,some h=>JB3 H v&&decide (sz=n∧0≤l∧l≤h∧h≤xs.length)
     |_,_=>true
    |some (.t mo)=>match hi with
     |some (.t ho)=>match τ mo,τ ho with
      |some (.d (.int _ m)),some (.d (.int _ h))=>decide (m=xs.length∧h=xs.length∧sz=n)
      |_,_=>true
     |_=>true
    |some _=>JB3 H v
   |none=>true
  |none=>true
 |.sls x lo hi=>match val τ x with
  |some (.d (.str s))=>match UY τ 0 lo,UY τ s.length hi with
   |some l,some h=>decide (0≤l∧l≤h∧h≤s.length)
   |_,_=>true
  |_=>true
 |.len x=>match val τ x with
  |some (.tr i h)=>JMB H i h
  |some v=>JB3 H v
  |none=>true
 |.app sz x y=>match val τ x,val τ y with
  |some u,some v=>match UG H v with
   |some (sz',ys)=>JB3 H v&&match u with
    |.d (.nil _)=>match Rls.tr sz with
     |false=>decide (sz'=sz∧0<sz∧ys.length≤68719476736∧∀y∈ys,y.cells.length=sz)
     |true=>decide (sz'=sz∧0<sz∧0<ys.length∧ys.length≤68719476736∧∀y∈ys,y.cells.length=sz)
    |.ms i ver=>match H i with
     |some (.row v' sz'' xs)=>decide (ver=v'∧sz'=sz∧sz''=sz∧xs.length+ys.length≤68719476736)
     |_=>true
    |.sub i ver _ n=>match H i with
     |some (.row v' sz'' _)=>decide (ver=v'∧sz'=sz∧sz''=sz∧n+ys.length≤68719476736∧0<n+ys.length)
     |_=>true
    |.ful sz1 xs=>decide (sz'=sz∧sz1=sz∧0<ys.length∧xs.length+ys.length≤68719476736)
    |.tr i h=>JNq H sz sz' ys i h
    |_=>true
   |none=>appC H sz u v
  |_,_=>true
 |.b2s x=>match val τ x with
  |some v=>match UG H v with
   |some (_,xs)=>JB3 H v&&decide (xs.length≤68719476736)
   |none=>true
  |none=>true
 |.nilq _ _ x=>match val τ x with
  |some v=>JB3 H v
  |none=>true
 |_=>true
theorem JNt{τ:UX}{io:IOp}(h:step τ H d io=some r)(hc:chk τ H io=true):r.c:=by
 cases io with
 |bls sz ps=>
  simp only[step]at h;simp only[chk]at hc;cases e:vals τ ps with
  |none=>simp[e]at h
  |some vs=>
   simp only[e,Vi]at h hc;cases eb:JFJ H d sz vs with
   |some r'=>
    simp only[eb,Vd]at h;subst h;exact JSx eb hc.1
   |none=>
   replace hc:=hc.2
   simp only[eb]at h;cases e2:Jl H vs with
   |none=>simp[e2]at h
   |some q=>
    obtain⟨p,xs,u⟩:=q;simp only[e2,decide_eq_true_eq]at h hc;split at h
    ·split at h
     ·simp only[Vd]at h;subst h;exact⟨XU e2 hc.1,hc.2⟩
     ·cases h
    ·split at h
     ·split at h
      ·split at h
       ·simp only[Vd]at h;subst h;exact⟨XU e2 hc.1,hc.2⟩
       ·cases h
      ·cases h
     ·simp only[Vd]at h;subst h;exact⟨XU e2 hc.1,hc.2⟩
    ·simp only[Vd]at h;subst h;exact⟨XU e2 hc.1,hc.2⟩
 |bin b x y=>
  simp only[step]at h;simp only[chk]at hc;split at h
  ·rename_i u v e1 e2;simp only[e1,e2]at hc;split at h
   ·rename_i c q e3;cases h;exact JMD e3 hc
   ·cases h
  ·cases h
 |bit op x y=>
  simp only[step]at h;simp only[chk]at hc;split at h
  ·rename_i k a k' c e1 e2;simp only[e1,e2]at hc;split at h
   ·rename_i p q e3;cases h;unfold JSQ at e3;unfold JNs at hc;split at e3<;>(repeat' split at e3)<;>first|(cases e3;done)|(cases e3;trivial)|(cases e3;simpa using hc)
   ·cases h
  ·cases h
 |slc n x lo hi mx=>
  simp only[step]at h;simp only[chk]at hc
  (repeat' split at h)<;>first|(cases h;done)|(cases h;simp_all [curr];done)|(cases h;simp_all;exact Yo hc)|(cases h;simp_all;exact Yo hc.1)
 |app sz x y=>
  simp only[step]at h;simp only[chk]at hc;split at h
  ·rename_i u v e1 e2;simp only[e1,e2]at hc;cases el:UG H v with
   |none=>simp only[el]at h hc;exact JSy h hc
   |some q=>
    obtain⟨sz',ys⟩:=q;simp only[el]at h hc;split at h
    case h_3=>exact JNr h (by simp only[Vi]at hc;exact hc.2) (Yo (by simp only[Vi]at hc;exact hc.1))
    all_goals ((repeat' split at h)<;>first|(cases h;done)|(cases h;simp_all;exact Yo hc.1))
  ·cases h
 |len x=>
  simp only[step]at h;simp only[chk]at hc;split at h
  ·rename_i v e1;simp only[e1]at hc;cases el:UG H v with
   |none=>
    simp only[el]at h;split at h
    ·simp only at hc;split at h
     ·rename_i e3;cases h;exact JDk e3 hc
     ·cases h
    ·cases h
   |some q=>
    obtain⟨sz',ys⟩:=q;simp only[el,Vd]at h;subst h;have hb:JB3 H v=true:=by
     cases v<;>first|exact hc|rfl
    exact Yo hb
  ·cases h
 |ld n x=>
  simp only[step]at h;simp only[chk]at hc
  (repeat' split at h)<;>first|(cases h;done)|(cases h;trivial)|(cases h;simp_all;done)|(cases h;simp_all;exact JDk (by assumption) hc.1)
 |sto n x y=>
  simp only[step]at h;simp only[chk]at hc;split at h
  ·(repeat' split at h)<;>first|(cases h;done)|(cases h;trivial)|(cases h;simp_all;done)
  ·(repeat' split at h)<;>first|(cases h;done)|(cases h;trivial)|(cases h;simp_all;done)
  ·rename_i e1 e2;simp only[e1,e2,Vu]at hc
  ·rename_i e1 e2;simp only[e1,e2]at hc;exact JSz h hc
  ·cases h
 |ixa ag sz x y=>
  simp only[step]at h;simp only[chk]at hc
  (repeat' split at h)<;>first|(cases h;done)|(cases h;trivial)|(cases h;simp_all;done)|(cases h;simp_all;exact JDk (by assumption) hc.1)
 |b2s x=>
  simp only[step]at h;simp only[chk]at hc
  (repeat' split at h)<;>first|(cases h;done)|(cases h;simp_all;exact Yo hc.1)
 |nilq f n x=>
  simp only[step]at h;simp only[chk]at hc
  (repeat' split at h)<;>first|(cases h;done)|(cases h;trivial)|(cases h;simp_all;exact Yo hc)
 |mpu c m k v=>
  simp only[step]at h;simp only[chk]at hc;split at h
  ·(repeat' split at h)<;>first|(cases h;done)|(cases h;trivial)
  ·rename_i e3;simp only[e3]at hc;unfold JSR at h;split at h
   ·rename_i hj;simp only[hj,beq_iff_eq]at hc;split at h
    ·cases h;exact hc
    ·cases h
   ·cases h
  ·cases h
 |mov x=>
  simp only[step]at h;obtain⟨v,_,rfl⟩:=Option.map_eq_some_iff.1 h;trivial
 |_=>
  simp only[step]at h;simp only[chk]at hc
  (repeat' split at h)<;>first|(cases h;done)|(cases h;trivial)|(cases h;simp_all;done)
end Av
namespace Av
open Go
variable [Glb][Rls]
variable {G:Heap}{ks:List Nat}{D:Nat→Prop}{Db:Nat→Bool}{σ:Nat→Nat}{P:Program}
mutual
def JS0:Av→List Nat
 |.ref i _|.ms i _|.sub i _ _ _|.el i _ _ _|.mp i|.tr i _=>[i]
 |.agg cs=>JDA cs
 |.tup cs=>JDA cs
 |.clo _ a b=>JDA a++JDA b
 |_=>[]
def JDA:List Av→List Nat
 |[]=>[]
 |c::r=>JS0 c++JDA r
end
def JNu:List (Nat×Av)→List Nat
 |[]=>[]
 |e::r=>JS0 e.2++JNu r
def idsO:Obj→List Nat
 |.box cs=>JDA cs
 |.lp l=>JNu l.tm
 |_=>[]
mutual
def inB(ks:List Nat):Av→Bool
 |.ref i _|.ms i _|.sub i _ _ _|.el i _ _ _|.mp i|.tr i _=>ks.contains i
 |.agg cs=>YB ks cs
 |.tup cs=>YB ks cs
 |.clo _ a b=>YB ks a&&YB ks b
 |_=>true
def YB(ks:List Nat):List Av→Bool
 |[]=>true
 |c::r=>inB ks c&&YB ks r
end
def JBP(ks:List Nat):List (Nat×Av)→Bool
 |[]=>true
 |e::r=>inB ks e.2&&JBP ks r
def JH4(ks:List Nat):Obj→Bool
 |.box cs=>YB ks cs
 |.lp l=>JBP ks l.tm
 |_=>true
theorem JJl(hG:∀i,ks.contains i=true→(G i).isSome=true)(c:Av):inB ks c=true→JV G c:=
 Av.rec (motive_1:=fun c=>inB ks c=true→JV G c) (motive_2:=fun cs=>YB ks cs=true→JR G cs)
  (fun _ _=>trivial) (fun i _ h=>hG i h) (fun i _ h=>hG i h) (fun i _ _ _ h=>hG i h) (fun i _ _ _ h=>hG i h) (fun cs ih h=>ih h) (fun cs ih h=>ih h)
  (fun f a b iha ihb h=>by simp only[inB,Vi]at h;exact⟨iha h.1,ihb h.2⟩) (fun i h=>hG i h) (fun i _ h=>hG i h) (fun _=>trivial) (fun _=>trivial) (fun _ _ _=>trivial) (fun _=>trivial)
  (fun c r ihc ihr h=>by simp only[YB,Vi]at h;exact⟨ihc h.1,ihr h.2⟩) c
theorem JKo(hG:∀i,ks.contains i=true→(G i).isSome=true):∀cs:List Av,YB ks cs=true→JR G cs
 |[],_=>trivial
 |c::r,h=>by simp only[YB,Vi]at h;exact⟨JJl hG c h.1,JKo hG r h.2⟩
theorem JDl(hG:∀i,ks.contains i=true→(G i).isSome=true):∀cs:List (Nat×Av),JBP ks cs=true→Uz G cs
 |[],_=>trivial
 |c::r,h=>by simp only[JBP,Vi]at h;exact⟨JJl hG c.2 h.1,JDl hG r h.2⟩
theorem JGm(hG:∀i,ks.contains i=true→(G i).isSome=true)(o:Obj)(h:JH4 ks o=true):J8 G o:=by
 cases o with
 |box cs=>exact JKo hG cs h
 |lp l=>exact JDl hG l.tm h
 |_=>trivial
theorem ZM{α:Type}(l:List (Nat×α))(ks:List Nat)(j:Nat):get (keeps l ks) j=if ks.contains j then get l j else none:=by
 induction l with
 |nil=>simp[keeps,get]
 |cons e r ih=>
  obtain⟨k,u⟩:=e;simp only[keeps];split
  ·rename_i h;simp only[get,ih];split
   ·subst_vars;simp_all
   ·rfl
  ·rename_i h;rw[ih];simp only[get];split
   ·split
    ·subst_vars;simp_all
    ·rfl
   ·rfl
def keys{α:Type}(l:List (Nat×α)):List Nat:=l.map (·.1)
theorem UV{α:Type}{l:List (Nat×α)}{i:Nat}:(keys l).contains i=true↔(get l i).isSome=true:=by
 induction l with
 |nil=>simp[keys,get]
 |cons e r ih=>
  obtain⟨k,u⟩:=e;simp only[keys,Va,List.contains_cons,get,Vx,beq_iff_eq]at ih⊢;by_cases h:k=i
  ·subst h;simp
  ·rw[if_neg h,←ih];simp[Ne.symm h]
def reach(hp:List (Nat×Obj)):Nat→List Nat→List Nat→List Nat
 |0,_,seen=>seen
 |_+1,[],seen=>seen
 |n+1,i::todo,seen=>if seen.contains i then reach hp n todo seen else match get hp i with
  |some o=>reach hp n (idsO o++todo) (i::seen)
  |none=>reach hp n todo seen
def JB4:Nat:=4000
def JGn(Db:Nat→Bool)(tm:List (Nat×Av))(hp:List (Nat×Obj)):List (Nat×Obj)→Bool
 |hp'=>JBP (keys hp') tm&&(hp'.all fun e=>JH4 (keys hp') e.2)&&(hp.all fun e=> !Db e.1||(keys hp').contains e.1)
theorem JFv(hD:∀i,D i→Db i=true){tm:List (Nat×Av)}{hp:List (Nat×Obj)}{tm':List (Nat×Av)}(htm:∀t v,get tm' t=some v→get tm t=some v)(h:JGn Db tm' hp (keeps hp ks)=true):
  Wk D ⟨tm,hp⟩ ⟨tm',keeps hp ks⟩:=by
 simp only[JGn,Vi,List.all_eq_true,Vx,Bool.not_eq_true']at h;obtain⟨⟨h1,h2⟩,h3⟩:=h;have hG:∀i,(keys (keeps hp ks)).contains i=true→(get (keeps hp ks) i).isSome=true:=fun i hi=>UV.1 hi
 have hle:∀i o,get (keeps hp ks) i=some o→get hp i=some o:=by
  intro i o hi;rw[ZM]at hi;split at hi
  ·exact hi
  ·cases hi
 have hobj:∀i o,get (keeps hp ks) i=some o→J8 (get (keeps hp ks)) o:=fun i o hi=>JGm hG o (h2 (i,o) (get_mem _ i o hi))
 intro β A w a hc ht;refine⟨β,A,⟨?_,fun i j o o' b q1 l1 q2 l2=>hc.inj i j o o' b (hle i o q1) l1 (hle j o' q2) l2,fun i o b q1=>hc.sep i o b (hle i o q1),hc.old,hc.glob⟩,?_,fun i o b q1 q2 q3=>⟨i,o,hle i o q1,q2,q3⟩,fun _ h=>.inl h,?_⟩
 ·intro i o hi;have:=hc.objs i o (hle i o hi);have hin:=hobj i o hi;cases o with
  |box cs=>
   obtain⟨b,C,T,e1,e2,e3,e4,e5⟩:=this;exact⟨b,C,T,e1,e2,e3,e4,fun j c v hj hv=>(e5 j c v hj hv).less hle (UJ (hin:JR _ cs) j c hj)⟩
  |row ver sz xs=>exact this
  |mapo es=>exact this
  |fbox ds=>trivial
  |frz ver sz xs=>trivial
  |gone=>trivial
  |sit s p=>exact this
  |tre a b c d=>exact this
  |lp l=>
   obtain⟨b,r,e1,e2,e3,e4,e6,e7,e8,e9,e10⟩:=this;refine⟨b,r,e1,e2,e3,e4,e6,e7,e8,e9,fun t v htv=>?_⟩;obtain⟨u,q1,q2⟩:=e10 t v htv;exact⟨u,q1,q2.less hle (XT (hin:Uz _ l.tm) t v htv)⟩
 ·intro t v htv;obtain⟨u,q1,q2⟩:=ht t v (htm t v htv);exact⟨u,q1,q2.less hle (XT (JDl hG _ h1) t v htv)⟩
 ·intro c u hb hv;have hin:∀i,D i→(get hp i).isSome=true→(get (keeps hp ks) i).isSome=true:=by
   intro i hi hs;obtain⟨o,ho⟩:=Option.isSome_iff_exists.1 hs;rcases h3 (i,o) (get_mem _ i o ho)with h|h
   ·rw[hD i hi]at h;cases h
   ·exact hG i h
  refine hv.less hle ?_;cases hv with
  |d _ _ _=>trivial
  |ref i _ _ _ _ _ h0 _ _=>exact hin i hb h0
  |ms i _ _ _ h0 _ _=>exact hin i hb h0
  |sub i _ _ _ _ _ h0 _ _=>exact hin i hb h0
  |el i _ _ _ _ _ _ _ h0 _=>exact hin i hb h0
  |mp i _ _ h0 _ _ _=>exact hin i hb h0
  |tr i _ _ _ h0 _ _=>exact hin i hb h0
  |_=>exact hb.elim
def Zh:List Nat→Bool
 |[]=>true
 |i::r=> !r.contains i&&Zh r
theorem ZN:∀{l:List Nat},Zh l=true→l.Nodup
 |[],_=>List.nodup_nil
 |i::r,h=>by
  simp only[Zh,Vi,Bool.not_eq_true']at h;exact List.nodup_cons.2 ⟨by simpa using h.1,ZN h.2⟩
theorem Av.YZ(σ ρ:Nat→Nat)(c:Av):(c.ren σ).ren ρ=c.ren (fun i=>ρ (σ i)):=
 Av.rec (motive_1:=fun c=>(c.ren σ).ren ρ=c.ren (fun i=>ρ (σ i))) (motive_2:=fun cs=>J3 ρ (J3 σ cs)=J3 (fun i=>ρ (σ i)) cs) (fun _=>rfl) (fun _ _=>rfl) (fun _ _=>rfl) (fun _ _ _ _=>rfl) (fun _ _ _ _=>rfl)
  (fun cs ih=>by simp only[Av.ren,ih]) (fun cs ih=>by simp only[Av.ren,ih]) (fun f a b iha ihb=>by simp only[Av.ren,iha,ihb]) (fun _=>rfl) (fun _ _=>rfl) rfl rfl (fun _ _=>rfl) rfl (fun c r ihc ihr=>by simp only[J3,ihc,ihr]) c
theorem JEN(σ ρ:Nat→Nat)(cs:List Av):J3 ρ (J3 σ cs)=J3 (fun i=>ρ (σ i)) cs:=by
 simp only[J7,List.map_map];exact List.map_congr_left fun c _=>Av.YZ σ ρ c
theorem JH5(σ ρ:Nat→Nat):∀l:List (Nat×Av),X9 ρ (X9 σ l)=X9 (fun i=>ρ (σ i)) l
 |[]=>rfl
 |(t,c)::r=>by simp only[X9,Av.YZ,JH5 σ ρ r]
theorem Obj.YZ(σ ρ:Nat→Nat)(o:Obj):(o.ren σ).ren ρ=o.ren (fun i=>ρ (σ i)):=by
 cases o with
 |box cs=>simp only[Obj.ren,JEN]
 |lp l=>simp only[Obj.ren,JH5]
 |_=>rfl
theorem Av.JAv(hσ:∀i,ks.contains i=true→σ i=i)(c:Av):inB ks c=true→c.ren σ=c:=
 Av.rec (motive_1:=fun c=>inB ks c=true→c.ren σ=c) (motive_2:=fun cs=>YB ks cs=true→J3 σ cs=cs) (fun _ _=>rfl) (fun i _ h=>by simp only[Av.ren,hσ i h]) (fun i _ h=>by simp only[Av.ren,hσ i h])
  (fun i _ _ _ h=>by simp only[Av.ren,hσ i h]) (fun i _ _ _ h=>by simp only[Av.ren,hσ i h]) (fun cs ih h=>by simp only[Av.ren,ih h]) (fun cs ih h=>by simp only[Av.ren,ih h])
  (fun f a b iha ihb h=>by simp only[inB,Vi]at h;simp only[Av.ren,iha h.1,ihb h.2]) (fun i h=>by simp only[Av.ren,hσ i h]) (fun i _ h=>by simp only[Av.ren,hσ i h]) (fun _=>rfl) (fun _=>rfl) (fun _ _ _=>rfl) (fun _=>rfl)
  (fun c r ihc ihr h=>by simp only[YB,Vi]at h;simp only[J3,ihc h.1,ihr h.2]) c
theorem JEO(hσ:∀i,ks.contains i=true→σ i=i):∀cs:List Av,YB ks cs=true→J3 σ cs=cs
 |[],_=>rfl
 |c::r,h=>by simp only[YB,Vi]at h;simp only[J3,Av.JAv hσ c h.1,JEO hσ r h.2]
theorem JH6(hσ:∀i,ks.contains i=true→σ i=i):∀cs:List (Nat×Av),JBP ks cs=true→X9 σ cs=cs
 |[],_=>rfl
 |(t,c)::r,h=>by simp only[JBP,Vi]at h;simp only[X9,Av.JAv hσ c h.1,JH6 hσ r h.2]
theorem Obj.JAv(hσ:∀i,ks.contains i=true→σ i=i)(o:Obj)(h:JH4 ks o=true):o.ren σ=o:=by
 cases o with
 |box cs=>simp only[Obj.ren,JEO hσ cs h]
 |lp l=>simp only[Obj.ren,JH6 hσ l.tm h]
 |_=>rfl
def shift(σ:Nat→Nat):List (Nat×Obj)→List (Nat×Obj)
 |[]=>[]
 |e::r=>(σ e.1,e.2.ren σ)::shift σ r
theorem Up(σ:Nat→Nat):∀l:List (Nat×Obj),shift σ l=l.map fun e=>(σ e.1,e.2.ren σ)
 |[]=>rfl
 |e::r=>by simp only[shift,Va,Up σ r]
theorem JBQ(σ:Nat→Nat)(l:List (Nat×Obj)):keys (shift σ l)=(keys l).map σ:=by
 simp only[keys,Up,List.map_map];rfl
def JS1(ρ:Nat→Nat)(ks:List Nat):Bool:=ks.all fun i=>ks.all fun j=> !(ρ i==ρ j)||i==j
theorem get_of_mem{α:Type}:∀{l:List (Nat×α)} {k:Nat} {o:α},(keys l).Nodup→(k,o)∈l→get l k=some o
 |(i,x)::r,k,o,hn,h=>by
  simp only[keys,Va,List.nodup_cons]at hn;simp only[get];rcases VA.1 h with h|h
  ·cases h;rw[if_pos rfl]
  ·have:i≠k:=fun e=>hn.1 (e▸VC.2 ⟨_,h,rfl⟩)
   rw[if_neg this];exact get_of_mem hn.2 h
theorem JCc:∀{l:List (Nat×Obj)} {k:Nat},(get (shift σ l) k).isSome=true→∃i,(get l i).isSome=true∧σ i=k
 |[],k,h=>by cases h
 |(i,o)::r,k,h=>by
  simp only[shift,get]at h;split at h
  ·rename_i e;exact⟨i,by simp[get],e⟩
  ·obtain⟨j,h1,h2⟩:=JCc h;refine⟨j,?_,h2⟩;simp only[get];split
   ·rfl
   ·exact h1
def JFw(used:List Nat):Nat→List Nat→List (Nat×Nat)
 |0,_=>[]
 |_,[]=>[]
 |n+1,k::r=>if used.contains n then JFw used n (k::r)else(k,n)::JFw used n r
def mvN:List (Nat×Nat)→Nat→Nat
 |[],i=>i
 |(a,b)::r,i=>if a=i then b else mvN r i
def JA3:List (Nat×Nat)→Nat→Nat
 |[],i=>i
 |(a,b)::r,i=>if b=i then a else JA3 r i
def mvOK(l:List (Nat×Nat))(st st':St):Bool:=
 Zh (keys st.hp)&&(keys st.hp).all (fun k=>JA3 l (mvN l k)==k)&&JBP (keys st.hp) st.tm&&(st.hp.all fun e=>JH4 (keys st.hp) e.2)&&JBP (keys st'.hp) st'.tm&&(st'.hp.all fun e=>JH4 (keys st'.hp) e.2)
def mv(Db:Nat→Bool)(st:St):St:=match(keys st.hp).filter fun k=>Nat.blt k 500&& !Db k with
 |[]=>st
 |ks=>let l:=JFw (keys st.hp) 1000 ks
  let st':St:=⟨X9 (mvN l) st.tm,shift (mvN l) st.hp⟩
  if mvOK l st st'&&(keys st.hp).all (fun k=> !Db k||mvN l k==k)then st' else st
theorem JA4{l:List (Nat×Obj)}{k:Nat}{o:Obj}(h:get (shift σ l) k=some o):∃i o0,(i,o0)∈l∧σ i=k∧o=o0.ren σ:=by
 induction l with
 |nil=>cases h
 |cons e r ih=>
  simp only[shift,get]at h;split at h
  ·rename_i he;cases h;exact⟨e.1,e.2,Vh,he,rfl⟩
  ·obtain⟨i,o0,h1,h2,h3⟩:=ih h;exact⟨i,o0,Vn _ h1,h2,h3⟩
theorem mv_wk(hD:∀i,D i→Db i=true){l:List (Nat×Nat)}{st st':St}(ht:st'.tm=X9 (mvN l) st.tm)(hh:st'.hp=shift (mvN l) st.hp)(hok:mvOK l st st'=true)
  (hfix:(keys st.hp).all (fun k=> !Db k||mvN l k==k)=true):Wk D st st':=by
 simp only[mvOK,Vi]at hok;obtain⟨⟨⟨⟨⟨c1,c2⟩,c3⟩,c4⟩,c5⟩,c6⟩:=hok;have hnd:=ZN c1;have hback:∀k,(keys st.hp).contains k=true→JA3 l (mvN l k)=k:=fun k hk=>by
  have:=List.all_eq_true.1 c2 k (sX hk);simpa using this
 have hfx:∀k,(keys st.hp).contains k=true→Db k=true→mvN l k=k:=fun k hk hd=>by
  have:=List.all_eq_true.1 hfix k (sX hk);simpa[hd]using this
 have hσρ:∀i,(keys st.hp).contains i=true→(fun i=>JA3 l (mvN l i)) i=i:=fun i hi=>hback i hi
 intro β A w a hc htr;have hdom:∀i,(get st'.hp i).isSome=true→∃j,(keys st.hp).contains j=true∧mvN l j=i:=by
  intro i hi;rw[hh]at hi;obtain⟨j,h1,h2⟩:=JCc hi;exact⟨j,UV.2 h1,h2⟩
 have hun:Y1 (JA3 l) (get st'.hp) (get st.hp):=by
  intro i o hi;rw[hh]at hi;obtain⟨j,o0,h1,rfl,rfl⟩:=JA4 hi;have hj:(keys st.hp).contains j=true:=by simp only[keys,List.contains_eq_mem,decide_eq_true_eq];exact VC.2 ⟨_,h1,rfl⟩
  rw[hback j hj,Obj.YZ,Obj.JAv hσρ o0 (by have:=List.all_eq_true.1 c4 _ h1;exact this)];exact get_of_mem hnd h1
 have hG:∀i,(keys st'.hp).contains i=true→(get st'.hp i).isSome=true:=fun i hi=>UV.1 hi
 have hcl:closed (get st'.hp):=fun i o hi=>JGm hG o (List.all_eq_true.1 c6 (i,o) (get_mem _ i o hi))
 have hinj:∀i j,(get st'.hp i).isSome=true→(get st'.hp j).isSome=true→JA3 l i=JA3 l j→i=j:=by
  intro i j hi hj e;obtain⟨i',g1,rfl⟩:=hdom i hi;obtain⟨j',g2,rfl⟩:=hdom j hj;rw[hback i' g1,hback j' g2]at e;rw[e]
 have hc':=Core.Xv hc hun hinj hcl;have hren:∀c:Av,inB (keys st.hp) c=true→c=(c.ren (mvN l)).ren (JA3 l):=fun c h=>by rw[Av.YZ,Av.JAv hσρ c h]
 refine⟨_,A,hc',?_,?_,fun b hb=>.inl hb,?_⟩
 ·intro t v hv;rw[ht,JAE]at hv;cases e:get st.tm t with
  |none=>simp[e]at hv
  |some c=>
   simp only[e,Vj,Vd]at hv;subst hv;obtain⟨u,q1,q2⟩:=htr t c e;refine⟨u,q1,VRep.Xv hun q2 _ (hren c ?_) ?_⟩
   ·have:∀tm:List (Nat×Av),JBP (keys st.hp) tm=true→get tm t=some c→inB (keys st.hp) c=true:=by
     intro tm
     induction tm with
     |nil=>intro _ h;cases h
     |cons e r ih=>
      intro h1 h2;simp only[JBP,Vi]at h1;simp only[get]at h2;split at h2
      ·cases h2;exact h1.1
      ·exact ih h1.2 h2
    exact this _ c3 e
   ·have h5:=JDl hG _ c5;rw[ht]at h5;exact XT h5 t _ (by rw[JAE,e];rfl)
 ·intro i o b hi hl hb;exact⟨JA3 l i,_,hun i o hi,by rw[UU];exact hl,hb⟩
 ·intro c u hb hv;have key:∀i,D i→(get st.hp i).isSome=true→JA3 l i=i∧(get st'.hp i).isSome=true:=by
   intro i hi hs;have hk:=UV.2 hs;have h1:=hfx i hk (hD i hi);have h2:=hback i hk;rw[h1]at h2;refine⟨h2,?_⟩;rw[hh,←UV,JBQ];simp only[List.contains_eq_mem,decide_eq_true_eq]at hk⊢;exact VC.2 ⟨i,hk,h1⟩
  cases hv with
  |d x u h=>exact .d _ _ h
  |ref i off b p u h1 h0 h2 h3=>exact VRep.Xv hun (.ref i off b p u h1 h0 h2 h3) _ (by simp only[Av.ren,(key i hb h0).1]) (key i hb h0).2
  |ms i ver u h1 h0 h2 h3=>exact VRep.Xv hun (.ms i ver u h1 h0 h2 h3) _ (by simp only[Av.ren,(key i hb h0).1]) (key i hb h0).2
  |sub i ver off len u h1 h0 h2 h3=>exact VRep.Xv hun (.sub i ver off len u h1 h0 h2 h3) _ (by simp only[Av.ren,(key i hb h0).1]) (key i hb h0).2
  |el i ver k off b p u h1 h0 h2=>exact VRep.Xv hun (.el i ver k off b p u h1 h0 h2) _ (by simp only[Av.ren,(key i hb h0).1]) (key i hb h0).2
  |mp i u h1 h0 h2 h3 h4=>exact VRep.Xv hun (.mp i u h1 h0 h2 h3 h4) _ (by simp only[Av.ren,(key i hb h0).1]) (key i hb h0).2
  |tr i h u h1 h0 h2 h3=>exact VRep.Xv hun (.tr i h u h1 h0 h2 h3) _ (by simp only[Av.ren,(key i hb h0).1]) (key i hb h0).2
  |_=>exact hb.elim
theorem mv_ok(hD:∀i,D i→Db i=true)(st:St):Wk D st (mv Db st):=by
 unfold mv;split
 ·exact Wk.refl st
 ·dsimp only;split
  ·rename_i h;simp only[Vi]at h;exact mv_wk hD rfl rfl h.1 h.2
  ·exact Wk.refl st
def gc0(Db:Nat→Bool)(ts:List Nat)(st:St):St:=
 let tm:=keeps st.tm ts
 let hp:=keeps st.hp (reach st.hp JB4 (JNu tm++(keys st.hp).filter Db) [])
 if JGn Db tm st.hp hp then⟨tm,hp⟩else st
theorem gc0_ok(hD:∀i,D i→Db i=true)(ts:List Nat)(st:St):Wk D st (gc0 Db ts st):=by
 unfold gc0;dsimp only;split
 ·rename_i h;refine JFv hD ?_ h;intro t v htv;rw[ZM]at htv;split at htv
  ·exact htv
  ·cases htv
 ·exact Wk.refl st
def gc(Db:Nat→Bool)(ts:List Nat)(st:St):St:=mv Db (gc0 Db ts st)
theorem JKp(hD:∀i,D i→Db i=true)(ts:List Nat)(st:St):Wk D st (gc Db ts st):=(gc0_ok hD ts st).trans (mv_ok hD _)
def frzV(i ver sz:Nat)(xs:List Dat):Av→Av
 |.ms j v=>if j=i∧v=ver then .d (.list sz xs)else .ms j v
 |.sub j v off len=>if j=i∧v=ver then .d (.list sz ((xs.drop off).take len))else .sub j v off len
 |c=>c
def frzT(i ver sz:Nat)(xs:List Dat):List (Nat×Av)→List (Nat×Av)
 |[]=>[]
 |(t,c)::r=>(t,frzV i ver sz xs c)::frzT i ver sz xs r
def frz1(i:Nat)(st:St):St:=match get st.hp i with
 |some (.row ver sz xs)=>⟨frzT i ver sz xs st.tm,put st.hp i (.frz ver sz xs)⟩
 |_=>st
theorem JH7{i ver sz:Nat}{xs:List Dat}:∀(l:List (Nat×Av)) (t:Nat),get (frzT i ver sz xs l) t=(get l t).map (frzV i ver sz xs)
 |[],_=>rfl
 |(k,c)::r,t=>by simp only[frzT,get];split;rfl;exact JH7 r t
theorem JS2(i:Nat)(st:St):Wk D st (frz1 i st):=by
 unfold frz1;split
 ·rename_i ver sz xs hrow;refine Wk.JFH ?_;intro β A w a hc ht;have hst:=Stp.freeze hc hrow;have hh:get (put st.hp i (.frz ver sz xs))=upd (get st.hp) i (some (.frz ver sz xs)):=funext fun j=>by rw[UF];rfl
  rw[hh];refine⟨_,_,hst,?_⟩;intro t v htv;simp only[JH7]at htv;cases hg:get st.tm t with
  |none=>simp[hg]at htv
  |some c=>
   simp only[hg,Vj,Vd]at htv;subst htv;obtain⟨u,q1,q2⟩:=ht t c hg;refine⟨u,q1,?_⟩;have hv:=hst.vals _ _ q2;unfold frzV;split
   ·split
    ·rename_i e;obtain⟨rfl,rfl⟩:=e;cases hv with|ms _ _ _ hu h0 g1 g2=>exact .d _ _ (g2 _ _ (JB _ _ _))
    ·exact hv
   ·split
    ·rename_i e;obtain⟨rfl,rfl⟩:=e;cases hv with|sub _ _ _ _ _ hu h0 g1 g2=>exact .d _ _ (g2 _ _ (JB _ _ _))
    ·exact hv
   ·exact hv
 ·exact Wk.refl st
abbrev Xs:=Cee→List Av→List (Nat×Obj)→Option (Av×List (Nat×Obj)×List Nat×List Nat)
def Uy(P:Program)(call:Xs):Prop:=∀c vs hp v hp' tk uk,call c vs hp=some (v,hp',tk,uk)→
 ∃T ups,JC P c vs T v ups∧XE (get hp) T∧(∀i,get hp' i=JA (get hp) ups i)∧T.map (·.1)=tk∧ups.map (·.1)=uk
def evS(call:Xs):Ss→St→Log→Option (St×Log)
 |.nil,st,lg=>some (st,lg)
 |.op d o r,st,lg=>match chk (get st.tm) (get st.hp) o with
  |true=>match step (get st.tm) (get st.hp) (d.getD 0) o with
   |some x=>evS call r (st.app d x.v x.ups) (lg++[(rd (get st.tm) (d.getD 0) o,x.ups.map (·.1))])
   |none=>none
  |false=>none
 |.call d f args r,st,lg=>match target (get st.tm) f args with
  |some (c,vs)=>match call c vs st.hp with
   |some (v,hp,tk,uk)=>evS call r (st.set d v hp) (lg++[(tk,uk)])
   |none=>none
  |none=>none
 |.sc c b body y d r,st,lg=>match get st.tm c with
  |some (.d (.bool x))=>if x=b then match evS call body st []with
    |some (st',l)=>match val (get st'.tm) y with
     |some (.d (.bool yv))=>evS call r ⟨put (Un st.tm body.J1) d (.d (.bool (if b then x&&yv else x||yv))),st'.hp⟩ (lg++(l++[([],[])]))
     |_=>none
    |none=>none
   else evS call r ⟨put (Un st.tm body.J1) d (.d (.bool x)),st.hp⟩ (lg++(List.replicate body.len ([],[])++[([],[])]))
  |_=>none
theorem JAi{call:Xs}:∀(s:Ss) (st:St) (lg:Log) (st':St) (lg':Log),evS call s st lg=some (st',lg')→∃l,lg'=lg++l∧l.length=s.len
 |.nil,st,lg,st',lg',h=>by simp only[evS,Vd,Ve]at h;exact⟨[],by simp[h.2],rfl⟩
 |.op d o r,st,lg,st',lg',h=>by
  simp only[evS]at h;split at h
  ·split at h
   ·obtain⟨l,h1,h2⟩:=JAi r _ _ _ _ h;exact⟨_::l,by rw[h1,List.append_assoc];rfl,by simp[Ss.len,h2]⟩
   ·cases h
  ·cases h
 |.call d f args r,st,lg,st',lg',h=>by
  simp only[evS]at h;split at h
  ·split at h
   ·obtain⟨l,h1,h2⟩:=JAi r _ _ _ _ h;exact⟨_::l,by rw[h1,List.append_assoc];rfl,by simp[Ss.len,h2]⟩
   ·cases h
  ·cases h
 |.sc c b body y d r,st,lg,st',lg',h=>by
  simp only[evS]at h;split at h
  ·split at h
   ·split at h
    ·rename_i st1 l1 hb;obtain⟨l0,g1,g2⟩:=JAi body _ _ _ _ hb;split at h
     ·obtain⟨l,h1,h2⟩:=JAi r _ _ _ _ h;refine⟨l1++[([],[])]++l,by rw[h1];simp,?_⟩;simp only[List.nil_append]at g1;subst g1;simp[Ss.len,g2,h2]
     ·cases h
    ·cases h
   ·obtain⟨l,h1,h2⟩:=JAi r _ _ _ _ h;refine⟨List.replicate body.len ([],[])++[([],[])]++l,by rw[h1];simp,?_⟩;simp[Ss.len,h2]
  ·cases h
theorem JBR{call:Xs}(hcall:Uy P call):∀(s:Ss) (st:St) (lg:Log) (st':St) (lg':Log),evS call s st lg=some (st',lg')→UZ P s (fun s l=>s=st'∧l=lg') st lg
 |.nil,st,lg,st',lg',h=>by simp only[evS,Vd,Ve]at h;exact h
 |.op d o r,st,lg,st',lg',h=>by
  simp only[evS]at h;split at h
  ·rename_i hc;split at h
   ·rename_i x hx;simp only[UZ,hx];exact⟨JNt hx hc,JBR hcall r _ _ _ _ h⟩
   ·cases h
  ·cases h
 |.call d f args r,st,lg,st',lg',h=>by
  simp only[evS]at h;split at h
  ·rename_i c vs ht;split at h
   ·rename_i v hp tk uk hv;obtain⟨T,ups,h1,h2,h3,h4,h5⟩:=hcall _ _ _ _ _ _ _ hv;simp only[UZ,ht];refine⟨T,v,ups,hp,h1,h2,h3,?_⟩;rw[h4,h5];exact JBR hcall r _ _ _ _ h
   ·cases h
  ·cases h
 |.sc c b body y d r,st,lg,st',lg',h=>by
  simp only[evS]at h;split at h
  ·rename_i x hx;simp only[UZ,hx];split at h
   ·rename_i hxb;split at h
    ·rename_i st1 l1 hb;split at h
     ·rename_i yv hy;obtain⟨l0,g1,g2⟩:=JAi body _ _ _ _ hb;refine⟨yv,st1.hp,l1,by rw[g1];simpa using g2,fun _=>UN ?_ body _ _ (JBR hcall body _ _ _ _ hb),fun hn=>absurd hxb hn,JBR hcall r _ _ _ _ h⟩;rintro s l ⟨rfl,rfl⟩;exact⟨hy,rfl,rfl⟩
     ·cases h
    ·cases h
   ·rename_i hxb;refine⟨false,st.hp,List.replicate body.len ([],[]),sP,fun he=>absurd he hxb,fun _=>rfl,?_⟩;have e:(if b=true then x&&false else x||false)=x:=by cases b<;>cases x<;>simp_all
    rw[e];exact JBR hcall r _ _ _ _ h
  ·cases h
theorem YC:∀(s:Ss) (K:St→Prop) (st:St) (lg:Log),UZ P s (fun s _=>K s) st lg→wps P s K st
 |.nil,K,st,lg,h=>h
 |.op d o r,K,st,lg,h=>by
  simp only[UZ]at h;simp only[wps];split at h
  ·exact⟨h.1,YC r K _ _ h.2⟩
  ·exact h.elim
 |.call d f args r,K,st,lg,h=>by
  simp only[UZ]at h;simp only[wps];split at h
  ·obtain⟨T,v,ups,hp,h1,h2,h3,h4⟩:=h;exact⟨T,v,ups,hp,h1,h2,h3,YC r K _ _ h4⟩
  ·exact h.elim
 |.sc c b body y d r,K,st,lg,h=>by
  simp only[UZ]at h;simp only[wps];split at h
  ·obtain⟨yv,hp,l,h1,h2,h3,h4⟩:=h;refine⟨yv,hp,fun e=>YC body _ _ [] (UN ?_ body _ _ (h2 e)),h3,YC r K _ _ h4⟩;rintro s l' ⟨q1,q2,_⟩;exact⟨q1,q2⟩
  ·exact h.elim
theorem ZO{K K':St→Prop}(hK:∀s,K s→K' s):∀(s:Ss) (st:St),wps P s K st→wps P s K' st
 |.nil,st,h=>hK _ h
 |.op d o r,st,h=>by
  simp only[wps]at h⊢;split at h
  ·exact⟨h.1,ZO hK r _ h.2⟩
  ·exact h.elim
 |.call d f args r,st,h=>by
  simp only[wps]at h⊢;split at h
  ·obtain⟨T,v,ups,hp,h1,h2,h3,h4⟩:=h;exact⟨T,v,ups,hp,h1,h2,h3,ZO hK r _ h4⟩
  ·exact h.elim
 |.sc c b body y d r,st,h=>by
  simp only[wps]at h⊢;split at h
  ·obtain⟨yv,hp,h1,h2,h3⟩:=h;exact⟨yv,hp,h1,h2,ZO hK r _ h3⟩
  ·exact h.elim
theorem Jc:∀(ic:Ic) {Q Q':Exit→St→Prop} (st:St),(∀e s,Q e s→Q' e s)→wpc P D ic Q st→wpc P D ic Q' st
 |.skip,Q,Q',st,hQ,h=>hQ _ _ h
 |.reg s,Q,Q',st,hQ,h=>ZO (fun s=>hQ _ s) s st h
 |.regd un s,Q,Q',st,hQ,h=>UN (fun s lg h=>⟨h.1,hQ _ _ h.2⟩) s st [] h
 |.dn a ts,Q,Q',st,hQ,h=>Jc a st (fun e s h=>by cases e<;>exact hQ _ _ h) h
 |.seq a b,Q,Q',st,hQ,h=>Jc a st (fun e s h=>by
   cases e with
   |normal=>exact Jc b s hQ h
   |_=>exact hQ _ _ h) h
 |.ite c a b,Q,Q',st,hQ,h=>by
  simp only[wpc]at h⊢;split at h
  ·exact⟨fun e=>Jc a st hQ (h.1 e),fun e=>Jc b st hQ (h.2 e)⟩
  ·exact h.elim
 |.block id b,Q,Q',st,hQ,h=>Jc b st (fun e s h=>by
   cases e with
   |exit id'=>
    simp only at h⊢;split at h
    ·rename_i e;rw[if_pos e];exact hQ _ _ h
    ·rename_i e;rw[if_neg e];exact hQ _ _ h
   |_=>exact hQ _ _ h) h
 |.loop b,Q,Q',st,hQ,h=>by
  obtain⟨I,h0,h1⟩:=h;refine⟨I,h0,fun n s hs=>Jc b s (fun e s h=>?_) (h1 n s hs)⟩;cases e with
  |normal=>exact h
  |_=>exact hQ _ _ h
 |.exit id,Q,Q',st,hQ,h=>hQ _ _ h
 |.lab,Q,Q',st,hQ,h=>hQ _ _ h
 |.scp a,Q,Q',st,hQ,h=>Jc a st (fun e s h=>by
   cases e with
   |goto l=>exact h.elim
   |_=>exact hQ _ _ h) h
 |.ret,Q,Q',st,hQ,h=>hQ _ _ h
 |.bad,_,_,_,_,h=>h
 |.rng f N lid ps c1 c2 asg body,Q,Q',st,hQ,h=>by
  obtain⟨h0,h⟩:=h;refine⟨h0,fun e1 e2=>?_⟩;have h:=h e1 e2;split at h
  ·obtain⟨T,v,ups,g1,g2,g3,hp,l,g4,g5,g6,g7,g8⟩:=h;refine⟨T,v,ups,g1,g2,g3,hp,l,g4,g5,g6,g7,?_⟩;split at g8
   ·exact hQ _ _ g8
   ·exact hQ _ _ g8
   ·exact hQ _ _ g8
   ·exact g8.elim
  ·exact h.elim
def JGo{α:Type}(f:Nat→Option α):List Nat→Option α
 |[]=>none
 |i::r=>match f i with
  |some x=>some x
  |none=>JGo f r
theorem JFx{α:Type}{f:Nat→Option α}{x:α}:∀{l:List Nat},JGo f l=some x→∃i,f i=some x
 |[],h=>by cases h
 |i::r,h=>by
  simp only[JGo]at h;split at h
  ·rename_i y hy;cases h;exact⟨i,hy⟩
  ·exact JFx h
def rowsOf(Db:Nat→Bool):List (Nat×Obj)→List Nat
 |[]=>[]
 |(i,.row ..)::r=>if Db i then rowsOf Db r else i::rowsOf Db r
 |_::r=>rowsOf Db r
def evL(Db:Nat→Bool)(ts:List Nat)(f:St→Option (Exit×St)):Nat→St→Option (Exit×St)
 |0,_=>none
 |n+1,st=>match f st with
  |some (.normal,s)=>match evL Db ts f n (gc Db ts s)with
   |some r=>some r
   |none=>JGo (fun i=>evL Db ts f n (gc Db ts (frz1 i (gc Db ts s)))) (rowsOf Db (gc Db ts s).hp)
  |r=>r
def evC(call:Xs)(L:Nat)(Db:Nat→Bool):Ic→St→Option (Exit×St)
 |.skip,st=>some (.normal,st)
 |.reg s,st=>match evS call s st []with
  |some (s,_)=>some (.normal,s)
  |none=>none
 |.regd un s,st=>match evS call s st []with
  |some (s,lg)=>if X7 lg un then some (.normal,s)else none
  |none=>none
 |.dn a ts,st=>match evC call L Db a st with
  |some (.normal,s)=>some (.normal,⟨Un s.tm ts,s.hp⟩)
  |r=>r
 |.seq a b,st=>match evC call L Db a st with
  |some (.normal,s)=>evC call L Db b s
  |r=>r
 |.ite c a b,st=>match val (get st.tm) c with
  |some (.d (.bool x))=>match x with
   |true=>evC call L Db a st
   |false=>evC call L Db b st
  |_=>none
 |.block id b,st=>match evC call L Db b st with
  |some (.exit id',s)=>if id'=id then some (.normal,s)else some (.exit id',s)
  |r=>r
 |.loop b,st=>evL Db (keys st.tm) (fun s=>evC call L Db b s) L (gc Db (keys st.tm) st)
 |.exit id,st=>some (.exit id,st)
 |.ret,st=>some (.ret,st)
 |.bad,_=>none
 |.lab,st=>some (.normal,st)
 |.scp b,st=>match evC call L Db b st with
  |some (.goto _,_)=>none
  |r=>r
 |.rng f N lid ps c1 c2 _ _,st=>match get st.hp lid with
  |some _=>none
  |none=>match Xz (get st.tm) (.dyn f) [.mp lid]with
   |some (.fn g,vs)=>match call (.fn g) vs (put st.hp lid (.lp ⟨st.tm,N,ps,c1,c2,.ready,none⟩))with
    |some (_,hp,_,_)=>match get hp lid with
     |some (.lp l)=>match l.s with
      |.busy=>none
      |_=>match l.j with
       |none=>some (.normal,⟨st.tm,put hp lid .gone⟩)
       |some .ret=>some (.ret,⟨st.tm,put hp lid .gone⟩)
       |some (.exit id)=>some (.exit id,⟨st.tm,put hp lid .gone⟩)
       |_=>none
     |_=>none
    |none=>none
   |_=>none
def JA5:List Av→Bool
 |[]=>false
 |.mp _::_=>true
 |_::r=>JA5 r
def YV(P:Program)(call:Xs):Prop:=∀g vs hp r,call (.fn g) vs hp=some r→JA5 vs=true→Has P g
theorem JJm(hD:∀i,D i→Db i=true){call:Xs}{L:Nat}(hcall:Uy P call)(hhas:YV P call):
  ∀(ic:Ic) (st:St) (e:Exit) (st':St),evC call L Db ic st=some (e,st')→wpc P D ic (fun e' s=>e'=e∧s=st') st:=by
 intro ic
 induction ic with
 |skip=>intro st e st' h;simp only[evC,Vd,Ve]at h;obtain⟨rfl,rfl⟩:=h;exact⟨rfl,rfl⟩
 |reg s=>
  intro st e st' h;simp only[evC]at h;split at h
  ·rename_i s' lg hs;simp only[Vd,Ve]at h;obtain⟨rfl,rfl⟩:=h;exact YC s _ st [] (UN (fun s l h=>⟨rfl,h.1⟩) s st [] (JBR hcall s _ _ _ _ hs))
  ·cases h
 |regd un s=>
  intro st e st' h;simp only[evC]at h;split at h
  ·rename_i s' lg hs;split at h
   ·rename_i ha;simp only[Vd,Ve]at h;obtain⟨rfl,rfl⟩:=h;exact UN (fun s l h=>⟨by rw[h.2];exact ha,rfl,h.1⟩) s st [] (JBR hcall s _ _ _ _ hs)
   ·cases h
  ·cases h
 |dn a ts ih=>
  intro st e st' h;simp only[evC]at h;split at h
  ·rename_i s hs;simp only[Vd,Ve]at h;obtain⟨rfl,rfl⟩:=h;exact Jc a st (fun e s' h=>by obtain⟨rfl,rfl⟩:=h;exact⟨rfl,rfl⟩) (ih st _ _ hs)
  ·rename_i hne;refine Jc a st (fun e' s' h'=>?_) (ih st _ _ h);obtain⟨rfl,rfl⟩:=h';cases e' with
   |normal=>exact absurd h (hne _)
   |_=>exact⟨rfl,rfl⟩
 |seq a b iha ihb=>
  intro st e st' h;simp only[evC]at h;split at h
  ·rename_i s hs;exact Jc a st (fun e' s' h'=>by obtain⟨rfl,rfl⟩:=h';exact ihb _ _ _ h) (iha st _ _ hs)
  ·rename_i hne;refine Jc a st (fun e' s' h'=>?_) (iha st _ _ h);obtain⟨rfl,rfl⟩:=h';cases e' with
   |normal=>exact absurd h (hne _)
   |_=>exact⟨rfl,rfl⟩
 |ite c a b iha ihb=>
  intro st e st' h;simp only[evC]at h;simp only[wpc];split at h
  ·rename_i x hx;rw[hx];split at h
   ·exact⟨fun _=>iha _ _ _ h,fun e=>(by cases e)⟩
   ·exact⟨fun e=>(by cases e),fun _=>ihb _ _ _ h⟩
  ·cases h
 |block id b ih=>
  intro st e st' h;simp only[evC]at h;split at h
  ·rename_i id' s hs;refine Jc b st (fun e' s' h'=>?_) (ih st _ _ hs);obtain⟨rfl,rfl⟩:=h';simp only;split at h
   ·rename_i e1;rw[if_pos e1];simp only[Vd,Ve]at h;obtain⟨rfl,rfl⟩:=h;exact⟨rfl,rfl⟩
   ·rename_i e1;rw[if_neg e1];simp only[Vd,Ve]at h;obtain⟨rfl,rfl⟩:=h;exact⟨rfl,rfl⟩
  ·rename_i hne;refine Jc b st (fun e' s' h'=>?_) (ih st _ _ h);obtain⟨rfl,rfl⟩:=h';cases e' with
   |exit id'=>exact absurd h (hne _ _)
   |_=>exact⟨rfl,rfl⟩
 |loop b ih=>
  intro st e st' h;simp only[evC]at h;refine⟨fun n s=>evL Db (keys st.tm) (fun s=>evC call L Db b s) n s=some (e,st'),⟨L,_,JKp hD _ st,h⟩,?_⟩;intro n s hs;cases n with
  |zero=>cases hs
  |succ n=>
   simp only[evL]at hs;split at hs
   ·rename_i s1 h1;refine Jc b s (fun e' s' h'=>?_) (ih s _ _ h1);obtain⟨rfl,rfl⟩:=h';split at hs
    ·rename_i r hr;cases hs;exact⟨n,_,oM,JKp hD _ _,hr⟩
    ·obtain⟨i,hi⟩:=JFx hs;exact⟨n,_,oM,(JKp hD _ _).trans ((JS2 i _).trans (JKp hD _ _)),hi⟩
   ·rename_i hne;refine Jc b s (fun e' s' h'=>?_) (ih s _ _ hs);obtain⟨rfl,rfl⟩:=h';cases e' with
    |normal=>exact absurd hs (hne _)
    |_=>exact⟨rfl,rfl⟩
 |exit id=>intro st e st' h;simp only[evC,Vd,Ve]at h;obtain⟨rfl,rfl⟩:=h;exact⟨rfl,rfl⟩
 |ret=>intro st e st' h;simp only[evC,Vd,Ve]at h;obtain⟨rfl,rfl⟩:=h;exact⟨rfl,rfl⟩
 |bad=>intro st e st' h;cases h
 |lab=>intro st e st' h;simp only[evC,Vd,Ve]at h;obtain⟨rfl,rfl⟩:=h;exact⟨rfl,rfl⟩
 |scp b ih=>
  intro st e st' h;simp only[evC]at h;split at h
  ·cases h
  ·rename_i hne;refine Jc b st (fun e' s' h'=>?_) (ih st _ _ h);obtain⟨rfl,rfl⟩:=h';cases e' with
   |goto l=>exact absurd h (hne _ _)
   |_=>exact⟨rfl,rfl⟩
 |rng f N lid ps c1 c2 asg body _ _=>
  intro st e st' h;simp only[evC]at h;split at h
  ·cases h
  rename_i hlid;refine⟨hlid,fun _ _=>?_⟩;split at h
  case h_2=>cases h
  rename_i g vs htg;split at h
  case h_2=>cases h
  rename_i v hp tk uk hv;rw[htg];have hmem:JA5 vs=true:=by
   have hAL:∀(a:List Av) (j:Nat) (r:List Av),JA5 (a++ .mp j::r)=true:=by
    intro a j r
    induction a with
    |nil=>rfl
    |cons c a ih=>cases c<;>first|rfl|exact ih
   simp only[Xz]at htg;split at htg
   ·simp only[Vd,Ve]at htg;rw[←htg.2,List.append_assoc];exact hAL _ _ _
   ·simp only[Vd,Ve]at htg;rw[←htg.2,List.append_assoc];exact hAL _ _ _
   ·simp at htg
   ·cases htg
  obtain⟨T,ups,h1,h2,h3,_,_⟩:=hcall _ _ _ _ _ _ _ hv;have hupd:get (put st.hp lid (.lp ⟨st.tm,N,ps,c1,c2,.ready,none⟩))=upd (get st.hp) lid (some (.lp ⟨st.tm,N,ps,c1,c2,.ready,none⟩)):=funext fun j=>by rw[UF];rfl
  rw[hupd]at h2 h3;split at h
  case h_2=>cases h
  rename_i l hl;have hll:=h3 lid;rw[hl]at hll;refine⟨T,v,ups,hhas _ _ _ _ hv hmem,h1,h2,put hp lid .gone,l,?_,?_,hll.symm,?_,?_⟩
  ·intro i hi;rw[UF,if_neg hi,h3,JB0 _ _ _ _ _ hi]
  ·rw[UF,if_pos rfl]
  ·intro e;simp[e]at h
  ·split at h
   ·cases h
   split at h
   ·rename_i hj;rw[hj];simp only[Vd,Ve]at h;obtain⟨rfl,rfl⟩:=h;exact⟨rfl,rfl⟩
   ·rename_i hj;rw[hj];simp only[Vd,Ve]at h;obtain⟨rfl,rfl⟩:=h;exact⟨rfl,rfl⟩
   ·rename_i hj;rw[hj];simp only[Vd,Ve]at h;obtain⟨rfl,rfl⟩:=h;exact⟨rfl,rfl⟩
   ·cases h
end Av
namespace Av
open Go
variable [Glb][Rls]
variable {v:Av}{u fh hp:List (Nat×Obj)}{k:Option Bool}{f:Nat}{vs:List Av}{ds:List Dat}
def Yd(H:Heap):List Av→Bool
 |[]=>true
 |c::r=>(mine c||JEM H c)&&Yd (JA H (Y2 H c).2.2) r
def JDm(H:Heap):Av→Bool
 |.agg cs=>match XD H (.agg cs)with
  |some _=>JEM H (.agg cs)
  |none=>Yd H cs
 |.clo _ fs cs=>Yd H fs&&Yd (JA H (Jn H fs).2.2) cs
 |v=>JEM H v
def condK(k:Option Bool)(H:Heap)(c:Av):Bool:=match k with
 |some true=>true
 |some false=>JDm H c
 |none=>JEM H c
def JB5(k:Option Bool)(H:Heap):List Av→Bool
 |[]=>true
 |c::r=>condK k H c&&match JL4 k H c with
  |some (_,_,u)=>JB5 k (JA H u) r
  |none=>true
def JAj:List RI→St→Bool
 |[],_=>true
 |.tmp _::r,st=>JAj r st
 |.cell a n::r,st=>chk (get st.tm) (get st.hp) (.ld n (.t a))&&JAj r st
theorem YW:∀{cs:List Av} {H:Heap},Yd H cs=true→(Jn H cs).1
 |[],_,_=>trivial
 |c::r,H,h=>by
  simp only[Yd,Vi,Vx]at h;refine⟨?_,YW h.2⟩;unfold Y2;split
  ·trivial
  ·rename_i hm;have hc:=h.1.resolve_left hm;split
   ·rename_i p x u e;exact Yn e hc
   ·trivial
theorem JJn{H:Heap}{c:Av}{p:Prop}(h:JL1 H c=some (p,v,u))(hc:JDm H c=true):p:=by
 unfold JL1 at h;split at h
 ·cases h;trivial
 ·cases h;trivial
 ·cases h;trivial
 ·split at h<;>cases h;trivial
 ·split at h
  ·cases h;trivial
  ·split at h
   ·rename_i e;cases h;exact Yn e hc
   ·cases h
 ·split at h
  ·cases h;trivial
  ·split at h
   ·rename_i e;cases h;exact Yn e hc
   ·cases h
 ·split at h
  ·cases h;trivial
  ·split at h
   ·rename_i e;cases h;exact Yn e hc
   ·cases h
 ·rename_i cs;unfold JDm at hc;split at h
  ·rename_i e;cases h;simp only[e]at hc;exact Yn e hc
  ·rename_i e;simp only[Vd,Ve]at h;simp only[e]at hc;rw[←h.1];exact YW hc
 ·rename_i f fs cs;simp only[JDm,Vi]at hc;have h1:=YW hc.1;have h2:=YW hc.2;split at h;rename_i p1 fs' u1 e1;split at h;rename_i q1 cs' u2 e2;have f1:(Jn H fs).1=p1:=by rw[e1]
  have f3:(Jn H fs).2.2=u1:=by rw[e1]
  rw[f3]at h2;have g1:(Jn (JA H u1) cs).1=q1:=by rw[e2]
  split at h
  ·simp only[Vd,Ve]at h;rw[←h.1];exact⟨f1▸h1,g1▸h2⟩
  ·simp only[Vd,Ve]at h;rw[←h.1];exact⟨f1▸h1,g1▸h2⟩
 ·cases h
theorem JDB:∀{cs vs:List Av} {H:Heap} {p:Prop} {u:List (Nat×Obj)},JDd k H cs=some (p,vs,u)→JB5 k H cs=true→p
 |[],vs,H,p,u,h,_=>by simp only[JDd,Vd,Ve]at h;rw[←h.1];trivial
 |c::r,vs,H,p,u,h,hc=>by
  simp only[JDd]at h;simp only[JB5,Vi]at hc;cases e1:JL4 k H c with
  |none=>simp[e1]at h
  |some q=>
   obtain⟨p1,x,u1⟩:=q;simp only[e1]at h hc;cases e2:JDd k (JA H u1) r with
   |none=>simp[e2]at h
   |some q2=>
    obtain⟨p2,xs',u2⟩:=q2;simp only[e2,Vd,Ve]at h;rw[←h.1];refine⟨?_,JDB e2 hc.2⟩;rcases k with _|k
    ·have e1:JL3 H c=some (p1,x,u1):=e1;unfold JL3 at e1;split at e1
     ·rename_i hd;cases e1;exact Yn hd hc.1
     ·cases e1
    cases k with
    |false=>exact JJn e1 hc.1
    |true=>
     have e1:JL2 c=some (p1,x,u1):=e1;cases c<;>simp[JL2]at e1<;>exact e1.1
theorem JBS:∀{ris:List RI} {st:St} {p:Prop} {cs:List Av},outs ris st=some (p,cs)→JAj ris st=true→p
 |[],st,p,cs,h,_=>by simp only[outs,Vd,Ve]at h;rw[←h.1];trivial
 |.tmp t::r,st,p,cs,h,hc=>by
  simp only[outs]at h;simp only[JAj]at hc;split at h
  ·rename_i e;cases h;exact JBS e hc
  ·cases h
 |.cell a n::r,st,p,cs,h,hc=>by
  simp only[outs]at h;simp only[JAj,Vi]at hc;split at h
  ·rename_i e1 e2;cases h;exact⟨JNt e1 hc.1,JBS e2 hc.2⟩
  ·cases h
def JKq(k:Option Bool)(ris:List RI)(st:St):Option (Av×List (Nat×Obj)):=match JAj ris st with
 |false=>none
 |true=>match outs ris st with
  |none=>none
  |some (_,cs)=>match JB5 k (get st.hp) cs with
   |false=>none
   |true=>match JDd k (get st.hp) cs with
    |some (_,rs,u)=>some (retV rs,UH st.hp u)
    |none=>none
def D0b(i:Nat):Bool:=Nat.ble 1000 i
def evF(P:Program)(k:Option Bool)(call:Xs)(L:Nat)(f:Nat)(args:List Av)(T:List (Nat×Obj)):Option (Av×List (Nat×Obj)):=
 match P.funcs[f]? with
 |none=>none
 |some fn=>match fn.body with
  |none=>none
  |some code=>match fn.name== "runtime.NumGoroutine" with
   |true=>none
   |false=>match Jj P fn.ntmps code,Ji (fn.results.toList.map (JB1 P))with
    |some ic,some ris=>match Nat.ble args.length fn.ntmps with
     |false=>none
     |true=>match evC call L D0b ic ⟨enum 0 args,T⟩with
      |some (.normal,st)=>JKq k ris st
      |some (.ret,st)=>JKq k ris st
      |_=>none
    |_,_=>none
theorem Zi{P:Program}{N:Nat}:∀(ic:Ic) (c:Code),Jj P N c=some ic→strip ic=ic:=by
 intro ic
 induction ic with
 |dn a ts ih=>intro c h;exact(Js h).elim
 |seq a b iha ihb=>intro c h;obtain⟨x,y,_,h1,h2⟩:=Js h;simp only[strip,iha x h1,ihb y h2]
 |ite c' a b iha ihb=>intro c h;obtain⟨_,x,y,_,_,h1,h2⟩:=Js h;simp only[strip,iha x h1,ihb y h2]
 |block id b ih=>intro c h;obtain⟨x,_,h1⟩:=Js h;simp only[strip,ih x h1]
 |loop b ih=>intro c h;obtain⟨x,_,h1⟩:=Js h;simp only[strip,ih x h1]
 |scp b ih=>intro c h;obtain⟨x,_,h1⟩:=Js h;simp only[strip,ih x h1]
 |rng f N' lid ps c1 c2 a b iha ihb=>intro c h;obtain⟨_,g,_,_,h1,h2,_⟩:=Js h;simp only[strip,iha c1 h1,ihb c2 h2]
 |_=>intro c h;rfl
theorem JDC:∀(l:List (Nat×Obj)) (H:Heap) (k:Nat),(keys l).Nodup→JA H l k=match get l k with|some o=>some o|none=>H k
 |[],H,k,_=>rfl
 |(i,o)::r,H,k,hn=>by
  simp only[keys,Va,List.nodup_cons]at hn;simp only[JA,get];rw[JDC r _ k hn.2];by_cases h:i=k
  ·subst h;rw[if_pos rfl];have:get r i=none:=by
    cases hg:get r i with
    |none=>rfl
    |some o'=>exact absurd (VC.2 ⟨_,get_mem r i o' hg,rfl⟩) hn.1
   rw[this];exact JB _ _ _
  ·rw[if_neg h];split
   ·rfl
   ·exact JN _ _ (Ne.symm h)
def JDD(T:List (Nat×Obj))(v:Av)(ups:List (Nat×Obj)):Bool:=
 Zh (keys ups)&&(T.all fun e=>(keys ups).contains e.1)&&inB (keys ups) v&&(ups.all fun e=>JH4 (keys ups) e.2)
theorem JEP{T ups:List (Nat×Obj)}(h:JDD T v ups=true):JA (get T) ups=get ups∧closed (JA (get T) ups)∧inT (JA (get T) ups) v∧∀e∈T,(get ups e.1).isSome=true:=by
 simp only[JDD,Vi,List.all_eq_true]at h;obtain⟨⟨⟨h1,h2⟩,h3⟩,h4⟩:=h;have hT:∀e∈T,(get ups e.1).isSome=true:=fun e he=>UV.1 (h2 e he)
 have e1:JA (get T) ups=get ups:=by
  funext k;rw[JDC ups _ k (ZN h1)];cases hg:get ups k with
  |some o=>rfl
  |none=>
   cases ht:get T k with
   |none=>rfl
   |some o=>
    have:=hT (k,o) (get_mem T k o ht);rw[hg]at this;cases this
 have hG:∀i,(keys ups).contains i=true→(JA (get T) ups i).isSome=true:=fun i hi=>by rw[e1];exact UV.1 hi
 exact⟨e1,fun i o hi=>JGm hG o (h4 (i,o) (get_mem ups i o (by rw[←e1];exact hi))),JJl hG v h3,hT⟩
theorem JKr{P:Program}{call:Xs}{L:Nat}{args:List Av}{T:List (Nat×Obj)}{ko:List Nat}(hcall:Uy P call)(hhas:YV P call)(h:evF P k call L f args T=some (v,fh))
  (hend:JDD T v (keeps fh ko)=true):Con P f args T v (keeps fh ko):=by
 unfold evF at h;split at h
 ·cases h
 rename_i fn hf;split at h
 ·cases h
 rename_i code hb;split at h
 ·cases h
 rename_i hname;split at h
 case h_2=>cases h
 rename_i ic ris htr hres;split at h
 ·cases h
 rename_i hn;obtain⟨g1,g2,g3,g4⟩:=JEP hend;have main:∀e st,evC call L D0b ic ⟨enum 0 args,T⟩=some (e,st)→(e=.normal∨e=.ret)→JKq k ris st=some (v,fh)→Con P f args T v (keeps fh ko):=by
  intro e st hev he hen;refine Con.JAu (k:=k) hf hb hname (by rw[Zi ic code htr];exact htr) hres (Nat.le_of_ble_eq_true hn) g2 g3 (Jc ic _ ?_ (JJm (D:=D0) (fun i hi=>Nat.ble_eq_true_of_le hi) hcall hhas ic _ _ _ hev));rintro e' s ⟨rfl,rfl⟩;refine⟨he,?_⟩;unfold JKq at hen;split at hen
  ·cases hen
  rename_i hco;split at hen
  ·cases hen
  rename_i p cs ho;split at hen
  ·cases hen
  rename_i hcf;split at hen
  case h_2=>cases hen
  rename_i q rs u hfi;simp only[Vd,Ve]at hen;obtain⟨rfl,rfl⟩:=hen;rw[ho];refine⟨JBS ho hco,?_⟩;rw[hfi];refine⟨JDB hfi hcf,rfl,?_⟩;have hall:∀k,(get (keeps (UH s.hp u) ko) k).isSome=true→JA (get s.hp) u k=JA (get T) (keeps (UH s.hp u) ko) k:=by
   intro k hk;rw[g1,ZM,←UA];rw[ZM]at hk;split
   ·rfl
   ·rename_i hn;rw[if_neg hn]at hk;cases hk
  have hmem:∀e∈T++keeps (UH s.hp u) ko,(get (keeps (UH s.hp u) ko) e.1).isSome=true:=by
   intro e he;rcases List.mem_append.1 he with he|he
   ·exact g4 e he
   ·exact UV.1 (by simp only[keys,List.contains_eq_mem,decide_eq_true_eq];exact VC.2 ⟨e,he,rfl⟩)
  generalize T++keeps (UH s.hp u) ko=l at hmem
  induction l with
  |nil=>trivial
  |cons e r ih=>exact⟨hall e.1 (hmem e Vh),ih fun e' he'=>hmem e' (Vn _ he')⟩
 split at h
 ·rename_i st hev;exact main _ st hev (.inl rfl) h
 ·rename_i st hev;exact main _ st hev (.inr rfl) h
 ·cases h
def maxK:List Nat→Nat
 |[]=>0
 |i::r=>Nat.max i (maxK r)
def UL(M:Nat)(l:List (Nat×Nat))(i:Nat):Nat:=if Nat.ble 1000 i then i-1000 else match get l i with
 |some j=>j
 |none=>M+i
def JH8(hp:List (Nat×Obj)):List Nat→Bool
 |[]=>true
 |i::r=>(match get hp i with|some _=>false|none=>true)&&JH8 hp r
mutual
def dEq:Dat→Dat→Bool
 |.bool a,.bool b=>a==b
 |.int k a,.int l b=>decide (k=l)&&a==b
 |.str a,.str b=>a==b
 |.nil a,.nil b=>a==b
 |.list a xs,.list b ys=>a==b&&Zj xs ys
 |.own a xs,.own b ys=>a==b&&Zj xs ys
 |.agg xs,.agg ys=>Zj xs ys
 |.ptr xs,.ptr ys=>Zj xs ys
 |.fn f a b,.fn g c d=>decide (f=g)&&(Zj a c&&Zj b d)
 |.glo a,.glo b=>a==b
 |.nilIface,.nilIface|.nilFn,.nilFn|.nilPtr,.nilPtr|.nilMap,.nilMap=>true
 |_,_=>false
def Zj:List Dat→List Dat→Bool
 |[],[]=>true
 |x::xs,y::ys=>dEq x y&&Zj xs ys
 |_,_=>false
end
theorem JGp(a:Dat):∀b,dEq a b=true→a=b:=by
 have lst:∀xs:List Dat,(∀x∈xs,∀b,dEq x b=true→x=b)→∀ys,Zj xs ys=true→xs=ys:=by
  intro xs
  induction xs with
  |nil=>intro _ ys h;cases ys<;>first|rfl|simp[Zj]at h
  |cons x r ih=>
   intro hx ys h;cases ys with
   |nil=>simp[Zj]at h
   |cons y ys=>
    simp only[Zj,Vi]at h;rw[hx x Vh y h.1,ih (fun z hz=>hx z (Vn _ hz)) ys h.2]
 refine Dat.rec (motive_1:=fun a=>∀b,dEq a b=true→a=b) (motive_2:=fun xs=>∀x∈xs,∀b,dEq x b=true→x=b) (motive_3:=fun _=>True) (motive_4:=fun _=>True)
  ?_ ?_ ?_ ?_ ?_ ?_ ?_ ?_ ?_ ?_ ?_ ?_ ?_ ?_ ?_ ?_ ?_ ?_ ?_ ?_ ?_ ?_ a
 case refine_1=>intro x b h;cases b<;>first|(simp[dEq]at h;done)|(simp only[dEq,beq_iff_eq]at h;rw[h])
 case refine_2=>intro k n b h;cases b<;>first|(simp[dEq]at h;done)|(simp only[dEq,Vi,decide_eq_true_eq,beq_iff_eq]at h;rw[h.1,h.2])
 case refine_3=>intro s b h;cases b<;>first|(simp[dEq]at h;done)|(simp only[dEq,beq_iff_eq]at h;rw[h])
 case refine_4=>intro s b h;cases b<;>first|(simp[dEq]at h;done)|(simp only[dEq,beq_iff_eq]at h;rw[h])
 case refine_5=>intro s xs ih b h;cases b<;>first|(simp[dEq]at h;done)|(simp only[dEq,Vi,beq_iff_eq]at h;rw[h.1,lst xs ih _ h.2])
 case refine_6=>intro xs ih b h;cases b<;>first|(simp[dEq]at h;done)|(simp only[dEq]at h;rw[lst xs ih _ h])
 case refine_7=>intro f p q ih1 ih2 b h;cases b<;>first|(simp[dEq]at h;done)|(simp only[dEq,Vi,decide_eq_true_eq]at h;rw[h.1,lst p ih1 _ h.2.1,lst q ih2 _ h.2.2])
 case refine_8=>intro xs ih b h;cases b<;>first|(simp[dEq]at h;done)|(simp only[dEq]at h;rw[lst xs ih _ h])
 case refine_9=>intro es _ b h;cases b<;>simp[dEq]at h
 case refine_10=>intro b h;cases b<;>first|rfl|(simp[dEq]at h;done)
 case refine_11=>intro b h;cases b<;>first|rfl|(simp[dEq]at h;done)
 case refine_12=>intro b h;cases b<;>first|rfl|(simp[dEq]at h;done)
 case refine_13=>intro b h;cases b<;>first|rfl|(simp[dEq]at h;done)
 case refine_14=>intro t x _ b h;cases b<;>simp[dEq]at h
 case refine_15=>intro b h;cases b<;>simp[dEq]at h
 case refine_16=>intro s b h;cases b<;>first|(simp[dEq]at h;done)|(simp only[dEq,beq_iff_eq]at h;rw[h])
 case refine_17=>intro s xs ih b h;cases b<;>first|(simp[dEq]at h;done)|(simp only[dEq,Vi,beq_iff_eq]at h;rw[h.1,lst xs ih _ h.2])
 case refine_18=>intro x hx;cases hx
 case refine_19=>intro x r hx hr y hy;rcases VA.1 hy with rfl|hy;exact hx;exact hr y hy
 all_goals intros;trivial
theorem JB6:∀xs ys:List Dat,Zj xs ys=true→xs=ys
 |[],[],_=>rfl
 |[],_::_,h=>by simp[Zj]at h
 |_::_,[],h=>by simp[Zj]at h
 |x::r,y::s,h=>by
  simp only[Zj,Vi]at h;rw[JGp x y h.1,JB6 r s h.2]
def aEq:Av→Av→Bool
 |.d x,.d y=>dEq x y
 |.ref i a,.ref j b=>i==j&&a==b
 |.ms i a,.ms j b=>i==j&&a==b
 |.sub i a b c,.sub j d e f=>(i==j&&a==d)&&(b==e&&c==f)
 |.el i a b c,.el j d e f=>(i==j&&a==d)&&(b==e&&c==f)
 |.mp i,.mp j=>i==j
 |.tr i h,.tr j g=>(i==j&&h.ver==g.ver)&&(h.sv==g.sv&&(decide (h.p=g.p)&&decide (h.k=g.k)))
 |.clo f [] [.ref i a],.clo g [] [.ref j b]=>decide (f=g)&&(i==j&&a==b)
 |_,_=>false
theorem aEq_ok{x y:Av}(h:aEq x y=true):x=y:=by
 unfold aEq at h;split at h
 ·rw[JGp _ _ h]
 ·simp only[Vi,beq_iff_eq]at h;rw[h.1,h.2]
 ·simp only[Vi,beq_iff_eq]at h;rw[h.1,h.2]
 ·simp only[Vi,beq_iff_eq]at h;rw[h.1.1,h.1.2,h.2.1,h.2.2]
 ·simp only[Vi,beq_iff_eq]at h;rw[h.1.1,h.1.2,h.2.1,h.2.2]
 ·simp only[beq_iff_eq]at h;rw[h]
 ·rename_i i h1 j g;simp only[Vi,beq_iff_eq,decide_eq_true_eq]at h;obtain⟨⟨e1,e2⟩,e3,e4,e5⟩:=h;cases h1;cases g;simp only at e2 e3 e4 e5;subst e1 e2 e3 e4 e5;rfl
 ·simp only[Vi,beq_iff_eq,decide_eq_true_eq]at h;rw[h.1,h.2.1,h.2.2]
 ·cases h
def JME:List Av→List Av→Bool
 |[],[]=>true
 |x::xs,y::ys=>aEq x y&&JME xs ys
 |_,_=>false
theorem JKs:∀xs ys:List Av,JME xs ys=true→xs=ys
 |[],[],_=>rfl
 |[],_::_,h=>by simp[JME]at h
 |_::_,[],h=>by simp[JME]at h
 |x::r,y::s,h=>by
  simp only[JME,Vi]at h;rw[aEq_ok h.1,JKs r s h.2]
def oEq:Obj→Obj→Bool
 |.box xs,.box ys=>JME xs ys
 |.row v s xs,.row w t ys=>(v==w&&s==t)&&Zj xs ys
 |.tre v s z xs,.tre w t y ys=>(v==w&&(s==t&&z==y))&&Zj xs ys
 |.gone,.gone=>true
 |_,_=>false
theorem oEq_ok{x y:Obj}(h:oEq x y=true):x=y:=by
 unfold oEq at h;split at h
 ·rw[JKs _ _ h]
 ·simp only[Vi,beq_iff_eq]at h;rw[h.1.1,h.1.2,JB6 _ _ h.2]
 ·simp only[Vi,beq_iff_eq]at h;rw[h.1.1,h.1.2.1,h.1.2.2,JB6 _ _ h.2]
 ·rfl
 ·cases h
def chg(T:List (Nat×Obj))(e:Nat×Obj):Bool:=match get T e.1 with
 |some o=> !oEq o e.2
 |none=>true
def JA6(P:Program)(kp:Option Bool)(call:Xs)(L:Nat)(f:Nat)(vs:List Av)(hp:List (Nat×Obj)):Option (Av×List (Nat×Obj)×List Nat×List Nat):=
 let T0:=keeps hp (reach hp JB4 (JDA vs) [])
 match evF P kp call L f (J3 (· +1000) vs) (shift (· +1000) T0)with
 |none=>none
 |some (v,fh)=>
  let ups:=keeps fh (reach fh JB4 (JS0 v++(keys fh).filter D0b) [])
  let M:=1000*(maxK (keys hp)/1000+1)
  let nw:=(keys ups).filter fun k=> !(keys (shift (· +1000) T0)).contains k
  let nm:=JFw (keys hp) 1000 (nw.filter fun k=> !D0b k)
  if Zh (keys T0)&&YB (keys T0) vs&&(T0.all fun e=>JH4 (keys T0) e.2)&&JDD (shift (· +1000) T0) v ups&&JS1 (UL M nm) (keys ups)&&JH8 hp (nw.map (UL M nm))then
   let upc:=ups.filter (chg (shift (· +1000) T0))
   some (v.ren (UL M nm),UH hp (shift (UL M nm) ups),keys T0++nw.map (UL M nm),(keys upc).map (UL M nm))
  else none
def Z0:Av→Bool
 |.d _=>true
 |.tup cs=>match YL cs with|some _=>true|none=>false
 |_=>false
theorem ZP(h:Z0 v=true):J5 v:=by
 unfold Z0 at h;split at h
 ·trivial
 ·split at h
  ·rename_i cs ds hd;have:=X0 hd;subst this;intro c hc;obtain⟨x,_,rfl⟩:=VC.1 hc;exact⟨x,rfl⟩
  ·cases h
 ·cases h
def JKt(P:Program)(call:Xs)(L:Nat)(vs:List Av)(hp:List (Nat×Obj)):Option (Av×List (Nat×Obj)×List Nat×List Nat):=
 match vs with
 |.mp i::args=>
  let b:=1000*(i/1000)
  let T0:=keeps hp (reach hp JB4 [i] [])
  let T:=shift (· -b) T0
  match get T (i-b)with
  |some (.lp l)=>match l.s with
   |.ready=>match Jj P l.N l.asg,Jj P l.N l.body with
    |some asg,some body=>
     if args.length==l.ps.size&&(l.ps.toList.all fun p=>decide (p<l.N))&&YB (keys T0) args&&Zh (keys T0)&&(T0.all fun e=>JH4 (keys T0) e.2&&Nat.ble b e.1)then
      match evC call L (fun i=>(keys T).contains i) asg ⟨Zf l.tm l.ps.toList (J3 (· -b) args),T⟩with
      |some (.normal,s)=>match get s.hp (i-b)with
       |some (.lp l1)=>match l1.s with
        |.ready=>match evC call L (fun i=>(keys T).contains i) body ⟨s.tm,put s.hp (i-b) (.lp {l1 with s:=.busy})⟩with
         |some (e,s2)=>match get s2.hp (i-b)with
          |some (.lp l2)=>match YA e l2 with
           |some (v,l3)=>
            let hp3:=put s2.hp (i-b) (.lp l3)
            let ups:=keeps hp3 (reach hp3 JB4 (keys T) [])
            let nw:=(keys ups).filter fun k=> !(keys T).contains k
            if JGn (fun i=>(keys T).contains i) [] hp3 ups&&JDD T v ups&&JS1 (· +b) (keys ups)&&JH8 hp (nw.map (· +b))then
             some (v,UH hp (shift (· +b) ups),keys T0++nw.map (· +b),(keys ups).map (· +b))
            else none
           |none=>none
          |_=>none
         |none=>none
        |_=>none
       |_=>none
      |_=>none
     else none
    |_,_=>none
   |_=>none
  |_=>none
 |_=>none
abbrev Ext:=Nat→List Dat→Option Av
def JS(P:Program)(X:Ext):Prop:=∀f ds v,X f ds=some v→JC P (.fn f) (ds.map .d) [] v []
section
variable {β:JM}{A:Nat→Prop}{w:World}{H:Heap}
def scalar:Dat→Bool
 |.bool _|.int _ _|.str _=>true
 |_=>false
theorem Rep.scalar{A A':Nat→Prop}{w w':World}{x:Dat}{u:Value}(h:Rep A w x u)(hs:scalar x=true):Rep A' w' x u:=by
 cases h<;>first|(simp[Av.scalar]at hs;done)|(constructor<;>assumption)
end
def ZE:Nat→Option Bool
 |1=>some true
 |2=>none
 |_=>some false
def asData(vs:List Av)(hp:List (Nat×Obj)):Option (List Dat×List (Nat×Obj)):=match JB2 (get hp) vs with
 |true=>match Jl (get hp) vs with
  |some (_,ds,u)=>some (ds,u)
  |none=>none
 |false=>none
def Yp(P:Program)(X:Ext)(K:Nat→Nat)(L:Nat):Nat→Xs
 |0,_,_,_=>none
 |n+1,c,vs,hp=>match c with
  |.fn f=>match YL vs with
   |some ds=>match X f ds with
    |some v=>some (v,hp,[],[])
    |none=>match K f==1 with
     |true=>JA6 P (some true) (Yp P X K L n) L f vs hp
     |false=>match evF P (ZE (K f)) (Yp P X K L n) L f vs []with
      |some (v,_)=>match Z0 v with
       |true=>some (v,hp,[],[])
       |false=>JA6 P (ZE (K f)) (Yp P X K L n) L f vs hp
      |none=>none
   |none=>match(match JA5 vs with|true=>none|false=>asData vs hp)with
    |some (ds,u)=>match X f ds with
     |some (.d r)=>match scalar r with
      |true=>some (.d r,hp,vs.flatMap Yv,[])
      |false=>some (.d r,UH hp u,vs.flatMap Yv,keys u)
     |some _=>none
     |none=>match K f==3 with
      |true=>match evF P (some false) (Yp P X K L n) L f (ds.map .d) []with
       |some (v,_)=>match Z0 v with
        |true=>some (v,UH hp u,vs.flatMap Yv,keys u)
        |false=>none
       |none=>none
      |false=>JA6 P (ZE (K f)) (Yp P X K L n) L f vs hp
    |none=>JA6 P (ZE (K f)) (Yp P X K L n) L f vs hp
  |.yld=>JKt P (Yp P X K L n) L vs hp
section
variable {P:Program}{call:Xs}{L:Nat}
theorem ZQ{H:Heap}:∀{T:List (Nat×Option Obj)},(∀e∈T,H e.1=e.2)→XE H T
 |[],_=>trivial
 |e::r,h=>⟨h e Vh,ZQ fun e' he'=>h e' (Vn _ he')⟩
theorem JEQ:∀{l:List Nat},JH8 hp l=true→∀i∈l,get hp i=none
 |[],_,i,h=>by cases h
 |j::r,h,i,hi=>by
  simp only[JH8,Vi]at h;rcases VA.1 hi with rfl|hi
  ·have:=h.1;split at this
   ·cases this
   ·assumption
  ·exact JEQ h.2 i hi
theorem JGq{ρ:Nat→Nat}{ks:List Nat}(h:JS1 ρ ks=true)(i j:Nat)(hi:ks.contains i=true)(hj:ks.contains j=true)(e:ρ i=ρ j):i=j:=by
 simp only[JS1,List.all_eq_true,Vx,Bool.not_eq_true',beq_eq_false_iff_ne,beq_iff_eq]at h;rcases h i (sX hi) j (sX hj)with h|h
 ·exact absurd e h
 ·exact h
theorem JCd{ks:List Nat}{k:Nat}{o:Obj}(hn:Zh (keys (keeps hp ks))=true)(h:(k,o)∈keeps hp ks):get hp k=some o:=by
 have:=get_of_mem (ZN hn) h;rw[ZM]at this;split at this
 ·exact this
 ·cases this
def JB7{α:Type}(f:α→Nat×Obj)(p:α→Bool):List α→List (Nat×Obj)
 |[]=>[]
 |e::r=>match p e with
  |true=>f e::JB7 f p r
  |false=>JB7 f p r
theorem JH9{α:Type}(f:α→Nat×Obj)(p:α→Bool):∀l:List α,(l.filter p).map f=JB7 f p l
 |[]=>rfl
 |e::r=>by
  unfold JB7;cases h:p e<;>simp[h,JH9 f p r]
theorem JMF{H:Heap}{i:Nat}{o:Obj}(h:H i=some o):upd H i (some o)=H:=by
 funext j;unfold upd;split
 ·rename_i e;subst e;exact h.symm
 ·rfl
theorem JDE{α:Type}(f:α→Nat×Obj)(p:α→Bool):∀(l:List α) {H:Heap},(keys (l.map f)).Nodup→(∀e∈l,p e=false→H (f e).1=some (f e).2)→JA H (l.map f)=JA H (JB7 f p l)
 |[],_,_,_=>rfl
 |e::r,H,hn,h=>by
  simp only[Va,keys,List.nodup_cons]at hn;have step:∀H':Heap,(∀k,k≠(f e).1→H' k=H k)→JA H' (r.map f)=JA H' (JB7 f p r):=by
   intro H' hH';refine JDE f p r hn.2 fun e' he' hp=>?_
   rw[hH' _ (fun q=>hn.1 (q▸VC.2 ⟨f e',VC.2 ⟨e',he',rfl⟩,rfl⟩))];exact h e' (Vn _ he') hp
  unfold JB7;split
  ·exact step (upd H (f e).1 (some (f e).2)) fun k hk=>JN _ _ hk
  ·rename_i hp;have h1:=h e Vh hp;show JA (upd H (f e).1 (some (f e).2)) (r.map f)=JA H (JB7 f p r);rw[JMF h1];exact step H fun _ _=>rfl
theorem XL{kp:Option Bool}(hcall:Uy P call)(hhas:YV P call){hp':List (Nat×Obj)}{tk uk:List Nat}(h:JA6 P kp call L f vs hp=some (v,hp',tk,uk)):
  Has P f∧∃T ups,JC P (.fn f) vs T v ups∧XE (get hp) T∧(∀i,get hp' i=JA (get hp) ups i)∧T.map (·.1)=tk∧ups.map (·.1)=uk:=by
 unfold JA6 at h;dsimp only at h;split at h
 ·cases h
 rename_i v0 fh hev;split at h
 case isFalse=>cases h
 rename_i hc;simp only[Vi]at hc;obtain⟨⟨⟨⟨⟨c1,c2⟩,c3⟩,c4⟩,c5⟩,c6⟩:=hc;simp only[Vd,Ve]at h;obtain⟨rfl,rfl,rfl,rfl⟩:=h;generalize hT0:keeps hp (reach hp JB4 (JDA vs) [])=T0 at*;generalize hM:1000*(maxK (keys hp)/1000+1)=M at*;generalize hups:keeps fh (reach fh JB4 (JS0 v0++(keys fh).filter D0b) [])=ups at*;generalize hnw:((keys ups).filter fun k=> !(keys (shift (· +1000) T0)).contains k)=nw at*;have hcon:Con P f (J3 (· +1000) vs) (shift (· +1000) T0) v0 ups:=by
  rw[←hups];exact JKr hcall hhas hev (by rw[hups];exact c4)
 obtain⟨g1,g2,g3,g4⟩:=JEP c4;generalize hnm:JFw (keys hp) 1000 (nw.filter fun k=> !D0b k)=nm at*;have hback:∀i,UL M nm (i+1000)=i:=by intro i;simp[UL,Nat.ble_eq]
 have hbig:∀i,(get (shift (· +1000) T0) i).isSome=true→1000≤i:=by
  intro i hi;obtain⟨j,_,rfl⟩:=JCc hi;omega
 have hG0:∀i,(keys T0).contains i=true→(get (shift (· +1000) T0) (i+1000)).isSome=true:=by
  intro i hi;rw[←UV,JBQ];simp only[List.contains_eq_mem,decide_eq_true_eq]at hi⊢;exact VC.2 ⟨i,hi,rfl⟩
 have hinr:∀c:Av,inB (keys T0) c=true→JV (get (shift (· +1000) T0)) (c.ren (· +1000)):=fun c=>
  Av.rec (motive_1:=fun c=>inB (keys T0) c=true→JV (get (shift (· +1000) T0)) (c.ren (· +1000))) (motive_2:=fun cs=>YB (keys T0) cs=true→JR (get (shift (· +1000) T0)) (J3 (· +1000) cs))
   (fun _ _=>trivial) (fun i _ h=>hG0 i h) (fun i _ h=>hG0 i h) (fun i _ _ _ h=>hG0 i h) (fun i _ _ _ h=>hG0 i h) (fun cs ih h=>ih h) (fun cs ih h=>ih h)
   (fun f a b iha ihb h=>by simp only[inB,Vi]at h;exact⟨iha h.1,ihb h.2⟩) (fun i h=>hG0 i h) (fun i _ h=>hG0 i h) (fun _=>trivial) (fun _=>trivial) (fun _ _ _=>trivial) (fun _=>trivial)
   (fun c r ihc ihr h=>by simp only[YB,Vi]at h;exact⟨ihc h.1,ihr h.2⟩) c
 have hinrL:∀cs:List Av,YB (keys T0) cs=true→JR (get (shift (· +1000) T0)) (J3 (· +1000) cs):=by
  intro cs
  induction cs with
  |nil=>intro _;trivial
  |cons c r ih=>intro h;simp only[YB,Vi]at h;exact⟨hinr c h.1,ih h.2⟩
 have hinrT:∀cs:List (Nat×Av),JBP (keys T0) cs=true→Uz (get (shift (· +1000) T0)) (X9 (· +1000) cs):=by
  intro cs
  induction cs with
  |nil=>intro _;trivial
  |cons c r ih=>obtain⟨t,c⟩:=c;intro h;simp only[JBP,Vi]at h;exact⟨hinr c h.1,ih h.2⟩
 have hclT:closed (get (shift (· +1000) T0)):=by
  intro i o hi;have hm:=get_mem _ i o hi;rw[Up]at hm;obtain⟨e,he,hee⟩:=VC.1 hm;simp only[Ve]at hee;rw[←hee.2];have:=List.all_eq_true.1 c3 e he;cases ho:e.2 with
  |box cs=>rw[ho]at this;exact hinrL cs this
  |lp l=>rw[ho]at this;exact hinrT l.tm this
  |_=>trivial
 have hdom:∀i,(JA (get (shift (· +1000) T0)) ups i).isSome=true→(keys ups).contains i=true:=by intro i hi;rw[g1]at hi;exact UV.2 hi
 have hcok:=hcon.call (UL M nm) hbig (fun i j hi hj e=>JGq c5 i j (hdom i hi) (hdom j hj) e)
  (by intro c hc;exact JEH (hinrL vs c2) c hc) hclT nw
  (by
   intro e he;by_cases hk:(keys (shift (· +1000) T0)).contains e.1=true
   ·exact .inl (UV.1 hk)
   ·refine .inr ?_;rw[←hnw];simp only[List.mem_filter];exact⟨VC.2 ⟨e,he,rfl⟩,by simpa using hk⟩) g2 g3
 have hargs:(J3 (· +1000) vs).map (Av.ren (UL M nm))=vs:=by
  rw[←J7,JEN];have:(fun i=>UL M nm (i+1000))=id:=funext hback;rw[this,JKi]
 rw[hargs]at hcok;have hkn:(keys (ups.map fun e=>(UL M nm e.1,e.2.ren (UL M nm)))).Nodup:=by
  have h1:(keys ups).Nodup:=by
   have:=c4;simp only[JDD,Vi]at this;exact ZN (by first|exact this.1.1.1|exact this.1.1|exact this.1)
  have h2:∀l:List Nat,l.Nodup→(∀i∈l,(keys ups).contains i=true)→(l.map (UL M nm)).Nodup:=by
   intro l
   induction l with
   |nil=>intro _ _;exact List.nodup_nil
   |cons i r ih=>
    intro hn hin;obtain⟨n1,n2⟩:=List.nodup_cons.1 hn;refine List.nodup_cons.2 ⟨?_,ih n2 fun j hj=>hin j (Vn _ hj)⟩;intro hm;obtain⟨j,hj,e⟩:=VC.1 hm;have:=JGq c5 j i (hin j (Vn _ hj)) (hin i Vh) e;exact n1 (this▸hj)
  have h3:=h2 _ h1 (fun i hi=>by simpa using hi);simpa only[keys,List.map_map,Function.comp_def]using h3
 have hdrop:∀H:Heap,(∀e∈T0,H e.1=some e.2)→JA H (ups.map fun e=>(UL M nm e.1,e.2.ren (UL M nm)))=JA H ((ups.filter (chg (shift (· +1000) T0))).map fun e=>(UL M nm e.1,e.2.ren (UL M nm))):=by
  intro H hH;have hfm:(ups.filter (chg (shift (· +1000) T0))).map (fun e=>(UL M nm e.1,e.2.ren (UL M nm)))=JB7 (fun e=>(UL M nm e.1,e.2.ren (UL M nm))) (chg (shift (· +1000) T0)) ups:=JH9 _ _ _;rw[hfm];refine JDE _ _ ups hkn fun e he hce=>?_
  unfold chg at hce;split at hce
  case h_2=>cases hce
  rename_i o ho;have he2:=oEq_ok (by simpa using hce:oEq o e.2=true);obtain⟨j,o0,hj,hji,ho0⟩:=JA4 ho;have hid:(fun i=>UL M nm (i+1000))=id:=funext hback;show H (UL M nm e.1)=some (e.2.ren (UL M nm));rw[←he2,ho0,←hji,Obj.YZ,hid,Obj.Zv];show H (UL M nm (j+1000))=some o0;rw[hback];exact hH _ hj
 refine⟨hcon.1,(shift (· +1000) T0).map (fun e=>(UL M nm e.1,some (e.2.ren (UL M nm))))++nw.map (fun i=>(UL M nm i,none)),(ups.filter (chg (shift (· +1000) T0))).map (fun e=>(UL M nm e.1,e.2.ren (UL M nm))),?_,?_,?_,?_,?_⟩
 ·intro β A w H vs' hT hc0 hv0;have hT0':∀e∈T0,H e.1=some e.2:=by
   intro e he;have hm:(e.1+1000,e.2.ren (· +1000))∈shift (· +1000) T0:=by rw[Up];exact VC.2 ⟨e,he,rfl⟩
   have hid:(fun i=>UL M nm (i+1000))=id:=funext hback;have:=hT (UL M nm (e.1+1000),some ((e.2.ren (· +1000)).ren (UL M nm))) (List.mem_append_left _ (VC.2 ⟨_,hm,rfl⟩));rw[hback,Obj.YZ,hid,Obj.Zv]at this;exact this
  have:=hcok β A w H vs' hT hc0 hv0;rw[hdrop H hT0']at this;exact this
 ·refine ZQ ?_;intro e he;rcases List.mem_append.1 he with he|he
  ·obtain⟨e1,h1,rfl⟩:=VC.1 he;rw[Up]at h1;obtain⟨e0,h0,rfl⟩:=VC.1 h1;simp only[hback];rw[Obj.YZ];have:(fun i=>UL M nm (i+1000))=id:=funext hback;rw[this,Obj.Zv];rw[←hT0]at h0 c1;exact JCd c1 h0
  ·obtain⟨i,hi,rfl⟩:=VC.1 he;exact JEQ c6 _ (VC.2 ⟨i,hi,rfl⟩)
 ·intro i;rw[UA,Up];exact congrFun (hdrop (get hp) fun e he=>by rw[←hT0]at he c1;exact JCd c1 he) i
 ·have hk:∀l:List (Nat×Obj),(l.map fun e=>UL M nm (e.1+1000))=l.map (·.1):=fun l=>List.map_congr_left fun e _=>hback e.1
  simp only[Vw,List.map_map,Up,Function.comp_def,hk,keys]
 ·simp only[List.map_map,keys];rfl
theorem JFR(l:Lp)(h:(l.ps.toList.all fun p=>decide (p<l.N))=true):∀p∈l.ps.toList,p<l.N:=by
 intro p hp;simpa using List.all_eq_true.1 h p hp
theorem JIA(hcall:Uy P call)(hhas:YV P call){hp':List (Nat×Obj)}{tk uk:List Nat}(h:JKt P call L vs hp=some (v,hp',tk,uk)):
  ∃T ups,JC P .yld vs T v ups∧XE (get hp) T∧(∀i,get hp' i=JA (get hp) ups i)∧T.map (·.1)=tk∧ups.map (·.1)=uk:=by
 unfold JKt at h;split at h
 case h_2=>cases h
 rename_i i args;dsimp only at h;generalize hb:1000*(i/1000)=b at*;have hbi:b≤i:=oM;generalize hT0:keeps hp (reach hp JB4 [i] [])=T0 at*;split at h
 case h_2=>cases h
 rename_i l hl;split at h
 case h_2=>cases h
 rename_i hready;split at h
 case h_2=>cases h
 rename_i asg body h1 h2;split at h
 case isFalse=>cases h
 rename_i hc;simp only[Vi,beq_iff_eq]at hc;obtain⟨⟨⟨⟨c1,c2⟩,c3⟩,c4⟩,c5⟩:=hc;split at h
 case h_2=>cases h
 rename_i s hs;split at h
 case h_2=>cases h
 rename_i l1 hl1;split at h
 case h_2=>cases h
 rename_i hr1;split at h
 case h_2=>cases h
 rename_i e s2 hs2;split at h
 case h_2=>cases h
 rename_i l2 hl2;split at h
 case h_2=>cases h
 rename_i v0 l3 hend;split at h
 case isFalse=>cases h
 rename_i hk;simp only[Vi]at hk;obtain⟨⟨⟨k1,k2⟩,k3⟩,k4⟩:=hk;simp only[Vd,Ve]at h;obtain⟨rfl,rfl,rfl,rfl⟩:=h;generalize hT:shift (· -b) T0=T at*;generalize hhp3:put s2.hp (i-b) (.lp l3)=hp3 at*;generalize hks:reach hp3 JB4 (keys T) []=ks at*;generalize hups:keeps hp3 ks=ups at*;generalize hnw:((keys ups).filter fun k=> !(keys T).contains k)=nw at*;obtain⟨g1,g2,g3,g4⟩:=JEP k2;have hDb:∀j,(get T j).isSome=true→(keys T).contains j=true:=fun j hj=>UV.2 hj
 have hge:∀j,(keys T0).contains j=true→b≤j:=by
  intro j hj;obtain⟨o,ho⟩:=Option.isSome_iff_exists.1 (UV.1 hj);have:=List.all_eq_true.1 c5 (j,o) (get_mem T0 j o ho);simp only[Vi]at this;exact Nat.le_of_ble_eq_true this.2
 have hfix:∀j,(keys T0).contains j=true→(fun j=>j-b+b) j=j:=fun j hj=>by have:=hge j hj;simp only;omega
 have hrcon:JFN P (i-b) (J3 (· -b) args) T v0 ups:=by
  refine JFN.JAu hl hready (by rw[Zi asg _ h1];exact h1) (by rw[Zi body _ h2];exact h2) (by rw[J7,Vc];exact c1) (JFR l c2) g2 ?_;refine Jc asg _ ?_ (JJm (D:=fun i=>(get T i).isSome=true) hDb hcall hhas asg _ _ _ hs);rintro e' s' ⟨rfl,rfl⟩;refine⟨rfl,l1,hl1,hr1,Jc body _ ?_ (JJm (D:=fun i=>(get T i).isSome=true) hDb hcall hhas body _ _ _ hs2)⟩;rintro e' s' ⟨rfl,rfl⟩;refine⟨l2,l3,hl2,hend,⟨[],ups⟩,?_,fun j o ho=>by rw[g1]at ho;exact ho⟩;rw[hhp3,←hups];exact JFv hDb (fun t v ht=>by cases ht) (by rw[hups];exact k1)
 have hG0:∀j,(keys T0).contains j=true→(get T (j-b)).isSome=true:=by
  intro j hj;rw[←UV,←hT,JBQ];simp only[List.contains_eq_mem,decide_eq_true_eq]at hj⊢;exact VC.2 ⟨j,hj,rfl⟩
 have hinr:∀c:Av,inB (keys T0) c=true→JV (get T) (c.ren (· -b)):=fun c=>
  Av.rec (motive_1:=fun c=>inB (keys T0) c=true→JV (get T) (c.ren (· -b))) (motive_2:=fun cs=>YB (keys T0) cs=true→JR (get T) (J3 (· -b) cs))
   (fun _ _=>trivial) (fun i _ h=>hG0 i h) (fun i _ h=>hG0 i h) (fun i _ _ _ h=>hG0 i h) (fun i _ _ _ h=>hG0 i h) (fun cs ih h=>ih h) (fun cs ih h=>ih h)
   (fun f a b iha ihb h=>by simp only[inB,Vi]at h;exact⟨iha h.1,ihb h.2⟩) (fun i h=>hG0 i h) (fun i _ h=>hG0 i h) (fun _=>trivial) (fun _=>trivial) (fun _ _ _=>trivial) (fun _=>trivial)
   (fun c r ihc ihr h=>by simp only[YB,Vi]at h;exact⟨ihc h.1,ihr h.2⟩) c
 have hinrL:∀cs:List Av,YB (keys T0) cs=true→JR (get T) (J3 (· -b) cs):=by
  intro cs
  induction cs with
  |nil=>intro _;trivial
  |cons c r ih=>intro h;simp only[YB,Vi]at h;exact⟨hinr c h.1,ih h.2⟩
 have hinrT:∀cs:List (Nat×Av),JBP (keys T0) cs=true→Uz (get T) (X9 (· -b) cs):=by
  intro cs
  induction cs with
  |nil=>intro _;trivial
  |cons c r ih=>obtain⟨t,c⟩:=c;intro h;simp only[JBP,Vi]at h;exact⟨hinr c h.1,ih h.2⟩
 have hclT:closed (get T):=by
  intro j o hj;have hm:=get_mem _ j o hj;rw[←hT,Up]at hm;obtain⟨e,he,hee⟩:=VC.1 hm;simp only[Ve]at hee;rw[←hee.2];have:=List.all_eq_true.1 c5 e he;simp only[Vi]at this;have:=this.1;cases ho:e.2 with
  |box cs=>rw[ho]at this;exact hinrL cs this
  |lp l=>rw[ho]at this;exact hinrT l.tm this
  |_=>trivial
 have hdom:∀j,(JA (get T) ups j).isSome=true→(keys ups).contains j=true:=by intro j hj;rw[g1]at hj;exact UV.2 hj
 have hcok:=hrcon.call (· +b) ⟨l,hl⟩ (fun i j hi hj e=>JGq k3 i j (hdom i hi) (hdom j hj) e) (by intro c hc;exact JEH (hinrL args c3) c hc) hclT nw
  (by
   intro e he;by_cases hk:(keys T).contains e.1=true
   ·exact .inl (UV.1 hk)
   ·refine .inr ?_;rw[←hnw];simp only[List.mem_filter];exact⟨VC.2 ⟨e,he,rfl⟩,by simpa using hk⟩) g2 g3
 have hargs:(J3 (· -b) args).map (Av.ren (· +b))=args:=by
  rw[←J7,JEN];exact JEO hfix args c3
 have hib:i-b+b=i:=oM;have hvr:v0.ren (· +b)=v0:=by
  unfold YA at hend;split at hend<;>first|(cases hend;done)|(simp only[Vd,Ve]at hend;rw[←hend.1];rfl)
 rw[hargs,hvr]at hcok;simp only[hib]at hcok;refine⟨_,_,hcok,?_,?_,?_,?_⟩
 ·refine ZQ ?_;intro e he;rcases List.mem_append.1 he with he|he
  ·obtain⟨e1,h1,rfl⟩:=VC.1 he;rw[←hT,Up]at h1;obtain⟨e0,h0,rfl⟩:=VC.1 h1;have hin:=List.all_eq_true.1 c5 e0 h0;simp only[Vi]at hin;have hble:=Nat.le_of_ble_eq_true hin.2;have e2:e0.1-b+b=e0.1:=oM;simp only[e2];rw[Obj.YZ,Obj.JAv hfix e0.2 hin.1];rw[←hT0]at h0 c4;exact JCd c4 h0
  ·obtain⟨j,hj,rfl⟩:=VC.1 he;exact JEQ k4 _ (VC.2 ⟨j,hj,rfl⟩)
 ·intro j;rw[UA,Up]
 ·have hkk:(T.map fun e=>e.1+b)=keys T0:=by
   rw[←hT,Up,List.map_map];simp only[keys];refine List.map_congr_left fun e he=>?_
   have hin:=List.all_eq_true.1 c5 e he;simp only[Vi]at hin;have hble:=Nat.le_of_ble_eq_true hin.2;simp only[Function.comp];omega
  simp only[Vw,List.map_map,Function.comp_def,hkk]
 ·simp only[List.map_map,keys];rfl
theorem JCe{α:Type}:∀l:List (Nat×α),keeps l []=[]
 |[]=>rfl
 |e::r=>by simp[keeps,JCe r]
theorem JDh.mono{f:Cee}{us:Array Value}{w:World}{R R':Value→World→Prop}(h:JDh P f us w R)(hR:∀u w',R u w'→R' u w'):JDh P f us w R':=by
 cases f with
 |fn f=>
  rcases h with⟨h1,h2⟩|⟨u,w',h1,h2⟩
  ·exact .inl ⟨h1,h2.mono fun e w' ⟨u,q1,q2⟩=>⟨u,q1,hR _ _ q2⟩⟩
  ·exact .inr ⟨u,w',h1,hR _ _ h2⟩
 |yld=>
  obtain⟨l,rest,e,fn,tmps,asg,body,h1,h2⟩:=h;exact⟨l,rest,e,fn,tmps,asg,body,h1,h2.mono fun e w' ⟨u,q1,q2⟩=>⟨u,q1,hR _ _ q2⟩⟩
theorem JAk(ha:asData vs hp=some (ds,u))(h:JC P (.fn f) (ds.map .d) [] v []):
  ∃T ups,JC P (.fn f) vs T v ups∧XE (get hp) T∧(∀i,get (UH hp u) i=JA (get hp) ups i)∧T.map (·.1)=vs.flatMap Yv∧ups.map (·.1)=keys u:=by
 unfold asData at ha;split at ha
 case h_2=>cases ha
 rename_i hcond;split at ha
 case h_2=>cases ha
 rename_i p ds' u' hd;cases ha;have hp0:=XU hd hcond;refine⟨(vs.flatMap Yv).map fun i=>(i,get hp i),u,?_,ZQ (fun e he=>by obtain⟨i,_,rfl⟩:=VC.1 he;rfl),fun i=>by rw[UA],by simp[List.map_map,Function.comp_def],rfl⟩;intro β A w H us hT hc hvs;have heq:Jl H vs=some (p,ds,u):=by
  rw[←hd];refine XZ fun x hx=>?_
  exact hT (x,get hp x) (VC.2 ⟨x,hx,rfl⟩)
 obtain⟨A1,s1,l1,r1,m1⟩:=U4 hc heq hp0 (us:=us.toList) (sX hvs.1) (fun k c u h1 h2=>hvs.2 k c u h1 (sX h2));refine(h β A1 w (JA H u) us (by intro e he;cases he) s1.core ⟨by simpa using l1,fun k c u h1 h2=>?_⟩).mono ?_
 ·rw[Vo]at h1;cases e:ds[k]? with
  |none=>simp[e]at h1
  |some x=>
   simp only[e,Vj,Vd]at h1;subst h1;exact .d _ _ (r1 k x u e (sX h2))
 ·rintro v' w' ⟨β',A',q1,q2⟩;exact⟨β',A',s1.trans q1,q2⟩
theorem JFy{r:Dat}(ha:asData vs hp=some (ds,u))(h:JC P (.fn f) (ds.map .d) [] (.d r) [])(hr:scalar r=true):
  ∃T ups,JC P (.fn f) vs T (.d r) ups∧XE (get hp) T∧(∀i,get hp i=JA (get hp) ups i)∧T.map (·.1)=vs.flatMap Yv∧ups.map (·.1)=[]:=by
 unfold asData at ha;split at ha
 case h_2=>cases ha
 rename_i hcond;split at ha
 case h_2=>cases ha
 rename_i p ds' u' hd;cases ha;have hp0:=XU hd hcond;refine⟨(vs.flatMap Yv).map fun i=>(i,get hp i),[],?_,ZQ (fun e he=>by obtain⟨i,_,rfl⟩:=VC.1 he;rfl),fun i=>rfl,by simp[List.map_map,Function.comp_def],rfl⟩;intro β A w H us hT hc hvs;have heq:Jl H vs=some (p,ds,u):=by
  rw[←hd];refine XZ fun x hx=>?_
  exact hT (x,get hp x) (VC.2 ⟨x,hx,rfl⟩)
 obtain⟨A1,s1,l1,r1,m1⟩:=U4 hc heq hp0 (us:=us.toList) (sX hvs.1) (fun k c u h1 h2=>hvs.2 k c u h1 (sX h2));have hc0:Core β A1 w (get []):=⟨(by intro i o hi;cases hi),(by intro i j o o' b hi;cases hi),(by intro i o b hi;cases hi),s1.core.old,s1.core.glob⟩;refine(h β A1 w (get []) us (by intro e he;cases he) hc0 ⟨by simpa using l1,fun k c u h1 h2=>?_⟩).mono ?_
 ·rw[Vo]at h1;cases e:ds[k]? with
  |none=>simp[e]at h1
  |some x=>
   simp only[e,Vj,Vd]at h1;subst h1;exact .d _ _ (r1 k x u e (sX h2))
 ·rintro v' w' ⟨β',A',q1,q2⟩;have hsame:∀b,b<w.heap.size→w'.heap[b]? =w.heap[b]? :=fun b hb=>q1.same b hb (by intro i o hi;cases hi)
  have hst:Stp β A w H β A w' H:=Stp.new hc q1.os q1.tape q1.output q1.size hsame (fun _ h=>h) (fun _ h=>.inl h) (fun b hb=>Nat.lt_of_lt_of_le (hc.old b hb) q1.size);exact⟨β,A,hst,.d _ _ (q2.JU.scalar hr)⟩
theorem ZR(hcall:Uy P call)(hhas:YV P call)(hev:evF P k call L f (ds.map .d) []=some (v,fh))(hpure:Z0 v=true):Jz P f ds v:=by
 have hend:JDD [] v (keeps fh [])=true:=by
  rw[JCe];simp only[JDD,keys,Vb,Zh,List.all_nil,Bool.and_self,Vt,Bool.and_true];have hp:=ZP hpure;cases v with
  |d x=>rfl
  |tup cs=>
   show YB [] cs=true;have hv':∀c∈cs,∃x,c=.d x:=hp;clear hp hpure hev
   induction cs with
   |nil=>rfl
   |cons c r ih=>
    obtain⟨x,rfl⟩:=hv' c Vh;simp only[YB,inB,Vt];exact ih fun c hc=>hv' c (Vn _ hc)
  |_=>exact hp.elim
 have hcon:=JKr (ko:=[]) hcall hhas hev hend;rw[JCe]at hcon;exact hcon
theorem JIB{X:Ext}{K:Nat→Nat}(hX:JS P X):∀n,Uy P (Yp P X K L n)∧YV P (Yp P X K L n)
 |0=>⟨(by intro c vs hp v hp' tk uk h;cases h),(by intro g vs hp r h;cases h)⟩
 |n+1=>by
  obtain⟨i1,i2⟩:=JIB hX n;constructor
  ·intro c vs hp v hp' tk uk h;simp only[Yp]at h;split at h
   ·rename_i f;split at h
    ·rename_i ds hds;have:=X0 hds;subst this;split at h
     ·rename_i d hd;simp only[Vd,Ve]at h;obtain⟨rfl,rfl,rfl,rfl⟩:=h;exact⟨[],[],hX f ds d hd,trivial,fun _=>rfl,rfl,rfl⟩
     ·split at h
      ·exact(XL i1 i2 h).2
      split at h
      ·rename_i v0 fh hev;split at h
       ·rename_i hpure;simp only[Vd,Ve]at h;obtain⟨rfl,rfl,rfl,rfl⟩:=h;exact⟨[],[],Jz.call (ZR i1 i2 hev hpure) (ZP hpure),trivial,fun _=>rfl,rfl,rfl⟩
       ·exact(XL i1 i2 h).2
      ·cases h
    ·split at h
     ·rename_i ds u ha;have ha:asData vs hp=some (ds,u):=by
       split at ha
       ·cases ha
       ·exact ha
      split at h
      ·rename_i r hd;split at h
       ·rename_i hr;simp only[Vd,Ve]at h;obtain⟨rfl,rfl,rfl,rfl⟩:=h;exact JFy ha (hX f ds _ hd) hr
       ·simp only[Vd,Ve]at h;obtain⟨rfl,rfl,rfl,rfl⟩:=h;exact JAk ha (hX f ds _ hd)
      ·cases h
      ·split at h
       ·split at h
        ·rename_i v0 fh hev;split at h
         ·rename_i hpure;simp only[Vd,Ve]at h;obtain⟨rfl,rfl,rfl,rfl⟩:=h;exact JAk ha (Jz.call (ZR i1 i2 hev hpure) (ZP hpure))
         ·cases h
        ·cases h
       ·exact(XL i1 i2 h).2
     ·exact(XL i1 i2 h).2
   ·exact JIA i1 i2 h
  ·intro g vs hp r h hids;simp only[Yp]at h;split at h
   ·rename_i ds hds;have:=X0 hds;subst this;exfalso;have:∀ds:List Dat,JA5 (ds.map Av.d)=false:=by
     intro ds
     induction ds with
     |nil=>rfl
     |cons d r ih=>simpa only[Va,JA5]using ih
    rw[this]at hids;cases hids
   ·rw[hids]at h;obtain⟨v,hp',tk,uk⟩:=r;exact(XL i1 i2 h).1
theorem JKu{X:Ext}{K:Nat→Nat}(hX:JS P X){n:Nat}(h:evF P k (Yp P X K L n) L f (ds.map .d) []=some (v,fh))(hv:Z0 v=true):Jz P f ds v:=by
 have i:=JIB (P:=P) (L:=L) (K:=K) hX n;exact ZR i.1 i.2 h hv
end
end Av
namespace Av
open Go
variable [Glb][Rls]
theorem Jz.borrow{P:Program}{f:Nat}{ds:List Dat}{r:Dat}(h:Jz P f (ds.map Dat.canon) (.d r))(hr:scalar r=true){args:List Av}{T:List (Nat×Option Obj)}{p:Prop}{u:List (Nat×Obj)}
  (hd:∀H:Heap,(∀e∈T,H e.1=e.2)→Jl H args=some (p,ds,u))(hp:p):JC P f args T (.d r) []:=by
 intro β A w H vs hT hc hvs;obtain⟨A',st,hl,hrep,hA⟩:=U4 hc (hd H hT) hp (us:=vs.toList) (sX hvs.1) (fun i c v h1 h2=>hvs.2 i c v h1 (sX h2));have hc0:Core β A' w (get []):=⟨(by intro i o hi;cases hi),(by intro i j o o' b hi;cases hi),(by intro i o b hi;cases hi),st.core.old,st.core.glob⟩;refine .inl ⟨h.1,(h.2 β A' w vs hc0 ⟨by simp at hl⊢;omega,?_⟩).mono ?_⟩
 ·intro i c v h1 h2;rw[List.map_map,Vo]at h1;cases e:ds[i]? with
  |none=>simp[e]at h1
  |some x=>
   simp only[e,Vj,Vd,Function.comp]at h1;subst h1;exact .d _ _ (hrep i x v e (sX h2)).canon
 ·rintro e w' ⟨v,β1,A1,rfl,hsince,hc1,hv⟩;obtain⟨s1,s2,s3,s4,s5,sl,s6,s7,s8⟩:=hsince;dsimp only at s1 s2 s3 s4 s5 sl;have hsame:∀b,b<w.heap.size→w'.heap[b]? =w.heap[b]? :=fun b hb=>s5 b hb (by intro i o hi;cases hi)
  have hst:Stp β A w H β A w' H:=Stp.new hc s1 s2 s3 s4 hsame (fun _ h=>h) (fun _ h=>.inl h) (fun b hb=>by have:=hc.old b hb;omega);exact⟨v,rfl,β,A,hst,.d _ _ (hv.JU.scalar hr)⟩
def tOf(hp:List (Nat×Obj))(vs:List Av):List (Nat×Option Obj):=(vs.flatMap Yv).map fun i=>(i,get hp i)
theorem JGr{hp:List (Nat×Obj)}{vs:List Av}{H:Heap}(h:∀e∈tOf hp vs,H e.1=e.2):Jl H vs=Jl (get hp) vs:=
 XZ fun x hx=>h (x,get hp x) (VC.2 ⟨x,hx,rfl⟩)
theorem JMG(hp:List (Nat×Obj))(vs:List Av):XE (get hp) (tOf hp vs):=by
 refine ZQ ?_;intro e he;obtain⟨i,_,rfl⟩:=VC.1 he;rfl
section
variable {P:Program}{st:St}
theorem JJo{d:Option Nat}{f:Cal}{args:List Opd}{rs:Ss}{K:St→Prop}{f':Nat}{vs:List Av}{p:Prop}{ds:List Dat}{u:List (Nat×Obj)}{r:Dat}(ht:target (get st.tm) f args=some (.fn f',vs))
  (hd:Jl (get st.hp) vs=some (p,ds,u))(hp:p)(hc:Jz P f' (ds.map Dat.canon) (.d r))(hs:scalar r=true)(hr:wps P rs K (st.app d (.d r) [])):wps P (.call d f args rs) K st:=
 JI ht (hc.borrow hs (fun H hH=>by rw[JGr hH];exact hd) hp) (JMG _ _) hr
end
end Av
namespace Av
open Go
variable [Glb][Rls]
attribute [go_sem] JA0
theorem JFz(i:Nat)(n m:Int):∀j,(JA (get [(i,.box [.d (.int .i64 n)])]) [(i,.box [.d (.int .i64 m)])] j).isSome=true→j=i:=by
 intro j h;simp only[JA,upd,get]at h;by_cases e:j=i
 ·exact e
 ·have e':¬i=j:=fun h=>e h.symm
  simp[e,e']at h
theorem Con.cnt{P:Program}{f:Nat}{ds:List Dat}{n m:Int}{r:Dat}
  (h:Con P f (ds.map .d++[.ref 1000 0]) [(1000,.box [.d (.int .i64 n)])] (.d r) [(1000,.box [.d (.int .i64 m)])])(i:Nat):
  JC P f (ds.map .d++[.ref i 0]) [(i,some (.box [.d (.int .i64 n)]))] (.d r) [(i,.box [.d (.int .i64 m)])]:=by
 have hcl:∀a:Int,closed (get [(1000,.box [.d (.int .i64 a)])]):=by
  intro a;refine UK ?_;simp only[Je,J8,JR,JV,and_self]
 have:=h.call (fun _=>i) ?_ ?_ ?_ (hcl n) [] ?_ ?_ ?_
 ·have e:(ds.map Av.d).map (Av.ren fun _=>i)=ds.map Av.d:=by
   rw[List.map_map];exact List.map_congr_left fun x _=>by simp[Av.ren]
  simpa[Av.ren,Obj.ren,J3,e]using this
 ·intro j hj;simp only[get]at hj;split at hj
  ·rename_i e;subst e;decide
  ·cases hj
 ·intro a b ha hb _;rw[JFz _ _ _ _ ha,JFz _ _ _ _ hb]
 ·intro c hc;rcases List.mem_append.1 hc with hc|hc
  ·obtain⟨x,_,rfl⟩:=VC.1 hc;trivial
  ·simp only[List.mem_singleton]at hc;subst hc;rfl
 ·intro e he;simp only[List.mem_singleton]at he;subst he;exact .inl rfl
 ·exact Jf (hcl_put n m)
 ·trivial
where
 hcl_put (n m:Int):Je (get (UH [(1000,.box [.d (.int .i64 n)])] [(1000,.box [.d (.int .i64 m)])])) (UH [(1000,.box [.d (.int .i64 n)])] [(1000,.box [.d (.int .i64 m)])]):=by
  simp[UH,put,Je,J8,JR,JV]
end Av
namespace Go.Proofs
open Go Av
def JIC:List Dat:=(List.range 256).map fun c=>.int .u8 (Lib.firstT c)
def JGs:List Dat:=(List.range 16).flatMap fun i=>[.int .u8 (Lib.accLo i),.int .u8 (Lib.accHi i)]
def JGt:List Dat:=(List.range 20).map fun n=>.int .u64 ((10^n:Nat):Int)
instance glbT:Glb:=⟨[(1,JIC),(2,JGs),(6,[.iface 640 .opq]),(7,[.iface 640 .opq]),(3,JGt)]⟩
theorem rl_D(n:Nat): @Rls.rl rlsD n=(n==1):=rfl
theorem rm_D(n:Nat): @Rls.rm rlsD n=false:=rfl
theorem tr_D(n:Nat): @Rls.tr rlsD n=false:=rfl
theorem JNv(sz n:Nat): @Z7 rlsD sz n=match sz==1 with|true=>n==1|false=>false:=by
 unfold Z7;rw[rl_D,rm_D];cases sz==1<;>simp
attribute [go_sem] rl_D rm_D tr_D JNv
end Go.Proofs
namespace Av
open Go
open Go.Proofs.YtjcljkgafcdbgaaGreatDoor.Rows (uptoBulk uptoBulkAll)
variable {A:Nat→Prop}
def CR(A:Nat→Prop)(w:World)(ds:List Dat)(cs:List Value):Prop:=
 ds.length=cs.length∧(∀v∈cs,v.oneCell'=true)∧∀(i:Nat) c v,ds[i]? =some c→cs[i]? =some v→Rep A w c v
theorem CR.nil{w:World}:CR A w [] []:=⟨rfl,sP,sP⟩
theorem CR.one{w:World}{d:Dat}{v:Value}(h1:v.oneCell'=true)(h:Rep A w d v):CR A w [d] [v]:=by
 refine⟨rfl,by simpa using h1,?_⟩;intro i c u hc hu;cases i with
 |zero=>simp at hc hu;subst hc;subst hu;exact h
 |succ i=>simp at hc
theorem CR.append{w:World}{d1 d2:List Dat}{c1 c2:List Value}(h1:CR A w d1 c1)(h2:CR A w d2 c2):CR A w (d1++d2) (c1++c2):=by
 obtain⟨a1,a2,a3⟩:=h1;obtain⟨b1,b2,b3⟩:=h2;refine⟨by simp[a1,b1],?_,?_⟩
 ·intro v hv;rcases List.mem_append.1 hv with h|h
  ·exact a2 v h
  ·exact b2 v h
 ·intro i c v hc hv;by_cases hi:i<d1.length
  ·rw[Vz hi]at hc;rw[Vz oM]at hv;exact a3 i c v hc hv
  ·rw[Vy oM]at hc;rw[Vy oM,←a1]at hv;exact b3 _ c v hc hv
theorem JNw{H:Type}(d:DataW H):1≤uptoBulk d:=by
 cases d with
 |lit l=>cases l<;>simp[uptoBulk]
 |_=>simp[uptoBulk]
theorem JMH{H:Type}{d:DataW H}{l:List (DataW H)}(h:d∈l):uptoBulk d≤uptoBulkAll l:=by
 induction l with
 |nil=>cases h
 |cons x r ih=>
  simp only[uptoBulkAll];cases VA.1 h with
  |inl e=>subst e;omega
  |inr e=>have:=ih e;omega
theorem JID{H:Type}(l:List (DataW H)):l.length≤uptoBulkAll l:=by
 induction l with
 |nil=>simp[uptoBulkAll]
 |cons x r ih=>have:=JNw x;simp only[uptoBulkAll,Vf];omega
section
variable {H:Type}{enc:TypeId×Value→H}{P:Program}{w:World}{base:Nat}{spare:Nat→Bool}{held:Bool}
def old(w:World)(b:Nat):Prop:=b<w.heap.size
theorem JER{t:TypeId}{k:IntKind}{fuel:Nat}{cs:List Value}{x:DataW H×List MemPlace}(ht:P.underlying t=some (.int k))(h:DataW.trod enc P w base spare held fuel t cs=some x):
  ∃n,CR (old w) w [.int k n] cs:=by
 obtain⟨n,rfl,_,hw⟩:=DataW.trod_int ht h;refine⟨n,.one rfl (.int k n ?_)⟩;simpa[Lit.wf,Vi]using hw
theorem JMI{a:Addr}{v:Value}(h:w.cell? a=some v):a.spot=none∧a.block<w.heap.size:=by
 unfold World.cell? at h;split at h
 ·rename_i hh;split at h
  ·cases h
  ·rename_i hs;refine⟨by cases e:a.spot<;>simp_all,?_⟩;exact(Array.getElem?_eq_some_iff.1 hh).1
 ·cases h
theorem JB8{a:Addr}(h:a.spot=none)(n:Nat):a.add n=⟨a.block,a.off+n,none⟩:=by
 unfold Addr.add;split
 ·rename_i e;subst e;cases a;simp_all
 ·rfl
theorem JKv{α:Type}{encA:α→Dat}{sz:Nat}(hsz:0<sz)(a:Addr):∀(len:Nat) (E:Nat→List Value) (X:Nat→α),
  (∀i,i<len→w.cells? base (a.add (i*sz)) sz=some (E i)∧CR (old w) w (encA (X i)).cells (E i))→
  ∃vs:List Value,(0<len→a.spot=none∧a.block<w.heap.size)∧vs.length=len*sz∧(∀(i:Nat) v,vs[i]? =some v→w.cell? (a.add i)=some v)∧CR (old w) w (flat ((List.range len).map fun i=>encA (X i))) vs
 |0,_,_,_=>⟨[],sP,sP,sP,by simpa[flat]using CR.nil⟩
 |n+1,E,X,h=>by
  obtain⟨vs,h1,h2,h3,h4⟩:=JKv (encA:=encA) hsz a n E X fun i hi=>h i oM
  obtain⟨g1,g2⟩:=h n oM;obtain⟨_,hlen,hcell⟩:=World.cells?_some g1;have hspot:a.spot=none∧a.block<w.heap.size:=by
   by_cases h0:0<n
   ·exact h1 h0
   ·obtain rfl:n=0:=oM;have:=hcell 0 hsz;rw[Nat.zero_mul]at this;have e1:(a.add 0).add 0=a:=by simp[Addr.add]
    rw[e1]at this;cases e:(E 0)[0]? with
    |none=>rw[List.getElem?_eq_none_iff]at e;omega
    |some v=>rw[e]at this;exact JMI this
  refine⟨vs++E n,fun _=>hspot,by rw[Vg,h2,hlen,Nat.succ_mul],?_,?_⟩
  ·intro i v hv;by_cases hi:i<vs.length
   ·rw[Vz hi]at hv;exact h3 i v hv
   ·rw[Vy oM]at hv;have hlt:i-vs.length<sz:=by
     have:=(VB.1 hv).1;omega
    have:=hcell _ hlt;rw[hv]at this;rw[←this];congr 1;rw[JB8 hspot.1,JB8 hspot.1,JB8 rfl];have hoff:a.off+i=a.off+n*sz+(i-vs.length):=oM;show(⟨a.block,a.off+i,none⟩:Addr)=⟨a.block,a.off+n*sz+(i-vs.length),none⟩;rw[hoff]
  ·rw[List.range_succ,Vw];have e:flat (List.map (fun i=>encA (X i)) (List.range n)++List.map (fun i=>encA (X i)) [n])=flat (List.map (fun i=>encA (X i)) (List.range n))++(encA (X n)).cells:=by
    simp[flat]
   rw[e];exact h4.append g2
theorem JES{α:Type}{encA:α→Dat}{ok:α→Prop}{t e:TypeId}{sz fuel:Nat}{cs:List Value}{x:DataW H×List MemPlace}(ht:P.underlying t=some (.slice e))(hc:P.cellsOf e=sz)(hsz:0<sz)(henc:∀a,(encA a).cells.length=sz)
  (h:DataW.trod enc P w base spare held fuel t cs=some x)(hb:uptoBulk x.1≤1048576)
  (hel:∀n cs' y,n<fuel→DataW.trod enc P w base spare held n e cs'=some y→uptoBulk y.1≤1048576→∃a:α,ok a∧CR (old w) w (encA a).cells cs'):
  ∃xs:List α,xs.length≤1048576∧(∀a∈xs,ok a)∧CR (old w) w [.list sz (xs.map encA)] cs:=by
 rcases DataW.trod_slice ht h with⟨rfl,_⟩|⟨a,len,cap,elems,rest,n,rfl,rfl,rfl,hbase,hl,hm,hlen,hget,_,_⟩
 ·exact⟨[],sP,sP,.one rfl (.emp sz none 0)⟩
 ·rw[hc]at hget;simp only[uptoBulk]at hb;have hlen':len≤1048576:=by
   have:=JID (elems.map (·.1));rw[Vc,hlen]at this;omega
  have hex:∀i,i<len→∃p:List Value×α,w.cells? base (a.add (i*sz)) sz=some p.1∧ok p.2∧CR (old w) w (encA p.2).cells p.1:=by
   intro i hi;have hg:=hget i hi;rw[Vl oM]at hg;obtain⟨cs',g1,g2⟩:=Option.bind_eq_some_iff.1 hg;have hbi:uptoBulk (elems[i]'oM).1≤1048576:=by
    have:=JMH (VC.2 ⟨elems[i]'oM,Vk _,rfl⟩:(elems[i]'oM).1∈elems.map (·.1));omega
   obtain⟨y,h1,h2⟩:=hel n cs' _ oM g2 hbi;exact⟨(cs',y),g1,h1,h2⟩
  obtain⟨p0,hp0⟩:∃p:Nat→Option (List Value×α),∀i,i<len→∃q,p i=some q∧w.cells? base (a.add (i*sz)) sz=some q.1∧ok q.2∧CR (old w) w (encA q.2).cells q.1:=by
   classical
   refine⟨fun i=>if hi:i<len then some (Classical.choose (hex i hi))else none,fun i hi=>?_⟩;exact⟨Classical.choose (hex i hi),by simp[hi],Classical.choose_spec (hex i hi)⟩
  by_cases h0:len=0
  ·subst h0;exact⟨[],sP,sP,.one rfl (.emp sz (some a) cap)⟩
  ·obtain⟨q0,hq0,_⟩:=hp0 0 oM;have hq:∀i,i<len→w.cells? base (a.add (i*sz)) sz=some ((p0 i).getD q0).1∧ok ((p0 i).getD q0).2∧CR (old w) w (encA ((p0 i).getD q0).2).cells ((p0 i).getD q0).1:=by
    intro i hi;obtain⟨q,e,hq⟩:=hp0 i hi;rw[e];exact hq
   obtain⟨vs,g1,g2,g3,g4⟩:=JKv (encA:=encA) hsz a len (fun i=>((p0 i).getD q0).1) (fun i=>((p0 i).getD q0).2) fun i hi=>⟨(hq i hi).1,(hq i hi).2.2⟩
   obtain⟨hs,hblk⟩:=g1 oM;refine⟨(List.range len).map fun i=>((p0 i).getD q0).2,by simpa using hlen',?_,?_⟩
   ·intro y hy;obtain⟨i,hi,rfl⟩:=VC.1 hy;exact(hq i (List.mem_range.1 hi)).2.1
   ·rw[List.map_map];have ea:a=⟨a.block,a.off,none⟩:=by cases a;simp_all
    rw[ea];refine .one rfl (.list sz _ a.block a.off len cap vs sP hblk (sX hl) sO g4.2.1 ?_ ?_ g4.1 g4.2.2)
    ·intro d hd;obtain⟨i,_,rfl⟩:=VC.1 hd;exact henc _
    ·intro i v hv;have:=g3 i v hv;rwa[JB8 hs]at this
end
end Av
namespace Go.Proofs.YtjcljkgafcdbgaaGreatDoor
open Go
abbrev JMJ:List (String×DataW Unit):=[("unicode/utf8.acceptRanges",Rows.laid_unicode_utf8_acceptRanges),("internal/strconv.uint64pow10",Rows.laid_internal_strconv_uint64pow10),("math/bits.deBruijn32tab",Rows.laid_math_bits_deBruijn32tab),("math/bits.deBruijn64tab",Rows.laid_math_bits_deBruijn64tab),("strconv.ErrSyntax",Rows.laid_strconv_ErrSyntax),("strconv.ErrRange",Rows.laid_strconv_ErrRange)]
abbrev tieK:List LaidKind:=[.data,.data,.data,.data,.sentinel,.sentinel]
end Go.Proofs.YtjcljkgafcdbgaaGreatDoor
