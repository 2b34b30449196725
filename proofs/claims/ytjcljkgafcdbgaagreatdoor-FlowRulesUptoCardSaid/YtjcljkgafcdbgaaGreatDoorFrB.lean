/- Part B of a proof. -/
import Derived.Test.YtjcljkgafcdbgaaGreatDoorFrA
import Derived.Laws.AppendOwn
import Derived.Deep.AppendSrc
import Derived.Laws.MakeOwn
import Derived.Lib.ConvBytes
import Derived.Lib.OthersKept
import Derived.Laws.BytesString
import Derived.Laws.RangeString
import Derived.Laws.Runes
import Derived.RangeFuncRecord
set_option linter.unusedVariables false
set_option linter.unusedSimpArgs false
set_option linter.unusedSectionVars false
set_option linter.constructorNameAsVariable false
set_option linter.unnecessarySimpa false
set_option maxRecDepth 10000
namespace Av
open Go
variable [Glb][Rls]
variable {i b ver sz:Nat}{C:Array Value}{xs:List Dat}{n:Option Nat}
section
variable {P:Program}{β:JM}{A:Nat→Prop}{w:World}{H:Heap}{τ:UX}{a:Act}{o:Oper}
theorem Yi{α:Type}(f:Nat→α)(i:Nat)(x:α)(h:f i=x):upd f i x=f:=by
 funext j;unfold upd;split
 ·rename_i e;rw[e,h]
 ·rfl
theorem Stp.JHP(hc:Core β A w H){cs cs':List Av}{C':Array Value}{T:TypeId}(hi:H i=some (.box cs))(hb:β i=some b)(hh:w.heap[b]? =some (.cells C T (0,0)))
  (hl:cs'.length=C'.size)(h1:∀v∈C'.toList,v.oneCell'=true)
  (hv:(∀c u,VRep β A w H c u→VRep β A (w.setRow b C') (upd H i (some (.box cs'))) c u)→∀(j:Nat) c v,cs'[j]? =some c→C'[j]? =some v→VRep β A (w.setRow b C') (upd H i (some (.box cs'))) c v):
  Stp β A w H β A (w.setRow b C') (upd H i (some (.box cs'))):=by
 have hβ:upd β i (some b)=β:=Yi _ _ _ hb;have:=Stp.one (β:=β) (A:=A) (A':=A) (w':=w.setRow b C') hc i (.box cs') (some b) rfl rfl rfl sP (fun k hk hne=>setRow_other w b k C' (fun e=>hne _ hi rfl (by rw[hb,e]))) (fun _ h=>h) (fun _ h=>.inl h)
  (fun k h=>by simpa using hc.old k h) (fun k hk _=>by cases hk;exact⟨.inr ⟨_,hi,rfl,hb⟩,hc.JSF i _ b hi rfl hb⟩)
  (fun c u hcase hvr=>by
   rw[hβ];rcases hcase with⟨off,rfl⟩|⟨ver,rfl⟩|⟨ver,off,len,rfl⟩|⟨ver,k,off,rfl⟩|rfl
   ·cases hvr with
    |ref _ _ b' p _ hu h0 g1 g2=>exact .ref _ _ b' p _ hu sU (fun cs2 _=>g1 _ hi) sU
   ·cases hvr with
    |ms _ _ _ hu h0 g1 g2=>exact .ms _ _ _ hu sU sU sU
   ·cases hvr with
    |sub _ _ _ _ _ hu h0 g1 g2=>exact .sub _ _ _ _ _ hu sU sU sU
   ·cases hvr with
    |el _ _ _ _ b' p _ hu h0 g1=>exact .el _ _ _ _ b' p _ hu sU sU
   ·cases hvr with
    |mp _ _ hu h0 g1 g2 g3=>exact .mp _ _ hu sU sU sU sU)
  (fun hall=>⟨b,C',T,by rw[hβ];exact hb,setRow_heap w b C C' T (0,0) hh,hl,h1,by rw[hβ]at hall⊢;exact hv hall⟩)
 rwa[hβ]at this
theorem Stp.JSG(hc:Core β A w H){ver' cap:Nat}{xs':List Dat}{C':Array Value}{T:TypeId}(hi:H i=some (.row ver sz xs))(hb:β i=some b)(hh:w.heap[b]? =some (.cells C T (0,0)))
  (hcap:C.size=cap*sz)(hsz':C'.size=C.size)(hver:ver≤ver')(hlen:ver'=ver→xs'.length=xs.length)(hs:∀x∈xs',x.cells.length=sz)(hbnd:xs'.length≤68719476736)(hle:xs'.length≤cap)
  (h1:∀(j:Nat) v,j<(flat xs').length→C'[j]? =some v→v.oneCell'=true)
  (hv:∀(j:Nat) c v,(flat xs')[j]? =some c→C'[j]? =some v→Rep A w c v):
  Stp β A w H β A (w.setRow b C') (upd H i (some (.row ver' sz xs'))):=by
 have hβ:upd β i (some b)=β:=Yi _ _ _ hb;obtain⟨hs0,hsz,_,_⟩:=hc.objs i _ hi;have hnA:¬A b:=hc.JSF i _ b hi rfl hb;have hsame:XG A w (w.setRow b C'):=fun k hk=>setRow_other w b k C' (fun e=>hnA (e▸hk))
 have:=Stp.one (β:=β) (A:=A) (A':=A) (w':=w.setRow b C') hc i (.row ver' sz xs') (some b) rfl rfl rfl sP (fun k hk hne=>setRow_other w b k C' (fun e=>hne _ hi rfl (by rw[hb,e]))) (fun _ h=>h) (fun _ h=>.inl h)
  (fun k h=>by simpa using hc.old k h) (fun k hk _=>by cases hk;exact⟨.inr ⟨_,hi,rfl,hb⟩,hnA⟩)
  (fun c u hcase hvr=>by
   rw[hβ];rcases hcase with⟨off,rfl⟩|⟨ver2,rfl⟩|⟨ver2,off,len,rfl⟩|⟨ver2,k,off,rfl⟩|rfl
   ·cases hvr with
    |ref _ _ b' p _ hu h0 g1 g2=>exact .ref _ _ b' p _ hu sU sU sU
   ·cases hvr with
    |ms _ _ _ hu h0 g1 g2=>
     obtain⟨q1,q2⟩:=g1 _ _ _ hi;refine .ms _ _ _ hu sU ?_ sU;intro v3 sz3 xs3 h3;simp only[upd,if_true,Vd,Obj.row.injEq]at h3;obtain⟨rfl,rfl,rfl⟩:=h3;refine⟨oM,fun e=>?_⟩;have e1:ver=ver2:=oM;have e2:xs'.length=xs.length:=hlen oM;rw[e2];rcases q2 e1 with⟨r1,_⟩|⟨b',C2,T2,fz2,cap2,r1,r2,r3,r4,r5⟩
     ·rw[hb]at r1;cases r1
     ·rw[hb]at r1;cases r1;rw[hh]at r2;cases r2;exact .inr ⟨b,C',T,(0,0),cap2,hb,setRow_heap w b C C' T (0,0) hh,by rw[hsz',r3],r4,r5⟩
   ·cases hvr with
    |sub _ _ _ _ _ hu h0 g1 g2=>
     obtain⟨q1,q2⟩:=g1 _ _ _ hi;refine .sub _ _ _ _ _ hu sU ?_ sU;intro v3 sz3 xs3 h3;simp only[upd,if_true,Vd,Obj.row.injEq]at h3;obtain⟨rfl,rfl,rfl⟩:=h3;refine⟨oM,fun e=>?_⟩;have e1:ver=ver2:=oM;have e2:xs'.length=xs.length:=hlen oM;obtain⟨q3,q4⟩:=q2 e1;refine⟨oM,?_⟩;rcases q4 with⟨r1,_⟩|⟨b',C2,T2,fz2,cap2,ad,r1,r2,r3,r4⟩
     ·rw[hb]at r1;cases r1
     ·rw[hb]at r1;cases r1;rw[hh]at r2;cases r2;exact .inr ⟨b,C',T,(0,0),cap2,ad,hb,setRow_heap w b C C' T (0,0) hh,by rw[hsz',r3],r4⟩
   ·cases hvr with
    |el _ _ _ _ b' p _ hu h0 g1=>
     obtain⟨q1,q2⟩:=g1 _ _ _ hi;refine .el _ _ _ _ b' p _ hu sU ?_;intro v3 sz3 xs3 h3;simp only[upd,if_true,Vd,Obj.row.injEq]at h3;obtain⟨rfl,rfl,rfl⟩:=h3;refine⟨oM,fun e=>?_⟩;have e1:ver=ver2:=oM;have e2:xs'.length=xs.length:=hlen oM;obtain⟨q3,q4,q5⟩:=q2 e1;exact⟨oM,q4,q5⟩
   ·cases hvr with
    |mp _ _ hu h0 g1 g2 g3=>exact .mp _ _ hu sU sU sU sU)
  (fun hall=>⟨hs0,hs,hbnd,.inr ⟨b,C',T,cap,by rw[hβ];exact hb,setRow_heap w b C C' T (0,0) hh,by rw[hsz',hcap],hle,h1,fun j c v h2 h3=>(hv j c v h2 h3).mono hsame fun _ h=>h⟩⟩)
 rwa[hβ]at this
theorem JBr{t:TypeId}(hn:shT P t=some n){p:Nat}{u:Value}{T:TypeId}(hh:w.heap[b]? =some (.cells C T (0,0)))
  (hu:u.cells.size=n.getD 1)(hle:p+u.cells.size≤C.size)(h1:∀v∈u.cells.toList,v.oneCell'=true):
  (storeVar t ⟨b,p,none⟩ u).run P w=.ok () (w.setRow b (Jh C.toList p u.cells.toList).toArray):=by
 have hsz:szT P t=some (n.getD 1):=by
  rcases JCU hn with⟨rfl,_,h2⟩|⟨k,rfl,_,h2⟩<;>exact h2
 have:=run_storeCells_at P b p T u.cells.toList 0 C w hh (sX hle) h1;simp only[Nat.add_zero]at this;simp only[storeVar,Sem.run_bind,UI hsz,Result.andThen_ok,hu,ne_eq,not_true_eq_false,if_false];rw[show(Jh C.toList p u.cells.toList)=C.toList.take p++u.cells.toList++C.toList.drop (p+u.cells.toList.length) by simp[Jh]];simpa using this
theorem JKW{cap:Nat}{T:TypeId}{fz:Nat×Nat}(hc:Core β A w H)(hi:H i=some (.row ver sz xs))(hb:β i=some b)(hh:w.heap[b]? =some (.cells C T fz))(hcs:C.size=cap*sz)(hle:xs.length≤cap):
  Rep (fun k=>A k∨β i=some k) w (.list sz xs) (.slice (some ⟨b,0,none⟩) xs.length cap):=by
 obtain⟨hs0,hsz,hbd,hblk⟩:=hc.objs i _ hi;rcases hblk with⟨g1,_⟩|⟨b',C',T',cap',g1,g2,g3,g4,g5,g6⟩
 ·rw[g1]at hb;cases hb
 ·rw[g1]at hb;cases hb;rw[g2]at hh;cases hh;have hfl:=JT hsz;have hcl:(flat xs).length≤C.size:=by rw[hfl,hcs];exact Nat.mul_le_mul_right _ hle
  refine .list sz xs _ 0 _ cap ((C.toList.drop 0).take (flat xs).length) rfl (.inr g1) hle hbd ?_ hsz (holds_of_block g2 0 _) sO ?_
  ·intro v hv;obtain⟨j,hj⟩:=List.getElem?_of_mem hv;rw[List.drop_zero,List.getElem?_take]at hj;split at hj
   ·rename_i hlt;exact g5 j v hlt (sX hj)
   ·cases hj
  ·intro j c v hjc hjv;rw[List.drop_zero,List.getElem?_take]at hjv;split at hjv
   ·exact(g6 j c v hjc (sX hjv)).mono (fun _ _=>rfl) fun _ h=>.inl h
   ·cases hjv
theorem Stp.freeze(hc:Core β A w H)(hi:H i=some (.row ver sz xs)):
  Stp β A w H β (fun k=>A k∨β i=some k) w (upd H i (some (.frz ver sz xs))):=by
 have hβ:upd β i ((β i).r:Option Nat)=β:=Yi _ _ _ (hc.JKL hi rfl (by intros;nofun));obtain⟨hs0,hsz,hbd,hblk⟩:=hc.objs i _ hi;have:=Stp.one (β:=β) (A:=A) (A':=fun k=>A k∨β i=some k) (w':=w) hc i (.frz ver sz xs) (β i).r rfl rfl rfl (Nat.le_refl _) (fun _ _ _=>rfl) (fun _ h=>.inl h)
  (fun k h=>by rcases h with h|h;exact .inl h;exact .inr (.inr ⟨_,hi,rfl,h⟩))
  (fun k h=>by rcases h with h|h;exact hc.old k h;exact hc.lt hi rfl (BK.JHN h)) (fun k _ hl=>by cases hl)
  (fun c u hcase hvr=>by
   rw[hβ];rcases hcase with⟨off,rfl⟩|⟨ver2,rfl⟩|⟨ver2,off,len,rfl⟩|⟨ver2,k,off,rfl⟩|rfl
   ·cases hvr with
    |ref _ _ b' p _ hu h0 g1 g2=>exact .ref _ _ b' p _ hu sU sU sU
   ·cases hvr with
    |ms _ _ _ hu h0 g1 g2=>
     obtain⟨q1,q2⟩:=g1 _ _ _ hi;refine .ms _ _ _ hu sU sU ?_;intro sz3 xs3 h3;simp only[upd,if_true,Vd,Obj.frz.injEq]at h3;obtain⟨rfl,rfl,rfl⟩:=h3;rcases q2 rfl with⟨r1,r2,ad,r3⟩|⟨b,C,T,fz,cap,r1,r2,r3,r4,r5⟩
     ·have hx:xs=[]:=List.eq_nil_of_length_eq_zero r2;subst hx;rw[r3];exact .emp _ _ _
     ·rw[r5];exact JKW hc hi r1 r2 r3 r4
   ·cases hvr with
    |sub _ _ _ _ _ hu h0 g1 g2=>
     obtain⟨q1,q2⟩:=g1 _ _ _ hi;refine .sub _ _ _ _ _ hu sU sU ?_;intro sz3 xs3 h3;simp only[upd,if_true,Vd,Obj.frz.injEq]at h3;obtain⟨rfl,rfl,rfl⟩:=h3;obtain⟨q3,q4⟩:=q2 rfl;rcases q4 with⟨r1,r2,r3,ad,r4⟩|⟨b,C,T,fz,cap,ad,r1,r2,r3,r4,r5,r6⟩
     ·subst r2 r3;rw[r4];simpa using Rep.emp (A:=fun k=>A k∨β i=some k) (w:=w) sz ad 0
     ·have hxc:xs.length≤cap:=by
       rcases hblk with⟨s1,_⟩|⟨b',C',T',cap',s1,s2,s3,s4,_⟩
       ·rw[s1]at r1;cases r1
       ·rw[s1]at r1;cases r1;rw[s2]at r2;cases r2;rw[s3]at r3;have:=Nat.eq_of_mul_eq_mul_right hs0 r3;omega
      obtain⟨ad',cap',s1,s2,s3⟩:=(JKW hc hi r1 r2 r3 hxc).slice (l:=off) (n:=len) q3;cases s1;rw[r6];exact s3 _ ⟨_,rfl,fun hlt=>by rw[r5 hlt];simp[Addr.add_lit]⟩
   ·cases hvr with
    |el _ _ _ _ b' p _ hu h0 g1=>exact .el _ _ _ _ b' p _ hu sU sU
   ·cases hvr with
    |mp _ _ hu h0 g1 g2 g3=>exact .mp _ _ hu sU sU sU sU)
  (fun _=>trivial)
 rwa[hβ]at this
theorem VRep.frzMs{H':Heap}{j w0 sy:Nat}{ys:List Dat}{u:Value}(h:VRep β A w H' (.ms j w0) u)(hj:H' j=some (.frz w0 sy ys)):VRep β A w H' (.d (.list sy ys)) u:=by
 cases h with|ms _ _ _ hu h0 g1 g2=>exact .d _ _ (g2 _ _ hj)
theorem JKX{t:TypeId}{x y:Operand}(hc:Core β A w H)(ho:o.op=.store t x y)(hn:shT P t=some n){k off v':Nat}{v:Dat}
  (hv:VRep β A w H (.el i ver k off) (a.eval x))(hw:VRep β A w H (.d v) (a.eval y))(hrow:H i=some (.row v' sz xs)):∀x'':Dat,ver=v'→v.cells.length=n.getD 1→off+v.cells.length≤(nth xs k).cells.length→x''.cells=Jh (nth xs k).cells off v.cells→
  JY P a.eval o w β A H .und [(i,.row v' sz (xs.set k x''))]:=by
 have run:∀b p C T,a.eval x=.pointer (some ⟨b,p,none⟩)→w.heap[b]? =some (.cells C T (0,0))→(a.eval y).cells.size=n.getD 1→p+(a.eval y).cells.size≤C.size→(∀v∈(a.eval y).cells.toList,v.oneCell'=true)→
   (execOp a.eval o).run P w=.ok .skip (w.setRow b (Jh C.toList p (a.eval y).cells.toList).toArray):=by
  intro b p C T h1 h2 h3 h4 h5;simp[execOp,ho,Instr.storeAt,h1,Instr.sureAddr,JBr hn h2 h3 h4 h5]
 obtain⟨c1,c2,c3⟩:=hw.JU.XP;intro x'' hver hvl hle hx'';subst hver;obtain⟨hs0,hsz,hb,hblk⟩:=hc.objs i _ hrow;cases hv with
 |el _ _ _ _ b p _ hu h0 q1=>
  obtain⟨hk,r1,rfl⟩:=(q1 _ _ _ hrow).2 rfl;rcases hblk with⟨s1,_⟩|⟨b',C,T,cap,s1,s2,s3,s4,s5,s6⟩
  ·rw[s1]at r1;cases r1
  ·rw[s1]at r1;cases r1;have hnl:=hsz _ (Yz hk);have hkk:(k+1)*sz≤C.size:=by rw[s3];exact Nat.mul_le_mul_right _ oM
   rw[Nat.succ_mul]at hkk;have hple:k*sz+off+(a.eval y).cells.size≤C.size:=oM;have hlenS:(Jh C.toList (k*sz+off) (a.eval y).cells.toList).length=C.size:=by rw[J2 _ _ _ sO,Array.length_toList]
   have hszx:x''.cells.length=sz:=by rw[hx'',J2 _ _ _ hle,hnl]
   have hall':∀z∈xs.set k x'',z.cells.length=sz:=by
    intro z hz;rcases List.mem_or_eq_of_mem_set hz with h|h
    ·exact hsz z h
    ·rw[h];exact hszx
   have hfl:=JT hsz;have hfl':=JT hall';rw[List.length_set]at hfl';have hflat:∀j,(flat (xs.set k x''))[j]? =if k*sz+off≤j∧j<k*sz+off+v.cells.length then v.cells[j-(k*sz+off)]? else(flat xs)[j]? :=by
    intro j;by_cases hj:j<(flat xs).length
    ·
     have hdm:=Nat.div_add_mod j sz;have hm:=Nat.mod_lt j hs0;generalize hq:j/sz=q at*;generalize hr:j%sz=r at*;have hjq:j=q*sz+r:=by rw[Nat.mul_comm];omega
     have hqx:q<xs.length:=by
      rcases Nat.lt_or_ge q xs.length with h|h
      ·exact h
      ·exfalso;have:xs.length*sz≤q*sz:=Nat.mul_le_mul_right _ h
       omega
     have e1:=JBo hall' (k:=q) (j:=r) (sX hqx) hm;have e2:=JBo hsz hqx hm;rw[hjq,e1,e2];by_cases hqk:q=k
     ·subst hqk;have:nth (xs.set q x'') q=x'':=by simp[nth,hqx]
      rw[this,hx'',Jr _ _ _ _ hle];by_cases hin:off≤r∧r<off+v.cells.length
      ·rw[if_pos hin,if_pos oM];congr 1;omega
      ·rw[if_neg hin,if_neg oM]
     ·have:nth (xs.set k x'') q=nth xs q:=by simp[nth,Ne.symm hqk]
      rw[this,if_neg];intro hin;rcases Nat.lt_or_ge q k with h|h
      ·have:(q+1)*sz≤k*sz:=Nat.mul_le_mul_right _ h;rw[Nat.succ_mul]at this;omega
      ·have:(k+1)*sz≤q*sz:=Nat.mul_le_mul_right _ oM;rw[Nat.succ_mul]at this;omega
    ·rw[List.getElem?_eq_none oM,List.getElem?_eq_none (by omega:(flat xs).length≤j)];split
     ·rename_i hin;exfalso;have:(k+1)*sz≤xs.length*sz:=Nat.mul_le_mul_right _ hk;rw[Nat.succ_mul]at this;omega
     ·rfl
   refine⟨undef,β,A,_,.inr ⟨run _ _ C T hu s2 oM hple c2,rfl⟩,Stp.JSG hc hrow s1 s2 s3 (sX hlenS) (Nat.le_refl _) sP hall' (sX hb) (sX s4) ?_ ?_,.und⟩
   ·intro j z hj hjz;rw[List.getElem?_toArray,Jr _ _ _ _ sO]at hjz;split at hjz
    ·exact c2 z (List.mem_of_getElem? hjz)
    ·exact s5 j z oM (sX hjz)
   ·intro j c z hjc hjz;rw[hflat]at hjc;rw[List.getElem?_toArray,Jr _ _ _ _ sO]at hjz;have hlen:v.cells.length=(a.eval y).cells.toList.length:=sX c1;rw[hlen]at hjc;split at hjc
    ·rename_i hin;rw[if_pos hin]at hjz;exact c3 _ c z hjc (sX hjz)
    ·rename_i hin;rw[if_neg hin]at hjz;exact s6 _ c z hjc (sX hjz)
theorem JND{t:TypeId}{x y:Operand}{x' y':Opd}{d:Nat}{r:Res}(hc:Core β A w H)(ht:UD β A w H τ a)(ho:o.op=.store t x y)(hn:shT P t=some n)(hx:opd P t x=some x')(hy:opd P t y=some y')
  (hs:step τ H d (.sto n x' y')=some r)(hC:r.c):JY P a.eval o w β A H r.v r.ups:=by
 have run:∀b p C T,a.eval x=.pointer (some ⟨b,p,none⟩)→w.heap[b]? =some (.cells C T (0,0))→(a.eval y).cells.size=n.getD 1→p+(a.eval y).cells.size≤C.size→(∀v∈(a.eval y).cells.toList,v.oneCell'=true)→
   (execOp a.eval o).run P w=.ok .skip (w.setRow b (Jh C.toList p (a.eval y).cells.toList).toArray):=by
  intro b p C T h1 h2 h3 h4 h5;simp[execOp,ho,Instr.storeAt,h1,Instr.sureAddr,JBr hn h2 h3 h4 h5]
 simp only[step]at hs;split at hs
 ·rename_i i off v e1 e2;have hv:=JD hx e1 ht;split at hs
  ·rename_i cs vs hi ec;split at hs
   ·rename_i hle;cases hs;obtain⟨c1,c2,c3⟩:=(JD hy e2 ht).XP ec;obtain⟨b,C,T,g1,g2,g3,g4,g5⟩:=hc.objs i _ hi;cases hv with
    |ref _ _ b' p _ hu h0 q1 q2=>
     obtain⟨r1,rfl⟩:=q1 _ hi;rw[r1]at g1;cases g1;rw[Nat.zero_add]at hu;have hsz:(Jh C.toList off (a.eval y).cells.toList).length=C.size:=by rw[J2 _ _ _ sO,Array.length_toList]
     refine⟨undef,β,A,_,.inr ⟨run _ off C T hu g2 oM oM c2,rfl⟩,Stp.JHP hc hi r1 g2 ?_ ?_ ?_,.und⟩
     ·rw[J2 _ _ _ oM,List.size_toArray,hsz,g3]
     ·intro z hz;obtain⟨j,hj⟩:=List.getElem?_of_mem hz;simp only[]at hj;rw[Jr _ _ _ _ sO]at hj;split at hj
      ·exact c2 z (List.mem_of_getElem? hj)
      ·exact g4 z (List.mem_of_getElem? hj)
     ·intro hall j c z hjc hjz;rw[Jr _ _ _ _ oM]at hjc;rw[List.getElem?_toArray,Jr _ _ _ _ sO]at hjz;have hlen:vs.length=(a.eval y).cells.toList.length:=sX c1;rw[hlen]at hjc;split at hjc
      ·rename_i hin;rw[if_pos hin]at hjz;exact hall _ _ (c3 _ c z hjc (sX hjz))
      ·rename_i hin;rw[if_neg hin]at hjz;exact hall _ _ (g5 _ c z hjc (sX hjz))
   ·cases hs
  ·cases hs
 ·rename_i i ver k off v e1 e2;have hv:=JD hx e1 ht;have hw:=(JD hy e2 ht).JU;obtain⟨c1,c2,c3⟩:=hw.XP;split at hs
  ·rename_i v' sz xs hrow;have main:=JKX hc ho hn hv (JD hy e2 ht) hrow;split at hs
   ·cases hs;obtain⟨hver,hvl,hle⟩:=hC;refine main _ hver (sX hvl) oM ?_;unfold JDu;split
    ·rfl
    ·rename_i hsz1;have hsz1:sz=1:=sX hsz1;subst hsz1;have hnl:(nth xs k).cells.length=1:=by
      obtain⟨hs0,hsz,_,_⟩:=hc.objs i _ hrow;cases hv with
      |el _ _ _ _ b p _ hu h0 q1=>exact hsz _ (Yz ((q1 _ _ _ hrow).2 hver.symm).1)
     have hoff:off=0:=oM;subst hoff;obtain⟨c,hcc⟩:∃c,v.cells=[c]:=by
      cases hvc:v.cells with
      |nil=>simp[hvc]at hvl
      |cons c r=>simp[hvc]at hvl;exact⟨c,by simp[hvl]⟩
     obtain⟨c',hcc'⟩:∃c,(nth xs k).cells=[c]:=by
      cases hvc:(nth xs k).cells with
      |nil=>simp[hvc]at hnl
      |cons c r=>simp[hvc]at hnl;exact⟨c,by simp[hnl]⟩
     rw[hcc,hcc'];simp only[List.headD_cons,Jh,List.take_zero,List.nil_append,Vf,Vm,List.drop_succ_cons,List.drop_nil,List.append_nil];have hone:∀ds,c≠ .agg ds:=by
      intro ds e;subst e;have hmem:(0:Nat)<(a.eval y).cells.size:=by rw[←c1,hcc];simp
      have h2:=c3 0 (.agg ds) ((a.eval y).cells[0]) (by rw[hcc];rfl) sP;obtain⟨arr,he⟩:=h2.JCR;have h3:=c2 ((a.eval y).cells[0]) sP;rw[he]at h3;cases h3
     cases c<;>first|rfl|exact absurd rfl (hone _)
   ·rename_i n';cases hs;obtain⟨hver,hvl,hle⟩:=hC;exact main _ hver (sX hvl) oM rfl
  ·cases hs
 ·rename_i i ver k off j w0 e1 e2;have hv:=JD hx e1 ht;have hw:=JD hy e2 ht;unfold stoF at hs;split at hs
  ·rename_i v' sz xs w' sy ys hi hj;split at hs
   ·cases hs
   ·rename_i hij;cases hs;obtain⟨hver,hver2,hle⟩:=hC;subst hver2;have hst:=Stp.freeze hc hj;have hw2:=hst.vals _ _ hw;have hw3:=hw2.frzMs (JB _ _ _);have hv2:=hst.vals _ _ hv;have hi2:upd H j (some (.frz w0 sy ys)) i=some (.row v' sz xs):=by rw[JN _ _ hij];exact hi
    have hnl:sz=1→(nth xs k).cells.length=1:=by
     intro e;obtain⟨hs0,hsz,_,_⟩:=hc.objs i _ hi;cases hv with
     |el _ _ _ _ b p _ hu h0 q1=>exact(hsz _ (Yz ((q1 _ _ _ hi).2 hver.symm).1)).trans e
    have:=JKX hst.core ho hn hv2 hw3 hi2 (JDu (sz≠1) (nth xs k) off [.list sy ys]) hver rfl (by show off+1≤_;omega) (by
     unfold JDu;split
     ·rfl
     ·rename_i hsz1;have hsz1:sz=1:=sX hsz1;have hl1:=hnl hsz1;have hoff:off=0:=oM;subst hoff;obtain⟨c',hcc'⟩:∃c,(nth xs k).cells=[c]:=by
       cases hvc:(nth xs k).cells with
       |nil=>simp[hvc]at hl1
       |cons c r=>simp[hvc]at hl1;exact⟨c,by simp[hl1]⟩
      rw[hcc']
      rfl)
    obtain⟨u,β2,A2,w2,r1,r2,r3⟩:=this;exact⟨u,β2,A2,w2,r1,hst.trans r2,r3⟩
  ·cases hs
 ·rename_i i h v e1 e2;have hv:=JD hx e1 ht;unfold JHX at hs;split at hs
  ·rename_i k off ver s sz xs ek hi;split at hs
   ·rename_i sz' ys hn';have hrow:Xr H i h=some (h.ver=ver∧(h.p=[]∨h.sv=s),s,sz',ys):=by unfold Xr;rw[hi];simp only[hn']
    have place:(h.ver=ver∧(h.p=[]∨h.sv=s))→k<ys.length→∃b cap n' u0 C T,Xe β w i sz xs.length u0∧TAt w (.own sz xs) u0 h.p (.slice (some ⟨b,0,none⟩) n' cap)∧w.heap[b]? =some (.cells C T (0,0))∧
      a.eval x=.pointer (some ⟨b,k*sz'+off,none⟩)∧(k+1)*sz'≤C.size∧∀x∈ys,x.cells.length=sz':=by
     intro hcc hk;obtain⟨v0,szr,xs',u0,u1,F1,hh,q1,q2,hn2,r1,r2,o1,o2,r3⟩:=JGX hc hv hrow hcc;rw[hi]at hh;cases hh;rw[ek]at r3;obtain⟨b,n',cap,rfl,hlt,hu⟩:=r3;obtain⟨b2,C,T,cap2,Fs,g1,g2,g3,g4,g5,g6,_⟩:=Ya o2 oM;cases g1;exact⟨b,cap,_,u0,C,T,r1,r2,g3,hu,by rw[g4];exact Nat.mul_le_mul_right _ oM,g6⟩
    split at hs
    ·rename_i v x;cases hs;obtain⟨hcc,hk,hlen,hle⟩:=hC;obtain⟨c1,c2,c3⟩:=((JD hy e2 ht).JU).XP;obtain⟨b,cap,n',u0,C,T,r1,r2,g3,hu,g5,g6⟩:=place hcc hk;rw[g6 _ (Yz hk)]at hle;rw[Nat.succ_mul]at g5;have hst:=fun s' hs'=>Stp.trMany hc hi r1 r2 hn' hk (off:=off) (ds:=x.cells) (vs:=(a.eval y).cells.toList) hle (by rw[Array.length_toList];exact c1) c2 (fun j c v h1 h2=>c3 j c v h1 (sX h2)) g3 (s':=s') hs'
     obtain⟨β',hst⟩:=hst (if(((nth ys k).cells.drop off).take x.cells.length).any Z5 then s+1 else s) (by
      by_cases hany:(((nth ys k).cells.drop off).take x.cells.length).any Z5=true
      ·exact .inr (by rw[if_pos hany])
      ·refine .inl ⟨by rw[if_neg hany],?_⟩;intro j hj z hz;cases hz2:Z5 z with
       |false=>rfl
       |true=>
        exfalso;apply hany
        rw[List.any_eq_true];refine⟨z,?_,hz2⟩;unfold cellAt at hz;rw[Vl hk,Option.bind_some]at hz;have hnk:nth ys k=ys[k]:=by simp[nth,hk]
        rw[hnk];refine List.mem_of_getElem? (i:=j) ?_;rw[List.getElem?_take,if_pos hj,List.getElem?_drop];exact hz)
     exact⟨undef,β',A,_,.inr ⟨run b _ C T hu g3 oM oM c2,rfl⟩,hst,.und⟩
    ·rename_i hnd;split at hs
     ·rename_i q j sz2 zs ho;split at hs
      ·cases hs
      ·rename_i hij;cases hs;obtain⟨hcc,hq,hk,hle⟩:=hC;obtain⟨b,cap,n',u0,C,T,r1,r2,g3,hu,g5,g6⟩:=place hcc hk;rw[g6 _ (Yz hk)]at hle;rw[Nat.succ_mul]at g5;obtain⟨oj,w1,w2,w3,w4,_,_⟩:=ZK hc (JD hy e2 ht) ho hq;obtain⟨ad,cp,w5,_⟩:=JAa w3;obtain⟨β',hst⟩:=Stp.trMove hc hi r1 r2 hn' hk (off:=off) hle hij w1 w2 w3 w4 (by rw[w5];rfl) g3;have hcs:(a.eval y).cells=#[a.eval y]:=by rw[w5];rfl
       have hrun:=run b _ C T hu g3 (by rw[hcs];rfl) (by rw[hcs];show _+1≤_;omega) (by rw[hcs,w5];intro z hz;simp at hz;subst hz;rfl);rw[hcs,JJW oM]at hrun;exact⟨undef,β',A,_,.inr ⟨hrun,rfl⟩,hst,.und⟩
     ·cases hs
   ·cases hs
  ·cases hs
 ·cases hs
end
end Av
namespace Av
open Go
variable [Glb][Rls]
variable {cs:List Av}{ds:List Dat}{i sz:Nat}
section
variable {P:Program}{β:JM}{A:Nat→Prop}{w:World}{H:Heap}{τ:UX}{a:Act}{o:Oper}
theorem JD1(h:YL cs=some ds):cs.length=ds.length∧∀(j:Nat) x,ds[j]? =some x→cs[j]? =some (.d x):=by
 have:=X0 h;subst this;refine⟨sP,fun j x hj=>by rw[Vo,hj];rfl⟩
theorem JSY{b off:Nat}(hc:Core β A w H)(hi:H i=some (.box cs))(hb:β i=some b)(hd:YL cs=some ds):
  Rep (fun k=>A k∨β i=some k) w (.ptr (ds.drop off)) (.pointer (some ⟨b,off,none⟩)):=by
 obtain⟨b',C,T,e1,e2,e3,e4,e5⟩:=hc.objs i _ hi;rw[hb]at e1;cases e1;obtain⟨g1,g2⟩:=JD1 hd;have hlen:ds.length=C.size:=by rw[←g1];exact e3
 refine .ptr _ b off ((C.toList.drop off).take C.size) (.inr hb) ?_ (holds_of_block e2 off _) sO ?_
 ·intro v hv;exact e4 v (List.mem_of_mem_drop (List.mem_of_mem_take hv))
 ·intro j c v hjc hjv;rw[List.getElem?_take]at hjv;split at hjv
  ·rw[List.getElem?_drop]at hjc hjv;exact((e5 (off+j) _ v (g2 _ c hjc) (sX hjv)).JU).mono (fun _ _=>rfl) fun _ h=>.inl h
  ·cases hjv
theorem Stp.Yg(hc:Core β A w H)(hi:H i=some (.box cs))(hd:YL cs=some ds):
  Stp β A w H β (fun k=>A k∨β i=some k) w (upd H i (some (.fbox ds))):=by
 have hβ:upd β i ((β i).r:Option Nat)=β:=Yi _ _ _ (hc.JKL hi rfl (by intros;nofun));have:=Stp.one (β:=β) (A:=A) (A':=fun k=>A k∨β i=some k) (w':=w) hc i (.fbox ds) (β i).r rfl rfl rfl (Nat.le_refl _) (fun _ _ _=>rfl) (fun _ h=>.inl h)
  (fun k h=>by rcases h with h|h;exact .inl h;exact .inr (.inr ⟨_,hi,rfl,h⟩))
  (fun k h=>by rcases h with h|h;exact hc.old k h;exact hc.lt hi rfl (BK.JHN h)) (fun k _ hl=>by cases hl)
  (fun c u hcase hvr=>by
   rw[hβ];rcases hcase with⟨off,rfl⟩|⟨ver2,rfl⟩|⟨ver2,off,len,rfl⟩|⟨ver2,k,off,rfl⟩|rfl
   ·cases hvr with
    |ref _ _ b' p _ hu h0 g1 g2=>
     obtain⟨q1,q2⟩:=g1 _ hi;refine .ref _ _ b' p _ hu sU sU ?_;intro ds' h3;simp only[upd,if_true,Vd,Obj.fbox.injEq]at h3;subst h3;rw[hu,q2,Nat.zero_add];exact JSY hc hi q1 hd
   ·cases hvr with
    |ms _ _ _ hu h0 g1 g2=>exact .ms _ _ _ hu sU sU sU
   ·cases hvr with
    |sub _ _ _ _ _ hu h0 g1 g2=>exact .sub _ _ _ _ _ hu sU sU sU
   ·cases hvr with
    |el _ _ _ _ b' p _ hu h0 g1=>exact .el _ _ _ _ b' p _ hu sU sU
   ·cases hvr with
    |mp _ _ hu h0 g1 g2 g3=>exact .mp _ _ hu sU sU sU sU)
  (fun _=>trivial)
 rwa[hβ]at this
theorem Stp.JMg(hc:Core β A w H){es:List (Dat×Dat)}(hi:H i=some (.mapo es)):
  Stp β A w H β (fun k=>A k∨β i=some k) w (upd H i (some .gone)):=by
 have hβ:upd β i ((β i).r:Option Nat)=β:=Yi _ _ _ (hc.JKL hi rfl (by intros;nofun));have:=Stp.one (β:=β) (A:=A) (A':=fun k=>A k∨β i=some k) (w':=w) hc i .gone (β i).r rfl rfl rfl (Nat.le_refl _) (fun _ _ _=>rfl) (fun _ h=>.inl h)
  (fun k h=>by rcases h with h|h;exact .inl h;exact .inr (.inr ⟨_,hi,rfl,h⟩))
  (fun k h=>by rcases h with h|h;exact hc.old k h;exact hc.lt hi rfl (BK.JHN h)) (fun k _ hl=>by cases hl)
  (fun c u hcase hvr=>by
   rw[hβ];rcases hcase with⟨off,rfl⟩|⟨ver2,rfl⟩|⟨ver2,off,len,rfl⟩|⟨ver2,k,off,rfl⟩|rfl
   ·cases hvr with
    |ref _ _ b' p _ hu h0 g1 g2=>exact .ref _ _ b' p _ hu sU sU sU
   ·cases hvr with
    |ms _ _ _ hu h0 g1 g2=>exact .ms _ _ _ hu sU sU sU
   ·cases hvr with
    |sub _ _ _ _ _ hu h0 g1 g2=>exact .sub _ _ _ _ _ hu sU sU sU
   ·cases hvr with
    |el _ _ _ _ b' p _ hu h0 g1=>exact .el _ _ _ _ b' p _ hu sU sU
   ·cases hvr with
    |mp _ _ hu h0 g1 g2 g3=>exact .mp _ _ hu sU sU sU sU)
  (fun _=>trivial)
 rwa[hβ]at this
theorem Stp.trGone(hc:Core β A w H){ver s:Nat}{xs:List Dat}(hi:H i=some (.tre ver s sz xs)):Stp β A w H β (fun b=>A b∨b∈(β i).all) w (upd H i (some .gone)):=by
 have:=Stp.oneG (A':=fun b=>A b∨b∈(β i).all) (w':=w) hc i .gone (β i) rfl rfl rfl (Nat.le_refl _) (fun _ _ _=>rfl) (fun _ h=>.inl h) (fun b h=>h.elim .inl (fun h=>.inr (.inr ⟨_,hi,rfl,h⟩)))
  (fun b h=>h.elim (hc.old b) (hc.lt hi rfl)) (fun _ _ h=>by cases h) (fun c u hcase hvr=>Yx (JB _ _ _) hcase hvr) (fun _=>trivial) (by intro l hl;rw[hi]at hl;cases hl)
 rwa[Yi β i _ rfl]at this
theorem JLv{fs:List Av}(h:Z6 fs cs=some i):fs=[]∧cs=[.ref i 0]:=by
 unfold Z6 at h;split at h
 ·cases h;exact⟨rfl,rfl⟩
 ·cases h
theorem JFe{v:Av}{u:Value}{p:Prop}{x:Dat}{ups:List (Nat×Obj)}(hc:Core β A w H)(h:Uu H v=some (p,x,ups))(hp:p)(hv:VRep β A w H v u):
  ∃A',Stp β A w H β A' w (JA H ups)∧Rep A' w x u∧∀k,A k→A' k:=by
 unfold Uu at h;split at h
 ·cases h;exact⟨A,Stp.refl hc,hv.JU,fun _ h=>h⟩
 ·rename_i i ver;split at h
  ·rename_i v' sz xs hrow;cases h;subst hp;have st:=Stp.freeze hc hrow;refine⟨_,st,?_,fun _ h=>.inl h⟩;cases st.vals _ _ hv with
   |ms _ _ _ hu h0 g1 g2=>exact g2 _ _ sU
  ·rename_i v' sz xs hf;cases h;subst hp;cases hv with
   |ms _ _ _ hu h0 g1 g2=>exact⟨A,Stp.refl hc,g2 _ _ hf,fun _ h=>h⟩
  ·cases h
 ·rename_i i ver off len;split at h
  ·rename_i v' sz xs hrow;cases h;subst hp;have st:=Stp.freeze hc hrow;refine⟨_,st,?_,fun _ h=>.inl h⟩;cases st.vals _ _ hv with
   |sub _ _ _ _ _ hu h0 g1 g2=>exact g2 _ _ sU
  ·rename_i v' sz xs hf;cases h;subst hp;cases hv with
   |sub _ _ _ _ _ hu h0 g1 g2=>exact⟨A,Stp.refl hc,g2 _ _ hf,fun _ h=>h⟩
  ·cases h
 ·rename_i i off;split at h
  ·rename_i cs hbx;split at h
   ·rename_i ds hd;cases h;have st:=Stp.Yg hc hbx hd;refine⟨_,st,?_,fun _ h=>.inl h⟩;cases st.vals _ _ hv with
    |ref _ _ b p _ hu h0 g1 g2=>exact g2 _ sU
   ·cases h
  ·rename_i ds hf;cases h;cases hv with
   |ref _ _ b p _ hu h0 g1 g2=>exact⟨A,Stp.refl hc,g2 _ hf,fun _ h=>h⟩
  ·cases h
 ·rename_i f fs cs;split at h
  ·rename_i i he;obtain⟨rfl,rfl⟩:=JLv he;split at h
   ·rename_i bs hbx;split at h
    ·rename_i ds hd;cases h;have st:=Stp.Yg hc hbx hd;refine⟨_,st,?_,fun _ h=>.inl h⟩;cases st.vals _ _ hv with
     |clo _ _ _ a1 a2 l1 l2 hf hvv=>
      refine .fn _ _ _ a1 a2 l1 (sX l2) (by intro j c v hj;cases hj) ?_;intro j c v hj hjv
      match j,hj with
      |0,hj=>
       cases hj;cases hvv 0 _ v rfl hjv with
       |ref _ _ _ _ _ hu g0 g1 g2=>simpa using g2 ds sU
      |j+1,hj=>cases hj
    ·cases h
   ·rename_i ds hf0;cases h;cases hv with
    |clo _ _ _ a1 a2 l1 l2 hf hvv=>
     refine⟨A,Stp.refl hc,.fn _ _ _ a1 a2 l1 (sX l2) (by intro j c v hj;cases hj) ?_,fun _ h=>h⟩;intro j c v hj hjv
     match j,hj with
     |0,hj=>
      cases hj;cases hvv 0 _ v rfl hjv with
      |ref _ _ _ _ _ hu g0 g1 g2=>simpa using g2 ds hf0
     |j+1,hj=>cases hj
   ·cases h
  ·cases h
 ·rename_i i;split at h
  ·rename_i es hm;cases h;refine⟨_,Stp.JMg hc hm,?_,fun _ h=>.inl h⟩;obtain⟨b,ents,clk,e1,e2,e3,e4,_⟩:=hc.objs i _ hm;cases hv with
   |mp _ _ hu h0 g1 g2 g3=>
    obtain⟨b',q1,q2⟩:=g1 _ hm;rw[e1]at q1;cases q1;rw[q2];exact .map es b ents clk (.inr e1) e2 e3 (fun j e m h1 h2=>(e4 j e m h1 h2).1.mono (fun _ _=>rfl) fun _ h=>.inl h) (fun j e m h1 h2=>(e4 j e m h1 h2).2.mono (fun _ _=>rfl) fun _ h=>.inl h)
  ·cases h
 ·rename_i i hd;split at h
  ·rename_i v' s' sz xs ek ep hi;cases h;have ho:X5 H (.tr i hd)=some (hd.ver=v',i,sz,xs):=by simp only[X5,ek,ep,hi]
   obtain⟨_,_,_,g1,_,_,_⟩:=ZK hc hv ho hp;exact⟨_,Stp.trGone hc hi,g1.toRep (fun _ h=>.inl h) (fun b hb=>.inr hb),fun _ h=>.inl h⟩
  ·cases h
 ·cases h
theorem JFf:∀{cs:List Av} {us:List Value} {A:Nat→Prop} {H:Heap} {p:Prop} {xs:List Dat} {ups:List (Nat×Obj)},Core β A w H→XH H cs=some (p,xs,ups)→p→cs.length=us.length→
  (∀(i:Nat) c v,cs[i]? =some c→us[i]? =some v→VRep β A w H c v)→
  ∃A',Stp β A w H β A' w (JA H ups)∧xs.length=us.length∧(∀(i:Nat) x v,xs[i]? =some x→us[i]? =some v→Rep A' w x v)∧∀k,A k→A' k
 |[],us,A,H,p,xs,ups,hc,h,hp,hl,hv=>by
  simp only[XH,Vd,Ve]at h;obtain⟨_,rfl,rfl⟩:=h;exact⟨A,Stp.refl hc,hl,sP,fun _ h=>h⟩
 |c::cs,[],A,H,p,xs,ups,hc,h,hp,hl,hv=>by simp at hl
 |c::cs,u::us,A,H,p,xs,ups,hc,h,hp,hl,hv=>by
  simp only[XH]at h;cases e1:Uu H c with
  |none=>simp[e1]at h
  |some q=>
   obtain⟨p1,x,u1⟩:=q;simp only[e1]at h;cases e2:XH (JA H u1) cs with
   |none=>simp[e2]at h
   |some q2=>
    obtain⟨p2,xs',u2⟩:=q2;simp only[e2,Vd,Ve]at h;obtain⟨rfl,rfl,rfl⟩:=h;obtain⟨A1,s1,r1,m1⟩:=JFe hc e1 hp.1 (hv 0 c u rfl rfl);obtain⟨A2,s2,l2,r2,m2⟩:=JFf s1.core e2 hp.2 (us:=us) (sX hl) (fun i c' v' h1 h2=>s1.vals _ _ (hv (i+1) c' v' (sX h1) (sX h2)));refine⟨A2,by rw[Ua];exact s1.trans s2,by simp[l2],?_,fun k h=>m2 k (m1 k h)⟩;intro i z v h1 h2;cases i with
    |zero=>simp at h1 h2;rw[←h1,←h2];exact r1.mono (fun _ _=>rfl) m2
    |succ i=>exact r2 i z v (sX h1) (sX h2)
theorem JBs{v:Av}{u:Value}{p:Prop}{x:Dat}{ups:List (Nat×Obj)}(hc:Core β A w H)(h:XD H v=some (p,x,ups))(hp:p)(hv:VRep β A w H v u):
  ∃A',Stp β A w H β A' w (JA H ups)∧Rep A' w x u∧∀k,A k→A' k:=by
 unfold XD at h;split at h
 ·rename_i cs;cases e:XH H cs with
  |none=>simp[e]at h
  |some q=>
   obtain⟨p1,xs,u1⟩:=q;simp only[e,Vd,Ve]at h;obtain⟨rfl,rfl,rfl⟩:=h;cases hv with
   |agg _ arr hl h1 hv=>
    obtain⟨A',s,l,r,m⟩:=JFf hc e hp (us:=arr.toList) (sX hl) (fun i c v g1 g2=>hv i c v g1 (sX g2));exact⟨A',s,.agg _ _ (sX l) h1 (fun i c v g1 g2=>r i c v g1 (sX g2)),m⟩
 ·exact JFe hc h hp hv
theorem U4:∀{cs:List Av} {us:List Value} {A:Nat→Prop} {H:Heap} {p:Prop} {xs:List Dat} {ups:List (Nat×Obj)},Core β A w H→Jl H cs=some (p,xs,ups)→p→cs.length=us.length→
  (∀(i:Nat) c v,cs[i]? =some c→us[i]? =some v→VRep β A w H c v)→
  ∃A',Stp β A w H β A' w (JA H ups)∧xs.length=us.length∧(∀(i:Nat) x v,xs[i]? =some x→us[i]? =some v→Rep A' w x v)∧∀k,A k→A' k
 |[],us,A,H,p,xs,ups,hc,h,hp,hl,hv=>by
  simp only[Jl,Vd,Ve]at h;obtain⟨_,rfl,rfl⟩:=h;exact⟨A,Stp.refl hc,hl,sP,fun _ h=>h⟩
 |c::cs,[],A,H,p,xs,ups,hc,h,hp,hl,hv=>by simp at hl
 |c::cs,u::us,A,H,p,xs,ups,hc,h,hp,hl,hv=>by
  simp only[Jl]at h;cases e1:XD H c with
  |none=>simp[e1]at h
  |some q=>
   obtain⟨p1,x,u1⟩:=q;simp only[e1]at h;cases e2:Jl (JA H u1) cs with
   |none=>simp[e2]at h
   |some q2=>
    obtain⟨p2,xs',u2⟩:=q2;simp only[e2,Vd,Ve]at h;obtain⟨rfl,rfl,rfl⟩:=h;obtain⟨A1,s1,r1,m1⟩:=JBs hc e1 hp.1 (hv 0 c u rfl rfl);obtain⟨A2,s2,l2,r2,m2⟩:=U4 s1.core e2 hp.2 (us:=us) (sX hl) (fun i c' v' h1 h2=>s1.vals _ _ (hv (i+1) c' v' (sX h1) (sX h2)));refine⟨A2,by rw[Ua];exact s1.trans s2,by simp[l2],?_,fun k h=>m2 k (m1 k h)⟩;intro i z v h1 h2;cases i with
    |zero=>simp at h1 h2;rw[←h1,←h2];exact r1.mono (fun _ _=>rfl) m2
    |succ i=>exact r2 i z v (sX h1) (sX h2)
theorem JD2(sz:Nat):∀(us:List Value) (k:Nat) (cells:Array Value),(∀u∈us,u.cells.size=sz)→(k+us.length)*sz≤cells.size→
  ∃cells',Instr.fill (fun i=>some (i*sz,sz)) cells (((List.range' k us.length).zip us))=some cells'∧cells'.size=cells.size∧
   cells'.toList=Jh cells.toList (k*sz) (us.flatMap fun u=>u.cells.toList)
 |[],k,cells,_,h=>⟨cells,rfl,rfl,by simp[Jh]⟩
 |u::us,k,cells,hu,h=>by
  have hsz:=hu u Vh;simp only[Vf]at h;have hks:k*sz+sz≤cells.size:=by
   have:(k+1)*sz≤(k+(us.length+1))*sz:=Nat.mul_le_mul_right _ oM;rw[Nat.succ_mul]at this;omega
  have hfold:=JDz (k*sz) u.cells.toList 0 cells sO;simp only[Nat.add_zero]at hfold;obtain⟨cells1,hcf,hcl⟩:∃cells1:Array Value,u.cells.zipIdx.foldl (fun cs (c,j)=>cs.setIfInBounds (k*sz+j) c) cells=cells1∧cells1.toList=Jh cells.toList (k*sz) u.cells.toList:=by
   refine⟨_,rfl,?_⟩;rw[←hfold,←Array.foldl_toList,Array.toList_zipIdx]
  have hlen1:cells1.size=cells.size:=by rw[←Array.length_toList,hcl,J2 _ _ _ sO,Array.length_toList]
  obtain⟨cells',g1,g2,g3⟩:=JD2 sz us (k+1) cells1 (fun z hz=>hu z (Vn _ hz)) (by rw[hlen1,Nat.add_right_comm];exact h);refine⟨cells',?_,by rw[g2,hlen1],?_⟩
  ·simp only[Vf,List.range'_succ,List.zip_cons_cons,Instr.fill];rw[if_neg sO,hcf];exact g1
  ·rw[g3,hcl];have hfm:(us.flatMap fun u=>u.cells.toList).length=us.length*sz:=by
    clear g1 g3 g2 h hcf
    induction us with
    |nil=>simp
    |cons z us ih=>simp only[List.flatMap_cons,Vg,Array.length_toList,hu z sP,Vf,Nat.succ_mul];rw[ih (fun y hy=>hu y (by simp at hy⊢;rcases hy with h|h;exact .inl h;exact .inr (.inr h)))];omega
   have hbig:(k+1)*sz+us.length*sz≤cells.size:=by
    rw[←Nat.add_mul];have:k+(us.length+1)=k+1+us.length:=oM;rw[this]at h;exact h
   rw[Nat.succ_mul]at hbig⊢;apply List.ext_getElem?;intro j;rw[Jr _ _ _ _ (by rw[J2 _ _ _ sO,hfm];simp;omega),Jr _ _ _ _ sO,Jr _ _ _ _ (by simp[hfm];omega)];simp only[List.flatMap_cons,Vg,Array.length_toList,hfm,hsz,List.getElem?_append];by_cases h1:k*sz≤j∧j<k*sz+sz
   ·rw[if_neg oM,if_pos h1,if_pos oM,if_pos oM]
   ·by_cases h2:k*sz+sz≤j∧j<k*sz+sz+us.length*sz
    ·rw[if_pos h2,if_pos oM,if_neg oM];congr 1;omega
    ·rw[if_neg h2,if_neg h1,if_neg oM]
theorem JKY{t e:TypeId}{n:Nat}{parts:Array (Nat×Operand)}{i:TypeInfo}(ho:o.op=.buildSlice t n parts)(hu:P.underlying t=some (.slice e))(hsz:szT P e=some sz)
  (hi:P.info? e=some i)(h0:0<sz)(hn:n*sz≤16777216)(hidx:parts.toList.map (·.1)=List.range n)(hz:i.zero.isSome)(hcell:∀u∈parts.toList.map fun p=>a.eval p.2,u.cells.size=sz):
  ∃cells':Array Value,(execOp a.eval o).run P w=.ok (.value (.slice (some ⟨w.heap.size,0,none⟩) n n)) (w.alloc (.cells cells' e))∧cells'.size=n*sz∧(parts.toList.map fun p=>a.eval p.2).flatMap (fun u=>u.cells.toList)=cells'.toList:=by
 have hnl:parts.toList.length=n:=by have:=congrArg List.length hidx;simpa using this
 obtain⟨z,hzz⟩:=Option.isSome_iff_exists.1 hz;have hzl:(List.range n)=List.range' 0 (parts.toList.map fun p=>a.eval p.2).length:=by rw[Vc,hnl,List.range_eq_range']
 obtain⟨zc,hzc1,hzc2⟩:∃zc:Array Value,((if n*sz=0 then(pure #[]:Sem (Array Value))else do pure (←zeroValue e).cells).run P w=.ok zc w)∧((Array.range (n*sz)).map (zc[· %zc.size]!)).size=n*sz:=by
  by_cases h:n*sz=0
  ·exact⟨#[],by simp[h],sP⟩
  ·exact⟨z.cells,by simp[h,Ux hi hzz],sP⟩
 obtain⟨cells',f1,f2,f3⟩:=JD2 sz (parts.toList.map fun p=>a.eval p.2) 0 ((Array.range (n*sz)).map (zc[· %zc.size]!)) hcell (by rw[hzc2,Vc,hnl,Nat.zero_add];exact Nat.le_refl _);have hparts:(parts.map fun(q:Nat×Operand)=>(q.1,a.eval q.2)).toList=(List.range' 0 (parts.toList.map fun p=>a.eval p.2).length).zip (parts.toList.map fun p=>a.eval p.2):=by
  rw[←hzl,←hidx,Array.toList_map];apply List.ext_getElem?;intro j;simp only[Vo,List.zip];cases e4:parts.toList[j]? with
  |none=>
   simp only[Option.map_none]
   symm
   rw[List.getElem?_eq_none_iff];simp;have:=List.getElem?_eq_none_iff.1 e4;simpa using this
  |some q=>
   simp only[Vj]
   symm
   rw[List.getElem?_zipWith_eq_some];exact⟨q.1,a.eval q.2,by simp[e4],by simp[e4],rfl⟩
 have hfm:(parts.toList.map fun p=>a.eval p.2).flatMap (fun u=>u.cells.toList)=cells'.toList:=by
  rw[f3];have hlen:((parts.toList.map fun p=>a.eval p.2).flatMap fun u=>u.cells.toList).length=n*sz:=by
   have:∀(us:List Value),(∀u∈us,u.cells.size=sz)→(us.flatMap fun u=>u.cells.toList).length=us.length*sz:=by
    intro us hus
    induction us with
    |nil=>simp
    |cons z us ih=>simp only[List.flatMap_cons,Vg,Array.length_toList,hus z sP,Vf,Nat.succ_mul];rw[ih (fun y hy=>hus y (Vn _ hy))];omega
   rw[this _ hcell,Vc,hnl]
  simp only[Jh,Nat.zero_mul,List.take_zero,List.nil_append,Nat.zero_add,hlen];rw[List.drop_eq_nil_of_le sP,List.append_nil]
 have hcs:cells'.size=n*sz:=by rw[f2,hzc2]
 have hrun:(execOp a.eval o).run P w=.ok (.value (.slice (some ⟨w.heap.size,0,none⟩) n n)) (w.alloc (.cells cells' e)):=by
  have hpm:(parts.map fun(i,x)=>(i,a.eval x))=parts.map fun(q:Nat×Operand)=>(q.1,a.eval q.2):=rfl
  simp only[execOp,ho,Instr.buildSlice,Sem.run_bind,run_underlying hu,Result.andThen_ok,UI hsz];rw[if_neg oM];by_cases h:n*sz=0
  ·rw[if_pos h]at hzc1⊢;simp only[Sem.run_pure,Result.ok.injEq,and_true]at hzc1;subst hzc1;simp only[Sem.run_bind,Sem.run_pure,Result.andThen_ok];rw[hpm,hparts,f1];simp[newRow]
  ·rw[if_neg h]at hzc1⊢;simp only[Sem.run_bind,Ux hi hzz,Result.andThen_ok,Sem.run_pure,Result.ok.injEq,and_true]at hzc1;subst hzc1;simp only[Sem.run_bind,Ux hi hzz,Sem.run_pure,Result.andThen_ok];rw[hpm,hparts,f1];simp[newRow]
 exact⟨cells',hrun,hcs,hfm⟩
theorem U5:∀(js:List Nat) (H:Heap) (t:Nat),JA H (js.map fun j=>(j,Obj.gone)) t=if t∈js then some .gone else H t
 |[],H,t=>by simp[JA]
 |j::r,H,t=>by
  simp only[Va,JA];rw[U5 r];by_cases h:t∈r
  ·rw[if_pos h,if_pos (Vn _ h)]
  ·rw[if_neg h];by_cases e:t=j
   ·subst e;rw[JB,if_pos Vh]
   ·rw[JN _ _ e,if_neg];intro hm;rcases VA.1 hm with h'|h'
    ·exact e h'
    ·exact h h'
theorem JCW(hc:Core β A w H):∀{cs:List Av} {us:List Value} {p:Prop} {ds:List Dat} {js:List Nat},Xi H cs=some (p,ds,js)→p→cs.length=us.length→(∀(i:Nat) c v,cs[i]? =some c→us[i]? =some v→VRep β A w H c v)→
  ∃Fs:List (List Nat),Fs.length=us.length∧ds.length=us.length∧(∀(j:Nat) d v F,ds[j]? =some d→us[j]? =some v→Fs[j]? =some F→Own A w F d v)∧Fs.flatten.Nodup∧js.Nodup∧(∀b,b∈Fs.flatten↔∃j∈js,b∈(β j).all)∧∀j∈js,∃o,H j=some o∧o.live=true
 |[],us,p,ds,js,h,hp,hl,hv=>by
  cases us with
  |cons _ _=>cases hl
  |nil=>
   simp only[Xi,Vd,Ve]at h;obtain⟨_,rfl,rfl⟩:=h;exact⟨[],rfl,rfl,sP,sP,sP,sP,sP⟩
 |c::r,us,p,ds,js,h,hp,hl,hv=>by
  obtain⟨u,ur,rfl⟩:∃u ur,us=u::ur:=by cases us with|nil=>cases hl|cons u ur=>exact⟨_,_,rfl⟩
  have hl':r.length=ur.length:=sX hl;have hv0:=hv 0 c u rfl rfl;have hvr:=fun(i:Nat) c v h1 h2=>hv (i+1) c v h1 h2
  unfold Xi at h;split at h
  ·rename_i e;cases e
  ·rename_i x r' e;cases e;split at h
   ·rename_i p' ds' js' e';simp only[Vd,Ve]at h;obtain⟨rfl,rfl,rfl⟩:=h;obtain⟨Fs,f1,f2,f3,f4,f5,f6,f7⟩:=JCW hc e' hp hl' hvr;refine⟨[]::Fs,by simp[f1],by simp[f2],?_,by simpa using f4,f5,by simpa using f6,f7⟩;intro j d v F g1 g2 g3;cases j with
    |zero=>cases g1;cases g2;cases g3;exact .dat _ _ hv0.JU
    |succ j=>exact f3 j d v F g1 g2 g3
   ·cases h
  ·rename_i c' r' _ e;cases e;split at h
   ·rename_i p' ds' js' q j sz zs e1 e2;split at h
    ·cases h
    ·rename_i hnj;simp only[Vd,Ve]at h;obtain⟨rfl,rfl,rfl⟩:=h;obtain⟨Fs,f1,f2,f3,f4,f5,f6,f7⟩:=JCW hc e1 hp.2 hl' hvr;obtain⟨oj,w1,w2,w3,w4,_,_⟩:=ZK hc hv0 e2 hp.1;have hnj':j∉js':=sX hnj;refine⟨(β j).all::Fs,by simp[f1],by simp[f2],?_,?_,List.nodup_cons.2 ⟨hnj',f5⟩,?_,?_⟩
     ·intro j d v F g1 g2 g3;cases j with
      |zero=>cases g1;cases g2;cases g3;exact w3
      |succ j=>exact f3 j d v F g1 g2 g3
     ·rw[List.flatten_cons,List.nodup_append];refine⟨w4,f4,fun b hb b' hb' e=>?_⟩;subst e;obtain⟨j',hj',hb2⟩:=(f6 b).1 hb';obtain⟨o',g1,g2⟩:=f7 j' hj';exact hnj' ((hc.inj j j' oj o' b w1 w2 g1 g2 hb hb2)▸hj')
     ·intro b;rw[List.flatten_cons,List.mem_append,f6];constructor
      ·rintro(h|⟨j',h1,h2⟩)
       ·exact⟨j,Vh,h⟩
       ·exact⟨j',Vn _ h1,h2⟩
      ·rintro⟨j',h1,h2⟩;rcases VA.1 h1 with rfl|h1
       ·exact .inl h2
       ·exact .inr ⟨j',h1,h2⟩
     ·intro j' hj';rcases VA.1 hj' with rfl|hj'
      ·exact⟨oj,w1,w2⟩
      ·exact f7 j' hj'
   ·cases h
theorem Stp.newTree(hc:Core β A w H){d:Nat}(hd:H d=none)(hs:0<sz){us:List Value}{Fs:List (List Nat)}{js:List Nat}(hl:ds.length=sz)(f1:Fs.length=us.length)(f2:ds.length=us.length)
  (f3:∀(j:Nat) d v F,ds[j]? =some d→us[j]? =some v→Fs[j]? =some F→Own A w F d v)(f4:Fs.flatten.Nodup)(f6:∀b,b∈Fs.flatten↔∃j∈js,b∈(β j).all)(f7:∀j∈js,∃o,H j=some o∧o.live=true)
  (h1:∀v∈us,v.oneCell'=true)(e:TypeId):
  Stp β A w H (upd β d ⟨some w.heap.size,Fs.flatten⟩) A (w.alloc (.cells us.toArray e)) (JA (upd H d (some (.tre 0 0 sz [.agg ds]))) (js.map fun j=>(j,Obj.gone))):=by
 have hdj:d∉js:=fun h=>by obtain⟨o,g,_⟩:=f7 d h;rw[hd]at g;cases g
 have hH:∀t,JA (upd H d (some (.tre 0 0 sz [.agg ds]))) (js.map fun j=>(j,Obj.gone)) t=if t∈js then some .gone else if t=d then some (.tre 0 0 sz [.agg ds])else H t:=by
  intro t;rw[U5];by_cases h:t∈js
  ·rw[if_pos h,if_pos h]
  ·rw[if_neg h,if_neg h];by_cases e:t=d
   ·subst e;rw[JB,if_pos rfl]
   ·rw[JN _ _ e,if_neg e]
 have hFl:∀b∈Fs.flatten,b<w.heap.size:=fun b hb=>by
  obtain⟨j,hj,hb⟩:=(f6 b).1 hb;obtain⟨o,g1,g2⟩:=f7 j hj;exact hc.lt g1 g2 hb
 have hall:BK.all ⟨some w.heap.size,Fs.flatten⟩=w.heap.size::Fs.flatten:=rfl;have hold:∀b,b<w.heap.size→(w.alloc (.cells us.toArray e)).heap[b]? =w.heap[b]? :=fun b hb=>alloc_old w _ hb
 have hT:∀t,¬(t=d∨t∈js)→JA (upd H d (some (.tre 0 0 sz [.agg ds]))) (js.map fun j=>(j,Obj.gone)) t=H t:=fun t ht=>by
  rw[hH,if_neg fun h=>ht (.inr h),if_neg fun h=>ht (.inl h)]
 have hHd:JA (upd H d (some (.tre 0 0 sz [.agg ds]))) (js.map fun j=>(j,Obj.gone)) d=some (.tre 0 0 sz [.agg ds]):=by rw[hH,if_neg hdj,if_pos rfl]
 have hHj:∀j∈js,JA (upd H d (some (.tre 0 0 sz [.agg ds]))) (js.map fun j=>(j,Obj.gone)) j=some .gone:=fun j hj=>by rw[hH,if_pos hj]
 refine Stp.many hc (fun t=>t=d∨t∈js) hT (fun t ht=>JN _ _ fun e=>ht (.inl e)) rfl rfl rfl sP (fun b hb _=>hold b hb) (fun _ h=>h) (fun _ h=>.inl h) (fun b h=>by have:=hc.old b h;simp;omega) ?_ ?_ ?_ ?_ ?_
 ·intro t o b ht ho hlo hb;rcases ht with rfl|ht
  ·rw[JB]at hb;have hb':b∈w.heap.size::Fs.flatten:=hb;rcases VA.1 hb' with rfl|hb'
   ·exact⟨.inl (Nat.le_refl _),fun h=>by have:=hc.old _ h;omega⟩
   ·obtain⟨j,hj,hb2⟩:=(f6 b).1 hb';obtain⟨o',g1,g2⟩:=f7 j hj;exact⟨.inr ⟨j,o',.inr hj,g1,g2,hb2⟩,hc.sep j o' b g1 g2 hb2⟩
  ·rw[hHj t ht]at ho;cases ho;cases hlo
 ·intro t t' o o' b ht ht' ho hlo ho' hlo' _ _;rcases ht with rfl|ht
  ·rcases ht' with rfl|ht'
   ·rfl
   ·rw[hHj t' ht']at ho';cases ho';cases hlo'
  ·rw[hHj t ht]at ho;cases ho;cases hlo
 ·intro t c u ht hh hvr;rcases ht with rfl|ht
  ·exact Xx (v:=0) (s:=0) (sz:=sz) (xs:=[]) (.inr hd) hHd (Nat.le_refl _) (Nat.le_refl _) hh hvr (fun h=>by rw[hd]at h;cases h)
  ·exact Yx (hHj t ht) hh hvr
 ·intro hv' t o ht ho;rcases ht with rfl|ht
  ·rw[hHd]at ho;cases ho;have hfl:flat [Dat.agg ds]=ds:=by simp[flat,Dat.cells]
   have hal:=US w (.cells us.toArray e);refine⟨.slice (some ⟨w.heap.size,0,none⟩) 1 1,?_,?_,?_,?_⟩
   ·rw[JB,hall];refine .row sz [.agg ds] w.heap.size us.toArray e 1 1 Fs hal sO rfl sP sP hs (by simp[Dat.cells,hl]) (by rw[hfl];omega) (fun j v _ hj=>h1 v (List.mem_of_getElem? (sX hj))) ?_;rw[hfl];intro j c v F g1 g2 g3;exact(f3 j c v F g1 (sX g2) g3).mono (fun b hb=>hold b (hc.old b hb)) (fun _ h=>h) fun b hb=>hold b (hFl b (Um.2 ⟨j,F,g3,hb⟩))
   ·rw[JB,hall];exact List.nodup_cons.2 ⟨fun h=>by have:=hFl _ h;omega,f4⟩
   ·exact .inr ⟨w.heap.size,us.toArray,e,(0,0),1,by rw[JB],hal,sO,sP,rfl⟩
   ·rw[JB];rfl
  ·rw[hHj t ht]at ho;cases ho;trivial
 ·rintro b r hb ⟨t,o,ht,ho,hlo,hb2⟩;exact⟨r,by rw[hold b (Array.getElem?_eq_some_iff.1 hb).1];exact hb⟩
theorem JBH:∀(l:List (Nat×Obj)) (H:Heap) (d:Nat) (o:Obj),JA H (l++[(d,o)])=upd (JA H l) d (some o)
 |[],_,_,_=>rfl
 |e::r,H,d,o=>by simp only[List.cons_append,JA];exact JBH r _ d o
theorem JFg:∀(l:List (Nat×Obj)) (H:Heap) (d:Nat),(∀e∈l,e.1≠d)→JA H l d=H d
 |[],_,_,_=>rfl
 |e::r,H,d,h=>by
  simp only[JA];rw[JFg r _ d fun x hx=>h x (Vn _ hx)];exact JN _ _ (Ne.symm (h e Vh))
theorem JNE{t e:TypeId}{n:Nat}{parts:Array (Nat×Operand)}{i:TypeInfo}{ps:List Opd}{d:Nat}{r:Res}(hc:Core β A w H)(ht:UD β A w H τ a)(ho:o.op=.buildSlice t n parts)(he:elT P t=some e)(hsz:szT P e=some sz)
  (hi:P.info? e=some i)(h0:0<sz)(hn:n*sz≤16777216)(hidx:parts.toList.map (·.1)=List.range n)(hz:i.zero.isSome)(hps:Ji (parts.toList.map fun(_,x)=>opd P e x)=some ps)
  (hs:step τ H d (.bls sz ps)=some r)(hC:r.c):JY P a.eval o w β A H r.v r.ups:=by
 have hu:P.underlying t=some (.slice e):=by
  unfold elT at he;split at he
  ·cases he;assumption
  ·cases he
 simp only[step]at hs;cases ev:vals τ ps with
 |none=>simp[ev]at hs
 |some vs=>
  simp only[ev]at hs;cases eb:JFJ H d sz vs with
  |some r'=>
   simp only[eb,Vd]at hs;subst hs;unfold JFJ at eb;split at eb
   ·rename_i cs;split at eb
    ·split at eb
     ·rename_i p ds js hd ho';cases eb;obtain⟨hp,hdl⟩:=hC;have hvo:=JBp (P:=P) (t:=e) (xs:=parts.toList.map (·.2)) (by rw[List.map_map];exact hps) ev ht;have hnl:parts.toList.length=n:=by have:=congrArg List.length hidx;simpa using this
      have hone:parts.toList.length=1:=by have:=hvo.1;simpa using this.symm
      obtain⟨q,hq⟩:=List.length_eq_one_iff.1 hone;have hn1:n=1:=oM;subst hn1;have hv0:=hvo.2 0 (.agg cs) q.2 rfl (by rw[hq];rfl);generalize hqu:a.eval q.2=u at hv0;cases hv0 with
      |agg _ arr hl h1 hv=>
       have hus:(parts.toList.map fun p=>a.eval p.2)=[.agg arr]:=by rw[hq];simp[hqu]
       obtain⟨Fs,f1,f2,f3,f4,f5,f6,f7⟩:=JCW hc ho' hp (us:=arr.toList) (sX hl) (fun i c v g1 g2=>hv i c v g1 (sX g2));have harr:arr.size=sz:=by rw[←hdl,f2,Array.length_toList]
       obtain⟨cells',hrun,hcs,hfm⟩:=JKY (w:=w) (a:=a) ho hu hsz hi h0 hn hidx hz (by rw[hus];intro z hz';rw[List.mem_singleton.1 hz'];exact harr);have hca:cells'=arr:=by
        rw[hus]at hfm;apply Array.ext';rw[←hfm];simp[Value.cells]
       subst hca;have hst:=Stp.newTree hc hd h0 hdl f1 f2 f3 f4 f6 f7 h1 e;have hdj:d∉js:=fun h=>by obtain⟨o,g,_⟩:=f7 d h;rw[hd]at g;cases g
       have hHd:JA (upd H d (some (.tre 0 0 sz [.agg ds]))) (js.map fun j=>(j,Obj.gone)) d=some (.tre 0 0 sz [.agg ds]):=by rw[U5,if_neg hdj,JB]
       refine⟨_,_,A,_,.inl hrun,hst,?_⟩;refine .tr _ _ _ rfl (by show(JA (upd H d (some (.tre 0 0 sz [.agg ds]))) _ d).isSome=true;rw[hHd];rfl) (fun h=>by cases h) ?_;intro v' s' sz3 xs3 h3;have h3':=hHd.symm.trans h3;cases h3';refine⟨Nat.le_refl _,Nat.le_refl _,fun _ _=>⟨_,_,.inr ⟨w.heap.size,cells',e,(0,0),1,by rw[JB],US w _,sO,sP,rfl⟩,rfl,rfl⟩⟩
     ·cases eb
    ·cases eb
   ·cases eb
  |none=>
  simp only[eb]at hs;cases ed:Jl H vs with
  |none=>simp[ed]at hs
  |some q=>
   obtain⟨p,xs,ups⟩:=q;have hcase:r={c:=p∧∀x∈xs,x.cells.length=sz,v:=match xs with|[]=>.d (.nil sz)|_=>.d (.list sz xs),ups:=ups}∨
     (H d=none∧(∀e∈ups,e.1≠d)∧r={c:=p∧∀x∈xs,x.cells.length=sz,v:=.ms d 0,ups:=ups++[(d,.row 0 sz xs)]}):=by
    simp only[ed]at hs;split at hs
    ·split at hs
     ·rename_i hd;simp only[Vd]at hs;exact .inr ⟨hd,(by intro e he;cases he),hs.symm⟩
     ·cases hs
    ·split at hs
     ·split at hs
      ·rename_i hd;split at hs
       ·rename_i hno;simp only[Vd]at hs;refine .inr ⟨hd,fun e he q=>?_,hs.symm⟩;rw[List.any_eq_false]at hno;exact hno e he (by simp[q])
       ·cases hs
      ·cases hs
     ·simp only[Vd]at hs;exact .inl (by rw[←hs];cases xs<;>rfl)
    ·simp only[Vd]at hs;exact .inl (by rw[←hs];cases xs<;>rfl)
   obtain⟨hp,hsx⟩:p∧∀x∈xs,x.cells.length=sz:=by
    rcases hcase with h|⟨_,_,h⟩
    ·rw[h]at hC;exact hC
    ·rw[h]at hC;exact hC
   have hvo:=JBp (P:=P) (t:=e) (xs:=parts.toList.map (·.2)) (by rw[List.map_map];exact hps) ev ht;have hnl:parts.toList.length=n:=by have:=congrArg List.length hidx;simpa using this
   obtain⟨A1,s1,l1,r1,m1⟩:=U4 hc ed hp (us:=parts.toList.map fun p=>a.eval p.2) (by have:=hvo.1;simpa using this)
    (fun j c v g1 g2=>by
     rw[Vo]at g2;cases e3:parts.toList[j]? with
     |none=>simp[e3]at g2
     |some q=>simp only[e3,Vj,Vd]at g2;rw[←g2];exact hvo.2 j c q.2 g1 (by rw[Vo,e3];rfl))
   have hxl:xs.length=n:=by rw[l1];simpa using hnl
   have hcell:∀u∈parts.toList.map fun p=>a.eval p.2,u.cells.size=sz:=by
    intro u hu';obtain⟨j,hj⟩:=List.getElem?_of_mem hu';have hjl:j<xs.length:=by rw[l1];exact(VB.1 hj).1
    have hr:=r1 j xs[j] u sP hj;rw[←hr.XP.1];exact hsx _ (Vk hjl)
   obtain⟨cells',hrun,hcs,hfm⟩:=JKY (w:=w) (a:=a) ho hu hsz hi h0 hn hidx hz hcell;have hcells:∀(xs:List Dat) (us:List Value),xs.length=us.length→(∀(j:Nat) x v,xs[j]? =some x→us[j]? =some v→Rep A1 w x v)→
     (∀v∈us.flatMap (fun u=>u.cells.toList),v.oneCell'=true)∧∀(j:Nat) c v,(flat xs)[j]? =some c→(us.flatMap fun u=>u.cells.toList)[j]? =some v→Rep A1 w c v:=by
    intro xs
    induction xs with
    |nil=>intro us hl _;cases us with|nil=>simp[flat]|cons _ _=>simp at hl
    |cons x xs ih=>
     intro us hl hr;cases us with
     |nil=>simp at hl
     |cons u us=>
      obtain⟨c1,c2,c3⟩:=(hr 0 x u rfl rfl).XP;obtain⟨i1,i2⟩:=ih us (sX hl) (fun j y v g1 g2=>hr (j+1) y v (sX g1) (sX g2));refine⟨?_,?_⟩
      ·intro v hv;rw[List.flatMap_cons]at hv;rcases List.mem_append.1 hv with h|h
       ·exact c2 v (sX h)
       ·exact i1 v (sX h)
      ·intro j c v g1 g2;rw[XY]at g1;rw[List.flatMap_cons]at g2;by_cases hj:j<x.cells.length
       ·rw[Vz hj]at g1;rw[Vz sO]at g2;exact c3 j c v g1 (sX g2)
       ·rw[Vy oM]at g1;rw[Vy sO]at g2;refine i2 _ c v g1 ?_;rw[←g2];congr 1;simp;omega
   obtain⟨q1,q2⟩:=hcells xs _ l1 r1;rw[hfm]at q1 q2;rcases hcase with rfl|⟨hd,hne,rfl⟩
   rotate_left
   ·have hxl1:xs.length≤68719476736:=by rw[hxl];have:n*1≤n*sz:=Nat.mul_le_mul_left _ h0;omega
    have hst:=s1.trans (Stp.alloc (i:=d) (H:=JA H ups) s1.core ((JFg ups H d hne).trans hd) (.cells cells' e) (.row 0 sz xs) (by
     intro _;refine⟨h0,hsx,hxl1,.inr ⟨w.heap.size,cells',e,n,JB _ _ _,US w (.cells cells' e),hcs,oM,?_,?_⟩⟩
     ·intro j v _ hj;exact q1 v (List.mem_of_getElem? (i:=j) (sX hj))
     ·intro j c v g1 g2;exact(q2 j c v g1 (sX g2)).mono (fun b hb=>by rw[alloc_old w _ (s1.core.old b hb)]) fun b hb=>hb))
    rw[←JBH]at hst;refine⟨_,_,A1,_,.inl hrun,hst,?_⟩
    ·rw[JBH];refine .ms _ _ _ rfl sU ?_ sU;intro v3 sz3 xs3 h3;simp only[upd,if_true,Vd,Obj.row.injEq]at h3;obtain⟨rfl,rfl,rfl⟩:=h3;refine⟨Nat.le_refl _,fun _=>.inr ⟨w.heap.size,cells',e,(0,0),n,JB _ _ _,US w (.cells cells' e),hcs,oM,by rw[hxl]⟩⟩
   refine⟨_,β,_,_,.inl hrun,s1.trans (Stp.allocD s1.core _),?_⟩;have hlist:Rep (fun b=>A1 b∨b=w.heap.size) (w.alloc (.cells cells' e)) (.list sz xs) (.slice (some ⟨w.heap.size,0,none⟩) n n):=by
    have hflx:(flat xs).length=n*sz:=by rw[JT hsx,hxl]
    have hh:=holds_of_block (w:=w.alloc (.cells cells' e)) (US w (.cells cells' e)) 0 (n*sz);have hall:(cells'.toList.drop 0).take (n*sz)=cells'.toList:=by rw[List.drop_zero,List.take_of_length_le (by simp[hcs])]
    rw[hall]at hh;refine .list sz xs _ 0 n n cells'.toList hxl.symm (.inr rfl) oM (by rw[hxl];have:n*1≤n*sz:=Nat.mul_le_mul_left _ h0;omega) q1 hsx hh (by rw[hflx,Array.length_toList,hcs]) ?_;intro j c v g1 g2;exact(q2 j c v g1 g2).mono (fun b hb=>by rw[alloc_old w _ (s1.core.old b hb)]) fun b hb=>.inl hb
   cases xs with
   |nil=>
    simp only[Vm]at hxl;subst hxl;exact .d _ _ (.nil _ _)
   |cons x xs=>exact .d _ _ hlist
end
end Av
namespace Av
open Go
variable [Glb][Rls]
variable {b j ver' cap d:Nat}{C:Array Value}{fz:Nat×Nat}{xs' xs zs ys:List Dat}{J:List Nat}{args:Array Operand}{news:List Value}{x' y':Opd}{r:Res}
section
variable {P:Program}{β:JM}{A:Nat→Prop}{w:World}{H:Heap}{τ:UX}{a:Act}{o:Oper}
theorem setRow_setRow(w:World)(b:Nat)(X Y:Array Value):(w.setRow b X).setRow b Y=w.setRow b Y:=by
 unfold World.setRow;congr 1;apply Array.ext_getElem?;intro i;simp only[Array.getElem?_modify];split
 ·cases w.heap[i]? with
  |none=>rfl
  |some x=>cases x<;>rfl
 ·rfl
theorem Y0{T:TypeId}(hh:w.heap[b]? =some (.cells C T fz)):w.setRow b C=w:=by
 unfold World.setRow;refine(congrArg (fun h=>({w with heap:=h}:World)) (?_:_=w.heap)).trans rfl;apply Array.ext_getElem?;intro i;simp only[Array.getElem?_modify];split
 ·rename_i e;subst e;rw[hh];rfl
 ·rfl
theorem JD3{o:Nat}{v:Value}{T:TypeId}(hh:w.heap[b]? =some (.cells C T fz)):w.setCell ⟨b,o,none⟩ v=w.setRow b (C.setIfInBounds o v):=by
 unfold World.setRow World.setCell;congr 1;apply Array.ext_getElem?;intro i;simp only[Array.getElem?_modify];split
 ·rename_i e;subst e;rw[hh];rfl
 ·rfl
theorem YM{T:TypeId}:∀(vs:List Value) (o:Nat) (w:World) (C:Array Value),w.heap[b]? =some (.cells C T fz)→o+vs.length≤C.size→
  w.setCells b o vs=w.setRow b (Jh C.toList o vs).toArray
 |[],o,w,C,hh,_=>by
  have:(Jh C.toList o []).toArray=C:=by simp[Jh]
  rw[this,Y0 hh];rfl
 |v::vs,o,w,C,hh,hl=>by
  simp only[Vf]at hl;rw[World.setCells,JD3 hh,YM vs (o+1) _ _ (setRow_heap w b C _ T fz hh) sO,setRow_setRow];congr 2;apply List.ext_getElem?;intro j;rw[Jr _ _ _ _ sO,Jr _ _ _ _ sO];simp only[Vf,Array.getElem?_toList,Array.getElem?_setIfInBounds];by_cases h1:o+1≤j∧j<o+1+vs.length
  ·rw[if_pos h1,if_pos oM,List.getElem?_cons,if_neg oM];congr 1
  ·by_cases h2:o=j
   ·subst h2;rw[if_neg h1,if_pos rfl,if_pos oM,if_pos oM];simp
   ·rw[if_neg h1,if_neg h2,if_neg oM]
theorem JD4{β':JM}{A':Nat→Prop}{w':World}{sz:Nat}(hj:H j=none∨∃ver sz0 xs,H j=some (.row ver sz0 xs)∧ver<ver')(c:Av)(u:Value)
  (hcase:(∃off,c=.ref j off)∨(∃ver,c=.ms j ver)∨(∃ver off len,c=.sub j ver off len)∨(∃ver k off,c=.el j ver k off)∨c=.mp j)(hvr:VRep β A w H c u):
  VRep β' A' w' (upd H j (some (.row ver' sz xs'))) c u:=by
 rcases hj with hj|⟨ver,sz0,xs,hj,hlt⟩
 ·exfalso;rcases hcase with⟨off,rfl⟩|⟨ver,rfl⟩|⟨ver,off,len,rfl⟩|⟨ver,k,off,rfl⟩|rfl<;>cases hvr<;>simp_all
 ·rcases hcase with⟨off,rfl⟩|⟨ver2,rfl⟩|⟨ver2,off,len,rfl⟩|⟨ver2,k,off,rfl⟩|rfl
  ·cases hvr with
   |ref _ _ b' p _ hu h0 g1 g2=>exact .ref _ _ b' p _ hu sU sU sU
  ·cases hvr with
   |ms _ _ _ hu h0 g1 g2=>
    obtain⟨q1,q2⟩:=g1 _ _ _ hj;refine .ms _ _ _ hu sU ?_ sU;intro v3 sz3 xs3 h3;simp only[upd,if_true,Vd,Obj.row.injEq]at h3;obtain⟨rfl,rfl,rfl⟩:=h3;exact⟨oM,fun e=>by omega⟩
  ·cases hvr with
   |sub _ _ _ _ _ hu h0 g1 g2=>
    obtain⟨q1,q2⟩:=g1 _ _ _ hj;refine .sub _ _ _ _ _ hu sU ?_ sU;intro v3 sz3 xs3 h3;simp only[upd,if_true,Vd,Obj.row.injEq]at h3;obtain⟨rfl,rfl,rfl⟩:=h3;exact⟨oM,fun e=>by omega⟩
  ·cases hvr with
   |el _ _ _ _ b' p _ hu h0 g1=>
    obtain⟨q1,q2⟩:=g1 _ _ _ hj;refine .el _ _ _ _ b' p _ hu sU ?_;intro v3 sz3 xs3 h3;simp only[upd,if_true,Vd,Obj.row.injEq]at h3;obtain⟨rfl,rfl,rfl⟩:=h3;exact⟨oM,fun e=>by omega⟩
  ·cases hvr with
   |mp _ _ hu h0 g1 g2 g3=>exact .mp _ _ hu sU sU sU sU
theorem Stp.rowNew(hc:Core β A w H){sz:Nat}{e:TypeId}(hj:H j=none∨∃ver sz0 xs,H j=some (.row ver sz0 xs)∧ver<ver'){w1:World}(hw:w1.heap=w.heap)
  (hos:w1.os=w.os)(htp:w1.tape=w.tape)(hout:w1.output=w.output)(hs0:0<sz)(hs:∀x∈xs',x.cells.length=sz)(hbnd:xs'.length≤68719476736)(hle:xs'.length≤cap)(hcap:C.size=cap*sz)
  (h1:∀(j:Nat) v,j<(flat xs').length→C[j]? =some v→v.oneCell'=true)
  (hv:∀(j:Nat) c v,(flat xs')[j]? =some c→C[j]? =some v→Rep A w c v):
  Stp β A w H (upd β j (some w.heap.size)) A (w1.alloc (.cells C e)) (upd H j (some (.row ver' sz xs'))):=by
 have hold:∀b,b<w.heap.size→(w1.alloc (.cells C e)).heap[b]? =w.heap[b]? :=fun b hb=>by rw[alloc_old w1 _ (by rw[hw];exact hb),hw]
 have hat:(w1.alloc (.cells C e)).heap[w.heap.size]? =some (.cells C e (0,0)):=by have:=US w1 (.cells C e);rwa[hw]at this
 have hsz:(w1.alloc (.cells C e)).heap.size=w.heap.size+1:=by simp[World.alloc,hw]
 refine Stp.one (hnt:=by rcases hj with hj|⟨_,_,_,hj,_⟩<;>rw[hj]<;>intros<;>nofun) hc j _ _ hos htp hout (by rw[hsz];omega) (fun b hb _=>hold b hb) (fun _ h=>h) (fun _ h=>.inl h) (fun b h=>by have:=hc.old b h;rw[hsz];omega)
  (fun b hb _=>by cases hb;exact⟨.inl (Nat.le_refl _),fun h=>by have:=hc.old _ h;omega⟩) ?_ ?_
 ·intro c u hcase hvr;exact JD4 hj c u hcase hvr
 ·intro _;refine⟨hs0,hs,hbnd,.inr ⟨w.heap.size,C,e,cap,JB _ _ _,hat,hcap,hle,h1,fun k c v g1 g2=>(hv k c v g1 g2).mono (fun b hb=>hold b (hc.old b hb)) fun _ h=>h⟩⟩
theorem SlVal.src{sz:Nat}{u:Value}{vs:List Value}{t e:TypeId}(h:SlVal A w sz xs u vs)(ht:P.underlying t=some (.slice e)):Src P sz t u xs.length vs w:=by
 obtain⟨ad,cap,rfl,hle,hh⟩:=h.ex;have hl:vs.length=xs.length*sz:=by rw[←h.len,JT h.sz]
 cases xs with
 |nil=>
  have:vs=[]:=sX hl;subst this;cases ad with
  |none=>exact Src.ofNil w ht cap
  |some ad=>exact Src.ofSlice w ht ad 0 cap [] sP sP sP
 |cons x xs=>
  obtain⟨b,o,rfl,h2⟩:=hh sP;exact Src.ofSlice w ht ⟨b,o,none⟩ _ cap vs hl (fun j u hj=>by rw[Addr.add_lit];exact h2 j u hj) h.one
theorem Zx(t tx ty e:TypeId)(i:TypeInfo)(ht:P.underlying t=some (.slice e))(hi:P.info? e=some i)(base:Option Addr)(x:Value)(hs:Src P i.size tx x 0 [] w):
  (Builtin.append_ #[t,tx] ty #[.slice base 0 0,x]).run P w=.ok (.slice base 0 0) w:=by
 rcases hs.kind with⟨e',hk⟩|hk<;>cases base<;>
  simp[Builtin.append_,run_underlying ht,run_underlying hk,Go.sizeOf,typeInfo,hi,hs.len,hs.cells,storeCells]
theorem Stp.JLn(hc:Core β A w H){w':World}{s' sz nb:Nat}{T:TypeId}{Fs:List (List Nat)}(hJ:∀j∈J,j≠d∧∃oj,H j=some oj∧oj.live=true)
  (hd:H d=none∨∃ver s xs,H d=some (.tre ver s sz xs)∧ver<ver'∧s≤s')(hos:w'.os=w.os)(htp:w'.tape=w.tape)(hout:w'.output=w.output)(hsize:w.heap.size≤w'.heap.size)
  (hat:w'.heap[nb]? =some (.cells C T (0,0)))(hoth:∀b,b<w.heap.size→b≠nb→w'.heap[b]? =w.heap[b]?)(hnb:w.heap.size≤nb∨∃o,H d=some o∧o.live=true∧(β d).has nb)
  (hs0:0<sz)(hs:∀x∈xs',x.cells.length=sz)(hbnd:xs'.length≤68719476736)(hle:xs'.length≤cap)(hcap:C.size=cap*sz)(h1:∀(j:Nat) v,j<(flat xs').length→C[j]? =some v→v.oneCell'=true)
  (hFl:Fs.length=(flat xs').length)(hv:∀(j:Nat) c v F,(flat xs')[j]? =some c→C[j]? =some v→Fs[j]? =some F→Own A w F c v)(hnd:(nb::Fs.flatten).Nodup)
  (hF:∀b∈Fs.flatten,∃t o,(t=d∨t∈J)∧H t=some o∧o.live=true∧(β t).has b):
  Stp β A w H (upd β d ⟨some nb,Fs.flatten⟩) A w' (JA (upd H d (some (.tre ver' s' sz xs'))) (J.map fun j=>(j,.gone))):=by
 have hdJ:d∉J:=fun h=>(hJ d h).1 rfl
 have hHd:JA (upd H d (some (.tre ver' s' sz xs'))) (J.map fun j=>(j,.gone)) d=some (.tre ver' s' sz xs'):=by rw[U5,if_neg hdJ,JB]
 have hHj:∀j∈J,JA (upd H d (some (.tre ver' s' sz xs'))) (J.map fun j=>(j,.gone)) j=some .gone:=fun j hj=>by rw[U5,if_pos hj]
 have hall:BK.all ⟨some nb,Fs.flatten⟩=nb::Fs.flatten:=rfl;have hnA:¬A nb:=by
  rcases hnb with h|⟨o,g1,g2,g3⟩
  ·exact fun h'=>by have:=hc.old nb h';omega
  ·exact hc.sep d o nb g1 g2 g3
 have hsA:XG A w w':=fun b hb=>hoth b (hc.old b hb) fun e=>hnA (e▸hb)
 have hFlt:∀b∈Fs.flatten,b<w.heap.size:=fun b hb=>by
  obtain⟨t,o,_,g1,g2,g3⟩:=hF b hb;exact hc.lt g1 g2 g3
 have hne:∀b∈Fs.flatten,b≠nb:=fun b hb e=>(List.nodup_cons.1 hnd).1 (e▸hb)
 refine Stp.many hc (fun t=>t=d∨t∈J) (fun t ht=>by rw[U5,if_neg fun e=>ht (.inr e),JN _ _ fun e=>ht (.inl e)]) (fun t ht=>JN _ _ fun e=>ht (.inl e)) hos htp hout hsize ?_ (fun _ h=>h) (fun _ h=>.inl h) (fun b h=>Nat.lt_of_lt_of_le (hc.old b h) hsize) ?_ ?_ ?_ ?_ ?_
 ·intro b hb hn;refine hoth b hb fun e=>?_
  subst e;rcases hnb with h|⟨o,g1,g2,g3⟩
  ·omega
  ·exact hn d o (.inl rfl) g1 g2 g3
 ·intro t o b ht ho hlo hb;rcases ht with rfl|ht
  ·rw[JB]at hb;have hb':b∈nb::Fs.flatten:=hb;rcases VA.1 hb' with rfl|hb'
   ·refine⟨?_,hnA⟩;rcases hnb with h|⟨o,g1,g2,g3⟩
    ·exact .inl h
    ·exact .inr ⟨t,o,.inl rfl,g1,g2,g3⟩
   ·obtain⟨t',o',g0,g1,g2,g3⟩:=hF b hb';exact⟨.inr ⟨t',o',g0,g1,g2,g3⟩,hc.sep t' o' b g1 g2 g3⟩
  ·rw[hHj t ht]at ho;cases ho;cases hlo
 ·intro t t' o o' b ht ht' ho hlo ho' hlo' _ _;rcases ht with rfl|ht
  ·rcases ht' with rfl|ht'
   ·rfl
   ·rw[hHj _ ht']at ho';cases ho';cases hlo'
  ·rw[hHj _ ht]at ho;cases ho;cases hlo
 ·intro t c u ht hh hvr;rcases ht with rfl|ht
  ·rcases hd with hd|⟨ver,s,xs,hd,h2,h3⟩
   ·exact Xx (v:=ver') (s:=s') (sz:=sz) (xs:=[]) (.inr hd) hHd (Nat.le_refl _) (Nat.le_refl _) hh hvr (fun h=>by rw[hd]at h;cases h)
   ·exact Xx (.inl hd) hHd oM h3 hh hvr (fun _ _ _ _ _ _ _ hvv=>by omega)
  ·exact Yx (hHj t ht) hh hvr
 ·intro hv' t o ht ho;rcases ht with rfl|ht
  ·rw[hHd]at ho;cases ho;refine⟨.slice (some ⟨nb,0,none⟩) xs'.length cap,?_,?_,?_,?_⟩
   ·rw[JB,hall];exact .row sz xs' nb C T cap xs'.length Fs hat hcap rfl hle hbnd hs0 hs hFl h1 fun j c v F g1 g2 g3=>(hv j c v F g1 g2 g3).mono hsA (fun _ h=>h) fun b hb=>by
     have hb':=Um.2 ⟨j,F,g3,hb⟩;exact hoth b (hFlt b hb') (hne b hb')
   ·rw[JB,hall];exact hnd
   ·exact .inr ⟨nb,C,T,(0,0),cap,by rw[JB],hat,hcap,hle,rfl⟩
   ·rw[JB];rfl
  ·rw[hHj t ht]at ho;cases ho;trivial
 ·rintro b r hb ⟨t,o,ht,ho,hlo,hb2⟩;by_cases e:b=nb
  ·exfalso;subst e
   rcases hnb with h|⟨o',g1,g2,g3⟩
   ·have:=(Array.getElem?_eq_some_iff.1 hb).1;omega
   ·rcases hd with hd|⟨ver,s,xs,hd,_,_⟩
    ·rw[hd]at g1;cases g1
    ·obtain⟨u2,o1,_⟩:=hc.objs _ _ hd;obtain⟨C',T',fz,q⟩:=o1.JHM b g3;rw[q]at hb;cases hb
  ·exact⟨r,by rw[hoth b (Array.getElem?_eq_some_iff.1 hb).1 e];exact hb⟩
theorem Yj{Fs Gs:List (List Nat)}{F:List Nat}(h:(Fs++Gs)[j]? =some F):(j<Fs.length∧Fs[j]? =some F)∨(Fs.length≤j∧Gs[j-Fs.length]? =some F):=by
 by_cases e:j<Fs.length
 ·exact .inl ⟨e,by rwa[Vz e]at h⟩
 ·exact .inr ⟨oM,by rwa[Vy oM]at h⟩
structure AppOk(P:Program)(o:Oper)(a:Act)(w:World)(x y:Operand)(t t' e:TypeId)(sz:Nat)(i:TypeInfo)(z:Value):Prop where
 run:∃cs,(execOp a.eval o).run P w=(builtin Builtin.append #[t,t'] o.type cs (Array.map a.eval #[x,y])).run P w
 hu:P.underlying t=some (.slice e)
 hu':∃e',P.underlying t'=some (.slice e')
 hi:P.info? e=some i
 z2:i.zero=some z
 zsz:z.cells.size=sz
 his:i.size=sz
 h0:0<sz
 hby:i.bytes≤1024
theorem AppOk.of{argTypes:Array TypeId}{x y:Operand}{t t' e e':TypeId}{sz:Nat}{i:TypeInfo}
  (ho:o.op=.call {callee:=.builtin .append,args,argTypes})(ha:args.toList=[x,y])(hat:argTypes.toList=[t,t'])(hu:P.underlying t=some (.slice e))(hu':P.underlying t'=some (.slice e'))
  (hsz:szT P e=some sz)(hz:zsT P e=some zs)(hi:P.info? e=some i)(h0:0<sz)(hby:i.bytes≤1024):∃z,AppOk P o a w x y t t' e sz i z:=by
 obtain rfl:args=#[x,y]:=by apply Array.ext';simpa using ha
 obtain rfl:argTypes=#[t,t']:=by apply Array.ext';simpa using hat
 obtain⟨cs,run⟩:=YT (P:=P) (a:=a) ho w;obtain⟨i2,z,z1,z2,z3,z4,z5,z6⟩:=JGY hz;rw[hi]at z1;cases z1;have his:i.size=sz:=by simpa[szT,hi]using hsz
 exact⟨z,⟨cs,run⟩,hu,⟨e',hu'⟩,hi,z2,by rw[←z4,z3,his],his,h0,hby⟩
section
variable {x y:Operand}{t t' e:TypeId}{sz:Nat}{i:TypeInfo}{z:Value}
theorem AppOk.grow(K:AppOk P o a w x y t t' e sz i z)(hc:Core β A w H):∀(base:Option Addr) (n cap:Nat) (xs0 ys:List Dat) (olds news:List Value) (j ver':Nat),a.eval x=.slice base n cap→SlVal A w sz ys (a.eval y) news→n=xs0.length→(∀x∈xs0,x.cells.length=sz)→
  olds.length=n*sz→(∀v∈olds,v.oneCell'=true)→(∀(j:Nat) c v,(flat xs0)[j]? =some c→olds[j]? =some v→Rep A w c v)→
  (Builtin.firstCells sz n (.slice base n cap)).run P w.drew=.ok olds.toArray w.drew→cap<n+ys.length→n+ys.length≤68719476736→
  (H j=none∨∃ver sz0 xs,H j=some (.row ver sz0 xs)∧ver<ver')→JY P a.eval o w β A H (.ms j ver') [(j,.row ver' sz (xs0++ys))]:=by
 obtain⟨⟨cs,run⟩,hu,⟨e',hu'⟩,hi,z2,zsz,his,h0,hby⟩:=K;intro base n cap xs0 ys olds news j ver' hux hy' hn hs0 hol ho1 horep hold hcap hbnd hj;have hg:=run_append_grow_src (P:=P) w t t' o.type e i z hu hi z2 base n cap olds (by rw[his];exact hold) (a.eval y) ys.length news (by rw[his];exact hy'.src hu') hcap oM
  (growslice_fits hcap (by have:=Nat.mul_le_mul hbnd hby;omega))
 have hge:=grownCap_ge w (n+ys.length) cap e;have hnl:news.length=ys.length*sz:=by rw[←hy'.len,JT hy'.sz]
 have hsall:∀q∈xs0++ys,q.cells.length=sz:=by
  intro q hq;rcases List.mem_append.1 hq with h|h
  ·exact hs0 q h
  ·exact hy'.sz q h
 have hfl:(flat (xs0++ys)).length=n*sz+ys.length*sz:=by rw[JT hsall,Vg,Nat.add_mul,hn]
 have hC2:((olds++news).toArray++Builtin.zeroCells z.cells (grownCap w (n+ys.length) cap e-(n+ys.length))).size=grownCap w (n+ys.length) cap e*sz:=by
  have:z.cells.size=sz:=zsz;simp only[Array.size_append,List.size_toArray,Vg,size_zeroCells,hol,hnl,this];rw[←Nat.add_mul,←Nat.add_mul];congr 1;omega
 have hget:∀(k:Nat) v,k<(flat (xs0++ys)).length→((olds++news).toArray++Builtin.zeroCells z.cells (grownCap w (n+ys.length) cap e-(n+ys.length)))[k]? =some v→(olds++news)[k]? =some v:=by
  intro k v hk hv;rw[Array.getElem?_append_left (by simp[hol,hnl];omega)]at hv;simpa using hv
 refine⟨_,_,A,_,.inl (by
   rw[run];simp only[builtin,List.map_toArray,Va,Vb,hux,Sem.run_bind];rw[hg]
   rfl),Stp.rowNew hc hj (w1:=w.drew) rfl rfl rfl rfl h0 hsall sO sO hC2 ?_ ?_,?_⟩
 ·intro k v hk hv;rcases List.mem_append.1 (List.mem_of_getElem? (hget k v hk hv))with h|h
  ·exact ho1 v h
  ·exact hy'.one v h
 ·intro k c v hkc hkv;have hk:k<(flat (xs0++ys)).length:=(VB.1 hkc).1;have hv:=hget k v hk hkv;have hf0:(flat xs0).length=n*sz:=by rw[JT hs0,hn]
  rw[Uh]at hkc;by_cases hlt:k<n*sz
  ·rw[Vz oM]at hkc hv;exact horep k c v hkc hv
  ·rw[Vy oM]at hkc hv;rw[hf0]at hkc;rw[hol]at hv;exact hy'.rep _ c v hkc hv
 ·refine .ms _ _ _ rfl (by simp[JA,upd]) ?_ (by simp[JA,upd]);intro v3 sz3 xs3 h3;simp only[JA,upd,if_true,Vd,Obj.row.injEq]at h3;obtain⟨rfl,rfl,rfl⟩:=h3;refine⟨Nat.le_refl _,fun _=>.inr ⟨w.heap.size,_,e,(0,0),grownCap w (n+ys.length) cap e,JB _ _ _,?_,hC2,sO,by simp[hn]⟩⟩;have:=US w.drew (.cells ((olds++news).toArray++Builtin.zeroCells z.cells (grownCap w (n+ys.length) cap e-(n+ys.length))) e);simpa using this
theorem AppOk.room(K:AppOk P o a w x y t t' e sz i z)(hc:Core β A w H):∀(b n cap ver v':Nat) (xs xs0 ys:List Dat) (j:Nat) (C:Array Value) (T:TypeId) (news:List Value),H j=some (.row ver sz xs)→β j=some b→w.heap[b]? =some (.cells C T (0,0))→C.size=cap*sz→
  a.eval x=.slice (some ⟨b,0,none⟩) n cap→SlVal A w sz ys (a.eval y) news→n=xs0.length→(∀x∈xs0,x.cells.length=sz)→(∀(j:Nat) v,j<(flat xs0).length→C[j]? =some v→v.oneCell'=true)→
  (∀(j:Nat) c v,(flat xs0)[j]? =some c→C[j]? =some v→Rep A w c v)→n+ys.length≤cap→n+ys.length≤68719476736→JY P a.eval o w β A H (.ms j (ver+1)) [(j,.row (ver+1) sz (xs0++ys))]:=by
 obtain⟨⟨cs,run⟩,hu,⟨e',hu'⟩,hi,z2,zsz,his,h0,hby⟩:=K;intro b n cap ver v' xs xs0 ys j C T news hrow hb hh hcs hux hy' hn hs0 ho1 horep hroom hbnd;have hnl:news.length=ys.length*sz:=by rw[←hy'.len,JT hy'.sz]
 have hin:n*sz+news.length≤C.size:=by
  rw[hnl,←Nat.add_mul,hcs];exact Nat.mul_le_mul_right _ hroom
 have hg:=run_append_room_src (P:=P) w t t' o.type e i hu hi b 0 n cap (a.eval y) ys.length news (by rw[his];exact hy'.src hu') hroom
  (by intro k hk;simp only[World.cell?,hh];rw[his];simp;omega)
  (by intro k hk;simp[World.frozen?,hh])
 rw[Nat.zero_add,his,YM news (n*sz) w C hh hin]at hg;have hsall:∀q∈xs0++ys,q.cells.length=sz:=by
  intro q hq;rcases List.mem_append.1 hq with h|h
  ·exact hs0 q h
  ·exact hy'.sz q h
 have hf0:(flat xs0).length=n*sz:=by rw[JT hs0,hn]
 have hspl:(Jh C.toList (n*sz) news).length=C.size:=by rw[J2 _ _ _ (sX hin),Array.length_toList]
 refine⟨_,β,A,_,.inl (by
   rw[run];simp only[builtin,List.map_toArray,Va,Vb,hux,Sem.run_bind];rw[hg]
   rfl),Stp.JSG hc hrow hb hh hcs (by rw[List.size_toArray,hspl]) (Nat.le_succ _) (fun h=>by omega) hsall sO sO ?_ ?_,?_⟩
 ·intro k v hk hv;rw[List.getElem?_toArray,Jr _ _ _ _ (sX hin)]at hv;rw[Uh,Vg,hf0,JT hy'.sz,←hnl]at hk;split at hv
  ·exact hy'.one v (List.mem_of_getElem? hv)
  ·exact ho1 k v oM (sX hv)
 ·intro k c v hkc hkv;have hk:k<(flat (xs0++ys)).length:=(VB.1 hkc).1;rw[List.getElem?_toArray,Jr _ _ _ _ (sX hin)]at hkv;rw[Uh,Vg,hf0,JT hy'.sz,←hnl]at hk;rw[Uh]at hkc;split at hkv
  ·rw[Vy oM,hf0]at hkc;exact hy'.rep _ c v hkc hkv
  ·rw[Vz oM]at hkc;exact horep k c v hkc (sX hkv)
 ·refine .ms _ _ _ rfl (by simp[JA,upd]) ?_ (by simp[JA,upd]);intro v3 sz3 xs3 h3;simp only[JA,upd,if_true,Vd,Obj.row.injEq]at h3;obtain⟨rfl,rfl,rfl⟩:=h3;exact⟨Nat.le_refl _,fun _=>.inr ⟨b,_,T,(0,0),cap,hb,setRow_heap w b C _ T (0,0) hh,by rw[List.size_toArray,hspl,hcs],sO,by simp[hn]⟩⟩
theorem AppOk.zero(K:AppOk P o a w x y t t' e sz i z)(hc:Core β A w H):∀(ad:Option Addr) (j ver':Nat) (news:List Value),a.eval x=.slice ad 0 0→SlVal A w sz [] (a.eval y) news→(H j=none∨∃ver sz0 xs,H j=some (.row ver sz0 xs)∧ver<ver')→
  JY P a.eval o w β A H (.ms j ver') [(j,.row ver' sz [])]:=by
 obtain⟨⟨cs,run⟩,hu,⟨e',hu'⟩,hi,z2,zsz,his,h0,hby⟩:=K;intro ad j ver' news hux sv hj;have hnn:news=[]:=by have:=sv.len;simpa[flat]using this.symm
 subst hnn;refine⟨_,upd β j (none:Option Nat),A,w,.inl (by
  rw[run];simp only[builtin,List.map_toArray,Va,Vb,hux,Sem.run_bind];rw[Zx t t' o.type e i hu hi ad (a.eval y) (by rw[his];exact sv.src hu')]
  rfl),?_,?_⟩
 ·exact Stp.one (hnt:=by rcases hj with hj|⟨_,_,_,hj,_⟩<;>rw[hj]<;>intros<;>nofun) hc j (.row ver' sz []) none rfl rfl rfl (Nat.le_refl _) (fun _ _ _=>rfl) (fun _ h=>h) (fun _ h=>.inl h) (fun b h=>hc.old b h) sP (fun c u hcase hvr=>JD4 hj c u hcase hvr)
   (fun _=>⟨h0,sP,sP,.inl ⟨JB _ _ _,rfl⟩⟩)
 ·refine .ms _ _ _ rfl (by simp[JA,upd]) ?_ (by simp[JA,upd]);intro v3 sz3 xs3 h3;simp only[JA,upd,if_true,Vd,Obj.row.injEq]at h3;obtain⟨rfl,rfl,rfl⟩:=h3;exact⟨Nat.le_refl _,fun _=>.inl ⟨JB _ _ _,rfl,ad,rfl⟩⟩
theorem YN(sz:Nat)(ad:Option Addr)(cap:Nat):(Builtin.firstCells sz 0 (.slice ad 0 cap)).run P w.drew=.ok #[] w.drew:=by
 cases ad with
 |none=>exact run_firstCells_none _ _ _ _ _
 |some ad=>exact run_firstCells_some w.drew sz 0 ad 0 cap [] sP sP
theorem AppOk.whole(K:AppOk P o a w x y t t' e sz i z)(hc:Core β A w H)(sv:SlVal A w sz ys (a.eval y) news){ver:Nat}(hrow:H j=some (.row ver sz xs))
  (hxv:VRep β A w H (.ms j ver) (a.eval x))(hb:xs.length+ys.length≤68719476736):JY P a.eval o w β A H (.ms j (ver+1)) [(j,.row (ver+1) sz (xs++ys))]:=by
 obtain⟨_,hszs,_,hblk⟩:=hc.objs j _ hrow;have grow:=K.grow hc;have room:=K.room hc;have zero:=K.zero hc;have h0:=K.h0;have YN:=YN (P:=P) (w:=w) sz;cases hxv with
 |ms _ _ _ hu1 _ q1 q2=>
  rcases(q1 _ _ _ hrow).2 rfl with⟨r1,r2,ad,r3⟩|⟨b,C,T,fz,cap,r1,r2,r3,r4,r5⟩
  ·have hx0:xs=[]:=List.eq_nil_of_length_eq_zero r2;subst hx0;by_cases hys:ys=[]
   ·subst hys;exact zero ad j (ver+1) news r3 sv (.inr ⟨_,_,_,hrow,Nat.lt_succ_self _⟩)
   ·have hpos:0<ys.length:=List.length_pos_iff.2 hys;exact grow ad 0 0 [] ys [] news j (ver+1) r3 sv rfl sP sP sP sP (YN ad 0) oM oM (.inr ⟨_,_,_,hrow,Nat.lt_succ_self _⟩)
  ·rcases hblk with⟨s1,_⟩|⟨b',C',T',cap',s1,s2,s3,s4,s5,s6⟩
   ·rw[s1]at r1;cases r1
   ·rw[s1]at r1;cases r1;rw[s2]at r2;cases r2;have hcc:cap'=cap:=Nat.eq_of_mul_eq_mul_right h0 (by rw[←s3,r3]);subst hcc;by_cases hroom:xs.length+ys.length≤cap'
    ·exact room b xs.length cap' ver ver xs xs ys j C T news hrow s1 s2 s3 r5 sv rfl hszs s5 s6 hroom hb
    ·have hfl:=JT hszs;have hCl:xs.length*sz≤C.size:=by rw[s3];exact Nat.mul_le_mul_right _ s4
     refine grow _ xs.length cap' xs ys (C.toList.take (xs.length*sz)) news j (ver+1) r5 sv rfl hszs sO ?_ ?_ ?_ oM hb (.inr ⟨_,_,_,hrow,Nat.lt_succ_self _⟩)
     ·intro v hv;obtain⟨k,hk⟩:=List.getElem?_of_mem hv;rw[List.getElem?_take]at hk;split at hk
      ·exact s5 k v oM (sX hk)
      ·cases hk
     ·intro k c v hkc hkv;rw[List.getElem?_take]at hkv;split at hkv
      ·exact s6 k c v hkc (sX hkv)
      ·cases hkv
     ·refine run_firstCells_some w.drew sz xs.length ⟨b,0,none⟩ _ cap' (C.toList.take (xs.length*sz)) sO ?_;intro k v hk;rw[List.getElem?_take]at hk;split at hk
      ·rw[Addr.add_lit];change w.cell? _=_;simp only[World.cell?,s2];simpa using hk
      ·cases hk
end
structure TSrc(P:Program)(β:JM)(A:Nat→Prop)(w:World)(H:Heap)(dd sz:Nat)(t':TypeId)(yv:Value)(ys:List Dat)(news:List Value)(Fj:List (List Nat))(J:List Nat):Prop where
 szs:∀y∈ys,y.cells.length=sz
 fl:Fj.length=(flat ys).length
 nl:news.length=ys.length*sz
 one:∀v∈news,v.oneCell'=true
 own:∀(j:Nat) c v F,(flat ys)[j]? =some c→news[j]? =some v→Fj[j]? =some F→Own A w F c v
 src:Src P sz t' yv ys.length news w
 nd:Fj.flatten.Nodup
 mem:∀b∈Fj.flatten,∃j∈J,∃o,H j=some o∧o.live=true∧(β j).has b
 live:∀j∈J,j≠dd∧∃o,H j=some o∧o.live=true
section
variable {x y:Operand}{t t' e:TypeId}{sz:Nat}{i:TypeInfo}{z:Value}
theorem AppOk.JLo(K:AppOk P o a w x y t t' e sz i z)(hc:Core β A w H){base:Option Addr}{n dd s':Nat}{xs0:List Dat}{olds:List Value}{F0 Fj:List (List Nat)}(S:TSrc P β A w H dd sz t' (a.eval y) ys news Fj J)
  (hux:a.eval x=.slice base n cap)(hn:n=xs0.length)(hs0:∀x∈xs0,x.cells.length=sz)(hol:olds.length=n*sz)(ho1:∀v∈olds,v.oneCell'=true)(hF0:F0.length=(flat xs0).length)
  (horep:∀(j:Nat) c v F,(flat xs0)[j]? =some c→olds[j]? =some v→F0[j]? =some F→Own A w F c v)(hF0n:F0.flatten.Nodup)(hF0m:∀b∈F0.flatten,∃o,H dd=some o∧o.live=true∧(β dd).has b)
  (hold:(Builtin.firstCells sz n (.slice base n cap)).run P w.drew=.ok olds.toArray w.drew)(hcap:cap<n+ys.length)(hbnd:n+ys.length≤68719476736)
  (hdd:H dd=none∨∃ver s xs,H dd=some (.tre ver s sz xs)∧ver<ver'∧s≤s'):JY P a.eval o w β A H (.tr dd ⟨ver',s',[],none⟩) ((dd,.tre ver' s' sz (xs0++ys))::J.map fun j=>(j,.gone)):=by
 obtain⟨⟨cs,run⟩,hu,⟨e',hu'⟩,hi,z2,zsz,his,h0,hby⟩:=K;obtain⟨hys,hFj,hnl,hn1,hnown,hsrc,hFjn,hFjm,hJ⟩:=S;have hg:=run_append_grow_src (P:=P) w t t' o.type e i z hu hi z2 base n cap olds (by rw[his];exact hold) (a.eval y) ys.length news (by rw[his];exact hsrc) hcap oM
  (growslice_fits hcap (by have:=Nat.mul_le_mul hbnd hby;omega))
 have hge:=grownCap_ge w (n+ys.length) cap e;have hsall:∀q∈xs0++ys,q.cells.length=sz:=by
  intro q hq;rcases List.mem_append.1 hq with h|h
  ·exact hs0 q h
  ·exact hys q h
 have hf0:(flat xs0).length=n*sz:=by rw[UB hs0,hn]
 have hfy:(flat ys).length=ys.length*sz:=UB hys;have hfl:(flat (xs0++ys)).length=n*sz+ys.length*sz:=by rw[UB hsall,Vg,Nat.add_mul,hn]
 have hC2:((olds++news).toArray++Builtin.zeroCells z.cells (grownCap w (n+ys.length) cap e-(n+ys.length))).size=grownCap w (n+ys.length) cap e*sz:=by
  simp only[Array.size_append,List.size_toArray,Vg,size_zeroCells,hol,hnl,zsz];rw[←Nat.add_mul,←Nat.add_mul];congr 1;omega
 have hget:∀(k:Nat) v,k<(flat (xs0++ys)).length→((olds++news).toArray++Builtin.zeroCells z.cells (grownCap w (n+ys.length) cap e-(n+ys.length)))[k]? =some v→(olds++news)[k]? =some v:=by
  intro k v hk hv;rw[Array.getElem?_append_left (by simp[hol,hnl];omega)]at hv;simpa using hv
 have hst:Stp β A w H (upd β dd ⟨some w.heap.size,(F0++Fj).flatten⟩) A (w.drew.alloc (.cells ((olds++news).toArray++Builtin.zeroCells z.cells (grownCap w (n+ys.length) cap e-(n+ys.length))) e)) (JA (upd H dd (some (.tre ver' s' sz (xs0++ys)))) (J.map fun j=>(j,.gone))):=by
  refine Stp.JLn hc hJ hdd rfl rfl rfl sP (by
    have:=US w.drew (.cells ((olds++news).toArray++Builtin.zeroCells z.cells (grownCap w (n+ys.length) cap e-(n+ys.length))) e);simpa using this) (fun b hb _=>alloc_old w.drew _ (sX hb)) (.inl (Nat.le_refl _)) h0 hsall sO sO hC2 ?_ (by rw[Vg,hF0,hFj,Uh,Vg]) ?_ ?_ ?_
  ·intro k v hk hv;rcases List.mem_append.1 (List.mem_of_getElem? (hget k v hk hv))with h|h
   ·exact ho1 v h
   ·exact hn1 v h
  ·intro k c v F hkc hkv hkF;have hk:k<(flat (xs0++ys)).length:=(VB.1 hkc).1;have hv:=hget k v hk hkv;rw[Uh]at hkc;rcases Yj hkF with⟨hlt,hkF⟩|⟨hge',hkF⟩
   ·rw[Vz oM]at hkc hv;exact horep k c v F hkc hv hkF
   ·rw[Vy oM]at hkc hv;rw[hF0]at hkF;rw[hf0]at hkc hkF;rw[hol]at hv;exact hnown _ c v F hkc hv hkF
  ·rw[List.flatten_append];refine List.nodup_cons.2 ⟨?_,List.nodup_append.2 ⟨hF0n,hFjn,?_⟩⟩
   ·intro hm;rcases List.mem_append.1 hm with h|h
    ·obtain⟨o',g1,g2,g3⟩:=hF0m _ h;have:=hc.lt g1 g2 g3;omega
    ·obtain⟨j,_,o',g1,g2,g3⟩:=hFjm _ h;have:=hc.lt g1 g2 g3;omega
   ·intro b hb b' hb' ee;subst ee;obtain⟨o',g1,g2,g3⟩:=hF0m _ hb;obtain⟨j,hj,oj,q1,q2,q3⟩:=hFjm _ hb';exact(hJ j hj).1 (hc.inj dd j o' oj b g1 g2 q1 q2 g3 q3).symm
  ·intro b hb;rw[List.flatten_append]at hb;rcases List.mem_append.1 hb with h|h
   ·obtain⟨o',g1,g2,g3⟩:=hF0m _ h;exact⟨dd,o',.inl rfl,g1,g2,g3⟩
   ·obtain⟨j,hj,oj,q1,q2,q3⟩:=hFjm _ h;exact⟨j,oj,.inr hj,q1,q2,q3⟩
 have hdJ:dd∉J:=fun h=>(hJ dd h).1 rfl
 refine⟨_,_,A,_,.inl (by
   rw[run];simp only[builtin,List.map_toArray,Va,Vb,hux,Sem.run_bind];rw[hg]
   rfl),hst,?_⟩
 have hHd:JA (upd H dd (some (.tre ver' s' sz (xs0++ys)))) (J.map fun j=>(j,.gone)) dd=some (.tre ver' s' sz (xs0++ys)):=by rw[U5,if_neg hdJ,JB]
 refine .tr _ _ _ rfl (by show(JA (upd H dd (some (.tre ver' s' sz (xs0++ys)))) (J.map fun j=>(j,.gone)) dd).isSome=true;rw[hHd];rfl) (fun h=>by cases h) ?_;intro v3 s3 sz3 xs3 h3;have h3':=hHd.symm.trans h3;cases h3';refine⟨Nat.le_refl _,Nat.le_refl _,fun _ _=>⟨_,_,.inr ⟨w.heap.size,_,e,(0,0),grownCap w (n+ys.length) cap e,by rw[JB],?_,hC2,sO,by simp[hn]⟩,rfl,rfl⟩⟩;have:=US w.drew (.cells ((olds++news).toArray++Builtin.zeroCells z.cells (grownCap w (n+ys.length) cap e-(n+ys.length))) e);simpa using this
theorem AppOk.JSH(K:AppOk P o a w x y t t' e sz i z)(hc:Core β A w H){dd vi si:Nat}{h:Hd}{Fj:List (List Nat)}(S:TSrc P β A w H dd sz t' (a.eval y) ys news Fj J)
  (hi':H dd=some (.tre vi si sz xs))(ek:h.k=none)(ep:h.p=[])(hver:h.ver=vi)(hxv:VRep β A w H (.tr dd h) (a.eval x))(hpos:0<ys.length)(hbnd:xs.length+ys.length≤68719476736):
  JY P a.eval o w β A H (.tr dd ⟨vi+1,si,[],none⟩) ((dd,.tre (vi+1) si sz (xs++ys))::J.map fun j=>(j,.gone)):=by
 obtain⟨oi,w1,w2,w3,w4,w5,w6⟩:=ZK hc hxv (q:=h.ver=vi) (j:=dd) (sz:=sz) (zs:=xs) (by simp only[X5,ek,ep,hi']) hver;have hdd:H dd=none∨∃ver s xs,H dd=some (.tre ver s sz xs)∧ver<vi+1∧s≤si:=.inr ⟨_,_,_,hi',Nat.lt_succ_self _,Nat.le_refl _⟩;generalize hX:a.eval x=ux at w3 w6;generalize hD:Dat.own sz xs=D at w3;generalize hF:(β dd).all=FF at w3;cases w3 with
 |dat _ _ w3=>subst hD;cases w3
 |nil _ ad _=>
  cases hD;have:=K.JLo hc S hX (xs0:=[]) (olds:=[]) (F0:=[]) (ver':=vi+1) (s':=si) rfl sP sP sP (by simp[flat]) sP sP sP (YN sz ad 0) oM (sX hbnd) hdd;simpa using this
 |row _ _ b C T cap n Fs hh' hCc hn hl hcl hs0 hszx hFs h1 hv=>
  cases hD;have hCl:xs.length*sz≤C.size:=by rw[hCc];exact Nat.mul_le_mul_right _ hl
  have hfl:=UB hszx;have hFm:∀b'∈Fs.flatten,∃o,H dd=some o∧o.live=true∧(β dd).has b':=fun b' hb'=>⟨_,hi',rfl,by show b'∈(β dd).all;rw[hF];exact Vn _ hb'⟩
  have hFn:Fs.flatten.Nodup:=(List.nodup_cons.1 (hF▸w4)).2;by_cases hroom:xs.length+ys.length≤cap
  ·obtain⟨⟨cs,run⟩,hu,⟨e',hu'⟩,hi,z2,zsz,his,h0,hby⟩:=K;obtain⟨hys,hFj,hnl,hn1,hnown,hsrc,hFjn,hFjm,hJ⟩:=S;have hin:xs.length*sz+news.length≤C.size:=by
    rw[hnl,←Nat.add_mul,hCc];exact Nat.mul_le_mul_right _ hroom
   have hg:=run_append_room_src (P:=P) w t t' o.type e i hu hi b 0 n cap (a.eval y) ys.length news (by rw[his];exact hsrc) oM
    (by intro k hk;simp only[World.cell?,hh'];rw[his];simp;rw[hn];omega)
    (by intro k hk;simp[World.frozen?,hh'])
   rw[Nat.zero_add,his,hn,YM news (xs.length*sz) w C hh' hin]at hg;have hsall:∀q∈xs++ys,q.cells.length=sz:=by
    intro q hq;rcases List.mem_append.1 hq with h|h
    ·exact hszx q h
    ·exact hys q h
   have hfy:(flat ys).length=ys.length*sz:=UB hys;have hspl:(Jh C.toList (xs.length*sz) news).length=C.size:=by rw[J2 _ _ _ (sX hin),Array.length_toList]
   have hbi:(β dd).has b:=by show b∈(β dd).all;rw[hF];exact Vh
   have hwb:=setRow_heap w b C (Jh C.toList (xs.length*sz) news).toArray T (0,0) hh';have hcap':(Jh C.toList (xs.length*sz) news).toArray.size=cap*sz:=by rw[List.size_toArray,hspl,hCc]
   have hst:Stp β A w H (upd β dd ⟨some b,(Fs++Fj).flatten⟩) A (w.setRow b (Jh C.toList (xs.length*sz) news).toArray) (JA (upd H dd (some (.tre (vi+1) si sz (xs++ys)))) (J.map fun j=>(j,.gone))):=by
    refine Stp.JLn hc hJ hdd rfl rfl rfl sP hwb (fun b' _ hb'=>setRow_other w b b' _ hb') (.inr ⟨_,hi',rfl,hbi⟩) hs0 hsall (sX hbnd) (sX hroom) hcap' ?_ (by rw[Vg,hFs,hFj,Uh,Vg]) ?_ ?_ ?_
    ·intro k v hk hv';rw[List.getElem?_toArray,Jr _ _ _ _ (sX hin)]at hv';rw[Uh,Vg]at hk;split at hv'
     ·exact hn1 v (List.mem_of_getElem? hv')
     ·exact h1 k v oM (by simpa using hv')
    ·intro k c v F hkc hkv hkF;rw[List.getElem?_toArray,Jr _ _ _ _ (sX hin)]at hkv;rw[Uh]at hkc;have hkl:=(VB.1 hkc).1;rw[Vg]at hkl;rcases Yj hkF with⟨hlt,hkF⟩|⟨hge',hkF⟩
     ·rw[Vz oM]at hkc;rw[if_neg oM]at hkv;exact hv k c v F hkc (sX hkv) hkF
     ·rw[Vy oM]at hkc;rw[if_pos oM]at hkv;rw[hFs]at hkF;rw[hfl]at hkc hkF;exact hnown _ c v F hkc hkv hkF
    ·rw[List.flatten_append];refine List.nodup_cons.2 ⟨?_,List.nodup_append.2 ⟨hFn,hFjn,?_⟩⟩
     ·intro hm;rcases List.mem_append.1 hm with h|h
      ·exact(List.nodup_cons.1 (hF▸w4)).1 h
      ·obtain⟨j,hj,oj,q1,q2,q3⟩:=hFjm _ h;exact(hJ j hj).1 (hc.inj dd j _ oj b hi' rfl q1 q2 hbi q3).symm
     ·intro b1 hb1 b2 hb2 ee;subst ee;obtain⟨o',g1,g2,g3⟩:=hFm _ hb1;obtain⟨j,hj,oj,q1,q2,q3⟩:=hFjm _ hb2;exact(hJ j hj).1 (hc.inj dd j o' oj b1 g1 g2 q1 q2 g3 q3).symm
    ·intro b' hb';rw[List.flatten_append]at hb';rcases List.mem_append.1 hb' with h|h
     ·obtain⟨o',g1,g2,g3⟩:=hFm _ h;exact⟨dd,o',.inl rfl,g1,g2,g3⟩
     ·obtain⟨j,hj,oj,q1,q2,q3⟩:=hFjm _ h;exact⟨j,oj,.inr hj,q1,q2,q3⟩
   have hdJ:dd∉J:=fun h=>(hJ dd h).1 rfl
   refine⟨_,_,A,_,.inl (by
     rw[run];simp only[builtin,List.map_toArray,Va,Vb,hX,Sem.run_bind];rw[hn,hg]
     rfl),hst,?_⟩
   have hHd:JA (upd H dd (some (.tre (vi+1) si sz (xs++ys)))) (J.map fun j=>(j,.gone)) dd=some (.tre (vi+1) si sz (xs++ys)):=by rw[U5,if_neg hdJ,JB]
   refine .tr _ _ _ rfl (by show(JA (upd H dd (some (.tre (vi+1) si sz (xs++ys)))) (J.map fun j=>(j,.gone)) dd).isSome=true;rw[hHd];rfl) (fun h=>by cases h) ?_;intro v3 s3 sz3 xs3 h3;have h3':=hHd.symm.trans h3;cases h3';exact⟨Nat.le_refl _,Nat.le_refl _,fun _ _=>⟨_,_,.inr ⟨b,_,T,(0,0),cap,by rw[JB],hwb,hcap',by simpa using hroom,sP⟩,rfl,rfl⟩⟩
  ·refine K.JLo hc S (n:=n) (cap:=cap) (xs0:=xs) (olds:=C.toList.take (xs.length*sz)) (F0:=Fs) hX hn hszx (by simp[hn];omega) ?_ hFs ?_ hFn hFm ?_ oM oM hdd
   ·intro v hv';obtain⟨k,hk⟩:=List.getElem?_of_mem hv';rw[List.getElem?_take]at hk;split at hk
    ·exact h1 k v oM (sX hk)
    ·cases hk
   ·intro k c v F hkc hkv hkF;rw[List.getElem?_take]at hkv;split at hkv
    ·exact hv k c v F hkc (sX hkv) hkF
    ·cases hkv
   ·refine run_firstCells_some w.drew sz n ⟨b,0,none⟩ _ cap (C.toList.take (xs.length*sz)) (by simp[hn];omega) ?_;intro k v hk;rw[List.getElem?_take]at hk;split at hk
    ·rw[Addr.add_lit];change w.cell? _=_;simp only[World.cell?,hh'];simpa using hk
    ·cases hk
theorem SlVal.tsrc{yv:Value}{e':TypeId}(sv:SlVal A w sz ys yv news)(hu':P.underlying t'=some (.slice e'))(dd:Nat):TSrc P β A w H dd sz t' yv ys news (List.replicate (flat ys).length []) []:=by
 refine⟨sv.sz,sP,by rw[←sv.len,JT sv.sz],sv.one,fun j c v F h1 h2 h3=>?_,sv.src hu',sP,sP,sP⟩;rw[List.getElem?_replicate]at h3;split at h3
 ·cases h3;exact .dat _ _ (sv.rep j c v h1 h2)
 ·cases h3
end
theorem JLw{argTypes:Array TypeId}{x y:Operand}{t t' e e':TypeId}{sz:Nat}{i:TypeInfo}(hc:Core β A w H)(ht:UD β A w H τ a)
  (ho:o.op=.call {callee:=.builtin .append,args,argTypes})(ha:args.toList=[x,y])(hat:argTypes.toList=[t,t'])(hu:P.underlying t=some (.slice e))(hu':P.underlying t'=some (.slice e'))
  (hx:opd P t x=some x')(hy:opd P t' y=some y')(hsz:szT P e=some sz)(hz:zsT P e=some zs)(hi:P.info? e=some i)(h0:0<sz)(hby:i.bytes≤1024){ua va:Av}(e1:val τ x'=some ua)(e2:val τ y'=some va)
  (hs:JGU H d sz ua va=some r)(hC:r.c):JY P a.eval o w β A H r.v r.ups:=by
 obtain⟨z,K⟩:=AppOk.of (P:=P) (o:=o) (a:=a) (w:=w) ho ha hat hu hu' hsz hz hi h0 hby;have row:∀{q:Prop} {j dd:Nat} {ys:List Dat},X5 H va=some (q,j,sz,ys)→q→0<ys.length→j≠dd→∃news Fj,ys.length≤68719476736∧TSrc P β A w H dd sz t' (a.eval y) ys news Fj [j]:=by
  intro q j dd ys ho' hq hpos hjd;obtain⟨oj,w1,w2,w3,w4,_,_⟩:=ZK hc (JD hy e2 ht) ho' hq;obtain⟨_,_,_,hbd,_⟩:=JAa w3;obtain⟨b,C,T,cap,Fs,g1,g2,g3,g4,g5,g6,g7,g8,g9⟩:=Ya w3 hpos;have hCl:ys.length*sz≤C.size:=by rw[g4];exact Nat.mul_le_mul_right _ g5
  have hfl:=UB g6;have hget:∀(k:Nat) v,(C.toList.take (ys.length*sz))[k]? =some v→k<(flat ys).length∧C[k]? =some v:=by
   intro k v hk;rw[List.getElem?_take]at hk;split at hk
   ·exact⟨oM,by simpa using hk⟩
   ·cases hk
  have h1:∀v∈C.toList.take (ys.length*sz),v.oneCell'=true:=by
   intro v hv;obtain⟨k,hk⟩:=List.getElem?_of_mem hv;exact g8 k v (hget k v hk).1 (hget k v hk).2
  refine⟨C.toList.take (ys.length*sz),Fs,hbd,g6,g7,sO,h1,fun k c v F q1 q2 q3=>g9 k c v F q1 (hget k v q2).2 q3,?_,(List.nodup_cons.1 (g2▸w4)).2,?_,?_⟩
  ·rw[g1];exact Src.ofSlice w hu' ⟨b,0,none⟩ _ cap _ sO (fun k v hk=>by
    rw[Addr.add_lit];simp only[World.cell?,g3];simpa using(hget k v hk).2) h1
  ·intro b' hb';exact⟨j,List.mem_singleton.2 rfl,oj,w1,w2,by show b'∈(β j).all;rw[g2];exact Vn _ hb'⟩
  ·intro j' hj';rw[List.mem_singleton.1 hj'];exact⟨hjd,oj,w1,w2⟩
 have hxv:=JD hx e1 ht;unfold JGU at hs;split at hs
 ·rename_i jj hh;split at hs
  ·rename_i q j sz' ys ho';split at hs
   ·rename_i sz0;split at hs
    ·rename_i hd;cases hs;obtain⟨hq,rfl,_,hpos⟩:=hC;obtain⟨oj,w1,_⟩:=ZK hc (JD hy e2 ht) ho' hq;have hjd:j≠d:=fun ee=>by subst ee;rw[hd]at w1;cases w1
     obtain⟨news,Fj,hybd,S⟩:=row ho' hq hpos hjd;have hr:=hxv.JU;generalize hue:a.eval x=ux at*;cases hr with
     |nil _ ad=>
      have:=K.JLo hc S hue (xs0:=[]) (olds:=[]) (F0:=[]) (ver':=0) (s':=0) rfl sP sP sP (by simp[flat]) sP sP sP (YN sz' ad 0) oM oM (.inl hd);simpa using this
    ·cases hs
   ·rename_i i' h;split at hs
    ·rename_i vi si szi xs ek ep hi';split at hs
     ·cases hs
     ·rename_i hij;cases hs;obtain⟨hq,rfl,rfl,hver,hpos,hbnd⟩:=hC;obtain⟨news,Fj,hybd,S⟩:=row ho' hq hpos (Ne.symm hij);have:=K.JSH hc S hi' ek ep hver hxv hpos hbnd;simpa using this
    ·cases hs
   ·cases hs
  ·cases hs
 ·cases hs
theorem JNF{argTypes:Array TypeId}{x y:Operand}{t t' e e':TypeId}{sz:Nat}{i:TypeInfo}(hc:Core β A w H)(ht:UD β A w H τ a)
  (ho:o.op=.call {callee:=.builtin .append,args,argTypes})(ha:args.toList=[x,y])(hat:argTypes.toList=[t,t'])(hu:P.underlying t=some (.slice e))(hu':P.underlying t'=some (.slice e'))
  (hx:opd P t x=some x')(hy:opd P t' y=some y')(hsz:szT P e=some sz)(hz:zsT P e=some zs)(hi:P.info? e=some i)(h0:0<sz)(hby:i.bytes≤1024)
  (hs:step τ H d (.app sz x' y')=some r)(hC:r.c):JY P a.eval o w β A H r.v r.ups:=by
 obtain⟨z,K⟩:=AppOk.of (P:=P) (o:=o) (a:=a) (w:=w) ho ha hat hu hu' hsz hz hi h0 hby;have grow:=K.grow hc;have room:=K.room hc;have zero:=K.zero hc;have YN:=YN (P:=P) (w:=w) sz;simp only[step]at hs;split at hs
 case h_2=>cases hs
 rename_i u v e1 e2;have hxv:=JD hx e1 ht;cases el:UG H v with
 |none=>
  simp only[el]at hs;exact JLw hc ht ho ha hat hu hu' hx hy hsz hz hi h0 hby e1 e2 hs hC
 |some q=>
  obtain⟨sz',ys⟩:=q;simp only[el]at hs;split at hs
  ·
   rename_i sz0;split at hs
   ·rename_i hd;split at hs
    case h_2=>
     cases hs;obtain⟨hcur,rfl,hp,hpos,hb,hall⟩:=hC;obtain⟨news,sv⟩:=Uo hc el hcur (JD hy e2 ht);have hr:=hxv.JU;generalize hue:a.eval x=ux at*;cases hr with
     |nil _ ad=>
      have:=K.JLo hc (sv.tsrc hu' d) hue (xs0:=[]) (olds:=[]) (F0:=[]) (ver':=0) (s':=0) rfl sP sP sP (by simp[flat]) sP sP sP (YN ad 0) oM oM (.inl hd);simpa using this
    cases hs;obtain⟨hcur,rfl,hp,hb,hall⟩:=hC;obtain⟨news,sv⟩:=Uo hc el hcur (JD hy e2 ht);have hr:=hxv.JU;generalize hue:a.eval x=ux at*;cases hr with
    |nil _ ad=>
     by_cases hys:ys=[]
     ·subst hys;exact zero ad d 0 news rfl sv (.inl hd)
     ·have hpos:0<ys.length:=List.length_pos_iff.2 hys;have:=grow ad 0 0 [] ys [] news d 0 rfl sv rfl sP sP sP sP (YN ad 0) oM oM (.inl hd);simpa using this
   ·cases hs
  ·
   rename_i sz1 xs;split at hs
   ·rename_i hd;cases hs;obtain⟨hcur,rfl,rfl,hpos,hb⟩:=hC;obtain⟨news,sv⟩:=Uo hc el hcur (JD hy e2 ht);cases hxv with
    |ful _ _ u hr hn=>
     obtain⟨ad,n,hue⟩:=hn;rw[hue]at hr;cases hr with
     |emp _ _=>
      have:=grow ad 0 0 [] ys [] news d 0 hue sv rfl sP sP sP sP (YN ad 0) oM oM (.inl hd);simpa using this
     |list _ _ b o _ _ vs hn' hA hl hc' h1 hsz hh hvl hvv=>
      have hlen:vs.length=n*sz1:=by rw[←hvl,JT hsz,hn']
      refine grow _ n n xs ys vs news d 0 hue sv hn' hsz hlen h1 hvv ?_ oM oM (.inl hd);refine run_firstCells_some w.drew sz1 n ⟨b,o,none⟩ _ n vs oM ?_;intro k v hk;rw[Addr.add_lit];change w.cell? _=_;exact hh k v hk
   ·cases hs
  ·
   rename_i i' h;unfold JJQ at hs;split at hs
   ·rename_i vi si szi xs ek hi';split at hs
    ·rename_i ep;cases hs;obtain⟨hcur,rfl,rfl,hver,hpos,hbnd,hall⟩:=hC;obtain⟨news,sv⟩:=Uo hc el hcur (JD hy e2 ht);have:=K.JSH hc (sv.tsrc hu' i') hi' ek ep hver hxv hpos hbnd;simpa using this
    ·split at hs
     ·rename_i p k c sz2 zs2 hin hd;cases hs;obtain⟨hcur,rfl,rfl,hver,hsv,hpos,hbnd,hall,hda⟩:=hC;obtain⟨news,sv⟩:=Uo hc el hcur (JD hy e2 ht);obtain⟨_,hnq⟩:=JHh hin;obtain⟨u2,o1,o2,o3,o4⟩:=hc.objs _ _ hi';obtain⟨_,_,_,n2,_,_⟩:=o1.node hnq;obtain⟨_,_,_,hzb,hzs⟩:=JAa n2;obtain⟨β',s1,hv1⟩:=Stp.detach hc hi' ek hver hsv hxv hin hda hd h0 hzs hzb;obtain⟨u,β2,A2,w2,hr,st2,v2⟩:=K.whole s1.core sv (JB _ _ _) hv1 hbnd;have he:JA (upd (upd H i' (some (.tre vi (si+1) szi (JDb (setAt (.own szi xs) p k c .opq))))) d (some (.row 0 sz2 zs2))) [(d,.row (0+1) sz2 (zs2++ys))]=
        JA H [(i',.tre vi (si+1) szi (JDb (setAt (.own szi xs) p k c .opq))),(d,.row 1 sz2 (zs2++ys))]:=by
       funext t;simp only[JA,upd];split<;>rfl
      rw[he]at st2 v2;exact⟨u,β2,A2,w2,hr,s1.trans st2,v2⟩
     ·cases hs
   ·cases hs
  ·
   rename_i j ver;split at hs
   ·rename_i v' sz'' xs hrow;cases hs;obtain⟨hcur,rfl,rfl,rfl,hb⟩:=hC;obtain⟨news,sv⟩:=Uo hc el hcur (JD hy e2 ht);exact K.whole hc sv hrow hxv hb
   ·cases hs
  ·
   rename_i j ver n;split at hs
   ·rename_i v' sz'' xs hrow;cases hs;obtain⟨hcur,rfl,rfl,rfl,hb,hpos⟩:=hC;obtain⟨news,sv⟩:=Uo hc el hcur (JD hy e2 ht);obtain⟨_,hszs,_,hblk⟩:=hc.objs j _ hrow;have hszt:∀q∈xs.take n,q.cells.length=sz'':=fun q hq=>hszs q (List.mem_of_mem_take hq)
    cases hxv with
    |sub _ _ _ _ _ hu1 _ q1 q2=>
     obtain⟨p1,p2⟩:=(q1 _ _ _ hrow).2 rfl;have hnl:n=(xs.take n).length:=sO;rcases p2 with⟨r1,r2,r3,ad,r4⟩|⟨b,C,T,fz,cap,ad,r1,r2,r3,r4,r5,r6⟩
     ·subst r3;have:=grow ad 0 0 [] ys [] news j (ver+1) r4 sv rfl sP sP sP sP (YN ad 0) oM oM (.inr ⟨_,_,_,hrow,Nat.lt_succ_self _⟩);simpa using this
     ·rcases hblk with⟨s1,_⟩|⟨b',C',T',cap',s1,s2,s3,s4,s5,s6⟩
      ·rw[s1]at r1;cases r1
      ·rw[s1]at r1;cases r1;rw[s2]at r2;cases r2;have hcc:cap'=cap:=Nat.eq_of_mul_eq_mul_right h0 (by rw[←s3,r3]);subst hcc;rw[Nat.zero_add]at r4 p1;by_cases hc0:cap'=0
       ·subst hc0;have hn0:n=0:=oM;subst hn0;have:=grow (some ad) 0 0 [] ys [] news j (ver+1) r6 sv rfl sP sP sP sP (YN _ 0) oM oM (.inr ⟨_,_,_,hrow,Nat.lt_succ_self _⟩);simpa using this
       ·have had:=r5 oM;rw[Nat.zero_mul]at had;subst had;rw[Nat.sub_zero]at r6;have hfl:=JT hszt;rw[←hnl]at hfl;have hfx:=JT hszs;have hnx:n*sz''≤xs.length*sz'':=Nat.mul_le_mul_right _ p1;have hft:=JAd n hszs;by_cases hroom:n+ys.length≤cap'
        ·refine room b n cap' ver ver xs (xs.take n) ys j C T news hrow s1 s2 s3 r6 sv hnl hszt (fun k v hk hv=>s5 k v oM hv) ?_ hroom hb;intro k c v hkc hkv;rw[hft,List.getElem?_take]at hkc;split at hkc
         ·exact s6 k c v hkc hkv
         ·cases hkc
        ·have hCl:n*sz''≤C.size:=by rw[s3];exact Nat.mul_le_mul_right _ r4
         refine grow _ n cap' (xs.take n) ys (C.toList.take (n*sz'')) news j (ver+1) r6 sv hnl hszt sO ?_ ?_ ?_ oM hb (.inr ⟨_,_,_,hrow,Nat.lt_succ_self _⟩)
         ·intro v hv;obtain⟨k,hk⟩:=List.getElem?_of_mem hv;rw[List.getElem?_take]at hk;split at hk
          ·exact s5 k v oM (sX hk)
          ·cases hk
         ·intro k c v hkc hkv;rw[hft,List.getElem?_take]at hkc;rw[List.getElem?_take]at hkv;split at hkv
          ·rename_i hlt;rw[if_pos hlt]at hkc;exact s6 k c v hkc (sX hkv)
          ·cases hkv
         ·refine run_firstCells_some w.drew sz'' n ⟨b,0,none⟩ _ cap' (C.toList.take (n*sz'')) sO ?_;intro k v hk;rw[List.getElem?_take]at hk;split at hk
          ·rw[Addr.add_lit];change w.cell? _=_;simp only[World.cell?,s2];simpa using hk
          ·cases hk
   ·cases hs
  ·cases hs
theorem JNG{t e:TypeId}{x y:Operand}{sz:Nat}{i:TypeInfo}{ag:Bool}{ti:TypeId}(hc:Core β A w H)(ht:UD β A w H τ a)(ho:o.op=.makeSlice t x y)(hu:P.underlying t=some (.slice e))
  (hx:opd P ti x=some x')(hy:opd P ti y=some y')(hsz:szT P e=some sz)(hz:zsT P e=some zs)(hi:P.info? e=some i)(hag:agT P e=some ag)(hone:ag=true→sz≠1)(h0:0<sz)(hby:i.bytes≤1024)
  (hs:step τ H d (.mks sz zs x' y')=some r)(hC:r.c):JY P a.eval o w β A H r.v r.ups:=by
 obtain⟨i2,z,z1,z2,z3,z4,z5,z6⟩:=JGY hz;rw[hi]at z1;cases z1;have his:i.size=sz:=by simpa[szT,hi]using hsz
 have hzl:zs.length=sz:=by rw[z3,his]
 simp only[step]at hs;split at hs
 case h_2=>cases hs
 rename_i k1 l k2 c hd e1 e2;cases hs;obtain⟨c1,c2,c3⟩:=hC;have hx1:=(JD hx e1 ht).JU;have hy1:=(JD hy e2 ht).JU;have hxe:a.eval x=.int k1 l:=by generalize a.eval x=u at hx1;cases hx1;rfl
 have hye:a.eval y=.int k2 c:=by generalize a.eval y=u at hy1;cases hy1;rfl
 have hr:=run_make (P:=P) w t e i z hu hi z2 k1 k2 l c c1 c2 (by
  have h1:(i.bytes:Int)*c≤1024*c:=Int.mul_le_mul_of_nonneg_right oM oM
  omega) oM
 have hzc:z.cells.size=sz:=by rw[←z4,hzl]
 rw[his]at hr;have hel:(if zs.length=1 then zs.headD .opq else Dat.agg zs).cells=zs:=by
  by_cases h1:zs.length=1
  ·rw[if_pos h1]
   match zs,h1 with
   |[q],_=>
    have hq:=z6 A w 0 q (z.cells[0]'(by rw[hzc,←hzl];simp)) rfl sP;have hq1:=z5 (z.cells[0]'(by rw[hzc,←hzl];simp)) sP;generalize z.cells[0]'(by rw[hzc,←hzl];simp)=vv at hq hq1;cases q<;>first|rfl|(exfalso;cases hq;cases hq1)
  ·rw[if_neg h1];rfl
 generalize hE:(if zs.length=1 then zs.headD .opq else Dat.agg zs)=E at hel;have hall:∀q∈List.replicate l.toNat E,q.cells.length=sz:=by
  intro q hq;rw[(List.mem_replicate.1 hq).2,hel,hzl]
 have hflat:∀(n k:Nat) c,(flat (List.replicate n E))[k]? =some c→k<n*sz∧zs[k%sz]? =some c:=by
  intro n
  induction n with
  |zero=>intro k c h;simp[flat]at h
  |succ n ih=>
   intro k c h;rw[List.replicate_succ,XY,hel]at h;rw[Nat.succ_mul];by_cases hk:k<zs.length
   ·rw[Vz hk]at h;rw[Nat.mod_eq_of_lt oM];exact⟨oM,h⟩
   ·rw[Vy oM]at h;obtain⟨g1,g2⟩:=ih _ c h;rw[hzl]at g1 g2 hk;refine⟨oM,?_⟩;rwa[Nat.mod_eq_sub_mod oM]
 have hfl:=JT hall;rw[List.length_replicate]at hfl;have hlc:l.toNat≤c.toNat:=oM;have hlcs:l.toNat*sz≤c.toNat*sz:=Nat.mul_le_mul_right _ hlc;have hget:∀(k:Nat) v,k<l.toNat*sz→(madeCells z.cells (c.toNat*sz))[k]? =some v→z.cells[k%sz]? =some v:=by
  intro k v hk hv;have hks:k<c.toNat*sz:=oM;have hm:k%sz<z.cells.size:=by rw[hzc];exact Nat.mod_lt _ h0
  simp only[madeCells,Array.getElem?_map,Array.getElem?_range,hks,if_true,Vj,Vd,hzc]at hv;rw[←hv,getElem!_pos z.cells (k%sz) hm];simp[hm]
 refine⟨.slice (some ⟨w.heap.size,0,none⟩) l.toNat c.toNat,_,A,w.alloc (.cells (madeCells z.cells (c.toNat*sz)) e),.inl (by simp[execOp,ho,hxe,hye,hr]),Stp.alloc hc hd _ _ (fun _=>?_),?_⟩
 ·refine⟨h0,hall,sO,.inr ⟨w.heap.size,_,e,c.toNat,JB _ _ _,US _ _,size_madeCells _ _,sO,?_,?_⟩⟩
  ·intro k v hk hv;have h:=hget k v oM hv;rw[←Array.getElem?_toList]at h;exact z5 v (List.mem_of_getElem? h)
  ·intro k q v hq hv;obtain⟨g1,g2⟩:=hflat _ _ _ hq;exact z6 A _ _ _ _ g2 (hget k v g1 hv)
 ·refine .ms _ _ _ rfl (by simp[JA,upd]) ?_ (by simp[JA,upd]);intro v3 sz3 xs3 h3;simp only[JA,upd,if_true,Vd,Obj.row.injEq]at h3;obtain⟨rfl,rfl,rfl⟩:=h3;exact⟨Nat.le_refl _,fun _=>.inr ⟨w.heap.size,_,e,(0,0),c.toNat,JB _ _ _,US _ _,size_madeCells _ _,sO,sP⟩⟩
end
end Av
namespace Av
open Go
variable [Glb][Rls]
variable {x:Operand}{x':Opd}{r:Res}{d:Nat}
theorem JLx(k:IntKind):k.min≤0∧0≤k.max:=by cases k<;>decide
theorem JSZ(k:IntKind)(n:Int)(d:Nat)(h:k.min≤n∧n≤k.max):k.min≤n.fdiv (2^d)∧n.fdiv (2^d)≤k.max:=by
 obtain⟨z1,z2⟩:=JLx k;have hd:(0:Int)<2^d:=Int.pow_pos dC;rw[Int.fdiv_eq_ediv_of_nonneg _ (Int.le_of_lt hd)];by_cases hn:0≤n
 ·have h1:0≤n/2^d:=Int.ediv_nonneg hn (Int.le_of_lt hd);have h2:n/2^d≤n:=Int.ediv_le_self _ hn;omega
 ·have h1:n≤n/2^d:=by
   rw[Int.le_ediv_iff_mul_le hd];have:n*2^d≤n*1:=Int.mul_le_mul_of_nonpos_left oM oM;omega
  have h2:n/2^d<0:=Int.ediv_neg_of_neg_of_pos oM hd;omega
section
variable {P:Program}{β:JM}{A:Nat→Prop}{w:World}{H:Heap}{τ:UX}{a:Act}{o:Oper}
theorem JSa{op:BinOp}{t:TypeId}{k k':IntKind}{m n q:Int}{p:Prop}(hop:JKT op=true)(h:JSQ op k m k' n=some (p,q))(hp:p)(hm:k.min≤m∧m≤k.max)(w:World):
  (binOp op t (.int k m) (.int k' n)).run P w=.ok (.int k q) w∧k.min≤q∧q≤k.max:=by
 cases op<;>simp only[JKT]at hop<;>first|cases hop|skip
 all_goals simp only[JSQ]at h
 all_goals first
  |(split at h
    ·rename_i e;subst e;simp only[Vd,Ve]at h;obtain⟨_,rfl⟩:=h;refine⟨?_,JAb _ _⟩;simp[binOp,Op.intBits]
    ·cases h)
  |(simp only[Vd,Ve]at h
    obtain⟨rfl,rfl⟩:=h;have hn:¬n<0:=oM
    first
    |(refine⟨?_,JAb _ _⟩;simp[binOp,Op.shift,hn];done)
    |(refine⟨?_,JSZ _ _ _ hm⟩;simp[binOp,Op.shift,hn];done))
theorem JNH{op:BinOp}{t t':TypeId}{y:Operand}{y':Opd}(hc:Core β A w H)(ht:UD β A w H τ a)(ho:o.op=.binOp op t x y t')(hop:JKT op=true)
  (hx:opd P t x=some x')(hy:opd P t y=some y')(hs:step τ H (o.dst.getD 0) (.bit op x' y')=some r)(hC:r.c):JY P a.eval o w β A H r.v r.ups:=by
 simp only[step]at hs;split at hs
 ·rename_i k m k' n ex ey;split at hs
  ·rename_i p q e;cases hs;have vx:=(JD hx ex ht).JU;have vy:=(JD hy ey ht).JU;generalize hu:a.eval x=u at*;generalize hv:a.eval y=v at*;cases vx with
   |int _ _ hm=>
    cases vy;obtain⟨h1,h2⟩:=JSa (P:=P) (t:=t) hop e hC hm w;refine JY.pure hc (u:=.int k q) ?_ (.d _ _ (.int _ _ h2));simp[execOp,ho,hu,hv,Sem.run_bind,XB,h1]
  ·cases hs
 ·cases hs
theorem JBI:∀l:List UInt8,flat (l.map fun b=>Dat.int .u8 b.toNat)=l.map fun b=>Dat.int .u8 b.toNat
 |[]=>rfl
 |c::l=>by
  have:=JBI l;simp only[flat]at this;simp only[Va,flat,List.flatMap_cons,this,Dat.cells,List.cons_append,List.nil_append]
theorem JJX(n:Int):(Utf8.encode n).data.toList.length≤4:=by
 unfold Utf8.encode;generalize(if Utf8.valid n=true then n.toNat else Utf8.runeError)=c;dsimp only;split
 ·simp
 ·split
  ·simp
  ·split<;>simp
theorem JNI{s t:TypeId}{k:IntKind}(hc:Core β A w H)(ht:UD β A w H τ a)(ho:o.op=.convert s t x)(h1:P.underlying s=some (.int k))(h2:P.underlying t=some .string)
  (hx:opd P s x=some x')(hs:step τ H (o.dst.getD 0) (.i2s x')=some r):JY P a.eval o w β A H r.v r.ups:=by
 simp only[step]at hs;split at hs
 ·rename_i k' n ex;cases hs;have vx:=(JD hx ex ht).JU;generalize hu:a.eval x=u at*;cases vx;have hrun:=run_convert_int_string (P:=P) w s t k' n (by rw[h1];rfl) h2;refine JY.pure hc (u:=.string (Utf8.encode n)) (by simp[execOp,ho,hu,Sem.run_bind,hrun]) (.d _ _ ?_);have:Rep A w (.str (Utf8.encode n).data.toList) (.string ⟨(Utf8.encode n).data.toList.toArray⟩):=.str _ (by have:=JJX n;omega);simpa using this
 ·cases hs
theorem JNJ{s t e:TypeId}(hc:Core β A w H)(ht:UD β A w H τ a)(ho:o.op=.convert s t x)(h1:P.underlying s=some .string)(h2:P.underlying t=some (.slice e))
  (h3:P.underlying e=some (.int .u8))(hx:opd P s x=some x')(hs:step τ H (o.dst.getD 0) (.s2b x')=some r):JY P a.eval o w β A H r.v r.ups:=by
 simp only[step]at hs;split at hs
 ·rename_i l ex;cases hs;have vx:=(JD hx ex ht).JU;generalize hu:a.eval x=u at*;cases vx with
  |str _ hl=>
   have hrun:=Go.Lib.run_convert_string_bytes (P:=P) w s t e ⟨l.toArray⟩ h1 h2 h3;have hold:=Go.Lib.bytesWorld_at_old w e ⟨l.toArray⟩;have hsz:=Go.Lib.bytesWorld_size w e ⟨l.toArray⟩;have hst:Stp β A w H β (fun b=>A b∨b=w.heap.size) (Go.Lib.bytesWorld w e ⟨l.toArray⟩) H:=
    Stp.new hc rfl rfl rfl (by rw[hsz];omega) (fun b hb=>hold b hb) (fun _ h=>.inl h) (fun b h=>by rcases h with h|h;exact .inl h;exact .inr oM)
     (fun b h=>by rw[hsz];rcases h with h|h;(have:=hc.old b h;omega);omega)
   refine⟨.slice (some ⟨w.heap.size,0,none⟩) (⟨l.toArray⟩:ByteArray).size (grownCap w (⟨l.toArray⟩:ByteArray).size 0 e),β,_,Go.Lib.bytesWorld w e ⟨l.toArray⟩,.inl (by simp[execOp,ho,hu,Sem.run_bind,hrun]),hst,.d _ _ ?_⟩;cases l with
   |nil=>exact .emp _ _ _
   |cons c l=>
    have hsize:(⟨(c::l).toArray⟩:ByteArray).size=(c::l).length:=by simp[ByteArray.size]
    rw[hsize];refine .list 1 _ w.heap.size 0 _ _ ((c::l).map fun b=>Value.int .u8 b.toNat) sP (.inr rfl) ?_ (sX hl) ?_ ?_ ?_ ?_ ?_
    ·have:=grownCap_ge w (⟨(c::l).toArray⟩:ByteArray).size 0 e;rw[hsize]at this;simpa using this
    ·intro v hv;obtain⟨b,_,rfl⟩:=VC.1 hv;rfl
    ·intro x hx;obtain⟨b,_,rfl⟩:=VC.1 hx;rfl
    ·intro i v hi;rw[Vo]at hi;cases hb:(c::l)[i]? with
     |none=>simp[hb]at hi
     |some b=>
      simp only[hb,Vj,Vd]at hi;subst hi;have hlt:i<(c::l).length:=(VB.1 hb).1;have:=Go.Lib.bytesWorld_cell w e ⟨(c::l).toArray⟩ i (by rw[hsize];exact hlt);rw[Nat.zero_add,this];simp only[List.getD_eq_getElem?_getD,hb,Vp]
    ·rw[JBI];simp
    ·intro i c' v h1 h2;rw[JBI,Vo]at h1;rw[Vo]at h2;cases hb:(c::l)[i]? with
     |none=>simp[hb]at h1
     |some b=>
      simp only[hb,Vj,Vd]at h1 h2;subst h1 h2;refine .int _ _ ?_;have:=b.toNat_lt;simp only[IntKind.min,IntKind.max,IntKind.signed,IntKind.bits];simp;omega
 ·cases hs
theorem JJY{xs:List Dat}{s:List UInt8}(h:bytesOf xs=some s):∃ns:List Int,xs=ns.map (Dat.int .u8)∧s=ns.map fun n=>UInt8.ofNat n.toNat:=by
 induction xs generalizing s with
 |nil=>simp only[bytesOf,Vd]at h;subst h;exact⟨[],rfl,rfl⟩
 |cons x r ih=>
  unfold bytesOf at h;split at h
  ·rename_i heq;cases heq
  ·rename_i n r' heq;cases heq;split at h
   ·rename_i s' hs';cases h;obtain⟨ns,e1,e2⟩:=ih hs';exact⟨n::ns,by rw[e1];rfl,by rw[e2];rfl⟩
   ·cases h
  ·cases h
theorem fold_push(ns:List Int):∀(acc:ByteArray),(ns.foldl (fun(r:ByteArray) n=>r.push (UInt8.ofNat n.toNat)) acc).data.toList=acc.data.toList++ns.map fun n=>UInt8.ofNat n.toNat:=by
 induction ns with
 |nil=>intro acc;simp
 |cons n ns ih=>intro acc;rw[List.foldl_cons,ih];simp[ByteArray.push]
theorem JNK{s t e:TypeId}(hc:Core β A w H)(ht:UD β A w H τ a)(ho:o.op=.convert s t x)(h1:P.underlying s=some (.slice e))(h2:P.underlying t=some .string)
  (h3:P.underlying e=some (.int .u8))(hx:opd P s x=some x')(hs:step τ H (o.dst.getD 0) (.b2s x')=some r)(hC:r.c):JY P a.eval o w β A H r.v r.ups:=by
 simp only[step]at hs;split at hs
 ·rename_i v e;cases e2:UG H v with
  |none=>simp[e2]at hs
  |some p=>
   obtain⟨sz,xs⟩:=p;simp only[e2]at hs;split at hs
   ·rename_i l hl;cases hs;obtain⟨ns,rfl,rfl⟩:=JJY hl;obtain⟨vs,sv⟩:=Uo hc e2 hC.1 (JD hx e ht);have hflat:∀ns:List Int,flat (ns.map (Dat.int .u8))=ns.map (Dat.int .u8):=by
     intro ns
     induction ns with
     |nil=>rfl
     |cons n ns ih=>simp only[Va,XY,ih,Dat.cells];rfl
    have hvs:vs=ns.map (Value.int .u8):=by
     apply List.ext_getElem?;intro i;have hlen:=sv.len;rw[hflat]at hlen;by_cases hi:i<ns.length
     ·have hiv:i<vs.length:=by simp at hlen;omega
      have:=sv.rep i (.int .u8 ns[i]) vs[i] (by rw[hflat];simp[hi]) (by simp[hiv]);simp only[Vo,Vl hi,Vl hiv,Vj];generalize vs[i]=z at this;cases this;rfl
     ·rw[List.getElem?_eq_none (by simp at hlen;omega),List.getElem?_eq_none sO]
    obtain⟨ad,cap,hu,hcap,hh⟩:=sv.ex;have hstr:Rep A w (.str (ns.map fun n=>UInt8.ofNat n.toNat)) (.string (ns.foldl (fun(r:ByteArray) n=>r.push (UInt8.ofNat n.toNat)) ByteArray.empty)):=by
     have he:(ns.foldl (fun(r:ByteArray) n=>r.push (UInt8.ofNat n.toNat)) ByteArray.empty)=⟨(ns.map fun n=>UInt8.ofNat n.toNat).toArray⟩:=by
      apply ByteArray.ext;apply Array.ext';rw[fold_push];simp
     rw[he];exact .str _ (sX hC.2)
    refine JY.pure hc (u:=.string (ns.foldl (fun(r:ByteArray) n=>r.push (UInt8.ofNat n.toNat)) ByteArray.empty)) ?_ (.d _ _ hstr);have hconv:(convert s t (a.eval x)).run P w=.ok (.string (ns.foldl (fun(r:ByteArray) n=>r.push (UInt8.ofNat n.toNat)) ByteArray.empty)) w:=by
     rw[hu,run_convert_bytes_string w s t _ ad _ _ h1 h3 h2];cases ad with
     |none=>
      cases ns with
      |nil=>simp[Conv.bytesToString,Sem.run_pure]
      |cons n ns=>obtain⟨b,o,q,_⟩:=hh sP;cases q
     |some ad=>
      refine run_bytesToString w ad _ cap ns ?_;rw[←hvs];cases ns with
      |nil=>
       subst hvs;have:=run_loadCells_list (P:=P) w ad [] sP;simpa using this
      |cons n ns=>
       obtain⟨b,o,q,hhold⟩:=hh sP;cases q;have:=run_loadCells_list (P:=P) w ⟨b,o,none⟩ vs (fun j v hj=>by rw[Addr.add_lit];exact hhold j v hj);have hlen:vs.length=(List.map (Dat.int .u8) (n::ns)).length:=by rw[hvs];simp
       rw[hlen]at this;exact this
    simp only[execOp,ho,Sem.run_bind,hconv,Result.andThen_ok,Sem.run_pure]
   ·cases hs
 ·cases hs
theorem JNL{t:TypeId}(hc:Core β A w H)(ho:o.op=.makeMap t none)(hs:step τ H d .mkm=some r):JY P a.eval o w β A H r.v r.ups:=by
 simp only[step]at hs;split at hs
 ·rename_i hn;cases hs;refine⟨.map (some w.heap.size),_,A,w.alloc (.map #[] 0),.inl ?_,Stp.alloc hc hn _ _ fun hv=>?_,?_⟩
  ·simp[execOp,ho,Instr.makeMap,Sem.run_bind]
  ·exact⟨w.heap.size,#[],0,JB _ _ _,US _ _,rfl,sP,sP,rfl⟩
  ·exact .mp _ _ rfl (by simp[JA,upd]) (fun es _=>⟨_,JB _ _ _,rfl⟩) (by simp[JA,upd]) (by simp[JA,upd])
 ·cases hs
theorem JNM{t:TypeId}(hc:Core β A w H)(ht:UD β A w H τ a)(ho:o.op=.range t x)(hu:P.underlying t=some .string)(hx:opd P t x=some x')(hs:step τ H d (.rgs x')=some r):
  JY P a.eval o w β A H r.v r.ups:=by
 simp only[step]at hs;split at hs
 ·rename_i s hn ev;cases hs;have vx:=(JD hx ev ht).JU;generalize hue:a.eval x=u at*;cases vx with
  |str _ hl=>
   refine⟨.pointer (some ⟨w.heap.size,0,none⟩),_,A,w.alloc (.stringIter ⟨s.toArray⟩ 0),.inl ?_,Stp.alloc hc hn _ _ fun hv=>?_,?_⟩
   ·have:=run_range_string (P:=P) w t ⟨s.toArray⟩ hu;simp only[execOp,ho,hue,Sem.run_bind,this,Result.andThen_ok,Sem.run_pure,World.iter]
   ·exact⟨w.heap.size,JB _ _ _,US _ _,hl⟩
   ·exact .mp _ _ rfl (by simp[JA,upd]) (by simp[JA,upd]) (by simp[JA,upd]) (fun _ _ _=>⟨_,JB _ _ _,rfl⟩)
 ·cases hs
theorem Stp.hset(hc:Core β A w H){i b:Nat}{o1 o':Obj}{g':Go.Obj}(hi:H i=some o1)(hl:o1.live=true)(hb:β i=some b)(hlt:b<w.heap.size)(hlp:∀l,o1≠ .lp l)
  (hv:∀c u,((∃off,c=.ref i off)∨(∃ver,c=.ms i ver)∨(∃ver off len,c=.sub i ver off len)∨(∃ver k off,c=.el i ver k off)∨c=.mp i)→VRep β A w H c u→VRep β A (w.putObj b g') (upd H i (some o')) c u)
  (hobj:(∀c u,VRep β A w H c u→VRep β A (w.putObj b g') (upd H i (some o')) c u)→JBC β A (w.putObj b g') (upd H i (some o')) i o')
  (hn1:∀a b c d,o1≠ .tre a b c d:=by intros;nofun)(hn2:∀a b c d,o'≠ .tre a b c d:=by intros;nofun):Stp β A w H β A (w.putObj b g') (upd H i (some o')):=by
 have hβ:upd β i (some b)=β:=Yi _ _ _ hb;have:=Stp.one (w':=w.putObj b g') (A':=A) hc i o' (some b) rfl rfl rfl sP (fun b' _ hn=>World.putObj_heap_other (fun e=>hn _ hi hl (by rw[hb,e])))
  (fun _ h=>h) (fun _ h=>.inl h) (fun b hb=>by simpa using hc.old b hb) (fun b' e _=>by cases e;exact⟨.inr ⟨_,hi,hl,hb⟩,hc.JSF _ _ _ hi hl hb⟩)
  (fun c u hcase hvr=>by rw[hβ];exact hv c u hcase hvr) (fun hall=>by rw[hβ]at hall⊢;exact hobj hall)
  (fun l h=>by rw[hi]at h;cases h;exact(hlp l rfl).elim) (hnt:=fun a b c d h=>hn1 a b c d (Option.some.inj (hi.symm.trans h))) (hnt':=hn2)
 rwa[hβ]at this
theorem JNN(hc:Core β A w H)(ht:UD β A w H τ a)(ho:o.op=.next x true)(hx:opd P 0 x=some x')(hs:step τ H d (.nxs x')=some r):
  JY P a.eval o w β A H r.v r.ups:=by
 simp only[step]at hs;split at hs
 ·rename_i i ev;split at hs
  ·rename_i s p hsit;obtain⟨b,hb,hh,hl⟩:=hc.objs i _ hsit;have hv:=JD hx ev ht;have hu:a.eval x=.pointer (some ⟨b,0,none⟩):=by
    cases hv with
    |mp _ _ _ _ _ _ h3=>
     obtain⟨b',q1,q2⟩:=h3 _ _ hsit;rw[hb]at q1;cases q1;exact q2
   have hlt:b<w.heap.size:=(Array.getElem?_eq_some_iff.1 hh).1;have hsize:(⟨s.toArray⟩:ByteArray).size=s.length:=by simp[ByteArray.size]
   split at hs
   ·rename_i hp;cases hs;have hrun:=Go.Lib.run_next_any_at (P:=P) w b ⟨s.toArray⟩ p o.type hh (by rw[hsize];exact hp);have hw:w.iterAt b ⟨s.toArray⟩ (p+(Utf8.decode ⟨s.toArray⟩ p).2)=w.putObj b (.stringIter ⟨s.toArray⟩ (p+(Utf8.decode ⟨s.toArray⟩ p).2)):=rfl;rw[hw]at hrun;refine⟨.tuple #[.bool true,.int .i64 p,.int .i32 (Utf8.decode ⟨s.toArray⟩ p).1],β,A,w.putObj b (.stringIter ⟨s.toArray⟩ (p+(Utf8.decode ⟨s.toArray⟩ p).2)),.inl (by simp[execOp,ho,hu,Sem.run_bind,hrun]),Stp.hset hc hsit rfl hb hlt sP ?_ ?_,?_⟩
    ·intro c u hcase hvr;rcases hcase with⟨off,rfl⟩|⟨ver,rfl⟩|⟨ver,off,len,rfl⟩|⟨ver,k,off,rfl⟩|rfl
     ·cases hvr with|ref _ _ b p _ hu h0 h1 h2=>exact .ref _ _ b p _ hu sU sU sU
     ·cases hvr with|ms _ _ _ hu h0 h1 h2=>exact .ms _ _ _ hu sU sU sU
     ·cases hvr with|sub _ _ _ _ _ hu h0 h1 h2=>exact .sub _ _ _ _ _ hu sU sU sU
     ·cases hvr with|el _ _ _ _ b p _ hu h0 h1=>exact .el _ _ _ _ b p _ hu sU sU
     ·cases hvr with|mp _ _ hu h0 h1 h2 h3=>exact .mp _ _ hu sU sU sU (fun _ _ _=>h3 _ _ hsit)
    ·intro _;exact⟨b,hb,World.putObj_heap_same hlt,hl⟩
    ·refine .tup _ _ rfl ?_;intro j c v h1 h2;have hdec:=decode_le ⟨s.toArray⟩ p
     match j,h1,h2 with
     |0,h1,h2=>cases h1;cases h2;exact .d _ _ (.bool _)
     |1,h1,h2=>cases h1;cases h2;exact .d _ _ (.int _ _ (by simp[IntKind.min,IntKind.max,IntKind.signed,IntKind.bits];omega))
     |2,h1,h2=>cases h1;cases h2;exact .d _ _ (.int _ _ (by simp[IntKind.min,IntKind.max,IntKind.signed,IntKind.bits];omega))
     |j+3,h1,h2=>simp at h1
   ·rename_i hp;cases hs;have hrun:=Go.Lib.run_next_end_at (P:=P) w b ⟨s.toArray⟩ p o.type hh (by rw[hsize];exact hp);refine JY.pure (u:=.tuple #[.bool false]) hc (by simp[execOp,ho,hu,Sem.run_bind,hrun]) ?_;refine .tup _ _ rfl ?_;intro j c v h1 h2
    match j,h1,h2 with
    |0,h1,h2=>cases h1;cases h2;exact .d _ _ (.bool _)
    |j+1,h1,h2=>simp at h1
  ·cases hs
 ·cases hs
end
end Av
namespace Av
open Go
variable [Glb][Rls]
variable {c b:Ck}{x y:Dat}{u v:Value}{r:Res}{fs:Array Field}{i clk d:Nat}{es:List (Dat×Dat)}{ents:Array MapEntry}{m k:Operand}{m' x':Opd}
section
variable {P:Program}{β:JM}{A:Nat→Prop}{w:World}{H:Heap}{τ:UX}{a:Act}{o:Oper}
theorem JD5{t:TypeId}{ds:TypeDesc}{r:Bool}(hk:ckT P t=some c)(hd:P.underlying t=some ds)(h:UQ c x y=some r)(hx:Rep A w x u)(hy:Rep A w y v):
  Instr.sameNow ds u v=some r:=by
 unfold ckT at hk;rw[hd]at hk;unfold UQ at h;split at h
 ·split at h
  ·rename_i e;subst e;cases h;cases hx;cases hy;cases ds<;>simp at hk
   simp[Instr.sameNow]
  ·cases h
 ·cases h;cases hx;cases hy;cases ds<;>simp at hk
  simp[Instr.sameNow]
 ·rename_i a b;cases h;cases hx;cases hy;cases ds<;>simp at hk
  simp only[Instr.sameNow,Vd];have e:((⟨a.toArray⟩:ByteArray)==⟨b.toArray⟩)=(a.toArray==b.toArray):=rfl;rw[e];simp
 ·cases ds<;>simp at hk
 ·cases h
def XS(A:Nat→Prop)(w:World)(es:List (Dat×Dat))(ents:List MapEntry):Prop:=
 es.length=ents.length∧∀(j:Nat) (e:Dat×Dat) (m:MapEntry),es[j]? =some e→ents[j]? =some m→Rep A w e.1 m.key∧Rep A w e.2 m.val
theorem JHi{t:TypeId}{ds:TypeDesc}(hk:ckT P t=some c)(hd:P.underlying t=some ds)(hx:Rep A w x u):
  ∀(es:List (Dat×Dat)) (ents:List MapEntry) (i:Nat) (r:Option Dat),XS A w es ents→UM c es x=some r→
   match r with
   |none=>Instr.findNow ds u ents i=some none∧∀v,ZA c es x v=es++[(x,v)]
   |some y=>∃j e k0,Instr.findNow ds u ents i=some (some (i+j,e.val))∧ents[j]? =some e∧es[j]? =some (k0,y)∧UQ c x k0=some true∧∀v,ZA c es x v=es.set j (x,v)
 |[],ents,i,r,h,hf=>by
  have:ents=[]:=List.eq_nil_of_length_eq_zero h.1.symm;subst this;simp only[UM]at hf;split at hf
  ·cases hf;exact⟨rfl,fun v=>rfl⟩
  ·cases hf
 |(k,y)::es,[],i,r,h,hf=>by have:=h.1;simp at this
 |(k,y)::es,m::ents,i,r,h,hf=>by
  have h0:=h.2 0 (k,y) m rfl rfl;have hrest:XS A w es ents:=⟨by have:=h.1;simpa using this,fun j e m' h1 h2=>h.2 (j+1) e m' (sX h1) (sX h2)⟩;unfold UM at hf;split at hf
  ·rename_i he;cases hf;have:=JD5 hk hd he hx h0.1;refine⟨0,m,k,?_,rfl,rfl,he,fun v=>?_⟩
   ·simp[Instr.findNow,this]
   ·simp[ZA,he]
  ·rename_i he;have hsn:=JD5 hk hd he hx h0.1;have ih:=JHi hk hd hx es ents (i+1) r hrest hf;cases r with
   |none=>
    obtain⟨q1,q2⟩:=ih;refine⟨by simp[Instr.findNow,hsn,q1],fun v=>?_⟩;simp[ZA,he,q2]
   |some y'=>
    obtain⟨j,e,k0,q1,q2,q3,q4,q5⟩:=ih;refine⟨j+1,e,k0,?_,by simpa using q2,by simpa using q3,q4,fun v=>?_⟩
    ·simp only[Instr.findNow,hsn,q1];congr 3;omega
    ·simp[ZA,he,q5]
  ·cases hf
theorem JA2{t:TypeId}(hk:ckT P t=some c)(b:Bool)(n:Nat)(u:Value)(w:World):(Instr.checkKey b (n+1) t u).run P w=.ok () w:=by
 unfold ckT at hk;cases hd:P.underlying t with
 |none=>rw[hd]at hk;cases hk
 |some ds=>
  rw[hd]at hk;simp only[Instr.checkKey,Sem.run_bind,run_underlying hd,Result.andThen_ok];cases ds<;>simp at hk<;>rfl
theorem JGa{t:TypeId}(hk:ckT P t=some c)(b:Bool)(u:Value)(w:World):(Instr.checkKey b 10000 t u).run P w=.ok () w:=
 JA2 hk b 9999 u w
theorem JC3{t:TypeId}{ds:TypeDesc}{ents:List MapEntry}{r:Option (Nat×Value)}(hd:P.underlying t=some ds)(h:Instr.findNow ds u ents 0=some r)(w:World):
  (Instr.findKey t u ents).run P w=.ok r w:=by
 simp[Instr.findKey,Sem.run_bind,run_underlying hd,h]
theorem JSb{t:TypeId}(hk:ckT P t=some c):∃ds,P.underlying t=some ds:=by
 unfold ckT at hk;cases hd:P.underlying t with
 |none=>rw[hd]at hk;cases hk
 |some ds=>exact⟨ds,rfl⟩
theorem JBJ(n:Nat)(hp:∀a b,c≠ .p a b)(h:UQ c x y=some true)(hx:Rep A w x u)(hy:Rep A w y v):Instr.sameBits n v u=true:=by
 unfold UQ at h;split at h
 ·split at h
  ·rename_i e;subst e;simp only[Vd,beq_iff_eq]at h;subst h;cases hx;cases hy;simp[Instr.sameBits]
  ·cases h
 ·simp only[Vd,beq_iff_eq]at h;subst h;cases hx;cases hy;simp[Instr.sameBits]
 ·simp only[Vd,beq_iff_eq]at h;subst h;cases hx;cases hy;rename_i a _ _;have e:((⟨a.toArray⟩:ByteArray)==⟨a.toArray⟩)=(a.toArray==a.toArray):=rfl;simp[Instr.sameBits,e]
 ·exact absurd rfl (hp _ _)
 ·cases h
theorem Zy(b:Bool)(n:Nat)(xs:Array Value)(w:World):∀(fs:List Field) (k:Nat) (ks:List Ck),Jq P k fs=some ks→(∀i,i<ks.length→∃u,xs[k+i]? =some u)→
  (forIn fs PUnit.unit (fun(f:Field) (_:PUnit)=>if f.name≠ "_" then do
    let v ←part f.type xs f.offset
    Instr.checkKey b (n+1) f.type v
    pure (ForInStep.yield PUnit.unit)
   else pure (ForInStep.yield PUnit.unit)):Sem PUnit).run P w=.ok PUnit.unit w
 |[],k,ks,_,_=>by simp[Sem.run_pure]
 |f::fs,k,ks,hf,hx=>by
  simp only[Jq]at hf;split at hf
  ·rename_i hn;obtain⟨hn,ho⟩:=hn;cases e1:ckT P f.type with
   |none=>simp[e1]at hf
   |some kk=>
    cases e2:Jq P (k+1) fs with
    |none=>simp[e1,e2]at hf
    |some ks'=>
     simp only[e1,e2,Vd]at hf;subst hf;obtain⟨u,hu⟩:=hx 0 sP;rw[Nat.add_zero]at hu;have hp:(part f.type xs f.offset).run P w=.ok u w:=by simp[part,Sem.run_bind,Yb (JDy e1),ho,hu]
     have ih:=Zy b n xs w fs (k+1) ks' e2 (fun i hi=>by have:=hx (i+1) (sX hi);rwa[show k+(i+1)=k+1+i by omega]at this);simp only[List.forIn_cons,ne_eq,hn,not_false_eq_true,if_true,Sem.run_bind,hp,Result.andThen_ok,JA2 e1 b n u w,Sem.run_pure];exact ih
  ·cases hf
theorem JDc{t:TypeId}{ks:List Ck}(hu:P.underlying t=some (.struct fs))(hf:Jq P 0 fs.toList=some ks)(b:Bool)(xs:Array Value)(hx:ks.length≤xs.size)(w:World):
  (Instr.checkKey b 10000 t (.agg xs)).run P w=.ok () w:=by
 have:=Zy b 9998 xs w fs.toList 0 ks hf (fun i hi=>⟨xs[0+i]'oM,sP⟩);rw[show(10000:Nat)=9999+1 from rfl];unfold Instr.checkKey;rw[Sem.run_bind,run_underlying hu,Result.andThen_ok];simp only[];rw[Sem.run_bind,←Array.forIn_toList];rw[this];rfl
theorem JNO{t:TypeId}(h:ckT P t=some c):∀a b,c≠ .p a b:=by
 unfold ckT at h;split at h<;>cases h<;>simp
theorem JKZ:∀(fs:List Field) (k:Nat) (ks:List Ck),Jq P k fs=some ks→∀c∈ks,∀a b,c≠ .p a b
 |[],k,ks,hf,c,hc=>by simp only[Jq,Vd]at hf;subst hf;cases hc
 |f::fs,k,ks,hf,c,hc=>by
  simp only[Jq]at hf;split at hf
  ·cases e1:ckT P f.type with
   |none=>simp[e1]at hf
   |some kk=>
    cases e2:Jq P (k+1) fs with
    |none=>simp[e1,e2]at hf
    |some ks'=>
     simp only[e1,e2,Vd]at hf;subst hf;rcases VA.1 hc with rfl|hc
     ·exact JNO e1
     ·exact JKZ fs (k+1) ks' e2 c hc
  ·cases hf
theorem JFh{t:TypeId}(hk:ckK P t=some c):ckT P t=some c∨∃fs a b,P.underlying t=some (.struct fs)∧P.stoodInHeld t=false∧Jq P 0 fs.toList=some [a,b]∧c=.p a b:=by
 unfold ckK at hk;split at hk
 ·rename_i fs hu;split at hk
  ·rename_i hs;split at hk
   ·rename_i a b hf;cases hk;exact .inr ⟨fs,a,b,hu,hs,hf,rfl⟩
   ·cases hk
  ·cases hk
 ·exact .inl hk
theorem JBt{a:Ck}{r:Bool}(h:UQ (.p a b) x y=some r):∃x1 x2 y1 y2 p q,x=.agg [x1,x2]∧y=.agg [y1,y2]∧UQ a x1 y1=some p∧UQ b x2 y2=some q∧r=(p&&q):=by
 unfold UQ at h;split at h
 ·rename_i hc;split at h<;>cases hc
 ·rename_i hc;cases hc
 ·rename_i hc;cases hc
 ·rename_i hc;cases hc;split at h
  ·rename_i p q e1 e2;cases h;exact⟨_,_,_,_,p,q,rfl,rfl,e1,e2,rfl⟩
  ·cases h
 ·cases h
theorem JBu{x1 x2:Dat}(h:Rep A w (.agg [x1,x2]) u):∃u1 u2,u=.agg #[u1,u2]∧Rep A w x1 u1∧Rep A w x2 u2:=by
 cases h with
 |agg _ arr hl h1 hv=>
  have hl:2=arr.size:=sX hl;have e:arr=#[arr[0],arr[1]]:=by
   apply Array.ext
   ·simp[←hl]
   ·intro k h1 h2
    match k,h1 with
    |0,_=>rfl
    |1,_=>rfl
    |k+2,h1=>omega
  exact⟨arr[0],arr[1],by rw[←e],hv 0 _ _ rfl sP,hv 1 _ _ rfl sP⟩
theorem JHj{t:TypeId}(hk:ckK P t=some c)(h:UQ c x y=some true)(hx:Rep A w x u)(hy:Rep A w y v):Instr.sameBits 10000 v u=true:=by
 rcases JFh hk with hk|⟨fs,a,b,hu,hs,hf,rfl⟩
 ·exact JBJ 10000 (JNO hk) h hx hy
 ·have hn:=JKZ _ _ _ hf;obtain⟨x1,x2,y1,y2,p,q,rfl,rfl,e1,e2,e3⟩:=JBt h;obtain⟨u1,u2,rfl,g1,g2⟩:=JBu hx;obtain⟨v1,v2,rfl,g3,g4⟩:=JBu hy;have e3:=e3.symm;rw[Vi]at e3;obtain⟨rfl,rfl⟩:=e3;have s1:=JBJ 9999 (hn a sP) e1 g1 g3;have s2:=JBJ 9999 (hn b sP) e2 g2 g4;rw[show(10000:Nat)=9999+1 from rfl];simp[Instr.sameBits,s1,s2]
theorem JFi{t:TypeId}{a:Ck}{r:Bool}(hu:P.underlying t=some (.struct fs))(hs:P.stoodInHeld t=false)(hf:Jq P 0 fs.toList=some [a,b])(h:UQ (.p a b) x y=some r)
  (hx:Rep A w x u)(hy:Rep A w y v)(w':World):(Op.equal t u v).run P w'=.ok r w':=by
 obtain⟨x1,x2,y1,y2,p,q,rfl,rfl,e1,e2,rfl⟩:=JBt h;obtain⟨u1,u2,rfl,g1,g2⟩:=JBu hx;obtain⟨v1,v2,rfl,g3,g4⟩:=JBu hy;have hfo:P.fieldsOf t=fs:=by unfold Program.fieldsOf;rw[hu]
 have hc:Ut [a,b] [x1,x2] [y1,y2]=some (p&&q):=by simp[Ut,e1,e2]
 show(Op.equalIn 10000 t (.agg #[u1,u2]) (.agg #[v1,v2])).run P w'=_;rw[run_equalIn_struct w' 9999 t _ _ (by rw[hfo,hu]) hs,hfo];refine Za (w:=w) (A:=A) 9998 _ _ w' fs.toList 0 [a,b] [x1,x2] [y1,y2] _ hf hc ?_ ?_
 ·intro i z hz
  match i,hz with
  |0,hz=>cases hz;exact⟨u1,rfl,g1⟩
  |1,hz=>cases hz;exact⟨u2,rfl,g2⟩
  |i+2,hz=>simp at hz
 ·intro i z hz
  match i,hz with
  |0,hz=>cases hz;exact⟨v1,rfl,g3⟩
  |1,hz=>cases hz;exact⟨v2,rfl,g4⟩
  |i+2,hz=>simp at hz
theorem JHk{t:TypeId}{a:Ck}(hu:P.underlying t=some (.struct fs))(hs:P.stoodInHeld t=false)(hfl:Jq P 0 fs.toList=some [a,b])(hx:Rep A w x u):
  ∀(es:List (Dat×Dat)) (ents:List MapEntry) (i:Nat) (r:Option Dat),XS A w es ents→UM (.p a b) es x=some r→
   match r with
   |none=>(∀w',(Instr.findAsking t u ents i).run P w'=.ok none w')∧∀v,ZA (.p a b) es x v=es++[(x,v)]
   |some y=>∃j e k0,(∀w',(Instr.findAsking t u ents i).run P w'=.ok (some (i+j,e.val)) w')∧ents[j]? =some e∧es[j]? =some (k0,y)∧UQ (.p a b) x k0=some true∧∀v,ZA (.p a b) es x v=es.set j (x,v)
 |[],ents,i,r,h,hf=>by
  have:ents=[]:=List.eq_nil_of_length_eq_zero h.1.symm;subst this;simp only[UM]at hf;split at hf
  ·cases hf;exact⟨fun w'=>by simp[Instr.findAsking,Sem.run_pure],fun v=>rfl⟩
  ·cases hf
 |(k,y)::es,[],i,r,h,hf=>by have:=h.1;simp at this
 |(k,y)::es,m::ents,i,r,h,hf=>by
  have h0:=h.2 0 (k,y) m rfl rfl;have hrest:XS A w es ents:=⟨by have:=h.1;simpa using this,fun j e m' h1 h2=>h.2 (j+1) e m' (sX h1) (sX h2)⟩;unfold UM at hf;split at hf
  ·rename_i he;cases hf;have:=JFi hu hs hfl he hx h0.1;refine⟨0,m,k,fun w'=>?_,rfl,rfl,he,fun v=>?_⟩
   ·simp[Instr.findAsking,Sem.run_bind,this w',Sem.run_pure]
   ·simp[ZA,he]
  ·rename_i he;have hsn:=JFi hu hs hfl he hx h0.1;have ih:=JHk hu hs hfl hx es ents (i+1) r hrest hf;cases r with
   |none=>
    obtain⟨q1,q2⟩:=ih;refine⟨fun w'=>by simp[Instr.findAsking,Sem.run_bind,hsn w',q1 w'],fun v=>?_⟩;simp[ZA,he,q2]
   |some y'=>
    obtain⟨j,e,k0,q1,q2,q3,q4,q5⟩:=ih;refine⟨j+1,e,k0,fun w'=>?_,by simpa using q2,by simpa using q3,q4,fun v=>?_⟩
    ·simp only[Instr.findAsking,Sem.run_bind,hsn w',Result.andThen_ok,Vu,↓reduceIte,q1 w'];congr 3;omega
    ·simp[ZA,he,q5]
  ·cases hf
theorem JLy:∀{es:List (Dat×Dat)} {x:Dat} {r:Option Dat},UM c es x=some r→(∀a b,c≠ .p a b)∨∃x1 x2,x=.agg [x1,x2]
 |[],x,r,h=>by
  simp only[UM]at h;split at h
  ·rename_i hk;unfold JMm at hk;split at hk
   ·exact .inr ⟨_,_,rfl⟩
   ·cases hk
   ·refine .inl fun k l e=>?_
    subst e
    simp_all
  ·cases h
 |(k,y)::es,x,r,h=>by
  cases c with
  |p a b=>
   unfold UM at h;split at h
   ·rename_i he;obtain⟨x1,x2,_,_,_,_,e,_⟩:=JBt he;exact .inr ⟨x1,x2,e⟩
   ·rename_i he;obtain⟨x1,x2,_,_,_,_,e,_⟩:=JBt he;exact .inr ⟨x1,x2,e⟩
   ·cases h
  |_=>exact .inl sP
theorem JD6{t:TypeId}(hk:ckK P t=some c)(hx:Rep A w x u)(es:List (Dat×Dat))(ents:List MapEntry)(r:Option Dat)(hr:XS A w es ents)(hf:UM c es x=some r):
  (∀e w',(Instr.checkKey e 10000 t u).run P w'=.ok () w')∧match r with
   |none=>(∀w',(Instr.findKey t u ents).run P w'=.ok none w')∧∀v,ZA c es x v=es++[(x,v)]
   |some y=>∃j e k0,(∀w',(Instr.findKey t u ents).run P w'=.ok (some (j,e.val)) w')∧ents[j]? =some e∧es[j]? =some (k0,y)∧UQ c x k0=some true∧∀v,ZA c es x v=es.set j (x,v):=by
 have hck:=hk;rcases JFh hk with hk|⟨fs,a,b,hu,hs,hfl,rfl⟩
 ·obtain⟨ds,hds⟩:=JSb hk;have hfind:=JHi hk hds hx es ents 0 r hr hf;refine⟨fun e w'=>JGa hk e u w',?_⟩;cases r with
  |none=>exact⟨fun w'=>JC3 hds hfind.1 w',hfind.2⟩
  |some y=>
   obtain⟨j,e,k0,q1,q2,q3,q4,q5⟩:=hfind;rw[Nat.zero_add]at q1;exact⟨j,e,k0,fun w'=>JC3 hds q1 w',q2,q3,q4,q5⟩
 ·have hfind:=JHk hu hs hfl hx es ents 0 r hr hf;have hfk:(Instr.findKey t u ents).run P=(Instr.findAsking t u ents).run P:=by
   funext w';cases ents with
   |nil=>simp[Instr.findKey,Sem.run_bind,run_underlying hu,Instr.findNow,Instr.findAsking]
   |cons e ents=>simp[Instr.findKey,Sem.run_bind,run_underlying hu,Instr.findNow,Instr.sameNow]
  refine⟨fun e w'=>?_,?_⟩
  ·rcases JLy hf with h|⟨x1,x2,rfl⟩
   ·exact absurd rfl (h a b)
   ·obtain⟨u1,u2,rfl,_,_⟩:=JBu hx;exact JDc hu hfl e _ sP w'
  ·cases r with
   |none=>exact⟨fun w'=>by rw[hfk];exact hfind.1 w',hfind.2⟩
   |some y=>
    obtain⟨j,e,k0,q1,q2,q3,q4,q5⟩:=hfind;exact⟨j,e,k0,fun w'=>by rw[hfk];have:=q1 w';rwa[Nat.zero_add]at this,q2,q3,q4,q5⟩
theorem Stp.JKM(hc:Core β A w H){b:Nat}{es':List (Dat×Dat)}{ents':Array MapEntry}{clk':Nat}(hi:H i=some (.mapo es))(hb:β i=some b)(hh:w.heap[b]? =some (.map ents clk))
  (hr:XS A w es' ents'.toList)(hbn:(∀(j:Nat) (m:MapEntry),ents'[j]? =some m→m.born=j)∧clk'=ents'.size):Stp β A w H β A (w.putObj b (.map ents' clk')) (upd H i (some (.mapo es'))):=by
 have hlt:b<w.heap.size:=(Array.getElem?_eq_some_iff.1 hh).1;have hsA:XG A w (w.putObj b (.map ents' clk')):=fun b' hb'=>World.putObj_heap_other (fun e=>hc.JSF _ _ _ hi rfl hb (e▸hb'))
 refine Stp.hset hc hi rfl hb hlt sP ?_ ?_
 ·intro c u hcase hvr;rcases hcase with⟨off,rfl⟩|⟨ver,rfl⟩|⟨ver,off,len,rfl⟩|⟨ver,k,off,rfl⟩|rfl
  ·cases hvr with|ref _ _ b p _ hu h0 h1 h2=>exact .ref _ _ b p _ hu sU sU sU
  ·cases hvr with|ms _ _ _ hu h0 h1 h2=>exact .ms _ _ _ hu sU sU sU
  ·cases hvr with|sub _ _ _ _ _ hu h0 h1 h2=>exact .sub _ _ _ _ _ hu sU sU sU
  ·cases hvr with|el _ _ _ _ b p _ hu h0 h1=>exact .el _ _ _ _ b p _ hu sU sU
  ·cases hvr with|mp _ _ hu h0 h1 h2 h3=>exact .mp _ _ hu sU (fun _ _=>h1 _ hi) sU sU
 ·intro _;exact⟨b,ents',clk',hb,World.putObj_heap_same hlt,by simpa using hr.1,fun j e m h1 h2=>⟨(hr.2 j e m h1 (sX h2)).1.mono hsA fun _ h=>h,(hr.2 j e m h1 (sX h2)).2.mono hsA fun _ h=>h⟩,hbn⟩
theorem JFj{k:Value}(h1:∀(j:Nat) (m:MapEntry),ents[j]? =some m→m.born=j)(h2:clk=ents.size):
  (∀(j:Nat) (m:MapEntry),(ents.push {key:=k,val:=v,born:=clk})[j]? =some m→m.born=j)∧clk+1=(ents.push {key:=k,val:=v,born:=clk}).size:=by
 refine⟨fun j m hm=>?_,by simp[h2]⟩;rw[Array.getElem?_push]at hm;split at hm
 ·rename_i e;cases hm;rw[e];exact h2
 ·exact h1 j m hm
theorem JC4{f:MapEntry→MapEntry}(h1:∀(j:Nat) (m:MapEntry),ents[j]? =some m→m.born=j)(h2:clk=ents.size)(hf:∀e,(f e).born=e.born):
  (∀(j:Nat) (m:MapEntry),(ents.modify i f)[j]? =some m→m.born=j)∧clk=(ents.modify i f).size:=by
 refine⟨fun j m hm=>?_,by simp[h2]⟩;rw[Array.getElem?_modify]at hm;split at hm
 ·obtain⟨m0,h0,rfl⟩:=Option.map_eq_some_iff.1 hm;rw[hf];exact h1 j m0 h0
 ·exact h1 j m hm
theorem JNP{ents:List MapEntry}{k:Value}(h:XS A w es ents)(hk:Rep A w x k)(hv:Rep A w y v):XS A w (es++[(x,y)]) (ents++[{key:=k,val:=v,born:=clk}]):=by
 refine⟨by simp[h.1],fun j e m h1 h2=>?_⟩;by_cases hj:j<es.length
 ·rw[Vz hj]at h1;rw[Vz (by rw[←h.1];exact hj)]at h2;exact h.2 j e m h1 h2
 ·rw[Vy oM]at h1;rw[Vy (by rw[←h.1];omega)]at h2;have hz:j-es.length=0:=by
   have:=(VB.1 h1).1;simp at this;omega
  have hz2:j-ents.length=0:=by rw[←h.1];exact hz
  rw[hz]at h1;rw[hz2]at h2;simp only[List.getElem?_cons_zero,Vd]at h1 h2;subst h1 h2;exact⟨hk,hv⟩
theorem JFk{t kt et:TypeId}{v:Operand}(hc:Core β A w H)(ho:o.op=.mapUpdate t m k v∨o.op=.insert t m k v)(hu:P.underlying t=some (.map kt et))
  (hk:ckK P kt=some c){fr:Option Dat}(hmap:H i=some (.mapo es))(hmv:VRep β A w H (.mp i) (a.eval m))(hkv:Rep A w x (a.eval k))(hvv:Rep A w y (a.eval v))(hf:UM c es x=some fr):
  JY P a.eval o w β A H .und [(i,.mapo (ZA c es x y))]:=by
 obtain⟨b,ents,clk,e1,e2,e3,e4,eb⟩:=hc.objs i _ hmap;have hrep:XS A w es ents.toList:=⟨by simpa using e3,fun j e m h1 h2=>e4 j e m h1 (sX h2)⟩;have hmu:a.eval m=.map (some b):=by
  cases hmv with
  |mp _ _ _ _ h1 _ _=>
   obtain⟨b',q1,q2⟩:=h1 _ hmap;rw[e1]at q1;cases q1;exact q2
 obtain⟨hchk,hfind⟩:=JD6 hk hkv es ents.toList fr hrep hf;have hobj:(getObj b).run P w=.ok (.map ents clk) w:=by simp[getObj,Sem.run,e2]
 have hset:∀o,(setObj b o).run P w=.ok () (w.putObj b o):=by intro o;simp[setObj,Sem.run,e2,World.putObj]
 have main:∃ents' clk',(Instr.mapUpdate t (a.eval m) (a.eval k) (a.eval v)).run P w=.ok () (w.putObj b (.map ents' clk'))∧XS A w (ZA c es x y) ents'.toList∧(∀(j:Nat) (m:MapEntry),ents'[j]? =some m→m.born=j)∧clk'=ents'.size:=by
  rw[hmu];cases fr with
  |none=>
   obtain⟨q1,q2⟩:=hfind;refine⟨ents.push {key:=a.eval k,val:=a.eval v,born:=clk},clk+1,?_,?_,?_⟩
   ·simp only[Instr.mapUpdate,Sem.run_bind,run_underlying hu,Result.andThen_ok,hobj,hchk,q1,hset]
   ·rw[q2];refine⟨by simp[e3],?_⟩;intro j e m h1 h2;rw[Array.toList_push]at h2;by_cases hj:j<es.length
    ·rw[Vz hj]at h1;rw[Vz (by simpa[←e3]using hj)]at h2;exact hrep.2 j e m h1 h2
    ·rw[Vy oM]at h1;rw[Vy (by simp[←e3];omega)]at h2;have hz:j-es.length=0:=by
      have:=(VB.1 h1).1;simp at this;omega
     have hz2:j-ents.toList.length=0:=by simp[←e3];omega
     rw[hz]at h1;rw[hz2]at h2;simp only[List.getElem?_cons_zero,Vd]at h1 h2;subst h1 h2;exact⟨hkv,hvv⟩
   ·exact JFj eb.1 eb.2
  |some y0=>
   obtain⟨j,e,k0,q1,q2,q3,q4,q5⟩:=hfind;have hke:=(hrep.2 j _ e q3 q2).1;have hsb:=JHj hk q4 hkv hke;refine⟨ents.modify j fun e=>{e with key:=a.eval k,val:=a.eval v},clk,?_,?_,?_⟩
   ·have hj:ents[j]? =some e:=sX q2;have hks:(Instr.keyThatStays e.key (a.eval k)).run P w=.ok (a.eval k) w:=by simp[Instr.keyThatStays,hsb,Sem.run_pure]
    simp only[Instr.mapUpdate,Sem.run_bind,run_underlying hu,Result.andThen_ok,hobj,hchk,q1,hj,Vj,Vp,hks,hset]
   ·rw[q5];refine⟨by simp[e3],?_⟩;intro j' e' m' h1 h2;rw[List.getElem?_set]at h1;have h2':(ents.modify j fun e=>{e with key:=a.eval k,val:=a.eval v})[j']? =some m':=by rw[Array.getElem?_toList]at h2;exact h2
    rw[Array.getElem?_modify]at h2';by_cases hjj:j=j'
    ·subst hjj;have hj:ents[j]? =some e:=sX q2;rw[if_pos rfl,hj]at h2';have hlt:j<es.length:=(VB.1 q3).1;rw[if_pos rfl,if_pos hlt]at h1;simp only[Vj,Vd]at h1 h2';subst h1 h2';exact⟨hkv,hvv⟩
    ·rw[if_neg hjj]at h1 h2';exact hrep.2 j' e' m' h1 (by simpa using h2')
   ·exact JC4 eb.1 eb.2 (fun _=>rfl)
 obtain⟨ents',clk',hrun,hrep',hbn'⟩:=main;refine⟨undef,β,A,_,.inr ⟨?_,rfl⟩,Stp.JKM (clk':=clk') hc hmap e1 e2 hrep' hbn',.und⟩;rcases ho with ho|ho<;>simp[execOp,ho,Sem.run_bind,hrun]
theorem JHl{t kt et:TypeId}{v:Operand}{k' v':Opd}(hc:Core β A w H)(ht:UD β A w H τ a)(ho:o.op=.mapUpdate t m k v∨o.op=.insert t m k v)(hu:P.underlying t=some (.map kt et))
  (hk:ckK P kt=some c)(hm:opd P t m=some m')(hkk:opd P kt k=some k')(hv:opd P et v=some v')(hs:step τ H d (.mpu c m' k' v')=some r)(hC:r.c):JY P a.eval o w β A H r.v r.ups:=by
 simp only[step]at hs;split at hs
 ·rename_i i x y em ek ev;split at hs
  ·rename_i es hmap;split at hs
   ·rename_i fr hf;cases hs;exact JFk hc ho hu hk hmap (JD hm em ht) (JD hkk ek ht).JU (JD hv ev ht).JU hf
   ·cases hs
  ·cases hs
 ·rename_i i x j w0 em ek ev;unfold JSR at hs;split at hs
  ·rename_i es w' sy ys hmap hj;split at hs
   ·rename_i fr hf;cases hs;have hver:w0=w':=hC;subst hver;have hij:i≠j:=by rintro rfl;rw[hmap]at hj;cases hj
    have hst:=Stp.freeze hc hj;obtain⟨u,β2,A2,w2,r1,r2,r3⟩:=JFk hst.core ho hu hk (i:=i) (es:=es) (y:=.list sy ys) (by rw[JN _ _ hij];exact hmap) (hst.vals _ _ (JD hm em ht)) (hst.vals _ _ (JD hkk ek ht)).JU
     ((hst.vals _ _ (JD hv ev ht)).frzMs (JB _ _ _)).JU hf
    exact⟨u,β2,A2,w2,r1,hst.trans r2,r3⟩
   ·cases hs
  ·cases hs
 ·cases hs
theorem JHm{t:TypeId}{d:Dat}(h:JFb P t=some d)(w:World):∃z,(zeroValue t).run P w=.ok z w∧Rep A w d z:=by
 unfold JFb at h;split at h
 ·rename_i i zs h1 h2;split at h
  ·rename_i arr hz;split at h
   ·rename_i hs;cases h;obtain⟨g1,g2,g3⟩:=JAZ (A:=A) (w:=w) hs;exact⟨_,Ux h1 hz w,.agg _ _ (sX g1) g2 (fun i c v e1 e2=>g3 i c v e1 (sX e2))⟩
   ·cases h
  ·rename_i z _ hz;split at h
   ·split at h
    ·rename_i hs;cases h;exact⟨_,Ux h1 hz w,JHb hs⟩
    ·cases h
   ·cases h
  ·cases h
 ·cases h
theorem JNQ{t xt:TypeId}{x:Operand}{td:TypeDesc}(hc:Core β A w H)(ht:UD β A w H τ a)(ho:o.op=.typeAssert x xt t true)(h1:P.underlying t=some td)(h2:∀ms,td≠ .interface ms)
  (hx:opd P xt x=some x')(hs:step τ H d (.asr t x')=some r):JY P a.eval o w β A H r.v r.ups:=by
 simp only[step]at hs;split at hs
 ·rename_i t' v e;split at hs
  ·rename_i et;cases hs;subst et;have hv:=(JD hx e ht).JU;generalize hu:a.eval x=u at hv;cases hv with
   |iface _ _ y hy=>
    refine JY.pure hc (u:=.tuple #[y,.bool true]) ?_ (.tup _ _ rfl ?_)
    ·simp only[execOp,ho,hu,Instr.typeAssert,Sem.run_bind,run_underlying h1,Result.andThen_ok];cases td<;>first|exact absurd rfl (h2 _)|simp[Sem.run_pure]
    ·intro i c z h3 h4
     match i with
     |0=>
      simp only[List.getElem?_cons_zero,Vd]at h3;simp only[List.getElem?_toArray,List.getElem?_cons_zero,Vd]at h4;subst h3;subst h4;exact .d _ _ hy
     |1=>
      simp only[List.getElem?_cons_succ,List.getElem?_cons_zero,Vd]at h3;simp only[List.getElem?_toArray,List.getElem?_cons_succ,List.getElem?_cons_zero,Vd]at h4;subst h3;subst h4;exact .d _ _ (.bool _)
     |k+2=>simp at h3
  ·cases hs
 ·cases hs
theorem JHn(hc:Core β A w H)(hmap:H i=some (.mapo es))(hmv:VRep β A w H (.mp i) u){b:Nat}(e1:β i=(some b:Option Nat)):u=.map (some b):=by
 cases hmv with
 |mp _ _ _ _ h1 _ _=>
  obtain⟨b',q1,q2⟩:=h1 _ hmap;rw[e1]at q1;cases q1;exact q2
theorem JNR{t kt et:TypeId}{k':Opd}{z:Dat}(hc:Core β A w H)(ht:UD β A w H τ a)(ho:o.op=.mapEntry t m k)(hu:P.underlying t=some (.map kt et))
  (hk:ckK P kt=some c)(hm:opd P t m=some m')(hkk:opd P kt k=some k')(hz:JFb P et=some z)(hs:step τ H d (.men c z m' k')=some r):JY P a.eval o w β A H r.v r.ups:=by
 simp only[step]at hs;split at hs
 ·rename_i i x em ek;split at hs
  ·rename_i es hmap;split at hs
   ·rename_i hf;split at hs
    case h_2=>cases hs
    rename_i hble;have hble:=Nat.le_of_ble_eq_true hble;cases hs;obtain⟨b,ents,clk,e1,e2,e3,e4,eb⟩:=hc.objs i _ hmap;have hrep:XS A w es ents.toList:=⟨by simpa using e3,fun j e m h1 h2=>e4 j e m h1 (sX h2)⟩;have hmu:=JHn hc hmap (JD hm em ht) e1;have hkv:=(JD hkk ek ht).JU;obtain⟨zv,hz1,hz2⟩:=JHm (A:=A) hz w;obtain⟨hchk,q1,q2⟩:=JD6 hk hkv es ents.toList none hrep hf;have hobj:(getObj b).run P w=.ok (.map ents clk) w:=by simp[getObj,Sem.run,e2]
    have hset:∀o,(setObj b o).run P w=.ok () (w.putObj b o):=by intro o;simp[setObj,Sem.run,e2,World.putObj]
    have hrun:(Instr.mapEntry t (a.eval m) (a.eval k)).run P w=.ok (.tuple #[zv,goInt clk]) (w.putObj b (.map (ents.push {key:=a.eval k,val:=zv,born:=clk}) (clk+1))):=by
     rw[hmu];simp only[Instr.mapEntry,Sem.run_bind,run_underlying hu,Result.andThen_ok,hobj,hchk,q1,hz1,hset,Sem.run_pure]
    have hrep':XS A w (ZA c es x z) (ents.push {key:=a.eval k,val:=zv,born:=clk}).toList:=by
     rw[q2,Array.toList_push];exact JNP hrep hkv hz2
    have hst:=Stp.JKM (clk':=clk+1) hc hmap e1 e2 hrep' (JFj eb.1 eb.2);have hlt:b<w.heap.size:=(Array.getElem?_eq_some_iff.1 e2).1;refine⟨.tuple #[zv,goInt clk],β,A,_,.inl (by simp[execOp,ho,Sem.run_bind,hrun,Sem.run_pure]),hst,.tup _ _ rfl ?_⟩;intro j c' v' h1 h2
    match j,h1,h2 with
    |0,h1,h2=>cases h1;cases h2;exact hst.vals _ _ (.d _ _ hz2)
    |1,h1,h2=>
     cases h1;simp only[List.getElem?_toArray,List.getElem?_cons_succ,List.getElem?_cons_zero,Vd]at h2;subst h2;have hn:clk=es.length:=by rw[eb.2,e3]
     rw[hn];refine .d _ _ ?_;have hmn:IntKind.i64.min= -9223372036854775808:=dC;have hmx:IntKind.i64.max=9223372036854775807:=dC;exact .int _ _ ⟨oM,oM⟩
    |n+2,h1,h2=>simp at h1
   ·cases hs
  ·cases hs
 ·cases hs
theorem JNS{t et:TypeId}{s v:Operand}{s' v':Opd}(hc:Core β A w H)(ht:UD β A w H τ a)(ho:o.op=.entryStore t m s v)
  (hm:opd P t m=some m')(hss:opd P 0 s=some s')(hv:opd P et v=some v')(hs:step τ H d (.mes m' s' v')=some r):JY P a.eval o w β A H r.v r.ups:=by
 simp only[step]at hs;split at hs
 ·rename_i i j y em es' ev;split at hs
  ·rename_i es hmap;split at hs
   ·rename_i e0 hj;cases hs;obtain⟨b,ents,clk,e1,e2,e3,e4,eb⟩:=hc.objs i _ hmap;have hrep:XS A w es ents.toList:=⟨by simpa using e3,fun j e m h1 h2=>e4 j e m h1 (sX h2)⟩;have hmu:=JHn hc hmap (JD hm em ht) e1;have hsv:=(JD hss es' ht).JU;have hvv:=(JD hv ev ht).JU;have hobj:(getObj b).run P w=.ok (.map ents clk) w:=by simp[getObj,Sem.run,e2]
    have hset:∀o,(setObj b o).run P w=.ok () (w.putObj b o):=by intro o;simp[setObj,Sem.run,e2,World.putObj]
    have hjl:j<ents.size:=by rw[←e3];exact(VB.1 hj).1
    have hjs:j<es.length:=(VB.1 hj).1;have hsu:a.eval s=.int .i64 (j:Int):=by
     generalize a.eval s=u at hsv;cases hsv;rfl
    have hfi:ents.findIdx? (fun e=>(e.born:Int)==(j:Int))=some j:=by
     rw[Array.findIdx?_eq_some_iff_getElem];refine⟨hjl,?_,?_⟩
     ·have:=eb.1 j ents[j] (by simp[hjl]);simp[this]
     ·intro k hk;have:=eb.1 k (ents[k]'oM) sP;simp only[this,beq_iff_eq];omega
    have hrun:(Instr.entryStore t (a.eval m) (a.eval s) (a.eval v)).run P w=.ok () (w.putObj b (.map (ents.modify j fun e=>{e with val:=a.eval v}) clk)):=by
     rw[hmu,hsu];simp only[Instr.entryStore,Sem.run_bind,Result.andThen_ok,hobj,asInt,asIntOf,Sem.run_pure,hfi,hset]
    have hrep':XS A w (es.set j (e0.1,y)) (ents.modify j fun e=>{e with val:=a.eval v}).toList:=by
     refine⟨by simp[e3],?_⟩;intro k e' m' h1 h2;rw[List.getElem?_set]at h1;have h2':(ents.modify j fun e=>{e with val:=a.eval v})[k]? =some m':=by rw[Array.getElem?_toList]at h2;exact h2
     rw[Array.getElem?_modify]at h2';by_cases hjk:j=k
     ·subst hjk;rw[if_pos rfl,if_pos hjs]at h1;rw[if_pos rfl]at h2';obtain⟨m0,h0,rfl⟩:=Option.map_eq_some_iff.1 h2';simp only[Vd]at h1;subst h1;exact⟨(e4 j _ m0 hj h0).1,hvv⟩
     ·rw[if_neg hjk]at h1 h2';exact hrep.2 k e' m' h1 (by simpa using h2')
    refine⟨undef,β,A,_,.inr ⟨?_,rfl⟩,Stp.JKM (clk':=clk) hc hmap e1 e2 hrep' (JC4 eb.1 eb.2 (fun _=>rfl)),.und⟩;simp[execOp,ho,Sem.run_bind,hrun]
   ·cases hs
  ·cases hs
 ·cases hs
theorem JNT{t kt et:TypeId}{x i:Operand}{i':Opd}{z:Dat}{ok:Bool}(hc:Core β A w H)(ht:UD β A w H τ a)(ho:o.op=.lookup t x i ok)(hu:P.underlying t=some (.map kt et))
  (hk:ckK P kt=some c)(hx:opd P t x=some x')(hi:opd P kt i=some i')(hz:JFb P et=some z)
  (hs:step τ H d (.lkp c z x' i' ok)=some r):JY P a.eval o w β A H r.v r.ups:=by
 simp only[step]at hs;split at hs
 ·rename_i m k em ek;split at hs
  ·rename_i es hes;split at hs
   ·rename_i fr hf;cases hs;obtain⟨zv,hz1,hz2⟩:=JHm (A:=A) hz w;have hmv:=JD hx em ht;have hkv:=(JD hi ek ht).JU;have hents:∃ents:Array MapEntry,XS A w es ents.toList∧((a.eval x=.map none∧ents=#[])∨∃b clk,a.eval x=.map (some b)∧w.heap[b]? =some (.map ents clk)):=by
     split at hes
     ·rename_i j;split at hes
      ·rename_i es' hmap;cases hes;obtain⟨b,ents,clk,e1,e2,e3,e4,_⟩:=hc.objs j _ hmap;have hmu:a.eval x=.map (some b):=by
        cases hmv with
        |mp _ _ _ _ h1 _ _=>
         obtain⟨b',q1,q2⟩:=h1 _ hmap;rw[e1]at q1;cases q1;exact q2
       exact⟨ents,⟨by simpa using e3,fun j e m h1 h2=>e4 j e m h1 (sX h2)⟩,.inr ⟨b,clk,hmu,e2⟩⟩
      ·cases hes
     ·rename_i es';cases hes;have hr:=hmv.JU;generalize hmu:a.eval x=u at*;cases hr with
      |map _ b ents clk hA e2 e3 e4 e5=>
       exact⟨ents,⟨by simpa using e3,fun j e m h1 h2=>⟨e4 j e m h1 (sX h2),e5 j e m h1 (sX h2)⟩⟩,.inr ⟨b,clk,rfl,e2⟩⟩
     ·cases hes;have hr:=hmv.JU;generalize hmu:a.eval x=u at*;cases hr;exact⟨#[],⟨rfl,sP⟩,.inl ⟨rfl,rfl⟩⟩
     ·cases hes
    obtain⟨ents,hrep,hx2⟩:=hents;obtain⟨hchk,hfind⟩:=JD6 hk hkv es ents.toList fr hrep hf;have main:∃v,Rep A w (fr.getD z) v∧(Instr.lookup t (a.eval x) (a.eval i) ok).run P w=.ok (if ok then .tuple #[v,.bool fr.isSome]else v) w:=by
     have hmain:∀(v:Value) (fd:Option (Nat×Value)),(∀w',(Instr.findKey kt (a.eval i) ents.toList).run P w'=.ok fd w')→(fd=none∧fr=none∧v=zv∨∃j,fd=some (j,v)∧fr.isSome=true)→
       (Instr.lookup t (a.eval x) (a.eval i) ok).run P w=.ok (if ok then .tuple #[v,.bool fr.isSome]else v) w:=by
      intro v fd h1 h2;have hfk:=h1 w;rcases hx2 with⟨hxx,rfl⟩|⟨b,clk,hxx,hb⟩
      ·rcases h2 with⟨rfl,rfl,rfl⟩|⟨j,rfl,hfs⟩
       ·simp[Instr.lookup,hxx,Sem.run_bind,run_underlying hu,hchk,hfk,hz1,Sem.run_pure]
       ·simp[Instr.lookup,hxx,Sem.run_bind,run_underlying hu,hchk,hfk,hz1,Sem.run_pure,hfs]
      ·have hobj:(getObj b).run P w=.ok (.map ents clk) w:=by simp[getObj,Sem.run,hb]
       rcases h2 with⟨rfl,rfl,rfl⟩|⟨j,rfl,hfs⟩
       ·simp[Instr.lookup,hxx,Sem.run_bind,run_underlying hu,hchk,hfk,hz1,hobj,Sem.run_pure]
       ·simp[Instr.lookup,hxx,Sem.run_bind,run_underlying hu,hchk,hfk,hz1,hobj,Sem.run_pure,hfs]
     cases fr with
     |none=>
      obtain⟨q1,q2⟩:=hfind;exact⟨zv,hz2,hmain zv none q1 (.inl ⟨rfl,rfl,rfl⟩)⟩
     |some y0=>
      obtain⟨j,e,k0,q1,q2,q3,q4,q5⟩:=hfind;exact⟨e.val,(hrep.2 j _ e q3 q2).2,hmain e.val _ q1 (.inr ⟨_,rfl,rfl⟩)⟩
    obtain⟨v,hv1,hv2⟩:=main;refine JY.pure (u:=if ok then .tuple #[v,.bool fr.isSome]else v) hc (by simp[execOp,ho,Sem.run_bind,hv2]) ?_;cases ok with
    |false=>exact .d _ _ hv1
    |true=>
     refine .tup _ _ rfl ?_;intro j c v' h1 h2
     match j,h1,h2 with
     |0,h1,h2=>cases h1;cases h2;exact .d _ _ hv1
     |1,h1,h2=>cases h1;cases h2;exact .d _ _ (.bool _)
     |j+2,h1,h2=>simp at h1
   ·cases hs
  ·cases hs
 ·cases hs
theorem JLz{op:BinOp}{t t':TypeId}{x y:Operand}{f n:Bool}(hc:Core β A w H)(ht:UD β A w H τ a)(ho:o.op=.binOp op t x y t')(hn:JMn P op t y=some (f,n))(hx:opd P t x=some x')
  (hs:step τ H (o.dst.getD 0) (.nilq f n x')=some r)(hC:r.c):JY P a.eval o w β A H r.v r.ups:=by
 have fin:∀(b:Bool) (c:Value),y=.const c→((op=.eql∧n=false)∨(op=.neq∧n=true))→(∀p,a.eval x≠ .agg p)→(a.eval x≠ .nilIface)→(Op.equal t (a.eval x) c).run P w=.ok b w→
   (∀q,binOp .eql t (a.eval x) q=do pure (.bool (←Op.equal t (a.eval x) q)))→(∀q,binOp .neq t (a.eval x) q=do pure (.bool (!(←Op.equal t (a.eval x) q))))→
   JY P a.eval o w β A H (.d (.bool (if n then !b else b))) []:=by
  intro b c hy hop h1 h2 he hb1 hb2;subst hy;have hg:=XB (P:=P) (op:=op) (t:=t) (x:=x) (y:=.const c) (u:=a.eval x) (v:=c) h1 (fun h=>absurd h h2) w;have hev:a.eval (.const c)=c:=rfl;rcases hop with⟨rfl,rfl⟩|⟨rfl,rfl⟩
  ·exact JY.pure hc (u:=.bool b) (by simp only[execOp,ho,hev];simp[Sem.run_bind,hg,hb1,he]) (.d _ _ (.bool b))
  ·exact JY.pure hc (u:=.bool (!b)) (by simp only[execOp,ho,hev];simp[Sem.run_bind,hg,hb2,he]) (.d _ _ (.bool (!b)))
 simp only[step]at hs;cases e:val τ x' with
 |none=>simp[e]at hs
 |some v=>
  have hv:=JD hx e ht;simp only[e]at hs;unfold JMn at hn;split at hn
  ·rename_i el l c hu;have hn':f=false∧((op=.eql∧n=false)∨(op=.neq∧n=true)):=by
    split at hn<;>simp_all
   obtain⟨rfl,hop⟩:=hn';simp only at hs;split at hs
   ·rename_i sz q qs el2;cases hs;obtain⟨vs,sv⟩:=Uo hc el2 hC hv;obtain⟨ad,cap,hu2,_,h2⟩:=sv.ex;obtain⟨b,o2,rfl,_⟩:=h2 sP;have he:∀d,(Op.equalIn (d+1) t (.slice (some ⟨b,o2,none⟩) (q::qs).length cap) (.slice none l c)).run P w=.ok false w:=fun d=>by simp[Op.equalIn,run_underlying hu]
    have:=fin false (.slice none l c) rfl hop (by rw[hu2];simp) (by rw[hu2];simp) (by rw[hu2];exact he 9999) (by rw[hu2];intro q;rfl) (by rw[hu2];intro q;rfl);rcases hop with⟨_,rfl⟩|⟨_,rfl⟩<;>exact this
   ·cases hs
  ·rename_i q1 q2 q3 hu;have hn':f=true∧((op=.eql∧n=false)∨(op=.neq∧n=true)):=by
    split at hn<;>simp_all
   obtain⟨rfl,hop⟩:=hn';simp only at hs;have fn:∀(g:Nat) (p q:Array Value),a.eval x=.func (.func g) p q→JY P a.eval o w β A H (.d (.bool n)) []:=by
    intro g p q hu2;have he:∀d,(Op.equalIn (d+1) t (.func (.func g) p q) .nilFunc).run P w=.ok false w:=fun d=>by simp[Op.equalIn,run_underlying hu]
    have:=fin false .nilFunc rfl hop (by rw[hu2];simp) (by rw[hu2];simp) (by rw[hu2];exact he 9999) (by rw[hu2];intro q;rfl) (by rw[hu2];intro q;rfl);rcases hop with⟨_,rfl⟩|⟨_,rfl⟩<;>exact this
   split at hs
   ·cases hs;have hr:=hv.JU;generalize hu2:a.eval x=u at hr;cases hr;have he:∀d,(Op.equalIn (d+1) t .nilFunc .nilFunc).run P w=.ok true w:=fun d=>by simp[Op.equalIn,run_underlying hu]
    have:=fin true .nilFunc rfl hop (by rw[hu2];simp) (by rw[hu2];simp) (by rw[hu2];exact he 9999) (by rw[hu2];intro q;rfl) (by rw[hu2];intro q;rfl);rcases hop with⟨_,rfl⟩|⟨_,rfl⟩<;>exact this
   ·cases hs;have hr:=hv.JU;generalize hu2:a.eval x=u at hr;cases hr;exact fn _ _ _ hu2
   ·cases hs;generalize hu2:a.eval x=u at hv;cases hv;exact fn _ _ _ hu2
   ·cases hs
  ·cases hn
theorem JNU{io:IOp}(hc:Core β A w H)(ht:UD β A w H τ a)(h:JMo P o=some io)
  (hs:step τ H (o.dst.getD 0) io=some r)(hC:r.c):JY P a.eval o w β A H r.v r.ups:=by
 unfold JMo at h;split at h
 ·rename_i op t x y t' ho;split at h
  ·rename_i hop;split at h
   ·rename_i x' y' hx hy;cases h;exact JNH hc ht ho hop hx hy hs hC
   ·cases h
  ·split at h
   ·rename_i n f' x' hn hx;cases h;exact JLz hc ht ho hn hx hs hC
   ·cases h
 ·rename_i s t x ho;split at h
  ·rename_i e x' h1 h2 hx;split at h
   ·rename_i h3;split at h
    ·cases h;exact JNJ hc ht ho h1 h2 h3 hx hs
    ·cases h
   ·cases h
  ·rename_i e x' h1 h2 hx;split at h
   ·rename_i h3;split at h
    ·cases h;exact JNK hc ht ho h1 h2 h3 hx hs hC
    ·cases h
   ·cases h
  ·rename_i k x' h1 h2 hx;cases h;exact JNI hc ht ho h1 h2 hx hs
  ·cases h
 ·rename_i x xt t ho;split at h
  ·cases h
  ·rename_i d x' hne h1 hx;cases h;exact JNQ hc ht ho h1 (fun ms e=>by subst e;first|exact hne _ rfl|exact hne _ h1|exact hne _ _ h1 hx|exact hne _ _ rfl rfl) hx hs
  ·cases h
 ·rename_i t ho;cases h;exact JNL hc ho hs
 ·rename_i t m k v ho;split at h
  ·rename_i kt et hu;split at h
   ·rename_i c m' k' v' hk hm hkk hv;cases h;exact JHl hc ht (.inl ho) hu hk hm hkk hv hs hC
   ·cases h
  ·cases h
 ·rename_i t m k v ho;split at h
  ·rename_i kt et hu;split at h
   ·rename_i c m' k' v' hk hm hkk hv;cases h;exact JHl hc ht (.inr ho) hu hk hm hkk hv hs hC
   ·cases h
  ·cases h
 ·rename_i t m k ho;split at h
  ·rename_i kt et hu;split at h
   ·rename_i c m' k' z hk hm hkk hz;cases h;exact JNR hc ht ho hu hk hm hkk hz hs
   ·cases h
  ·cases h
 ·rename_i t m s v ho;split at h
  ·rename_i kt et hu;split at h
   ·rename_i m' s' v' hm hss hv;cases h;exact JNS hc ht ho hm hss hv hs
   ·cases h
  ·cases h
 ·rename_i t x i ok ho;split at h
  ·rename_i kt et hu;split at h
   ·rename_i c x' i' z hk hx hi hz;cases h;exact JNT hc ht ho hu hk hx hi hz hs
   ·cases h
  ·cases h
 ·rename_i t x ho;split at h
  ·rename_i x' hu hx;cases h;exact JNM hc ht ho hu hx hs
  ·cases h
 ·rename_i it ho;obtain⟨y,hy,rfl⟩:=Option.map_eq_some_iff.1 h;exact JNN hc ht ho hy hs
 ·cases h
end
end Av
namespace Av
open Go
variable [Glb][Rls]
variable {io:IOp}{r:Res}
section
variable {P:Program}{β:JM}{A:Nat→Prop}{w:World}{H:Heap}{τ:UX}{a:Act}{o:Oper}
theorem JW{α γ:Type}{f:α→γ}{x:Option α}{y:γ}(h:x.map f=some y):∃z,x=some z∧f z=y:=by
 cases x with
 |none=>cases h
 |some z=>exact⟨z,rfl,by simpa using h⟩
theorem JJZ{t e:TypeId}(h:elT P t=some e):P.underlying t=some (.slice e):=by
 unfold elT at h;split at h
 ·rename_i hu;cases h;exact hu
 ·cases h
theorem JNV{t:TypeId}{parts:Array (Nat×Operand)}(hc:Core β A w H)(ht:UD β A w H τ a)(ho:o.op=.build t parts)(h:JHZ P o=some io)
  (hs:step τ H (o.dst.getD 0) io=some r):JY P a.eval o w β A H r.v r.ups:=by
 simp only[JHZ,ho]at h;split at h
 ·rename_i fs zs hu hz;split at h
  ·rename_i places hpl;obtain⟨ps,hps,rfl⟩:=JW h;have hg:=Z8 hps;refine JHc (place:=fun i=>places.toArray[i]?) hc ht ho hz ⟨hg.1,?_⟩ ?_ hs
   ·intro j i x q hj hq;obtain⟨q',h1,h2⟩:=hg.2 j (i,x) hj;rw[h1]at hq;cases hq;dsimp only at h2;split at h2
    ·rename_i p f hp hf;obtain⟨y,hy,rfl⟩:=JW h2;exact⟨hp,f.type,hy⟩
    ·cases h2
   ·intro i z vs hi hzz;simp only[Program.built,hi,hu,hzz,hpl]
  ·cases h
 ·rename_i len e zs hu hz;split at h
  ·rename_i n hn;obtain⟨ps,hps,rfl⟩:=JW h;have hg:=Z8 hps;obtain⟨ie,hie,hin⟩:=JW hn;refine JHc (place:=fun i=>some (i*n,n)) hc ht ho hz ⟨hg.1,?_⟩ ?_ hs
   ·intro j i x q hj hq;obtain⟨q',h1,h2⟩:=hg.2 j (i,x) hj;rw[h1]at hq;cases hq;obtain⟨y,hy,rfl⟩:=JW h2;exact⟨rfl,e,hy⟩
   ·intro i z vs hi hzz;simp only[Program.built,hi,hu,hzz,hie,hin]
  ·cases h
 ·cases h
theorem JNW(hc:Core β A w H)(ht:UD β A w H τ a)(h:JHZ P o=some io)
  (hs:step τ H (o.dst.getD 0) io=some r)(hC:r.c):JY P a.eval o w β A H r.v r.ups:=by
 have h0:=h;unfold JHZ at h;split at h
 ·rename_i x ho;obtain⟨y,hy,rfl⟩:=JW h;exact JFc hc ht (.inl ho) hy hs
 ·rename_i x ho;obtain⟨y,hy,rfl⟩:=JW h;exact JFc hc ht (.inr ho) hy hs
 ·rename_i e ho;obtain⟨y,hy,rfl⟩:=JW h;exact JM8 hc ho hy hs
 ·rename_i e x ho;obtain⟨y,hy,rfl⟩:=JW h;exact JM9 hc ht ho hy hs
 ·rename_i t parts ho;exact JNV hc ht ho h0 hs
 ·rename_i t n parts ho;split at h
  ·rename_i e he;split at h
   ·rename_i sz i hsz hi;split at h
    ·rename_i hk;obtain⟨k1,k2,k3,k4⟩:=hk;obtain⟨ps,hps,rfl⟩:=JW h;exact JNE hc ht ho he hsz hi k1 k2 k3 k4 hps hs hC
    ·cases h
   ·cases h
  ·cases h
 ·rename_i t x ho;split at h
  ·rename_i n y hn hy;cases h;exact JSX hc ht ho hn hy hs hC
  ·cases h
 ·rename_i t x y ho;split at h
  ·rename_i n x' y' hn hx hy;cases h;exact JND hc ht ho hn hx hy hs hC
  ·cases h
 ·rename_i x ho;obtain⟨y,hy,rfl⟩:=JW h;exact JM0 hc ht ho hy hs
 ·rename_i op t x y t' ho;split at h
  ·rename_i b x' y' hb hx hy;split at h
   ·cases h;exact JMs hc ht ho hb hx hy hs hC
   ·cases h
  ·cases h
 ·rename_i op t x ho;split at h
  ·rename_i u x' hu hx;cases h;exact JMt hc ht ho hx hs
  ·rename_i k x' hu hx;cases h;exact JMu hc ht ho hx hs
  ·cases h
 ·rename_i s t x ho;split at h
  ·rename_i k' k x' h1 h2 hx;cases h;exact JMv hc ht ho h1 h2 hx hs
  ·cases h
 ·rename_i t x ho;split at h
  ·cases h
  ·rename_i d x' hne h1 hx;cases h;exact JMw hc ht ho h1 (fun ms hms=>hne ms hms) hx hs
  ·cases h
 ·rename_i fn first cap ho
  split at h
  ·rename_i fs cs h1 h2;cases h;exact JMx hc ht ho h1 h2 hs
  ·cases h
 ·rename_i t l c ho;split at h
  ·rename_i e he;split at h
   ·rename_i sz zs i ag l' c' h1 h2 h3 h4 h5 h6;split at h
    ·rename_i hk;obtain⟨k1,k2,k3,k4⟩:=hk;cases h;exact JNG hc ht ho (JJZ he) h5 h6 h1 h2 h3 h4 k4 k1 k3 hs hC
    ·cases h
   ·cases h
  ·cases h
 ·rename_i t x lo hi mx ho;split at h
  ·rename_i x' lo' hi' h1 h2 h3 h4 h5;cases h;cases mx with
   |none=>exact JM6 hc ht ho h1 h2 h3 h4 hs hC
   |some m=>
    exfalso;unfold ZB at h5
    split at h5
    ·simp at*
    ·obtain⟨y,hy,hyy⟩:=JW h5;cases hyy
  ·rename_i e x' lo' hi' mx' h1 h2 h3 h4 h5;obtain⟨sz,hsz,rfl⟩:=JW h;exact JM7 hc ht ho h1 hsz h2 h3 h4 h5 hs hC
  ·cases h
 ·rename_i t x f ho;split at h
  ·rename_i fs x' hu hx;split at h
   ·rename_i fd hf;split at h
    ·rename_i n hn;split at h
     ·rename_i hn0;cases h;exact JSW hc ht ho hu hf hn hn0 hx hs
     ·cases h
    ·cases h
   ·cases h
  ·cases h
 ·rename_i t x f ho;split at h
  ·rename_i fs x' hu hx;split at h
   ·rename_i fd hf;obtain⟨n,hn,rfl⟩:=JW h;exact JM1 hc ht ho hu hf hn hx hs hC
   ·cases h
  ·cases h
 ·rename_i t x i ho;split at h
  ·rename_i e x' i' hu hx hi;split at h
   ·rename_i sz ag hsz hag;split at h
    ·cases h;exact JM4 hc ht ho hu hsz hx hi hs hC
    ·cases h
   ·cases h
  ·rename_i len e x' i' hu hx hi;split at h
   ·rename_i sz hsz;split at h
    ·cases h;exact JM5 hc ht ho hu hsz hx hi hs hC
    ·cases h
   ·cases h
  ·cases h
 ·rename_i t x i ho;split at h
  ·rename_i x' i' hu hx hi;cases h;exact JM2 hc ht ho hu hx hi hs hC
  ·rename_i len e x' i' hu hx hi;split at h
   ·rename_i n sz hn hsz;cases h;exact JM3 hc ht ho hu hn hsz hx hi hs hC
   ·cases h
  ·cases h
 ·rename_i x i ho;obtain⟨y,hy,rfl⟩:=JW h;exact JMy hc ht ho hy hs
 ·rename_i args argTypes ho;split at h
  ·rename_i x t ha hat;split at h
   ·rename_i x' hu hx;cases h;exact JLu hc ht ho ha hat hu hx hs
   ·rename_i e x' hu hx;cases h;exact JMz hc ht ho ha hat hu hx hs hC
   ·cases h
  ·cases h
 ·rename_i args argTypes ho;split at h
  ·rename_i x y t t' ha hat;split at h
   ·rename_i e e' x' y' he he' hx hy;split at h
    ·rename_i sz zs i ag h1 h2 h3 h4;split at h
     ·rename_i hk;obtain⟨k1,k2,k3,k4⟩:=hk;cases h;exact JNF hc ht ho ha hat (JJZ he) (JJZ he') hx hy h1 h2 h3 k1 k3 hs hC
     ·cases h
    ·cases h
   ·cases h
  ·cases h
 ·rename_i args argTypes ho;split at h
  ·rename_i x y t ts ha hat;split at h
   ·rename_i k x' y' hu hx hy;cases h;exact JFd hc ht ho ha hx hy (.inl ⟨rfl,hs⟩)
   ·cases h
  ·cases h
 ·rename_i args argTypes ho;split at h
  ·rename_i x y t ts ha hat;split at h
   ·rename_i k x' y' hu hx hy;cases h;exact JFd hc ht ho ha hx hy (.inr ⟨rfl,hs⟩)
   ·cases h
  ·cases h
 ·cases h
theorem JKa(hc:Core β A w H)(ht:UD β A w H τ a)(h:JHa P o=some io)
  (hs:step τ H (o.dst.getD 0) io=some r)(hC:r.c):JY P a.eval o w β A H r.v r.ups:=by
 unfold JHa at h;split at h
 ·cases h
 ·cases h
 ·split at h
  ·rename_i i hi;cases h;exact JNW hc ht hi hs hC
  ·split at h
   ·rename_i i hi;cases h;exact JNU hc ht hi hs hC
   ·cases h;simp[step]at hs
end
end Av
namespace Av
open Go
variable [Glb][Rls]
def Zz(N:Nat):Option Nat→Bool
 |some d=>decide (d<N)
 |none=>true
def JFl(P:Program):Operand→Option Cal
 |.func f=>some (.fn f)
 |x=>(opd P 0 x).map .dyn
def JBv(P:Program)(N:Nat)(o:Oper):Option (Ss→Ss):=
 if Zz N o.dst then
  match o.op with
  |.call {callee:=.value f,args,argTypes}=>match JFl P f,Ji ((args.toList.zip argTypes.toList).map fun(x,t)=>opd P t x)with
   |some f,some xs=>if args.size=argTypes.size then some (.call o.dst f xs)else none
   |_,_=>none
  |_=>(JHa P o).map (.op o.dst)
 else none
def JJa:Bool→Operand→Operand→Bool
 |true,_,.const (.bool false)=>true
 |false,.const (.bool true),_=>true
 |_,_,_=>false
def YU(P:Program)(N:Nat)(ops:Array Oper):Nat→Option (Nat×Bool)→List Nat→List Nat→Option (Ss×List Nat)
 |0,_,_,_=>none
 |_+1,_,_,[]=>some (.nil,[])
 |n+1,g,asg,i::l=>match ops[i]? with
  |none=>none
  |some o=>
   if o.guard=g then
    match JBv P N o with
    |some f=>match YU P N ops n g (o.dst.toList++asg) l with
     |some (r,l')=>some (f r,l')
     |none=>none
    |none=>none
   else match o.guard with
    |none=>some (.nil,i::l)
    |some (j,b)=>match(ops[j]?).bind (·.dst)with
     |none=>none
     |some c=>if g=none∨asg.contains c then
       match YU P N ops n (some (j,b)) [] (i::l)with
       |some (body,i'::l')=>match ops[i']? with
        |some pk=>match pk.op,pk.dst with
         |.pick (.tmp c') x y,some d=>match opd P 0 (if b then x else y)with
          |some z=>if pk.guard=g∧c'=c∧d<N∧body.J1.contains c=false∧JJa b x y=true then
            match YU P N ops n g (d::(body.J1++asg)) l' with
            |some (r,l'')=>some (.sc c b body z d r,l'')
            |none=>none
           else none
          |none=>none
         |_,_=>none
        |none=>none
       |_=>none
      else some (.nil,i::l)
def tO:Opd→List Nat
 |.t n=>[n]
 |.k _=>[]
def tOO:Option Opd→List Nat
 |some o=>tO o
 |none=>[]
def tI:IOp→List Nat
 |.mov x|.box x|.fa x _|.fld _ x _|.not x|.neg _ x|.cvi _ x|.ifc _ x|.ext x _|.len x|.slen x|.nck x|.ld _ x=>tO x
 |.new _|.mkm=>[]
 |.bld _ ps=>ps.flatMap fun p=>tO p.2.2
 |.bls _ xs=>xs.flatMap tO
 |.sto _ a b|.ixa _ _ a b|.ixr _ _ a b|.ixs a b|.ixv _ _ _ a b|.bin _ a b|.mks _ _ a b|.app _ a b|.mn a b|.mx a b=>tO a++tO b
 |.fnv _ a b=>a.flatMap tO++b.flatMap tO
 |.slc _ x a b c=>tO x++(tOO a++(tOO b++tOO c))
 |.sls x a b=>tO x++(tOO a++tOO b)
 |.mpu _ a b c=>tO a++(tO b++tO c)
 |.mes a b c=>tO a++(tO b++tO c)
 |.lkp _ _ a b _|.bit _ a b|.men _ _ a b=>tO a++tO b
 |.i2s x|.s2b x|.b2s x|.rgs x|.nxs x|.nilq _ _ x|.asr _ x=>tO x
 |.bad=>[]
structure Fo where
 dst:Option Nat
 nd:List Nat
 cls:Nat
 deriving Inhabited
def JNX:IOp→Nat
 |.mov _|.bld .. |.fa .. |.fld .. |.ixr .. |.ixs .. |.ixv .. |.bin .. |.not _|.neg .. |.cvi .. |.ifc .. |.fnv .. |.sls .. |.ext .. |.slen _|.mn .. |.mx .. |.nck _|.bit .. |.s2b _|.i2s _|.asr .. |.bad=>0
 |.ld .. |.ixa .. |.slc .. |.len _|.lkp .. |.b2s _|.nilq .. =>1
 |_=>2
def JNY:Cal→List Nat
 |.dyn x=>tO x
 |.fn _=>[]
def fl:List Nat→Ss→List Fo
 |_,.nil=>[]
 |g,.op d o r=>⟨d,tI o++g,JNX o⟩::fl g r
 |g,.call d f args r=>⟨d,JNY f++(args.flatMap tO++g),2⟩::fl g r
 |g,.sc c _ body y d r=>fl [c] body++(⟨some d,c::(tO y++g),0⟩::fl g r)
def direct(o:Oper):List Nat:=(o.after.toList.filter (Region.binds .any)).map (·.on)
def closure:List Oper→List (List Nat)→List (List Nat)
 |[],acc=>acc
 |o::r,acc=>closure r (acc++[(List.range acc.length).filter fun j=>(direct o).contains j||(direct o).any fun d=>(acc.getD d []).contains j])
def sep2(un:List (Nat×Nat))(i j:Nat)(f g:Fo):Bool:=
 (match f.dst with|some d=> !g.nd.contains d|none=>true)&&(match g.dst with|some d=> !f.nd.contains d|none=>true)&&(f.dst.isNone||f.dst !=g.dst)&&
  (f.cls==0||g.cls==0||(decide (f.cls≤1)&&decide (g.cls≤1))||un.contains (i,j))
def JFm(cl:List (List Nat))(fs:List Fo)(un:List (Nat×Nat)):Bool:=
 (List.range fs.length).all fun j=>(List.range j).all fun i=>(cl.getD j []).contains i||sep2 un i j (fs.getD i default) (fs.getD j default)
def JAf(ops:List Oper):Bool:=(List.range ops.length).all fun i=>match ops[i]? with|some o=>(direct o).all fun j=>decide (j<i)|none=>false
def unOf(cl:List (List Nat))(fs:List Fo):List (Nat×Nat):=
 (List.range fs.length).flatMap fun j=>(List.range j).filterMap fun i=>
  if(cl.getD j []).contains i||sep2 [] i j (fs.getD i default) (fs.getD j default)then none else some (i,j)
def Jj(P:Program)(N:Nat):Code→Option Ic
 |.skip=>some .skip
 |.region _ ops false=>match YU P N ops (2*ops.size+2) none [] (List.range ops.size)with
  |some (s,[])=>some (.reg s)
  |_=>some .bad
 |.region _ ops true=>match YU P N ops (2*ops.size+2) none [] (List.range ops.size)with
  |some (s,[])=>if P.follows .mixedOrders&&(JAf ops.toList&&JFm (closure ops.toList []) (fl [] s) (unOf (closure ops.toList []) (fl [] s)))then
    some (match unOf (closure ops.toList []) (fl [] s)with|[]=>.reg s|un=>.regd un s)else some .bad
  |_=>some .bad
 |.seq a b=>match Jj P N a,Jj P N b with
  |some a,some b=>some (.seq a b)
  |_,_=>none
 |.cond c a b=>match opd P 0 c,Jj P N a,Jj P N b with
  |some c,some a,some b=>some (.ite c a b)
  |_,_,_=>none
 |.block id b=>(Jj P N b).map (.block id)
 |.loop b=>(Jj P N b).map .loop
 |.exit id=>some (.exit id)
 |.ret=>some .ret
 |.scope c=>(Jj P N c).map .scp
 |.label _=>some .lab
 |.rangeFunc g ps a b=>match opd P 0 g,Jj P N a,Jj P N b with
  |some f,some a',some b'=>if ps.all (fun t=>decide (t<N))then some (.rng f N (N+ps.getD 0 0) ps a b a' b')else none
  |_,_,_=>none
 |_=>some .bad
def strip:Ic→Ic
 |.dn a _=>strip a
 |.seq a b=>.seq (strip a) (strip b)
 |.ite c a b=>.ite c (strip a) (strip b)
 |.block id b=>.block id (strip b)
 |.loop b=>.loop (strip b)
 |.scp b=>.scp (strip b)
 |.rng f N lid ps c1 c2 a b=>.rng f N lid ps c1 c2 (strip a) (strip b)
 |x=>x
def wpc(P:Program)(D:Nat→Prop):Ic→(Exit→St→Prop)→St→Prop
 |.skip,Q,st=>Q .normal st
 |.reg s,Q,st=>wps P s (Q .normal) st
 |.regd un s,Q,st=>UZ P s (fun st lg=>X7 lg un=true∧Q .normal st) st []
 |.dn a ts,Q,st=>wpc P D a (fun e s=>match e with|.normal=>Q .normal ⟨Un s.tm ts,s.hp⟩|e=>Q e s) st
 |.seq a b,Q,st=>wpc P D a (fun e s=>match e with|.normal=>wpc P D b Q s|e=>Q e s) st
 |.ite c a b,Q,st=>match val (get st.tm) c with
  |some (.d (.bool x))=>(x=true→wpc P D a Q st)∧(x=false→wpc P D b Q st)
  |_=>False
 |.block id b,Q,st=>wpc P D b (fun e s=>match e with|.exit id'=>if id'=id then Q .normal s else Q (.exit id') s|e=>Q e s) st
 |.loop b,Q,st=>∃I:Nat→St→Prop,(∃n s,Wk D st s∧I n s)∧
   ∀n s,I n s→wpc P D b (fun e s'=>match e with|.normal=>∃m s'',m<n∧Wk D s' s''∧I m s''|e=>Q e s') s
 |.exit id,Q,st=>Q (.exit id) st
 |.ret,Q,st=>Q .ret st
 |.bad,_,_=>False
 |.scp a,Q,st=>wpc P D a (fun e s=>match e with|.goto _=>False|e=>Q e s) st
 |.lab,Q,st=>Q .normal st
 |.rng f N lid ps c1 c2 asg body,Q,st=>get st.hp lid=none∧(Jj P N c1=some (strip asg)→Jj P N c2=some (strip body)→
   match Xz (get st.tm) (.dyn f) [.mp lid]with
   |some (.fn g,vs)=>∃T v ups,Has P g∧JC P g vs T v ups∧XE (upd (get st.hp) lid (some (.lp ⟨st.tm,N,ps,c1,c2,.ready,none⟩))) T∧
    ∃hp l,(∀i,i≠lid→get hp i=JA (get st.hp) ups i)∧get hp lid=some .gone∧
     JA (upd (get st.hp) lid (some (.lp ⟨st.tm,N,ps,c1,c2,.ready,none⟩))) ups lid=some (.lp l)∧l.s≠ .busy∧
     match l.j with
     |none=>Q .normal ⟨st.tm,hp⟩
     |some .ret=>Q .ret ⟨st.tm,hp⟩
     |some (.exit id)=>Q (.exit id) ⟨st.tm,hp⟩
     |_=>False
   |_=>False)
end Av
namespace Av
open Go
variable [Glb][Rls]
variable {f:Nat}
section
variable {α:Type}
theorem UF(l:List (Nat×α))(i:Nat)(v:α)(j:Nat):get (put l i v) j=if j=i then some v else get l j:=by
 induction l with
 |nil=>by_cases h:i=j<;>simp[put,get,h,eq_comm]
 |cons e r ih=>
  obtain⟨k,u⟩:=e;simp only[put];by_cases h:k=i
  ·subst h;rw[if_pos rfl];by_cases h2:k=j
   ·simp[get,h2]
   ·simp[get,h2,Ne.symm h2]
  ·rw[if_neg h];simp only[get,ih];by_cases h2:k=j
   ·subst h2;simp[h]
   ·simp[h2]
theorem JCX(l:List (Nat×α))(ks:List Nat)(j:Nat):get (Un l ks) j=if ks.contains j then none else get l j:=by
 induction l with
 |nil=>simp[Un,get]
 |cons e r ih=>
  obtain⟨k,u⟩:=e;simp only[Un];split
  ·rename_i h;rw[ih];simp only[get];split
   ·rfl
   ·split
    ·subst_vars;simp_all
    ·rfl
  ·simp only[get,ih];split
   ·subst_vars;simp_all
   ·rfl
theorem UA:∀(ups:List (Nat×Obj)) (l:List (Nat×Obj)),get (UH l ups)=JA (get l) ups
 |[],l=>rfl
 |(i,v)::r,l=>by
  simp only[UH,JA];rw[UA r];congr 1;funext j;rw[UF];rfl
end
structure SatB(N:Nat)(st:St)(a:Act)(w:World)(β:JM)(A:Nat→Prop):Prop where
 core:Core β A w (get st.hp)
 tmps:UD β A w (get st.hp) (get st.tm) a
 size:a.tmps.size=N
section
variable {P:Program}{N:Nat}{β:JM}{A:Nat→Prop}{w:World}{a:Act}{o:Oper}{ro:Option Nat}{n:Nat}{st:St}
abbrev FW(ro:Option Nat):Fence:={Fence.wide with round:=ro}
theorem JD7{ro:Option Nat}{n:Nat}{args:Array Value}{w:World}{R:Ending→World→Prop}(h:Calls P f args w R):CallsIn (FW ro) n P f args w R:=
 callsIn_wide.2 h
theorem JNZ{ro:Option Nat}{n:Nat}{l:Nat}{tmps:Array Value}{asg body:Code}{w:World}{R:Ending→World→Prop}(h:RoundIn Fence.wide 0 P l f tmps asg body w R):
  RoundIn (FW ro) n P l f tmps asg body w R:=⟨trivial,fun c cs _=>h.2 c cs (room_wide _)⟩
theorem U0(a:Act)(dst:Option Nat)(u:Value)(t:Nat)(h:t∉dst.toList):(a.put dst u).tmps[t]? =a.tmps[t]? :=by
 cases dst with
 |none=>rfl
 |some d=>
  simp only[Option.toList_some,List.mem_singleton]at h;simp only[Act.put,Array.getElem?_setIfInBounds];rw[if_neg (fun e=>h e.symm)]
theorem JBK(a:Act)(d:Nat)(u:Value)(h:d<a.tmps.size):(a.put (some d) u).tmps[d]? =some u:=by
 simp[Act.put,h]
theorem Z9(a:Act)(dst:Option Nat)(u:Value):(a.put dst u).tmps.size=a.tmps.size:=by
 cases dst<;>simp[Act.put]
theorem put_defers(a:Act)(dst:Option Nat)(u:Value):(a.put dst u).defers=a.defers:=by
 cases dst<;>rfl
theorem SatB.app{dst:Option Nat}{v:Av}{u:Value}{ups:List (Nat×Obj)}{β':JM}{A':Nat→Prop}{w':World}(hs:SatB N st a w β A)(hd:Zz N dst=true)
  (st1:Stp β A w (get st.hp) β' A' w' (JA (get st.hp) ups))(hv:VRep β' A' w' (JA (get st.hp) ups) v u):SatB N (st.app dst v ups) (a.put dst u) w' β' A':=by
 have hh:get (st.app dst v ups).hp=JA (get st.hp) ups:=UA ups st.hp;refine⟨by rw[hh];exact st1.core,?_,by rw[Z9];exact hs.size⟩;rw[hh];intro t c hc;cases dst with
 |none=>
  obtain⟨u',h1,h2⟩:=hs.tmps t c hc;exact⟨u',h1,st1.vals _ _ h2⟩
 |some d=>
  simp only[St.app,UF]at hc;split at hc
  ·rename_i e;cases hc;subst e;exact⟨u,JBK a _ u (by simp only[Zz,decide_eq_true_eq]at hd;rw[hs.size];exact hd),hv⟩
  ·rename_i e;obtain⟨u',h1,h2⟩:=hs.tmps t c hc;exact⟨u',by rw[U0 _ _ _ _ (sX e)];exact h1,st1.vals _ _ h2⟩
theorem JD8{io:IOp}(h:JHa P o=some io):∀c,o.op≠ .defer c:=by
 intro c hc;simp[JHa,hc]at h
theorem JFn{τ:UX}:∀{xs:List Opd} {vs:List Av},vals τ xs=some vs→vs.length=xs.length∧∀(i:Nat) x,xs[i]? =some x→∃v,vs[i]? =some v∧val τ x=some v
 |[],vs,h=>by simp only[vals,Vd]at h;subst h;simp
 |x::xs,vs,h=>by
  simp only[vals]at h;cases e1:val τ x with
  |none=>simp[e1]at h
  |some v=>
   simp only[e1]at h;cases e2:vals τ xs with
   |none=>simp[e2]at h
   |some us=>
    simp only[e2,Vd]at h;subst h;obtain⟨h1,h2⟩:=JFn e2;refine⟨by simp[h1],fun i y hy=>?_⟩;cases i with
    |zero=>simp at hy;subst hy;exact⟨v,rfl,e1⟩
    |succ i=>exact h2 i y (sX hy)
theorem Zc(h:Has P f)(args:Array Value)(w:World):(callFunc f args).run P w=.ok (.enter f args) w:=by
 obtain⟨fn,h1,h2,h3⟩:=h;have h2':fn.body≠none:=by intro hb;simp[hb]at h2
 have h3':fn.name≠ "runtime.NumGoroutine" :=sX h3;simp[callFunc,h1,h2',h3']
theorem JHo{H:Heap}{τ:UX}{g:Operand}{args:Array Operand}{argTypes:Array TypeId}{fc:Cal}{xs:List Opd}{f':Cee}{vs:List Av}{T:List (Nat×Option Obj)}{v:Av}{ups:List (Nat×Obj)}
  {next:Act→World→Prop}{Q:Exit→Act→World→Prop}(hc:Core β A w H)(ht:UD β A w H τ a)(ho:o.op=.call {callee:=.value g,args,argTypes})(hcal:JFl P g=some fc)
  (hxs:Ji ((args.toList.zip argTypes.toList).map fun(x,t)=>opd P t x)=some xs)(hsz:args.size=argTypes.size)(htg:target τ fc xs=some (f',vs))(hcok:JC P f' vs T v ups)(hT:XE H T)
  (hk:∀u w' β' A',Stp β A w H β' A' w' (JA H ups)→VRep β' A' w' (JA H ups) v u→next (a.put o.dst u) w'):o.wpIn (FW ro) n P a w next Q:=by
 refine⟨fun f _=>trivial,?_⟩;rw[Oper.semAt_eq ro a.eval o (by intro c hc;rw[ho]at hc;cases hc)];have hcore:=hc;have hT':∀e∈T,H e.1=e.2:=by
  clear hcok hk
  induction T with
  |nil=>simp
  |cons e T ih=>intro e' he';rcases VA.1 he' with rfl|h;exact hT.1;exact ih hT.2 e' h
 obtain⟨g1,g2⟩:=Z8 hxs;have hargs:∀us,vals (τ) xs=some us→us.length=(args.map a.eval).size∧∀(i:Nat) c v,us[i]? =some c→(args.map a.eval)[i]? =some v→VRep β A w (H) c v:=by
  intro us hus;obtain⟨q1,q2⟩:=JFn hus;have hl:(args.toList.zip argTypes.toList).length=args.size:=by simp[hsz]
  refine⟨by rw[q1,←g1,hl,Array.size_map],fun i c v hc hv=>?_⟩;rw[Array.getElem?_map]at hv;cases hx:args[i]? with
  |none=>simp[hx]at hv
  |some x=>
   simp only[hx,Vj,Vd]at hv;subst hv;have hi:i<args.size:=(Array.getElem?_eq_some_iff.1 hx).1;have hz:(args.toList.zip argTypes.toList)[i]? =some (x,argTypes[i]'oM):=by
    rw[List.getElem?_zip_eq_some];exact⟨by simpa using hx,sP⟩
   obtain⟨y,h1,h2⟩:=g2 i _ hz;obtain⟨c',h3,h4⟩:=q2 i y h1;rw[hc]at h3;cases h3;exact JD h2 h4 ht
 have key:∀(us:Array Value) (k:Nat),f'=.fn k→JBl β A w (H) vs us→(execOp a.eval o).run P w=(callFunc k us).run P w→o.uponIn (FW ro) n P a next Q ((execOp a.eval o).run P w):=by
  intro us k hk' hus hrun;subst hk';rw[hrun];rcases hcok β A w (H) us hT' hc hus with⟨hhas,hcall⟩|⟨u,w',hres,β',A',st1,hv⟩
  ·rw[Zc hhas];refine⟨(fun h=>by cases h),JD7 (hcall.mono ?_)⟩;rintro e w' ⟨u,rfl,β',A',st1,hv⟩;exact hk u w' β' A' st1 hv
  ·rw[hres];exact hk u w' β' A' st1 hv
 have hrun0:(execOp a.eval o).run P w=((Deferred.ofValue (a.eval g) (args.map a.eval)).run P w).andThen fun d w'=>(invoke d.target d.args).run P w':=by
  simp[execOp,ho,resolve,Sem.run_bind]
 unfold target at htg;cases ev:vals (τ) xs with
 |none=>simp[ev]at htg
 |some us=>
  obtain⟨al,ar⟩:=hargs us ev;simp only[ev]at htg;unfold Xz at htg;have clo:∀(k:Nat) (fs cs:List Av) (a1 a2:Array Value),f'=.fn k→a.eval g=.func (.func k) a1 a2→vs=fs++us++cs→fs.length=a1.size→cs.length=a2.size→
    (∀(i:Nat) c v,fs[i]? =some c→a1[i]? =some v→VRep β A w (H) c v)→(∀(i:Nat) c v,cs[i]? =some c→a2[i]? =some v→VRep β A w (H) c v)→
    o.uponIn (FW ro) n P a next Q ((execOp a.eval o).run P w):=by
   intro k fs cs a1 a2 hk' hg hvs l1 l2 r1 r2;refine key (a1++args.map a.eval++a2) k hk' ⟨by rw[hvs];simp[l1,l2]at al⊢;omega,?_⟩ ?_
   ·subst hvs;intro i c v hc hv;rw[←Array.getElem?_toList,Array.toList_append,Array.toList_append]at hv;by_cases h1:i<fs.length
    ·rw[List.append_assoc,Vz h1]at hc;rw[List.append_assoc,Vz sO]at hv;exact r1 i c v hc (sX hv)
    ·by_cases h2:i<fs.length+us.length
     ·rw[List.append_assoc,Vy oM,Vz oM]at hc;rw[List.append_assoc,Vy sO,Vz (by simp at al⊢;omega)]at hv;refine ar _ c v hc ?_;rw[←hv,Array.getElem?_toList,l1];rfl
     ·rw[Vy sO]at hc;rw[Vy (by simp at al⊢;omega)]at hv;refine r2 _ c v hc ?_;rw[←hv,Array.getElem?_toList];congr 1;simp at al⊢;omega
   ·rw[hrun0,hg];simp only[Deferred.ofValue,Sem.run_pure,Result.andThen_ok,invoke]
  cases fc with
  |fn k=>
   simp only[Vd,Ve]at htg;obtain⟨rfl,rfl⟩:=htg;have hg:a.eval g=.func (.func k) #[] #[]:=by
    unfold JFl at hcal;split at hcal
    ·simp only[Vd,Cal.fn.injEq]at hcal;subst hcal;rfl
    ·obtain⟨y,hy,hyy⟩:=JW hcal;cases hyy
   exact clo k [] [] #[] #[] rfl hg sP rfl rfl sP sP
  |dyn x=>
   have hx:opd P 0 g=some x:=by
    unfold JFl at hcal;split at hcal
    ·cases hcal
    ·obtain⟨y,hy,hyy⟩:=JW hcal;cases hyy;exact hy
   simp only at htg;cases ex:val (τ) x with
   |none=>simp[ex]at htg
   |some c=>
    have hc:=JD hx ex ht;simp only[ex]at htg;split at htg
    ·rename_i k fs cs hcc;simp only[Vd,Ve]at htg hcc;obtain⟨rfl,rfl⟩:=htg;subst hcc;have hr:=hc.JU;generalize hgu:a.eval g=u at*;cases hr with
     |fn _ _ _ a1 a2 l1 l2 r1 r2=>
      refine clo k (fs.map .d) (cs.map .d) a1 a2 rfl rfl rfl (sX l1) (sX l2) ?_ ?_
      ·intro i c v h1 h2;rw[Vo]at h1;cases e1:fs[i]? with
       |none=>simp[e1]at h1
       |some y=>simp only[e1,Vj,Vd]at h1;subst h1;exact .d _ _ (r1 i y v e1 h2)
      ·intro i c v h1 h2;rw[Vo]at h1;cases e1:cs[i]? with
       |none=>simp[e1]at h1
       |some y=>simp only[e1,Vj,Vd]at h1;subst h1;exact .d _ _ (r2 i y v e1 h2)
    ·rename_i k fs cs hcc;simp only[Vd,Ve]at htg hcc;obtain⟨rfl,rfl⟩:=htg;subst hcc;generalize hgu:a.eval g=u at*;cases hc with
     |clo _ _ _ a1 a2 l1 l2 r1 r2=>exact clo k fs cs a1 a2 rfl rfl rfl l1 l2 r1 r2
    ·rename_i i hcc;simp only[Vd,Ve]at htg hcc;obtain⟨rfl,rfl⟩:=htg;subst hcc;have hus:JBl β A w H (.mp i::us) (#[a.eval g]++args.map a.eval):=by
      refine⟨by simp at al⊢;omega,?_⟩;intro j c v h1 h2;cases j with
      |zero=>
       simp only[List.getElem?_cons_zero,Vd]at h1;have h2':a.eval g=v:=by rw[Array.getElem?_append_left sP]at h2;simpa using h2
       rw[←h1,←h2'];exact hc
      |succ j=>
       refine ar j c v (sX h1) ?_;rw[Array.getElem?_append_right sP]at h2;simpa using h2
     obtain⟨l,rest,e1,fn,tmps,asg,body,e2,e3⟩:=hcok β A w H _ hT' hcore hus;have e1':=congrArg Array.toList e1;simp only[Array.toList_append,List.cons_append,List.nil_append,List.cons.injEq,Array.toList_inj]at e1';obtain⟨eg,er⟩:=e1';subst er;rw[hrun0,eg];simp only[Deferred.ofValue,Sem.run_pure,Result.andThen_ok,invoke,Array.empty_append];rw[e2];refine⟨(fun h=>by cases h),JNZ (e3.mono ?_)⟩;rintro e w' ⟨u,rfl,β',A',st1,hv⟩;exact hk u w' β' A' st1 hv
    ·cases htg
theorem one_ok{f:Ss→Ss}{r:Ss}{K:St→Prop}{next:Act→World→Prop}{Q:Exit→Act→World→Prop}(h:JBv P N o=some f)(hw:wps P (f r) K st)(hs:SatB N st a w β A)
  (hk:∀a' w' β' A' st',wps P r K st'→Stp β A w (get st.hp) β' A' w' (get st'.hp)→SatB N st' a' w' β' A'→(∀t,t∉o.dst.toList→a'.tmps[t]? =a.tmps[t]?)→a'.defers=a.defers→next a' w'):
  o.wpIn (FW ro) n P a w next Q:=by
 unfold JBv at h;split at h
 case isFalse=>cases h
 rename_i hdst;have plain:∀io,JHa P o=some io→f=Ss.op o.dst io→o.wpIn (FW ro) n P a w next Q:=by
  intro io hio hf;subst hf;refine⟨fun f _=>trivial,?_⟩;rw[Oper.semAt_eq ro a.eval o (JD8 hio)];simp only[wps]at hw;split at hw
  ·rename_i x hx;obtain⟨hc,hK⟩:=hw;obtain⟨u,β',A',w',hrun,st1,hv⟩:=JKa hs.core hs.tmps hio hx hc;have hsat:=hs.app hdst st1 hv;have hst:Stp β A w (get st.hp) β' A' w' (get (st.app o.dst x.v x.ups).hp):=by
    have:get (st.app o.dst x.v x.ups).hp=JA (get st.hp) x.ups:=UA x.ups st.hp;rw[this];exact st1
   have:=hk (a.put o.dst u) w' β' A' _ hK hst hsat (fun t ht=>U0 _ _ _ _ ht) (put_defers _ _ _);rcases hrun with hrun|⟨hrun,rfl⟩
   ·rw[hrun];exact this
   ·rw[hrun];exact this
  ·exact hw.elim
 split at h
 ·rename_i g args argTypes ho;split at h
  ·rename_i fc xs hcal hxs;split at h
   ·rename_i hsz;simp only[Vd]at h;subst h;simp only[wps]at hw;split at hw
    case h_2=>exact hw.elim
    rename_i f' vs htg;obtain⟨T,v,ups,hp1,hcok,hT,hp1e,hK⟩:=hw;refine(JHo hs.core hs.tmps ho hcal hxs hsz htg hcok hT ?_:o.wpIn (FW ro) n P a w next Q);intro u w' β' A' st1 hv;have hh:get hp1=JA (get st.hp) ups:=funext hp1e;have hst:Stp β A w (get st.hp) β' A' w' (get (st.set o.dst v hp1).hp):=by
     show Stp β A w (get st.hp) β' A' w' (get hp1);rw[hh];exact st1
    have hsat:SatB N (st.set o.dst v hp1) (a.put o.dst u) w' β' A':=by
     obtain⟨q1,q2,q3⟩:=hs.app hdst st1 hv;have e2:get (st.app o.dst v ups).hp=get hp1:=(UA ups st.hp).trans hh.symm;rw[e2]at q1 q2;exact⟨q1,q2,q3⟩
    exact hk (a.put o.dst u) w' β' A' _ hK hst hsat (fun t ht=>U0 _ _ _ _ ht) (put_defers _ _ _)
   ·cases h
  ·cases h
 ·rename_i hne;obtain⟨io,hio,rfl⟩:=JW h;exact plain io hio rfl
end
end Av
namespace Av
open Go
variable [Glb][Rls]
section
variable {P:Program}{N:Nat}{β:JM}{A:Nat→Prop}{w:World}{a:Act}{o:Oper}{ro:Option Nat}{n:Nat}{st:St}{ops:Array Oper}{Q:Exit→Act→World→Prop}
theorem Zd{f:Ss→Ss}(h:JBv P N o=some f)(r:Ss):(f r).J1=o.dst.toList++r.J1:=by
 unfold JBv at h;split at h
 ·split at h
  ·split at h
   ·split at h
    ·cases h;rfl
    ·cases h
   ·cases h
  ·obtain⟨io,_,rfl⟩:=JW h;rfl
 ·cases h
theorem JFo{f:Ss→Ss}(h:JBv P N o=some f):∀d∈o.dst.toList,d<N:=by
 unfold JBv at h;split at h
 ·rename_i hd;intro d hd';cases e:o.dst with
  |none=>simp[e]at hd'
  |some d'=>simp[e]at hd';subst hd';simpa[Zz,e]using hd
 ·cases h
theorem JC5(h:o.guard=none)(y:Nat→Option Bool):Region.wanted o y=true:=by simp[Region.wanted,h]
theorem X8{j:Nat}{b:Bool}(h:o.guard=some (j,b))(y:Nat→Option Bool):Region.wanted o y=(y j==some b):=by simp[Region.wanted,h]
theorem Yk{j c:Nat}{v:Value}{tmps:Array Value}(hj:(ops[j]?).bind (·.dst)=some c)(hc:tmps[c]? =some v):yielded ops tmps j=match v with|.bool b=>some b|_=>none:=by
 simp only[yielded,hj,Option.bind_some,hc];cases v<;>rfl
theorem JDi:∀(m:Nat) (j:Nat) (b:Bool) (asg l:List Nat) (s:Ss) (l':List Nat) (a:Act) (c:Nat) (u:Value),YU P N ops m (some (j,b)) asg l=some (s,l')→(ops[j]?).bind (·.dst)=some c→c∉s.J1→a.tmps[c]? =some u→u≠ .bool b→
  a.tmps.size=N→(∀t∈asg,a.tmps[t]? =some undef)→
  (∀a':Act,(∀t,t∉s.J1→a'.tmps[t]? =a.tmps[t]?)→(∀t∈s.J1,a'.tmps[t]? =some undef)→a'.tmps.size=N→a'.defers=a.defers→wpOpsIn (FW ro) n P ops Q l' a' w)→wpOpsIn (FW ro) n P ops Q l a w
 |0,j,b,asg,l,s,l',a,c,u,h,_,_,_,_,_,_,_=>by simp[YU]at h
 |m+1,j,b,asg,[],s,l',a,c,u,h,_,_,_,_,hsz,_,hk=>by
  simp only[YU,Vd,Ve]at h;obtain⟨rfl,rfl⟩:=h;exact hk a (fun _ _=>rfl) (by simp[Ss.J1]) hsz rfl
 |m+1,j,b,asg,i::l,s,l',a,c,u,h,hj,hcs,hcu,hub,hsz,hasg,hk=>by
  have hny:(yielded ops a.tmps j==some b)=false:=by
   rw[Yk hj hcu];cases u<;>simp_all
  unfold YU at h;split at h
  ·cases h
  rename_i o ho;split at h
  ·rename_i hg;split at h
   case h_2=>cases h
   rename_i f hf;split at h
   case h_2=>cases h
   rename_i r l2 hr;simp only[Vd,Ve]at h;obtain⟨rfl,rfl⟩:=h;rw[Zd hf]at hcs hk;simp only[wpOpsIn,ho,X8 hg,hny];refine⟨fun _ _=>trivial,?_⟩;have hcd:c∉o.dst.toList:=fun h=>hcs (List.mem_append_left _ h)
   refine JDi m j b (o.dst.toList++asg) l r _ (a.put o.dst undef) c u hr hj (fun h=>hcs (List.mem_append_right _ h)) (by rw[U0 _ _ _ _ hcd];exact hcu) hub (by rw[Z9];exact hsz) ?_ ?_
   ·intro t ht;by_cases htd:t∈o.dst.toList
    ·have hlt:=JFo hf t htd;cases e:o.dst with
     |none=>simp[e]at htd
     |some d=>simp only[e,Option.toList_some,List.mem_singleton]at htd;subst htd;exact JBK a _ undef (by rw[hsz];exact hlt)
    ·rw[U0 _ _ _ _ htd];rcases List.mem_append.1 ht with h|h
     ·exact absurd h htd
     ·exact hasg t h
   ·intro a' h1 h2 h3 h4;refine hk a' ?_ ?_ h3 (by rw[h4,put_defers])
    ·intro t ht;rw[h1 t (fun h=>ht (List.mem_append_right _ h)),U0 _ _ _ _ (fun h=>ht (List.mem_append_left _ h))]
    ·intro t ht;by_cases hr':t∈r.J1
     ·exact h2 t hr'
     ·rw[h1 t hr'];have htd:t∈o.dst.toList:=(List.mem_append.1 ht).resolve_right hr';have hlt:=JFo hf t htd;cases e:o.dst with
      |none=>simp[e]at htd
      |some d=>simp only[e,Option.toList_some,List.mem_singleton]at htd;subst htd;exact JBK a _ undef (by rw[hsz];exact hlt)
  ·rename_i hg;split at h
   ·simp only[Vd,Ve]at h;obtain⟨rfl,rfl⟩:=h;exact hk a (fun _ _=>rfl) (by simp[Ss.J1]) hsz rfl
   ·rename_i j2 b2 hg2;split at h
    ·cases h
    rename_i c2 hc2;split at h
    case isFalse=>
     simp only[Vd,Ve]at h;obtain⟨rfl,rfl⟩:=h;exact hk a (fun _ _=>rfl) (by simp[Ss.J1]) hsz rfl
    rename_i hin;have hin':c2∈asg:=sX hin;split at h
    case h_2=>cases h
    rename_i body i' l2 hb;split at h
    case h_2=>cases h
    rename_i pk hpk;split at h
    case h_2=>cases h
    rename_i c' x y d hop hdst;split at h
    case h_2=>cases h
    rename_i z hz;split at h
    case isFalse=>cases h
    rename_i hcond;obtain⟨k1,k2,k3,k4,k5⟩:=hcond;split at h
    case h_2=>cases h
    rename_i r l3 hr;simp only[Vd,Ve]at h;obtain⟨rfl,rfl⟩:=h;simp only[Ss.J1,List.mem_append,VA,not_or]at hcs hk;obtain⟨q1,q2,q3⟩:=hcs;refine JDi m j2 b2 [] (i::l) body _ a c2 undef hb hc2 (sX k4) (hasg c2 hin') (by cases b2<;>simp[undef]) hsz sP ?_;intro a1 h1 h2 h3 h4;have hny1:(yielded ops a1.tmps j==some b)=false:=by
     rw[Yk hj (show a1.tmps[c]? =some u by rw[h1 c q1];exact hcu)];cases u<;>simp_all
    simp only[wpOpsIn,hpk,X8 k1,hny1];refine⟨fun _ _=>trivial,?_⟩;rw[hdst];refine JDi m j b (d::(body.J1++asg)) l2 r _ (a1.put (some d) undef) c u hr hj q3 (by rw[U0 _ _ _ _ (sX q2),h1 c q1];exact hcu) hub (by rw[Z9];exact h3) ?_ ?_
    ·intro t ht;by_cases e:t=d
     ·subst e;exact JBK a1 _ undef (by rw[h3];exact k3)
     ·rw[U0 _ _ _ _ (sX e)];by_cases hbt:t∈body.J1
      ·exact h2 t hbt
      ·rw[h1 t hbt];simp only[VA,List.mem_append]at ht;rcases ht with h|h|h
       ·exact absurd h e
       ·exact absurd h hbt
       ·exact hasg t h
    ·intro a' g1 g2 g3 g4;refine hk a' ?_ ?_ g3 (by rw[g4,put_defers,h4])
     ·rintro t ⟨t1,t2,t3⟩;rw[g1 t t3,U0 _ _ _ _ (sX t2),h1 t t1]
     ·intro t ht;by_cases e1:t∈r.J1
      ·exact g2 t e1
      ·rw[g1 t e1];by_cases e2:t=d
       ·subst e2;exact JBK a1 _ undef (by rw[h3];exact k3)
       ·rw[U0 _ _ _ _ (sX e2)];rcases ht with h|h|h
        ·exact h2 t h
        ·exact absurd h e2
        ·exact absurd h e1
 termination_by m=>m
theorem SatB.bool_at{c:Nat}{x:Bool}(hs:SatB N st a w β A)(h:get st.tm c=some (.d (.bool x))):a.tmps[c]? =some (.bool x):=by
 obtain⟨u,h1,h2⟩:=hs.tmps c _ h;have:=h2.JU;cases this;exact h1
theorem JGb:∀(m:Nat) (g:Option (Nat×Bool)) (asg l:List Nat) (s:Ss) (l':List Nat) (K:St→Prop) (st:St) (a:Act) (w:World) (β:JM) (A:Nat→Prop),YU P N ops m g asg l=some (s,l')→
  (∀j b,g=some (j,b)→∃c,(ops[j]?).bind (·.dst)=some c∧c∉s.J1∧a.tmps[c]? =some (.bool b))→wps P s K st→SatB N st a w β A→
  (∀a' w' β' A' st',K st'→Stp β A w (get st.hp) β' A' w' (get st'.hp)→SatB N st' a' w' β' A'→(∀t,t∉s.J1→a'.tmps[t]? =a.tmps[t]?)→a'.defers=a.defers→wpOpsIn (FW ro) n P ops Q l' a' w')→
  wpOpsIn (FW ro) n P ops Q l a w
 |0,g,asg,l,s,l',K,st,a,w,β,A,h,_,_,_,_=>by simp[YU]at h
 |m+1,g,asg,[],s,l',K,st,a,w,β,A,h,_,hw,hs,hk=>by
  simp only[YU,Vd,Ve]at h;obtain⟨rfl,rfl⟩:=h;exact hk a w β A st hw (Stp.refl hs.core) hs (fun _ _=>rfl) rfl
 |m+1,g,asg,i::l,s,l',K,st,a,w,β,A,h,hgo,hw,hs,hk=>by
  have want:∀(o:Oper) (a':Act),o.guard=g→(∀t,t∉s.J1→a'.tmps[t]? =a.tmps[t]?)→Region.wanted o (yielded ops a'.tmps)=true:=by
   intro o a' hg hfr;cases g with
   |none=>exact JC5 hg _
   |some jb=>
    obtain⟨j,b⟩:=jb;obtain⟨c,h1,h2,h3⟩:=hgo j b rfl;rw[X8 hg,Yk h1 (show a'.tmps[c]? =some (.bool b) by rw[hfr c h2];exact h3)];simp
  unfold YU at h;split at h
  ·cases h
  rename_i o ho;split at h
  ·rename_i hg;split at h
   case h_2=>cases h
   rename_i f hf;split at h
   case h_2=>cases h
   rename_i r l2 hr;simp only[Vd,Ve]at h;obtain⟨rfl,rfl⟩:=h;have hwant:=want o a hg (fun _ _=>rfl);simp only[wpOpsIn,ho,hwant,if_true];refine one_ok hf hw hs ?_;intro a' w' β' A' st' hw' hst hs' hfr hdf;rw[Zd hf]at hgo hk;refine JGb m g _ l r _ K st' a' w' β' A' hr ?_ hw' hs' ?_
   ·intro j b hjb;obtain⟨c,h1,h2,h3⟩:=hgo j b hjb;exact⟨c,h1,fun h=>h2 (List.mem_append_right _ h),by rw[hfr c (fun h=>h2 (List.mem_append_left _ h))];exact h3⟩
   ·intro a2 w2 β2 A2 st2 hK hst2 hs2 hfr2 hdf2;exact hk a2 w2 β2 A2 st2 hK (hst.trans hst2) hs2 (fun t ht=>by rw[hfr2 t (fun h=>ht (List.mem_append_right _ h)),hfr t (fun h=>ht (List.mem_append_left _ h))]) (by rw[hdf2,hdf])
  ·rename_i hg;split at h
   ·simp only[Vd,Ve]at h;obtain⟨rfl,rfl⟩:=h;exact hk a w β A st hw (Stp.refl hs.core) hs (fun _ _=>rfl) rfl
   ·rename_i j2 b2 hg2;split at h
    ·cases h
    rename_i c2 hc2;split at h
    case isFalse=>
     simp only[Vd,Ve]at h;obtain⟨rfl,rfl⟩:=h;exact hk a w β A st hw (Stp.refl hs.core) hs (fun _ _=>rfl) rfl
    split at h
    case h_2=>cases h
    rename_i body i' l2 hb;split at h
    case h_2=>cases h
    rename_i pk hpk;split at h
    case h_2=>cases h
    rename_i c' x y d hop hdst;split at h
    case h_2=>cases h
    rename_i z hz;split at h
    case isFalse=>cases h
    rename_i hcond;obtain⟨k1,rfl,k3,k4,k5⟩:=hcond;split at h
    case h_2=>cases h
    rename_i r l3 hr;simp only[Vd,Ve]at h;obtain⟨rfl,rfl⟩:=h;simp only[wps]at hw;split at hw
    case h_2=>exact hw.elim
    rename_i xv hxv;obtain⟨yv,hp1,hbody,hskip,hrest⟩:=hw;have hcx:=hs.bool_at hxv;have hcb:c'∉body.J1:=sX k4;have fin:∀(a1:Act) (w1:World) (β1:JM) (A1:Nat→Prop) (hstp:Stp β A w (get st.hp) β1 A1 w1 (get hp1)),(∀t,t∉body.J1→a1.tmps[t]? =a.tmps[t]?)→a1.tmps.size=N→a1.defers=a.defers→
      (xv=b2→a1.eval (if b2 then x else y)=.bool yv)→wpOpsIn (FW ro) n P ops Q (i'::l2) a1 w1:=by
     intro a1 w1 β1 A1 hstp hfr hsz hdf hyv;have hwant:=want pk a1 k1 (fun t ht=>hfr t (fun h=>ht (by simp[Ss.J1,h])));have hc1:a1.eval (.tmp c')=.bool xv:=by
      have:a1.tmps[c']? =some (.bool xv):=by rw[hfr c' hcb];exact hcx
      simp[Act.eval,Array.getD_eq_getD_getElem?,this]
     have hres:(if xv then a1.eval x else a1.eval y)=.bool (if b2 then xv&&yv else xv||yv):=by
      unfold JJa at k5;split at k5
      ·cases xv
       ·rfl
       ·have:=hyv rfl;simpa using this
      ·cases xv
       ·have:=hyv rfl;simpa using this
       ·rfl
      ·cases k5
     simp only[wpOpsIn,hpk,hwant,if_true,Oper.wpIn];refine⟨fun _ _=>trivial,?_⟩;have hrun:(execOp a1.eval pk).run P w1=.ok (.value (.bool (if b2 then xv&&yv else xv||yv))) w1:=by
      simp only[execOp,hop,Sem.run_bind,hc1,asBool,Sem.run_pure,Result.andThen_ok];rw[←hres]
     rw[Oper.semAt_eq ro a1.eval pk (by intro c hc;rw[hop]at hc;cases hc),hrun];simp only[Oper.uponIn,hdst];refine JGb m g _ l2 r _ K ⟨put (Un st.tm body.J1) d (.d (.bool (if b2 then xv&&yv else xv||yv))),hp1⟩ (a1.put (some d) _) w1 β1 A1 hr ?_ hrest ?_ ?_
     ·intro j b hjb;obtain⟨c,h1,h2,h3⟩:=hgo j b hjb;simp only[Ss.J1,List.mem_append,VA,not_or]at h2;exact⟨c,h1,h2.2.2,by rw[U0 _ _ _ _ (sX h2.2.1),hfr c h2.1];exact h3⟩
     ·refine⟨hstp.core,?_,by rw[Z9];exact hsz⟩;intro t v ht;simp only[UF]at ht;split at ht
      ·rename_i e;subst e;cases ht;exact⟨_,JBK a1 _ _ (by rw[hsz];exact k3),.d _ _ (.bool _)⟩
      ·rename_i e;rw[JCX]at ht;split at ht
       ·cases ht
       ·rename_i hnb;have hnb':t∉body.J1:=sX hnb;obtain⟨u,h1,h2⟩:=hs.tmps t v ht;exact⟨u,by rw[U0 _ _ _ _ (sX e),hfr t hnb'];exact h1,hstp.vals _ _ h2⟩
     ·intro a2 w2 β2 A2 st2 hK hst2 hs2 hfr2 hdf2;refine hk a2 w2 β2 A2 st2 hK (hstp.trans hst2) hs2 ?_ (by rw[hdf2,put_defers,hdf]);intro t ht;simp only[Ss.J1,List.mem_append,VA,not_or]at ht;rw[hfr2 t ht.2.2,U0 _ _ _ _ (sX ht.2.1),hfr t ht.1]
    by_cases hxb:xv=b2
    ·refine JGb m (some (j2,b2)) [] (i::l) body _ _ st a w β A hb ?_ (hbody hxb) hs ?_
     ·intro j b hjb;cases hjb;exact⟨c',hc2,hcb,by rw[←hxb];exact hcx⟩
     ·rintro a1 w1 β1 A1 st1 ⟨hy,hh⟩ hst1 hs1 hfr1 hdf1;rw[hh]at hst1;refine fin a1 w1 β1 A1 hst1 hfr1 hs1.size hdf1 (fun _=>?_);have:=(JD hz hy hs1.tmps).JU;generalize a1.eval (if b2 then x else y)=u at*;cases this;rfl
    ·refine JDi m j2 b2 [] (i::l) body _ a c' (.bool xv) hb hc2 hcb hcx (by intro e;cases e;exact hxb rfl) hs.size sP ?_;intro a1 h1 h2 h3 h4;have e1:=hskip hxb;subst e1;exact fin a1 w β A (Stp.refl hs.core) h1 h3 h4 (fun h=>absurd h hxb)
 termination_by m=>m
end
end Av
namespace Av
open Go
variable [Glb][Rls]
variable {v:Av}{i d sz:Nat}
theorem JAA:∀(ups:List (Nat×Obj)) (H:Heap) (j:Nat),(∀e∈ups,e.1≠j)→JA H ups j=H j
 |[],_,_,_=>rfl
 |(i,o)::r,H,j,h=>by
  simp only[JA];rw[JAA r _ j (fun e he=>h e (Vn _ he))];unfold upd;rw[if_neg (fun e=>h (i,o) Vh e.symm)]
theorem Ui:∀(ups:List (Nat×Obj)) (H:Heap) (j:Nat),(H j).isSome=true→(JA H ups j).isSome=true
 |[],_,_,h=>h
 |(i,o)::r,H,j,h=>by
  simp only[JA];refine Ui r _ j ?_;unfold upd;split
  ·rfl
  ·exact h
def JAB(ts:List Nat)(τ τ':UX):Prop:=∀t∈ts,∀v,τ t=some v→τ' t=some v
section
variable {τ τ':UX}{H H':Heap}
theorem JAB.left{a b:List Nat}(h:JAB (a++b) τ τ'):JAB a τ τ':=fun t ht=>h t (List.mem_append_left _ ht)
theorem JAB.right{a b:List Nat}(h:JAB (a++b) τ τ'):JAB b τ τ':=fun t ht=>h t (List.mem_append_right _ ht)
theorem Jk{x:Opd}(h:JAB (tO x) τ τ')(hv:val τ x=some v):val τ' x=some v:=by
 cases x with
 |t n=>exact h n (by simp[tO]) v hv
 |k d=>exact hv
theorem JBw:∀{xs:List Opd} {vs:List Av},JAB (xs.flatMap tO) τ τ'→vals τ xs=some vs→vals τ' xs=some vs
 |[],vs,_,h=>h
 |x::xs,vs,hle,h=>by
  simp only[vals]at h⊢;rw[List.flatMap_cons]at hle;cases e1:val τ x with
  |none=>simp[e1]at h
  |some v=>
   simp only[e1]at h;cases e2:vals τ xs with
   |none=>simp[e2]at h
   |some us=>
    simp only[e2]at h;rw[Jk hle.left e1];simp only[JBw hle.right e2];exact h
theorem Ze{d l:Int}{x:Option Opd}(h:JAB (tOO x) τ τ')(hv:UY τ d x=some l):UY τ' d x=some l:=by
 cases x with
 |none=>exact hv
 |some x=>
  simp only[UY]at hv⊢;cases e1:val τ x with
  |none=>simp[e1]at hv
  |some v=>rw[e1]at hv;rw[Jk h e1];exact hv
theorem JHp:∀{ps:List (Nat×Nat×Opd)} {cs out:List Av},JAB (ps.flatMap fun p=>tO p.2.2) τ τ'→JA0 τ cs ps=some out→JA0 τ' cs ps=some out
 |[],cs,out,_,h=>h
 |(off,n,x)::r,cs,out,hle,h=>by
  simp only[JA0]at h⊢;rw[List.flatMap_cons]at hle;cases e1:val τ x with
  |none=>simp[e1]at h
  |some v=>
   simp only[e1]at h;rw[Jk hle.left e1];simp only;split at h
   ·rename_i vs hvs;split at h
    ·rename_i hc;rw[if_pos hc];exact JHp hle.right h
    ·cases h
   ·cases h
theorem ZL(h:∀x∈ids v,H x=H' x):UG H v=UG H' v:=by
 cases v with
 |ms i ver=>simp only[UG,h i (by simp[ids])]
 |sub i ver off len=>simp only[UG,h i (by simp[ids])]
 |d x=>cases x<;>rfl
 |_=>rfl
theorem JBx(h:∀x∈ids v,H x=H' x):curr H v=curr H' v:=by
 cases v with
 |ms i ver=>simp only[curr,h i (by simp[ids])]
 |sub i ver off len=>simp only[curr,h i (by simp[ids])]
 |_=>rfl
theorem JD9{hd:Hd}(h:H i=H' i):Xr H i hd=Xr H' i hd:=by simp only[Xr,h]
theorem JEA(h:∀x∈ids v,H x=H' x):X5 H v=X5 H' v:=by
 cases v with
 |ms i ver=>simp only[X5,h i (by simp[ids])]
 |tr i hd=>simp only[X5,h i (by simp[ids])]
 |_=>rfl
theorem JFp:∀{cs:List Av},(∀x∈cs.flatMap ids,H x=H' x)→Xi H cs=Xi H' cs
 |[],_=>rfl
 |c::r,h=>by
  rw[List.flatMap_cons]at h;have h1:=JFp (cs:=r) fun x hx=>h x (List.mem_append_right _ hx)
  have h2:=JEA (v:=c) fun x hx=>h x (List.mem_append_left _ hx)
  cases c<;>simp only[Xi,h1,h2]
theorem JSc{vs:List Av}(hd:H d=H' d)(h:∀x∈vs.flatMap Yv,H x=H' x):JFJ H d sz vs=JFJ H' d sz vs:=by
 unfold JFJ;split
 ·rename_i cs;rw[hd,JFp (H:=H) (H':=H') (by simpa[Yv]using h)]
 ·rfl
theorem JSd{u:Av}(hd:H d=H' d)(hu:∀x∈ids u,H x=H' x)(hv:∀x∈ids v,H x=H' x):JGU H d sz u v=JGU H' d sz u v:=by
 cases v with
 |tr j hh=>
  simp only[JGU,JEA hv,hd];cases u with
  |tr i h=>simp only[hu i (by simp[ids])]
  |d q=>cases q<;>rfl
  |_=>rfl
 |_=>rfl
theorem JSe{sz':Nat}{q:Prop}{ys:List Dat}{hd:Hd}(h1:H d=H' d)(h2:H i=H' i):JJQ H d sz q sz' ys i hd=JJQ H' d sz q sz' ys i hd:=by
 simp only[JJQ,h1,h2]
theorem JSf{n:Option Nat}{h:Hd}(hi:H i=H' i)(hv:∀x∈ids v,H x=H' x):JHX H n i h v=JHX H' n i h v:=by
 unfold JHX;rw[hi];have ho:=JEA hv;cases v<;>first|rfl|simp only[ho]
theorem JJb{fs cs:List Av}(h:Z6 fs cs=some i):fs=[]∧cs=[.ref i 0]:=by
 unfold Z6 at h;split at h
 ·cases h;exact⟨rfl,rfl⟩
 ·cases h
theorem JFq(h:∀x∈ids v,H x=H' x):Uu H v=Uu H' v:=by
 cases v with
 |tr i hd=>simp only[Uu,h i (by simp[ids])]
 |ms i ver=>simp only[Uu,h i (by simp[ids])]
 |sub i ver off len=>simp only[Uu,h i (by simp[ids])]
 |ref i off=>simp only[Uu,h i (by simp[ids])]
 |mp i=>simp only[Uu,h i (by simp[ids])]
 |clo f fs cs=>
  simp only[Uu];cases e:Z6 fs cs with
  |none=>rfl
  |some i=>
   obtain⟨rfl,rfl⟩:=JJb e;simp only[h i (by simp[ids,Z6])]
 |_=>rfl
theorem JAC:∀(ups:List (Nat×Obj)) {H H':Heap} {x:Nat},H x=H' x→JA H ups x=JA H' ups x
 |[],_,_,_,h=>h
 |(i,o)::r,H,H',x,h=>by
  simp only[JA];refine JAC r ?_;unfold upd;split
  ·rfl
  ·exact h
theorem JFr:∀{cs:List Av} {H H':Heap},(∀x∈cs.flatMap ids,H x=H' x)→XH H cs=XH H' cs
 |[],_,_,_=>rfl
 |c::r,H,H',h=>by
  simp only[XH];rw[List.flatMap_cons]at h;rw[JFq (fun x hx=>h x (List.mem_append_left _ hx))];split
  ·rename_i p x u _;rw[JFr (cs:=r) (fun x hx=>JAC u (h x (List.mem_append_right _ hx)))]
  ·rfl
theorem JNa(h:∀x∈Yv v,H x=H' x):XD H v=XD H' v:=by
 cases v with
 |agg cs=>simp only[XD];rw[JFr (by simpa[Yv]using h)]
 |_=>exact JFq (by simpa[Yv]using h)
theorem XZ:∀{cs:List Av} {H H':Heap},(∀x∈cs.flatMap Yv,H x=H' x)→Jl H cs=Jl H' cs
 |[],_,_,_=>rfl
 |c::r,H,H',h=>by
  simp only[Jl];rw[List.flatMap_cons]at h;rw[JNa (fun x hx=>h x (List.mem_append_left _ hx))];split
  ·rename_i p x u _;rw[XZ (cs:=r) (fun x hx=>JAC u (h x (List.mem_append_right _ hx)))]
  ·rfl
theorem UT{x:Opd}(h:JAB (tO x) τ τ')(hv:val τ x=some v):XJ τ x=ids v∧XJ τ' x=ids v:=by
 simp only[XJ,hv,Jk h hv,and_self]
def JNb(τ:UX)(x:Opd):List Nat:=match val τ x with
 |some v=>Yv v
 |none=>[]
theorem JJc:∀{xs:List Opd} {vs:List Av},vals τ xs=some vs→xs.flatMap (JNb τ)=vs.flatMap Yv
 |[],vs,h=>by simp only[vals,Vd]at h;subst h;rfl
 |x::xs,vs,h=>by
  simp only[vals]at h;cases e1:val τ x with
  |none=>simp[e1]at h
  |some v=>
   simp only[e1]at h;cases e2:vals τ xs with
   |none=>simp[e2]at h
   |some us=>
    simp only[e2,Vd]at h;subst h;rw[List.flatMap_cons,List.flatMap_cons,JJc e2];simp only[JNb,e1]
theorem JKb{io:IOp}{r:Res}(h:step τ H d io=some r)(hle:JAB (tI io) τ τ')(hH:∀x∈rd τ d io,H x=H' x):step τ' H' d io=some r∧rd τ' d io=rd τ d io:=by
 have two:∀{x y:Opd} {f:Av→Av→Option Res},JAB (tO x++tO y) τ τ'→(match val τ x,val τ y with|some u,some v=>f u v|_,_=>none)=some r→
   ∃u v,val τ x=some u∧val τ y=some v∧val τ' x=some u∧val τ' y=some v:=by
  intro x y f hl h;cases e:val τ x with
  |none=>simp[e]at h
  |some u=>cases e2:val τ y with
   |none=>simp[e,e2]at h
   |some v=>exact⟨u,v,rfl,rfl,Jk hl.left e,Jk hl.right e2⟩
 cases io with
 |mov x=>
  simp only[step]at h⊢;obtain⟨v,hv,rfl⟩:=Option.map_eq_some_iff.1 h;rw[Jk hle hv];exact⟨rfl,rfl⟩
 |new zs=>
  simp only[step]at h⊢;rw[←hH d (by simp[rd])];first|exact⟨h,rfl⟩|exact⟨h,trivial⟩
 |mkm=>
  simp only[step]at h⊢;rw[←hH d (by simp[rd])];first|exact⟨h,rfl⟩|exact⟨h,trivial⟩
 |bad=>simp[step]at h
 |i2s x=>
  simp only[step]at h⊢;cases e:val τ x with
  |none=>simp[e]at h
  |some v=>rw[e]at h;rw[Jk hle e];exact⟨h,by simp[rd]⟩
 |s2b x=>
  simp only[step]at h⊢;cases e:val τ x with
  |none=>simp[e]at h
  |some v=>rw[e]at h;rw[Jk hle e];exact⟨h,by simp[rd]⟩
 |rgs x=>
  simp only[step]at h⊢;rw[←hH d (by simp[rd])];cases e:val τ x with
  |none=>simp[e]at h
  |some v=>rw[e]at h;rw[Jk hle e];exact⟨h,by simp[rd]⟩
 |nxs x=>
  simp only[step]at h⊢;cases e:val τ x with
  |none=>simp[e]at h
  |some v=>
   obtain⟨g1,g2⟩:=UT hle e;rw[e]at h;rw[Jk hle e];refine⟨?_,by simp only[rd,g1,g2]⟩;cases v with
   |mp i=>simp only[←hH i (by simp[rd,g1,ids])];exact h
   |_=>exact h
 |b2s x=>
  simp only[step]at h⊢;cases e:val τ x with
  |none=>simp[e]at h
  |some v=>
   obtain⟨g1,g2⟩:=UT hle e;rw[e]at h;rw[Jk hle e];have hv:∀y∈ids v,H y=H' y:=fun y hy=>hH y (by simp only[rd,g1];exact hy)
   refine⟨?_,by simp only[rd,g1,g2]⟩;simp only[←ZL hv,←JBx hv];exact h
 |box x=>
  simp only[step]at h⊢;rw[←hH d (by simp[rd])];cases e:val τ x with
  |none=>simp[e]at h
  |some v=>rw[e]at h;rw[Jk hle e];first|exact⟨h,rfl⟩|exact⟨h,trivial⟩
 |bld zs ps=>
  simp only[step]at h⊢;cases e:JA0 τ (zs.map .d) ps with
  |none=>simp[e]at h
  |some cs=>rw[e]at h;rw[JHp hle e];first|exact⟨h,rfl⟩|exact⟨h,trivial⟩
 |bls sz xs=>
  simp only[step]at h⊢;cases e:vals τ xs with
  |none=>simp[e]at h
  |some vs=>
   have e':=JBw hle e;rw[e]at h;rw[e'];change ∀x∈d::xs.flatMap (JNb τ),H x=H' x at hH;change _∧d::xs.flatMap (JNb τ')=d::xs.flatMap (JNb τ);rw[JJc e]at hH⊢;rw[JJc e'];simp only at h⊢;rw[←JSc (hH d Vh) (fun x hx=>hH x (Vn _ hx)),←XZ (fun x hx=>hH x (Vn _ hx)),←hH d Vh]
   first|exact⟨h,rfl⟩|exact⟨h,trivial⟩
 |ld n x=>
  simp only[step]at h⊢;cases e:val τ x with
  |none=>simp[e]at h
  |some v=>
   have ii:=UT hle e;simp only[rd]at hH⊢;rw[ii.1]at hH⊢;rw[ii.2];rw[e]at h;rw[Jk hle e]
   first|refine⟨?_,rfl⟩|refine⟨?_,trivial⟩
   cases v with
   |ref i off=>simp only[hH i (by simp[ids])]at h;exact h
   |el i ver k off=>simp only[hH i (by simp[ids])]at h;exact h
   |tr i hd=>simp only[JD9 (hd:=hd) (hH i (by simp[ids]))]at h;exact h
   |d q=>cases q<;>exact h
   |_=>exact h
 |sto n x y=>
  simp only[step]at h⊢;cases e:val τ x with
  |none=>simp[e]at h
  |some v=>
   cases e2:val τ y with
   |none=>rw[e,e2]at h;cases v<;>simp at h
   |some u=>
    have ii:=UT hle.left e;have jj:=UT hle.right e2;simp only[rd,e,Jk hle.left e]at hH⊢;rw[ii.1,jj.1]at hH⊢;rw[ii.2,jj.2];rw[e,e2]at h;rw[Jk hle.right e2]
    first|refine⟨?_,rfl⟩|refine⟨?_,trivial⟩
    cases v with
    |ref i off=>simp only[hH i (by simp[ids])]at h;exact h
    |el i ver k off=>cases u with
     |d q=>simp only[hH i (by simp[ids])]at h;exact h
     |ms j w=>
      simp only at h hH⊢;unfold stoF at h⊢;rw[←hH i (by simp[ids]),←hH j (by simp[ids])];exact h
     |_=>exact h
    |tr i hd=>
     simp only at h hH⊢;rw[←JSf (hH i (by simp[ids])) (fun z hz=>hH z (List.mem_append_right _ hz))];exact h
    |_=>exact h
 |ixa ag sz x y=>
  simp only[step]at h⊢;cases e:val τ x with
  |none=>simp[e]at h
  |some v=>
   cases e2:val τ y with
   |none=>rw[e,e2]at h;cases v<;>simp at h
   |some u=>
    have ii:=UT hle.left e;simp only[rd]at hH⊢;rw[ii.1]at hH⊢;rw[ii.2];rw[e,e2]at h;rw[Jk hle.left e,Jk hle.right e2]
    first|refine⟨?_,rfl⟩|refine⟨?_,trivial⟩
    cases v with
    |ms i ver=>cases u with
     |d q=>cases q with
      |int k n=>simp only[hH i (by simp[ids])]at h;exact h
      |_=>exact h
     |_=>exact h
    |sub i ver off len=>cases u with
     |d q=>cases q with
      |int k n=>simp only[hH i (by simp[ids])]at h;exact h
      |_=>exact h
     |_=>exact h
    |tr i hd=>cases u with
     |d q=>cases q with
      |int k n=>simp only[JD9 (hd:=hd) (hH i (by simp[ids]))]at h;exact h
      |_=>exact h
     |_=>exact h
    |d q=>cases q<;>first|exact h|(cases u<;>first|exact h|(rename_i q;cases q<;>exact h))
    |_=>exact h
 |len x=>
  simp only[step]at h⊢;cases e:val τ x with
  |none=>simp[e]at h
  |some v=>
   have ii:=UT hle e;simp only[rd]at hH⊢;rw[ii.1]at hH⊢;rw[ii.2];rw[e]at h;rw[Jk hle e];simp only at h⊢;rw[←ZL hH,←JBx hH]
   first|refine⟨?_,rfl⟩|refine⟨?_,trivial⟩
   cases v with
   |tr i hd=>simp only[JD9 (hd:=hd) (hH i (by simp[ids]))]at h;exact h
   |_=>exact h
 |slc n x lo hi mx=>
  simp only[step]at h⊢;cases e:val τ x with
  |none=>simp[e]at h
  |some v=>
   have ii:=UT hle.left e;simp only[rd]at hH⊢;rw[ii.1]at hH⊢;rw[ii.2];rw[e]at h;rw[Jk hle.left e];simp only at h⊢;rw[←ZL hH,←JBx hH]
   first|refine⟨?_,rfl⟩|refine⟨?_,trivial⟩
   cases el:UG H v with
   |none=>simp[el]at h
   |some q=>
    obtain⟨sz,xs⟩:=q;simp only[el]at h⊢;cases mx with
    |none=>
     simp only at h⊢;cases e1:UY τ 0 lo with
     |none=>simp[e1]at h
     |some l=>cases e2:UY τ xs.length hi with
      |none=>simp[e1,e2]at h
      |some hh=>rw[e1,e2]at h;rw[Ze hle.right.left e1,Ze hle.right.right.left e2];exact h
    |some m=>cases m with
     |t k=>cases lo with
      |some _=>exact h
      |none=>cases hi with
       |none=>exact h
       |some ho=>cases ho with
        |k _=>exact h
        |t ho=>
         simp only at h⊢;cases e1:τ k with
         |none=>simp[e1]at h
         |some p=>cases e2:τ ho with
          |none=>simp[e1,e2]at h
          |some q=>
           rw[e1,e2]at h;rw[show τ' k=some p from Jk (x:=.t k) hle.right.right.right e1,show τ' ho=some q from Jk (x:=.t ho) hle.right.right.left e2];exact h
     |k q=>cases q with
      |int k n=>split at h<;>simp_all
      |_=>exact h
 |sls x lo hi=>
  simp only[step]at h⊢;cases e:val τ x with
  |none=>simp[e]at h
  |some v=>
   rw[e]at h;rw[Jk hle.left e]
   first|refine⟨?_,rfl⟩|refine⟨?_,trivial⟩
   cases v with
   |d q=>cases q with
    |str s=>
     simp only at h⊢;cases e1:UY τ 0 lo with
     |none=>simp[e1]at h
     |some l=>cases e2:UY τ s.length hi with
      |none=>simp[e1,e2]at h
      |some hh=>rw[e1,e2]at h;rw[Ze hle.right.left e1,Ze hle.right.right e2];exact h
    |_=>exact h
   |_=>exact h
 |app sz x y=>
  simp only[step]at h⊢;cases e:val τ x with
  |none=>simp[e]at h
  |some u=>
   cases e2:val τ y with
   |none=>rw[e,e2]at h;simp at h
   |some v=>
    have i1:=UT hle.left e;have i2:=UT hle.right e2;simp only[rd]at hH⊢;rw[i1.1,i2.1]at hH⊢;rw[i1.2,i2.2];rw[e,e2]at h;rw[Jk hle.left e,Jk hle.right e2];simp only at h⊢;have hv:∀z∈ids v,H z=H' z:=fun z hz=>hH z (by simp[hz])
    rw[←ZL hv,←JBx hv]
    first|refine⟨?_,rfl⟩|refine⟨?_,trivial⟩
    cases el:UG H v with
    |none=>
     simp only[el]at h⊢;rw[←JSd (hH d sP) (fun z hz=>hH z (by simp[hz])) hv];exact h
    |some q=>
     simp only[el]at h⊢;cases u with
     |d q=>cases q with
      |nil sz=>simp only[hH d sP]at h;exact h
      |_=>exact h
     |ful sz1 xs=>simp only[hH d sP]at h;exact h
     |ms i ver=>simp only[hH i (by simp[ids])]at h;exact h
     |sub i ver off n=>cases off with
      |zero=>simp only[hH i (by simp[ids])]at h;exact h
      |succ off=>exact h
     |tr i hh=>simp only[JSe (hd:=hh) (hH d sP) (hH i (by simp[ids]))]at h;exact h
     |_=>exact h
 |nilq f n x=>
  simp only[step]at h⊢;cases e:val τ x with
  |none=>simp[e]at h
  |some v=>
   obtain⟨g1,g2⟩:=UT hle e;rw[e]at h;rw[Jk hle e];have hv:∀y∈ids v,H y=H' y:=fun y hy=>hH y (by simp only[rd,g1];exact hy)
   refine⟨?_,by simp only[rd,g1,g2]⟩;simp only[←ZL hv,←JBx hv];exact h
 |mks sz zs l c=>
  simp only[step]at h⊢;rw[←hH d (by simp[rd])];cases eh:H d with
  |some o=>simp[eh]at h
  |none=>
   rw[eh]at h;cases e:val τ l with
   |none=>simp[e]at h
   |some u=>cases e2:val τ c with
    |none=>rw[e,e2]at h;simp at h
    |some v=>rw[e,e2]at h;rw[Jk hle.left e,Jk hle.right e2];first|exact⟨h,rfl⟩|exact⟨h,trivial⟩
 |fnv f a b=>
  simp only[step]at h⊢;cases e:vals τ a with
  |none=>simp[e]at h
  |some u=>cases e2:vals τ b with
   |none=>rw[e,e2]at h;simp at h
   |some v=>rw[e,e2]at h;rw[JBw hle.left e,JBw hle.right e2];first|exact⟨h,rfl⟩|exact⟨h,trivial⟩
 |mpu c m k v=>
  simp only[step]at h⊢;cases e:val τ m with
  |none=>simp[e]at h
  |some x=>
   cases e2:val τ k with
   |none=>rw[e,e2]at h;simp at h
   |some y=>
    cases e3:val τ v with
    |none=>rw[e,e2,e3]at h;cases x<;>cases y<;>simp at h
    |some z=>
     have ii:=UT hle.left e;have jj:=UT hle.right.right e3;simp only[rd]at hH⊢;rw[ii.1,jj.1]at hH⊢;rw[ii.2,jj.2];rw[e,e2,e3]at h;rw[Jk hle.left e,Jk hle.right.left e2,Jk hle.right.right e3]
     first|refine⟨?_,rfl⟩|refine⟨?_,trivial⟩
     cases x with
     |mp i=>cases y with
      |d y=>cases z with
       |d z=>simp only[hH i (by simp[ids])]at h;exact h
       |ms j w=>
        simp only at h⊢;unfold JSR at h⊢;rw[←hH i (by simp[ids]),←hH j (by simp[ids])];exact h
       |_=>exact h
      |_=>exact h
     |_=>exact h
 |men c z m k=>
  simp only[step]at h⊢;cases e:val τ m with
  |none=>simp[e]at h
  |some x=>
   cases e2:val τ k with
   |none=>rw[e,e2]at h;cases x<;>simp at h
   |some y=>
    have ii:=UT hle.left e;simp only[rd]at hH⊢;rw[ii.1]at hH⊢;rw[ii.2];rw[e,e2]at h;rw[Jk hle.left e,Jk hle.right e2]
    first|refine⟨?_,rfl⟩|refine⟨?_,trivial⟩
    cases x with
    |mp i=>cases y with
     |d y=>simp only[hH i (by simp[ids])]at h;exact h
     |_=>exact h
    |_=>exact h
 |mes m s v=>
  simp only[step]at h⊢;cases e:val τ m with
  |none=>simp[e]at h
  |some x=>
   cases e2:val τ s with
   |none=>rw[e,e2]at h;cases x<;>simp at h
   |some y=>
    cases e3:val τ v with
    |none=>rw[e,e2,e3]at h;cases x<;>simp at h
    |some z=>
     have ii:=UT hle.left e;simp only[rd]at hH⊢;rw[ii.1]at hH⊢;rw[ii.2];rw[e,e2,e3]at h;rw[Jk hle.left e,Jk hle.right.left e2,Jk hle.right.right e3]
     first|refine⟨?_,rfl⟩|refine⟨?_,trivial⟩
     cases x with
     |mp i=>cases y with
      |d y=>cases y with
       |int q n=>cases z with
        |d z=>cases q<;>cases n<;>first|exact h|(simp only[hH i (by simp[ids])]at h;exact h)
        |_=>cases q<;>cases n<;>exact h
       |_=>exact h
      |_=>exact h
     |_=>exact h
 |lkp c z m k ok=>
  simp only[step]at h⊢;cases e:val τ m with
  |none=>simp[e]at h
  |some x=>
   cases e2:val τ k with
   |none=>rw[e,e2]at h;simp at h
   |some y=>
    have ii:=UT hle.left e;simp only[rd]at hH⊢;rw[ii.1]at hH⊢;rw[ii.2];rw[e,e2]at h;rw[Jk hle.left e,Jk hle.right e2]
    first|refine⟨?_,rfl⟩|refine⟨?_,trivial⟩
    cases y with
    |d y=>cases x with
     |mp i=>simp only[hH i (by simp[ids])]at h;exact h
     |d q=>cases q<;>exact h
     |_=>exact h
    |_=>exact h
 |fa x off|not x|neg k x|cvi k x|ifc t x|asr t x|ext x i|slen x|nck x|fld n x off=>
  simp only[step]at h⊢;cases e:val τ x with
  |none=>simp[e]at h
  |some v=>rw[e]at h;rw[Jk hle e];first|exact⟨h,rfl⟩|exact⟨h,trivial⟩
 |bin b x y|bit b x y|ixs x y|ixr len sz x y|ixv n len sz x y|mn x y|mx x y=>
  simp only[step]at h⊢;cases e:val τ x with
  |none=>simp[e]at h
  |some u=>
   cases e2:val τ y with
   |none=>rw[e,e2]at h;first|(simp at h;done)|(cases u<;>simp at h)
   |some v=>rw[e,e2]at h;rw[Jk hle.left e,Jk hle.right e2];first|exact⟨h,rfl⟩|exact⟨h,trivial⟩
end
end Av
namespace Av
open Go
variable [Glb][Rls]
structure En where
 dst:Option Nat
 v:Av
 ups:List (Nat×Obj)
 lk:List Nat
 nd:List Nat
def ZC(τ:UX)(e:En):UX:=match e.dst with
 |some d=>upd τ d (some e.v)
 |none=>τ
def JBL(H:Heap)(e:En):Heap:=JA H e.ups
structure SatF(N:Nat)(τ:UX)(H:Heap)(a:Act)(w:World)(β:JM)(A:Nat→Prop):Prop where
 core:Core β A w H
 tmps:UD β A w H τ a
 size:a.tmps.size=N
def gT(ops:Array Oper):Option (Nat×Bool)→List Nat
 |none=>[]
 |some (j,_)=>((ops[j]?).bind (·.dst)).toList
def JGc(ops:Array Oper)(τ:UX):Option (Nat×Bool)→Prop
 |none=>True
 |some (j,b)=>∃c,(ops[j]?).bind (·.dst)=some c∧τ c=some (.d (.bool b))
def notB(b:Bool)(v:Av):Prop:=v=.und∨∃x,v=.d (.bool x)∧x≠b
inductive Do(P:Program)(N:Nat)(ops:Array Oper)(o:Oper)(τ:UX)(H:Heap):En→Prop
 |op (io r nd) (hg:JGc ops τ o.guard) (hgn:∀t∈gT ops o.guard,t∈nd) (hio:JHa P o=some io) (hd:Zz N o.dst=true) (hn:∀t∈tI io,t∈nd) (hs:step τ H (o.dst.getD 0) io=some r) (hc:r.c):
   Do P N ops o τ H ⟨o.dst,r.v,r.ups,rd τ (o.dst.getD 0) io,nd⟩
 |call (f:Cal) (xs:List Opd) (g args argTypes) (f':Cee) (vs:List Av) (T:List (Nat×Option Obj)) (v ups nd) (hg:JGc ops τ o.guard) (hgn:∀t∈gT ops o.guard,t∈nd)
   (ho:o.op=.call {callee:=.value g,args,argTypes}) (hcal:JFl P g=some f) (hxs:Ji ((args.toList.zip argTypes.toList).map fun(x,t)=>opd P t x)=some xs) (hsz:args.size=argTypes.size)
   (hd:Zz N o.dst=true) (hn:∀t∈xs.flatMap tO,t∈nd) (hn':∀x,f=.dyn x→∀t∈tO x,t∈nd) (ht:target τ f xs=some (f',vs)) (hc:JC P f' vs T v ups) (hT:XE H T):
   Do P N ops o τ H ⟨o.dst,v,ups,T.map (·.1),nd⟩
 |pick (c:Nat) (x y:Operand) (z:Opd) (d:Nat) (b:Bool) (v:Bool) (nd) (hg:JGc ops τ o.guard) (hgn:∀t∈gT ops o.guard,t∈nd) (ho:o.op=.pick (.tmp c) x y) (hdst:o.dst=some d) (hd:d<N)
   (hc:τ c=some (.d (.bool b))) (hz:opd P 0 (if b then x else y)=some z) (hv:val τ z=some (.d (.bool v))) (hnc:c∈nd) (hn:∀t∈tO z,t∈nd):
   Do P N ops o τ H ⟨some d,.d (.bool v),[],[],nd⟩
 |skip (j:Nat) (b:Bool) (c:Nat) (v:Av) (nd) (hg:o.guard=some (j,b)) (hj:(ops[j]?).bind (·.dst)=some c) (hd:Zz N o.dst=true) (hc:τ c=some v) (hv:notB b v) (hnc:c∈nd):
   Do P N ops o τ H ⟨o.dst,.und,[],[],nd⟩
section
variable {P:Program}{N:Nat}{ops:Array Oper}{o:Oper}{τ τ':UX}{H H':Heap}{e:En}{β:JM}{A:Nat→Prop}{w:World}{a:Act}{ro:Option Nat}{n:Nat}{Q:Exit→Act→World→Prop}
theorem JGc.le{nd:List Nat}{g:Option (Nat×Bool)}(h:JGc ops τ g)(hn:∀t∈gT ops g,t∈nd)(hle:JAB nd τ τ'):JGc ops τ' g:=by
 cases g with
 |none=>trivial
 |some p=>
  obtain⟨j,b⟩:=p;obtain⟨c,h1,h2⟩:=h;exact⟨c,h1,hle c (hn c (by simp[gT,h1])) _ h2⟩
theorem JFs{f:Cal}{xs:List Opd}{r:Cee×List Av}{nd:List Nat}(h:target τ f xs=some r)(hn:∀t∈xs.flatMap tO,t∈nd)(hn':∀x,f=.dyn x→∀t∈tO x,t∈nd)(hle:JAB nd τ τ'):target τ' f xs=some r:=by
 unfold target at h⊢;cases e:vals τ xs with
 |none=>simp[e]at h
 |some vs=>
  rw[JBw (fun t ht=>hle t (hn t ht)) e];simp only[e]at h⊢;unfold Xz at h⊢;cases f with
  |fn f=>exact h
  |dyn x=>
   simp only at h⊢;cases e2:val τ x with
   |none=>simp[e2]at h
   |some v=>rw[e2]at h;rw[Jk (fun t ht=>hle t (hn' x rfl t ht)) e2];exact h
theorem JHq:∀{T:List (Nat×Option Obj)},XE H T→(∀x∈T.map (·.1),H x=H' x)→XE H' T
 |[],_,_=>trivial
 |e::r,h,he=>⟨by rw[←he e.1 sP];exact h.1,JHq h.2 fun x hx=>he x (by simp only[Va,VA];exact .inr hx)⟩
theorem Do.le(h:Do P N ops o τ H e)(hle:JAB e.nd τ τ')(hH:∀x∈e.lk,H x=H' x):Do P N ops o τ' H' e:=by
 cases h with
 |op io r nd hg hgn hio hd hn hs hc=>
  obtain⟨s1,s2⟩:=JKb (τ':=τ') (H':=H') hs (fun t ht=>hle t (hn t ht)) hH;have:=Do.op (H:=H') io r nd (hg.le hgn hle) hgn hio hd hn s1 hc;rwa[s2]at this
 |call f xs g args argTypes f' vs T v ups nd hg hgn ho hcal hxs hsz hd hn hn' ht hc hT=>
  exact .call f xs g args argTypes f' vs T v ups nd (hg.le hgn hle) hgn ho hcal hxs hsz hd hn hn' (JFs ht hn hn' hle) hc (JHq hT hH)
 |pick c x y z d b v nd hg hgn ho hdst hd hc hz hv hnc hn=>
  exact .pick c x y z d b v nd (hg.le hgn hle) hgn ho hdst hd (hle c hnc _ hc) hz (Jk (fun t ht=>hle t (hn t ht)) hv) hnc hn
 |skip j b c v nd hg hj hd hc hv hnc=>
  exact .skip j b c v nd hg hj hd (hle c hnc _ hc) hv hnc
theorem SatF.put{u:Value}{β':JM}{A':Nat→Prop}{w':World}(hs:SatF N τ H a w β A)(hd:Zz N e.dst=true)(st1:Stp β A w H β' A' w' (JBL H e))(hv:VRep β' A' w' (JBL H e) e.v u):
  SatF N (ZC τ e) (JBL H e) (a.put e.dst u) w' β' A':=by
 refine⟨st1.core,?_,by rw[Z9];exact hs.size⟩;intro t c hc;unfold ZC at hc;cases hde:e.dst with
 |none=>
  rw[hde]at hc;obtain⟨u',h1,h2⟩:=hs.tmps t c hc;exact⟨u',h1,st1.vals _ _ h2⟩
 |some d=>
  simp only[hde,upd]at hc;rw[hde]at hd;split at hc
  ·rename_i e';cases hc;subst e';exact⟨u,JBK a _ u (by simp only[Zz,decide_eq_true_eq]at hd;rw[hs.size];exact hd),hv⟩
  ·rename_i e';obtain⟨u',h1,h2⟩:=hs.tmps t c hc;exact⟨u',by rw[U0 _ _ _ _ (by simpa using e')];exact h1,st1.vals _ _ h2⟩
theorem JGc.wanted(hs:SatF N τ H a w β A)(h:JGc ops τ o.guard):Region.wanted o (yielded ops a.tmps)=true:=by
 cases hg:o.guard with
 |none=>exact JC5 hg _
 |some p=>
  obtain⟨j,b⟩:=p;rw[hg]at h;obtain⟨c,h1,h2⟩:=h;obtain⟨u,g1,g2⟩:=hs.tmps c _ h2;have:=g2.JU;cases this;rw[X8 hg,Yk h1 g1];simp
theorem Do.ok(h:Do P N ops o τ H e)(hs:SatF N τ H a w β A){i:Nat}(hi:ops[i]? =some o){K:Act→World→Prop}
  (hk:∀a' w' β' A',Stp β A w H β' A' w' (JBL H e)→SatF N (ZC τ e) (JBL H e) a' w' β' A'→a'.defers=a.defers→K a' w'):wpOpIn (FW ro) n P ops Q i K a w:=by
 unfold wpOpIn;simp only[hi];cases h with
 |op io r nd hg hgn hio hd hn hst hc=>
  simp only[hg.wanted hs,if_true,Oper.wpIn];refine⟨fun _ _=>trivial,?_⟩;rw[Oper.semAt_eq ro a.eval o (JD8 hio)];obtain⟨u,β',A',w',hrun,st1,hv⟩:=JKa hs.core hs.tmps hio hst hc;have:=hk (a.put o.dst u) w' β' A' st1 (SatF.put (e:=⟨o.dst,r.v,r.ups,rd τ (o.dst.getD 0) io,nd⟩) hs hd st1 hv) (put_defers _ _ _);rcases hrun with hrun|⟨hrun,rfl⟩
  ·rw[hrun];exact this
  ·rw[hrun];exact this
 |call f xs g args argTypes f' vs T v ups nd hg hgn ho hcal hxs hsz hd hn hn' ht hc hT=>
  simp only[hg.wanted hs,if_true];refine JHo hs.core hs.tmps ho hcal hxs hsz ht hc hT ?_;intro u w' β' A' st1 hv;exact hk _ w' β' A' st1 (SatF.put (e:=⟨o.dst,v,ups,T.map (·.1),nd⟩) hs hd st1 hv) (put_defers _ _ _)
 |pick c x y z d b v nd hg hgn ho hdst hd hc hz hv hnc hn=>
  simp only[hg.wanted hs,if_true,Oper.wpIn];refine⟨fun _ _=>trivial,?_⟩;have hc1:a.eval (.tmp c)=.bool b:=by
   obtain⟨u,g1,g2⟩:=hs.tmps c _ hc;have:=g2.JU;cases this;simp[Act.eval,Array.getD_eq_getD_getElem?,g1]
  have hz1:(if b then a.eval x else a.eval y)=.bool v:=by
   have:=(JD hz hv hs.tmps).JU;have e1:a.eval (if b then x else y)=if b then a.eval x else a.eval y:=by cases b<;>rfl
   rw[e1]at this;generalize(if b then a.eval x else a.eval y)=u at this;cases this;rfl
  have hrun:(execOp a.eval o).run P w=.ok (.value (.bool v)) w:=by
   simp only[execOp,ho,Sem.run_bind,hc1,asBool,Sem.run_pure,Result.andThen_ok];rw[←hz1]
  rw[Oper.semAt_eq ro a.eval o (by intro c hc;rw[ho]at hc;cases hc),hrun];simp only[Oper.uponIn];refine hk _ w β A (Stp.refl hs.core) ?_ (put_defers _ _ _);rw[hdst];exact SatF.put (e:=⟨some d,.d (.bool v),[],[],nd⟩) hs (by simp[Zz,hd]) (Stp.refl hs.core) (.d _ _ (.bool _))
 |skip j b c v nd hg hj hd hc hv hnc=>
  obtain⟨u,g1,g2⟩:=hs.tmps c _ hc;have hnw:Region.wanted o (yielded ops a.tmps)=false:=by
   rw[X8 hg,Yk hj g1];rcases hv with rfl|⟨x,rfl,hx⟩
   ·cases g2;simp[undef]
   ·have:=g2.JU;cases this;simpa using hx
  simp only[hnw,Vu,if_false];refine⟨fun _ _=>trivial,hk _ w β A (Stp.refl hs.core) ?_ (put_defers _ _ _)⟩;exact SatF.put (e:=⟨o.dst,.und,[],[],nd⟩) hs hd (Stp.refl hs.core) .und
end
end Av
namespace Av
open Go
variable [Glb][Rls]
variable {τ:UX}{e:En}{t x:Nat}{H:Heap}{E:List En}{L:Nat→Bool}
def sel(L:Nat→Bool):List En→Nat→List En
 |[],_=>[]
 |e::r,k=>if L k then e::sel L r (k+1)else sel L r (k+1)
def YP(τ:UX)(E:List En):UX:=E.foldl ZC τ
def Xj(H:Heap)(E:List En):Heap:=E.foldl JBL H
def wT(t:Nat)(e:En):Bool:=e.dst==some t
def wH(x:Nat)(e:En):Bool:=(e.ups.map (·.1)).contains x
theorem JBM(h:wT t e=false):ZC τ e t=τ t:=by
 unfold ZC wT at*;cases hd:e.dst with
 |none=>rfl
 |some d=>
  rw[hd]at h;simp only[upd];rw[if_neg];intro e';subst e';simp at h
theorem JAg(h:wT t e=true):ZC τ e t=some e.v:=by
 unfold ZC wT at*;have hd:e.dst=some t:=sX h;rw[hd];simp[upd]
theorem JEB(h:wH x e=false):JBL H e x=H x:=by
 refine JAA _ _ _ ?_;intro u hu hx;simp only[wH,List.contains_eq_mem,decide_eq_false_iff_not]at h;exact h (VC.2 ⟨u,hu,hx⟩)
theorem JHr:∀(ups:List (Nat×Obj)) (H H':Heap) (x:Nat),x∈ups.map (·.1)→JA H ups x=JA H' ups x
 |[],_,_,_,h=>by cases h
 |(i,o)::r,H,H',x,h=>by
  simp only[JA];by_cases hx:x∈r.map (·.1)
  ·exact JHr r _ _ x hx
  ·have:x=i:=by simpa[hx]using h
   subst this;refine JAC r ?_;simp[upd]
theorem JKc{H':Heap}(h:wH x e=true):JBL H e x=JBL H' e x:=
 JHr _ _ _ _ (by simpa[wH]using h)
theorem Xk(t:Nat):∀(E:List En) (τ τ':UX),τ t=τ' t→YP τ E t=YP τ' (E.filter (wT t)) t
 |[],_,_,h=>h
 |e::r,τ,τ',h=>by
  cases hw:wT t e with
  |true=>
   rw[List.filter_cons_of_pos hw];exact Xk t r _ _ (by simp only[JAg hw])
  |false=>
   rw[List.filter_cons_of_neg (by simp[hw])];exact Xk t r _ _ (by rw[JBM hw];exact h)
theorem Xl(x:Nat):∀(E:List En) (H H':Heap),H x=H' x→Xj H E x=Xj H' (E.filter (wH x)) x
 |[],_,_,h=>h
 |e::r,H,H',h=>by
  cases hw:wH x e with
  |true=>
   rw[List.filter_cons_of_pos hw];exact Xl x r _ _ (JKc hw)
  |false=>
   rw[List.filter_cons_of_neg (by simp[hw])];exact Xl x r _ _ (by rw[JEB hw];exact h)
theorem Yl(p:En→Bool){L L':Nat→Bool}:∀(E:List En) (k:Nat),(∀(j:Nat) e,E[j]? =some e→p e=true→L (k+j)=L' (k+j))→(sel L E k).filter p=(sel L' E k).filter p
 |[],_,_=>rfl
 |e::r,k,h=>by
  have ih:=Yl p (L:=L) (L':=L') r (k+1) fun j e' he hp=>by have:=h (j+1) e' (sX he) hp;rwa[show k+(j+1)=k+1+j by omega]at this
  simp only[sel];cases hp:p e with
  |true=>
   have h0:=h 0 e rfl hp;rw[Nat.add_zero]at h0;rw[h0];split
   ·rw[List.filter_cons_of_pos hp,List.filter_cons_of_pos hp,ih]
   ·exact ih
  |false=>
   have hn:¬p e=true:=by simp[hp]
   have e1:∀X,(e::X).filter p=X.filter p:=fun X=>List.filter_cons_of_neg hn
   split<;>split<;>(try simp only[e1])<;>exact ih
theorem JFt{L':Nat→Bool}(h:∀(j:Nat) e,E[j]? =some e→wT t e=true→L j=L' j):YP τ (sel L E 0) t=YP τ (sel L' E 0) t:=
 (Xk t (sel L E 0) τ τ rfl).trans ((congrArg (fun l=>YP τ l t) (Yl (wT t) E 0 (fun j e he hp=>by rw[Nat.zero_add];exact h j e he hp))).trans (Xk t (sel L' E 0) τ τ rfl).symm)
theorem JFu{L':Nat→Bool}(h:∀(j:Nat) e,E[j]? =some e→wH x e=true→L j=L' j):Xj H (sel L E 0) x=Xj H (sel L' E 0) x:=
 (Xl x (sel L E 0) H H rfl).trans ((congrArg (fun l=>Xj H l x) (Yl (wH x) E 0 (fun j e he hp=>by rw[Nat.zero_add];exact h j e he hp))).trans (Xl x (sel L' E 0) H H rfl).symm)
theorem JNc:∀(E:List En) (i k:Nat),sel (fun j=>decide (j<i)) E k=E.take (i-k)
 |[],i,k=>by simp[sel]
 |e::r,i,k=>by
  simp only[sel,JNc r i (k+1)];by_cases h:k<i
  ·have:i-k=(i-(k+1))+1:=oM;rw[this,List.take_succ_cons];simp[h]
  ·have h1:i-k=0:=oM;have h2:i-(k+1)=0:=oM;simp[h,h1,h2]
theorem JEC:∀(E:List En) (k:Nat),(∀j e,E[j]? =some e→L (k+j)=false)→sel L E k=[]
 |[],_,_=>rfl
 |e::r,k,h=>by
  have h0:=h 0 e rfl;rw[Nat.add_zero]at h0;simp only[sel,h0];exact JEC r (k+1) fun j e' he=>by have:=h (j+1) e' (sX he);rwa[show k+(j+1)=k+1+j by omega]at this
theorem JED{τ:UX}{L:Nat→Bool}{t:Nat}:∀(E:List En) (k i:Nat) (e:En),E[i]? =some e→wT t e=true→L (k+i)=true→(∀j e',E[j]? =some e'→wT t e'=true→i<j→L (k+j)=false)→
  YP τ (sel L E k) t=some e.v
 |[],_,_,_,h,_,_,_=>by simp at h
 |e0::r,k,0,e,h,hw,hL,hn=>by
  simp only[List.getElem?_cons_zero,Vd]at h;subst h;rw[Nat.add_zero]at hL;simp only[sel,hL,if_true];show YP (ZC τ e0) (sel L r (k+1)) t=_;rw[Xk t _ _ (fun _=>some e0.v) (JAg hw)];have:(sel L r (k+1)).filter (wT t)=(sel (fun _=>false) r (k+1)).filter (wT t):=Yl _ _ _ fun j e' he hp=>by
   have:=hn (j+1) e' (sX he) hp oM;rwa[show k+(j+1)=k+1+j by omega]at this
  rw[this,JEC r (k+1) (fun _ _ _=>rfl)];rfl
 |e0::r,k,i+1,e,h,hw,hL,hn=>by
  have ih:=fun τ=>JED (τ:=τ) (L:=L) r (k+1) i e (sX h) hw (by rwa[show k+(i+1)=k+1+i by omega]at hL) (fun j e' he hp hj=>by
   have:=hn (j+1) e' (sX he) hp oM;rwa[show k+(j+1)=k+1+j by omega]at this)
  simp only[sel];split
  ·exact ih _
  ·exact ih _
theorem JEE{H H':Heap}{L:Nat→Bool}{x:Nat}:∀(E:List En) (k i:Nat) (e:En),E[i]? =some e→wH x e=true→L (k+i)=true→(∀j e',E[j]? =some e'→wH x e'=true→i<j→L (k+j)=false)→
  Xj H (sel L E k) x=JBL H' e x
 |[],_,_,_,h,_,_,_=>by simp at h
 |e0::r,k,0,e,h,hw,hL,hn=>by
  simp only[List.getElem?_cons_zero,Vd]at h;subst h;rw[Nat.add_zero]at hL;simp only[sel,hL,if_true];show Xj (JBL H e0) (sel L r (k+1)) x=_;rw[Xl x _ _ (JBL H' e0) (JKc hw)];have:(sel L r (k+1)).filter (wH x)=(sel (fun _=>false) r (k+1)).filter (wH x):=Yl _ _ _ fun j e' he hp=>by
   have:=hn (j+1) e' (sX he) hp oM;rwa[show k+(j+1)=k+1+j by omega]at this
  rw[this,JEC r (k+1) (fun _ _ _=>rfl)];rfl
 |e0::r,k,i+1,e,h,hw,hL,hn=>by
  have ih:=fun H=>JEE (H:=H) (H':=H') (L:=L) r (k+1) i e (sX h) hw (by rwa[show k+(i+1)=k+1+i by omega]at hL) (fun j e' he hp hj=>by
   have:=hn (j+1) e' (sX he) hp oM;rwa[show k+(j+1)=k+1+j by omega]at this)
  simp only[sel];split
  ·exact ih _
  ·exact ih _
def Dn(ops:List Oper)(L:Nat→Bool):Prop:=∀i o,ops[i]? =some o→L i=true→∀j∈direct o,L j=true
theorem JEF{all:List Oper}:∀(ops:List Oper) (acc:List (List Nat)),(∃pre,all=pre++ops∧pre.length=acc.length)→
  (∀k l,acc[k]? =some l→∀j∈l,∀L,Dn all L→L k=true→L j=true)→
  ∀k l,(closure ops acc)[k]? =some l→∀j∈l,∀L,Dn all L→L k=true→L j=true
 |[],acc,_,h=>h
 |o::r,acc,⟨pre,hp,hl⟩,h=>by
  refine JEF r _ ⟨pre++[o],by rw[hp];simp,by simp[hl]⟩ ?_;intro k l hk j hj L hd hL;by_cases hlt:k<acc.length
  ·rw[Vz hlt]at hk;exact h k l hk j hj L hd hL
  ·rw[Vy oM]at hk;have hk0:k-acc.length=0:=by
    by_cases h0:k-acc.length=0
    ·exact h0
    ·rw[List.getElem?_eq_none sO]at hk;cases hk
   rw[hk0]at hk;simp only[List.getElem?_cons_zero,Vd]at hk;subst hk;have hko:all[k]? =some o:=by rw[hp,Vy oM,show k-pre.length=0 by omega];rfl
   have hj2:=(List.mem_filter.1 hj).2;rw[Vx]at hj2;rcases hj2 with hj|hj
   ·exact hd k o hko hL j (sX hj)
   ·obtain⟨j',hj',hjj⟩:=List.any_eq_true.1 hj;have hL':=hd k o hko hL j' hj';cases ha:acc[j']? with
    |none=>simp[List.getD_eq_getElem?_getD,ha]at hjj
    |some l'=>
     rw[List.getD_eq_getElem?_getD,ha]at hjj;exact h j' l' ha j (sX hjj) L hd hL'
structure Al(f:Fo)(g:List Nat×List Nat)(e:En):Prop where
 dst:e.dst=f.dst
 nd:e.nd=f.nd
 lk:∀x∈e.lk,x∈g.1
 ups:∀x∈e.ups.map (·.1),x∈g.2
 c0:f.cls=0→e.lk=[]∧e.ups=[]
 c1:f.cls≤1→e.ups=[]
theorem JCY{a b:List Nat}(h:JDv a b=true)(ha:x∈a)(hb:x∈b):False:=by
 simp only[JDv,List.all_eq_true]at h;have:=h x ha;simp[hb]at this
theorem JC6{lg:Log}:∀{un:List (Nat×Nat)},X7 lg un=true→∀i j,(i,j)∈un→JGV (lg.getD i ([],[])) (lg.getD j ([],[]))=true
 |[],_,_,_,h=>by cases h
 |(a,b)::r,h,i,j,hm=>by
  simp only[X7,Vi]at h;rcases VA.1 hm with e|hm
  ·cases e;exact h.1
  ·exact JC6 h.2 i j hm
section
variable {P:Program}{N:Nat}{ops:Array Oper}{β:JM}{A:Nat→Prop}{w:World}{a:Act}{ro:Option Nat}{n:Nat}{Q:Exit→Act→World→Prop}
theorem any_ok{fs:List Fo}{lg:Log}{un:List (Nat×Nat)}(hlE:E.length=ops.size)(hlf:fs.length=ops.size)(hlg:lg.length=ops.size)
  (hdo:∀(i:Nat) o e,ops[i]? =some o→E[i]? =some e→Do P N ops o (YP τ (E.take i)) (Xj H (E.take i)) e)(hal:∀(i:Nat) f g e,fs[i]? =some f→lg[i]? =some g→E[i]? =some e→Al f g e)
  (hsep:JFm (closure ops.toList []) fs un=true)(hed:JAf ops.toList=true)(hap:X7 lg un=true){β0:JM}{A0:Nat→Prop}{w0:World}{ds:List Deferred}
  (hk:∀a w β A,SatF N (YP τ E) (Xj H E) a w β A→Stp β0 A0 w0 H β A w (Xj H E)→a.defers=ds→Q .normal a w):
  ∀(fuel:Nat) (listed:Array Bool) (a:Act) (w:World) (β:JM) (A:Nat→Prop),listed.size=ops.size→Dn ops.toList (fun i=>listed.getD i false)→((List.range ops.size).filter fun i=> !listed.getD i false).length≤fuel→
   SatF N (YP τ (sel (fun i=>listed.getD i false) E 0)) (Xj H (sel (fun i=>listed.getD i false) E 0)) a w β A→Stp β0 A0 w0 H β A w (Xj H (sel (fun i=>listed.getD i false) E 0))→a.defers=ds→
   wpAnyIn (FW ro) n P .any ops Q fuel listed a w:=by
 have sep:∀(L:Nat→Bool),Dn ops.toList L→∀i j,i<j→j<ops.size→L i=false→L j=true→∀ei ej,E[i]? =some ei→E[j]? =some ej→
   (∀d,ei.dst=some d→d∉ej.nd)∧(∀d,ej.dst=some d→d∉ei.nd)∧(∀d,ei.dst=some d→ej.dst≠some d)∧(∀x∈ei.lk,x∉ej.ups.map (·.1))∧(∀x∈ei.ups.map (·.1),x∉ej.lk)∧(∀x∈ei.ups.map (·.1),x∉ej.ups.map (·.1)):=by
  intro L hd i j hij hj hLi hLj ei ej hei hej;have hfi:fs[i]? =some (fs[i]'oM):=by simp[show i<fs.length by omega]
  have hfj:fs[j]? =some (fs[j]'oM):=by simp[show j<fs.length by omega]
  have hgi:lg[i]? =some (lg[i]'oM):=by simp[show i<lg.length by omega]
  have hgj:lg[j]? =some (lg[j]'oM):=by simp[show j<lg.length by omega]
  have ai:=hal i _ _ ei hfi hgi hei;have aj:=hal j _ _ ej hfj hgj hej;simp only[JFm,List.all_eq_true,List.mem_range]at hsep;have h1:=hsep j oM i hij;rw[Vx]at h1;rcases h1 with h1|h1
  ·exfalso;have hmem:i∈(closure ops.toList []).getD j []:=sX h1
   cases hcl:(closure ops.toList [])[j]? with
   |none=>simp[List.getD_eq_getElem?_getD,hcl]at hmem
   |some l=>
    rw[List.getD_eq_getElem?_getD,hcl]at hmem;have:=JEF ops.toList [] ⟨[],rfl,rfl⟩ sP j l hcl i hmem L hd hLj;rw[hLi]at this;cases this
  ·simp only[sep2,List.getD_eq_getElem?_getD,hfi,hfj,Vp,Vi,Vx,decide_eq_true_eq,beq_iff_eq]at h1;obtain⟨⟨⟨q1,q2⟩,q3⟩,q4⟩:=h1;refine⟨?_,?_,?_,?_⟩
   ·intro d hd';rw[ai.dst]at hd';rw[aj.nd];rw[hd']at q1;simpa using q1
   ·intro d hd';rw[aj.dst]at hd';rw[ai.nd];rw[hd']at q2;simpa using q2
   ·intro d hd' hd2;rw[ai.dst]at hd';rw[aj.dst]at hd2;rw[hd',hd2]at q3;simp at q3
   ·have hun:JGV (lg[i]'oM) (lg[j]'oM)=true∨ei.lk=[]∧ei.ups=[]∨ej.lk=[]∧ej.ups=[]∨ei.ups=[]∧ej.ups=[]:=by
     rcases q4 with((q4|q4)|q4)|q4
     ·exact .inr (.inl (ai.c0 q4))
     ·exact .inr (.inr (.inl (aj.c0 q4)))
     ·exact .inr (.inr (.inr ⟨ai.c1 q4.1,aj.c1 q4.2⟩))
     ·have:=JC6 hap i j (sX q4);simp only[List.getD_eq_getElem?_getD,hgi,hgj,Vp]at this;exact .inl this
    rcases hun with h|⟨h,h'⟩|⟨h,h'⟩|⟨h,h'⟩
    ·simp only[JGV,Vi]at h;obtain⟨⟨r1,r2⟩,r3⟩:=h;exact⟨fun x hx hy=>JCY r3 (ai.lk x hx) (aj.ups x hy),fun x hx hy=>JCY r1 (ai.ups x hx) (aj.lk x hy),fun x hx hy=>JCY r2 (ai.ups x hx) (aj.ups x hy)⟩
    ·rw[h,h'];simp
    ·rw[h,h'];simp
    ·rw[h,h'];simp
 have step1:∀(L:Nat→Bool),Dn ops.toList L→∀i ei,E[i]? =some ei→L i=false→(∀o,ops[i]? =some o→∀j∈direct o,L j=true)→
   JAB ei.nd (YP τ (E.take i)) (YP τ (sel L E 0))∧(∀x∈ei.lk,Xj H (E.take i) x=Xj H (sel L E 0) x)∧
   (∀j ej,E[j]? =some ej→i<j→L j=true→(∀d,ei.dst=some d→ej.dst≠some d)∧∀x∈ei.ups.map (·.1),x∉ej.ups.map (·.1)):=by
  intro L hd i ei hei hLi hrd;have hiS:i<ops.size:=by rw[←hlE];exact(VB.1 hei).1
  have hd':Dn ops.toList (fun j=>if j=i then true else L j):=by
   intro k o hk hLk j hj;by_cases e:j=i
   ·simp[e]
   ·simp only[e,if_false];by_cases ek:k=i
    ·subst ek;exact hrd o (sX hk) j hj
    ·simp only[ek,if_false]at hLk;exact hd k o hk hLk j hj
  have before:∀(j:Nat) ej,E[j]? =some ej→j<i→L j=false→(∀d,ej.dst=some d→d∉ei.nd)∧∀x∈ei.lk,x∉ej.ups.map (·.1):=by
   intro j ej hej hji hLj;obtain⟨r1,r2,r3,r4,r5,r6⟩:=sep (fun j=>if j=i then true else L j) hd' j i hji hiS (by simp[show j≠i by omega,hLj]) sP ej ei hej hei;exact⟨r1,fun x hx hy=>r5 x hy hx⟩
  have after:∀(j:Nat) ej,E[j]? =some ej→i<j→L j=true→(∀d,ej.dst=some d→d∉ei.nd)∧(∀x∈ei.lk,x∉ej.ups.map (·.1))∧(∀d,ei.dst=some d→ej.dst≠some d)∧∀x∈ei.ups.map (·.1),x∉ej.ups.map (·.1):=by
   intro j ej hej hij hLj;obtain⟨r1,r2,r3,r4,r5,r6⟩:=sep L hd i j hij (by rw[←hlE];exact(VB.1 hej).1) hLi hLj ei ej hei hej;exact⟨r2,r4,r3,r6⟩
  have agree:∀(j:Nat) ej,E[j]? =some ej→((∃t∈ei.nd,ej.dst=some t)∨∃x∈ei.lk,x∈ej.ups.map (·.1))→decide (j<i)=L j:=by
   intro j ej hej hw;by_cases hji:j<i
   ·cases hLj:L j with
    |true=>simp[hji]
    |false=>
     exfalso;obtain⟨r1,r2⟩:=before j ej hej hji hLj
     rcases hw with⟨t,h1,h2⟩|⟨x,h1,h2⟩
     ·exact r1 t h2 h1
     ·exact r2 x h1 h2
   ·by_cases hji':j=i
    ·subst hji';simp[hLi]
    ·cases hLj:L j with
     |false=>simp[hji]
     |true=>
      exfalso;obtain⟨r1,r2,_,_⟩:=after j ej hej oM hLj
      rcases hw with⟨t,h1,h2⟩|⟨x,h1,h2⟩
      ·exact r1 t h2 h1
      ·exact r2 x h1 h2
  have htake:E.take i=sel (fun j=>decide (j<i)) E 0:=by rw[JNc];rfl
  refine⟨?_,?_,fun j ej hej hij hLj=>(after j ej hej hij hLj).2.2⟩
  ·intro t ht v hv;rw[htake,JFt (L':=L) (fun j ej hej hw=>agree j ej hej (.inl ⟨t,ht,by simpa[wT]using hw⟩))]at hv;exact hv
  ·intro x hx;rw[htake];exact JFu fun j ej hej hw=>agree j ej hej (.inr ⟨x,hx,by simpa[wH]using hw⟩)
 have step2:∀(L:Nat→Bool),Dn ops.toList L→∀i ei,E[i]? =some ei→L i=false→(∀o,ops[i]? =some o→∀j∈direct o,L j=true)→
   ZC (YP τ (sel L E 0)) ei=YP τ (sel (fun j=>if j=i then true else L j) E 0)∧JBL (Xj H (sel L E 0)) ei=Xj H (sel (fun j=>if j=i then true else L j) E 0):=by
  intro L hd i ei hei hLi hrd;obtain⟨_,_,hafter⟩:=step1 L hd i ei hei hLi hrd;refine⟨?_,?_⟩
  ·funext t;cases hw:wT t ei with
   |true=>
    rw[JAg hw,JED E 0 i ei hei hw sP];intro j ej hej hwj hij;simp only[Nat.zero_add,show j≠i by omega,if_false];cases hLj:L j with
    |false=>rfl
    |true=>exact((hafter j ej hej hij hLj).1 t (by simpa[wT]using hw) (by simpa[wT]using hwj)).elim
   |false=>
    rw[JBM hw];refine JFt fun j ej hej hwj=>?_
    by_cases e:j=i
    ·subst e;rw[hei]at hej;cases hej;rw[hw]at hwj;cases hwj
    ·simp[e]
  ·funext x;cases hw:wH x ei with
   |true=>
    rw[JEE (H':=Xj H (sel L E 0)) E 0 i ei hei hw sP];intro j ej hej hwj hij;simp only[Nat.zero_add,show j≠i by omega,if_false];cases hLj:L j with
    |false=>rfl
    |true=>exact((hafter j ej hej hij hLj).2 x (by simpa[wH]using hw) (by simpa[wH]using hwj)).elim
   |false=>
    rw[JEB hw];refine JFu fun j ej hej hwj=>?_
    by_cases e:j=i
    ·subst e;rw[hei]at hej;cases hej;rw[hw]at hwj;cases hwj
    ·simp[e]
 have full:∀(listed:Array Bool),(∀i,i<ops.size→listed.getD i false=true)→sel (fun i=>listed.getD i false) E 0=E:=by
  intro listed hall;have:∀(E':List En) (k:Nat),k+E'.length=ops.size→sel (fun i=>listed.getD i false) E' k=E':=by
   intro E'
   induction E' with
   |nil=>intro k _;rfl
   |cons e r ih=>
    intro k hk;simp only[Vf]at hk;simp only[sel,hall k oM,if_true];rw[ih (k+1) oM]
  exact this E 0 oM
 have someone:∀(listed:Array Bool),listed.size=ops.size→Region.ready .any ops listed=[]→∀i,i<ops.size→listed.getD i false=true:=by
  intro listed hsz hr i
  induction i using Nat.strongRecOn with
  |_ i ih=>
   intro hi;cases hL:listed.getD i false with
   |true=>rfl
   |false=>
    exfalso;have hmem:i∈Region.ready .any ops listed:=by
     refine mem_ready.2 ⟨?_,ops[i],by simp[hi],?_⟩
     ·have:i<listed.size:=oM;simpa[Array.getD_eq_getD_getElem?,this]using hL
     ·intro e he hb;have hdir:e.on∈direct ops[i]:=VC.2 ⟨e,List.mem_filter.2 ⟨by simpa using he,hb⟩,rfl⟩;simp only[JAf,List.all_eq_true,List.mem_range,Array.length_toList]at hed;have h1:=hed i hi;simp only[Array.getElem?_toList,show ops[i]? =some ops[i] by simp[hi],List.all_eq_true,decide_eq_true_eq]at h1;have:=h1 e.on hdir;exact ih e.on this oM
    rw[hr]at hmem;cases hmem
 intro fuel
 induction fuel with
 |zero=>
  intro listed a w β A hsz hd hcnt hs hst hdf;have hnil:Region.ready .any ops listed=[]:=by
   apply List.eq_nil_iff_forall_not_mem.2;intro i hi;obtain⟨h1,o,h2,_⟩:=mem_ready.1 hi;have hlt:i<ops.size:=(Array.getElem?_eq_some_iff.1 h2).1;have:i∈(List.range ops.size).filter fun i=> !listed.getD i false:=by
    refine List.mem_filter.2 ⟨List.mem_range.2 hlt,?_⟩;have:i<listed.size:=oM;simp[Array.getD_eq_getD_getElem?,this]at h1⊢;exact h1
   have:=List.length_pos_of_mem this;omega
  refine⟨hnil,?_⟩;have hfull:=full listed (someone listed hsz hnil);rw[hfull]at hs hst;exact hk a w β A hs hst hdf
 |succ fuel ih=>
  intro listed a w β A hsz hd hcnt hs hst hdf;refine⟨fun hnil=>?_,fun i hi=>?_⟩
  ·have hfull:=full listed (someone listed hsz hnil);rw[hfull]at hs hst;exact hk a w β A hs hst hdf
  ·obtain⟨h1,o,h2,h3⟩:=mem_ready.1 hi;have hlt:i<ops.size:=(Array.getElem?_eq_some_iff.1 h2).1;have hil:i<listed.size:=oM;have hLi:listed.getD i false=false:=by simpa[Array.getD_eq_getD_getElem?,hil]using h1
   have hei:E[i]? =some (E[i]'oM):=by simp[show i<E.length by omega]
   have hrd:∀o',ops[i]? =some o'→∀j∈direct o',listed.getD j false=true:=by
    intro o' ho' j hj;rw[h2]at ho';cases ho';obtain⟨ed,he,rfl⟩:=VC.1 hj;obtain⟨he1,he2⟩:=List.mem_filter.1 he;exact h3 ed (sX he1) he2
   obtain⟨g1,g2,_⟩:=step1 _ hd i _ hei hLi hrd;obtain⟨g3,g4⟩:=step2 _ hd i _ hei hLi hrd;have hset:∀j,(listed.setIfInBounds i true).getD j false=if j=i then true else listed.getD j false:=by
    intro j;simp only[Array.getD_eq_getD_getElem?,Array.getElem?_setIfInBounds];by_cases e:i=j
    ·subst e;simp[hil]
    ·simp[e,Ne.symm e]
   have hfe:(fun j=>(listed.setIfInBounds i true).getD j false)=fun j=>if j=i then true else listed.getD j false:=funext hset
   refine((hdo i o _ h2 hei).le g1 g2).ok hs h2 ?_;intro a' w' β' A' hst' hs' hdf';rw[g3,g4]at hs';rw[g4]at hst';rw[←hfe]at hs' hst';refine ih _ a' w' β' A' (sX hsz) ?_ ?_ hs' (hst.trans hst') (hdf'.trans hdf)
   ·rw[hfe];intro k o' hk hLk j hj;by_cases e:j=i
    ·simp[e]
    ·simp only[e,if_false];by_cases ek:k=i
     ·subst ek;exact hrd o' (sX hk) j hj
     ·simp only[ek,if_false]at hLk;exact hd k o' hk hLk j hj
   ·have hlt2:((List.range ops.size).filter fun j=> !(listed.setIfInBounds i true).getD j false).length<((List.range ops.size).filter fun j=> !listed.getD j false).length:=by
     have hsub:((List.range ops.size).filter fun j=> !(listed.setIfInBounds i true).getD j false)=((List.range ops.size).filter fun j=> !listed.getD j false).filter fun j=>decide (j≠i):=by
      rw[List.filter_filter];apply List.filter_congr;intro j _;rw[hset];by_cases e:j=i<;>simp[e]
     rw[hsub];refine List.length_filter_lt_length_iff_exists.2 ⟨i,List.mem_filter.2 ⟨List.mem_range.2 hlt,by simp[hLi]⟩,sP⟩
    omega
end
end Av
namespace Av
open Go
variable [Glb][Rls]
variable {τ:UX}
theorem Yc:∀(s:Ss) (g:List Nat),(fl g s).length=s.len
 |.nil,_=>rfl
 |.op _ _ r,g=>by simp[fl,Ss.len,Yc r g]
 |.call _ _ _ r,g=>by simp[fl,Ss.len,Yc r g]
 |.sc c _ body _ _ r,g=>by simp[fl,Ss.len,Yc r g,Yc body [c]]
theorem JHs{H:Heap}{d:Nat}{io:IOp}{r:Res}(h:step τ H d io=some r):JNX io≤1→r.ups=[]:=by
 intro hc;cases io<;>simp only[JNX]at hc<;>first|omega|skip
 all_goals
  simp only[step]at h
  first
   |(obtain⟨v,_,rfl⟩:=Option.map_eq_some_iff.1 h;rfl)
   |(repeat' split at h)<;>first|(cases h;rfl)|(cases h;done)
theorem JSg{d:Nat}{io:IOp}(h:JNX io=0):rd τ d io=[]:=by
 cases io<;>simp only[JNX]at h<;>first|rfl|omega
section
variable {P:Program}{N:Nat}{ops:Array Oper}{o:Oper}
inductive Chain(P:Program)(N:Nat)(ops:Array Oper):List Nat→List Fo→Log→UX→Heap→List En→UX→Heap→Prop
 |nil (τ H):Chain P N ops [] [] [] τ H [] τ H
 |cons (i o l f fs g lg τ H e E τ' H') (ho:ops[i]? =some o) (hd:Do P N ops o τ H e) (ha:Al f g e) (hc:Chain P N ops l fs lg (ZC τ e) (JBL H e) E τ' H'):Chain P N ops (i::l) (f::fs) (g::lg) τ H (e::E) τ' H'
theorem Chain.append{l1 l2:List Nat}{f1 f2:List Fo}{g1 g2:Log}{τ1 τ2:UX}{H H1 H2:Heap}{E1 E2:List En}(h1:Chain P N ops l1 f1 g1 τ H E1 τ1 H1)(h2:Chain P N ops l2 f2 g2 τ1 H1 E2 τ2 H2):
  Chain P N ops (l1++l2) (f1++f2) (g1++g2) τ H (E1++E2) τ2 H2:=by
 induction h1 with
 |nil=>exact h2
 |cons i o l f fs g lg τ H e E τ' H' ho hd ha hc ih=>exact .cons _ _ _ _ _ _ _ _ _ _ _ _ _ ho hd ha (ih h2)
theorem JAD{f:Ss→Ss}(h:JBv P N o=some f):Zz N o.dst=true∧((∃io,JHa P o=some io∧f=Ss.op o.dst io)∨
  ∃g args argTypes fc xs,o.op=.call {callee:=.value g,args,argTypes}∧JFl P g=some fc∧Ji ((args.toList.zip argTypes.toList).map fun(x,t)=>opd P t x)=some xs∧args.size=argTypes.size∧f=Ss.call o.dst fc xs):=by
 unfold JBv at h;split at h
 case isFalse=>cases h
 rename_i hd;refine⟨hd,?_⟩;split at h
 ·rename_i g args argTypes ho;split at h
  ·rename_i fc xs hcal hxs;split at h
   ·rename_i hsz;cases h;exact .inr ⟨g,args,argTypes,fc,xs,ho,hcal,hxs,hsz,rfl⟩
   ·cases h
  ·cases h
 ·obtain⟨io,hio,rfl⟩:=JW h;exact .inl ⟨io,hio,rfl⟩
theorem U6{e:En}{t:Nat}(h:t∉e.dst.toList):ZC τ e t=τ t:=by
 refine JBM ?_;cases hd:e.dst with
 |none=>simp[wT,hd]
 |some d=>simp[hd]at h;simp[wT,hd,Ne.symm h]
theorem JBy:∀(m:Nat) (j:Nat) (b:Bool) (asg l:List Nat) (s:Ss) (l':List Nat) (τ:UX) (H:Heap) (c:Nat) (v:Av) (lg:Log),YU P N ops m (some (j,b)) asg l=some (s,l')→(ops[j]?).bind (·.dst)=some c→c∉s.J1→
  τ c=some v→notB b v→(∀t∈asg,τ t=some .und)→lg.length=s.len→
  ∃pre E τ',l=pre++l'∧Chain P N ops pre (fl [c] s) lg τ H E τ' H∧(∀t,t∉s.J1→τ' t=τ t)∧∀t∈s.J1,τ' t=some .und
 |0,j,b,asg,l,s,l',τ,H,c,v,lg,h,_,_,_,_,_,_=>by simp[YU]at h
 |m+1,j,b,asg,[],s,l',τ,H,c,v,lg,h,_,_,_,_,_,hl=>by
  simp only[YU,Vd,Ve]at h;obtain⟨rfl,rfl⟩:=h;obtain rfl:lg=[]:=by simpa[Ss.len]using hl
  exact⟨[],[],τ,rfl,.nil _ _,fun _ _=>rfl,by simp[Ss.J1]⟩
 |m+1,j,b,asg,i::l,s,l',τ,H,c,v,lg,h,hj,hcs,hcu,hub,hasg,hl=>by
  unfold YU at h;split at h
  ·cases h
  rename_i o ho;split at h
  ·rename_i hg;split at h
   case h_2=>cases h
   rename_i f hf;split at h
   case h_2=>cases h
   rename_i r l2 hr;simp only[Vd,Ve]at h;obtain⟨rfl,rfl⟩:=h;have hdd:=Zd hf r;rw[hdd]at hcs⊢;have hcd:c∉o.dst.toList:=fun h=>hcs (List.mem_append_left _ h)
   obtain⟨fo,hfl,hfd,hfn⟩:∃fo:Fo,fl [c] (f r)=fo::fl [c] r∧fo.dst=o.dst∧c∈fo.nd:=by
    rcases(JAD hf).2 with⟨io,_,rfl⟩|⟨g,args,argTypes,fc,xs,_,_,_,_,rfl⟩
    ·exact⟨_,rfl,rfl,sP⟩
    ·exact⟨_,rfl,rfl,sP⟩
   have hlen:(f r).len=r.len+1:=by
    have:=congrArg List.length hfl;rw[Yc]at this;simpa[Yc]using this
   rw[hlen]at hl;cases lg with
   |nil=>simp at hl
   |cons g0 lg=>
    have hasg':∀t∈o.dst.toList++asg,ZC τ ⟨o.dst,.und,[],[],fo.nd⟩ t=some .und:=by
     intro t ht;by_cases htd:t∈o.dst.toList
     ·exact JAg (e:=⟨o.dst,.und,[],[],fo.nd⟩) (by cases e:o.dst with|none=>simp[e]at htd|some d=>simp[e]at htd;simp[wT,htd])
     ·rw[U6 htd];exact hasg t ((List.mem_append.1 ht).resolve_left htd)
    obtain⟨pre,E,τ',h1,h2,h3,h4⟩:=JBy m j b (o.dst.toList++asg) l r _ (ZC τ ⟨o.dst,.und,[],[],fo.nd⟩) H c v lg hr hj (fun h=>hcs (List.mem_append_right _ h)) (by rw[U6 hcd];exact hcu) hub hasg' (sX hl);refine⟨i::pre,(⟨o.dst,.und,[],[],fo.nd⟩:En)::E,τ',by rw[h1];rfl,?_,?_,?_⟩
    ·rw[hfl];exact .cons i o pre fo _ g0 lg τ H ⟨o.dst,.und,[],[],fo.nd⟩ E τ' H ho (.skip j b c v fo.nd hg hj (JAD hf).1 hcu hub hfn) ⟨hfd.symm,rfl,sP,sP,fun _=>⟨rfl,rfl⟩,fun _=>rfl⟩ h2
    ·intro t ht;rw[h3 t (fun h=>ht (List.mem_append_right _ h)),U6 (fun h=>ht (List.mem_append_left _ h))]
    ·intro t ht;by_cases hr':t∈r.J1
     ·exact h4 t hr'
     ·rw[h3 t hr'];exact hasg' t (List.mem_append_left _ ((List.mem_append.1 ht).resolve_right hr'))
  ·rename_i hg;split at h
   ·simp only[Vd,Ve]at h;obtain⟨rfl,rfl⟩:=h;obtain rfl:lg=[]:=by simpa[Ss.len]using hl
    exact⟨[],[],τ,rfl,.nil _ _,fun _ _=>rfl,by simp[Ss.J1]⟩
   ·rename_i j2 b2 hg2;split at h
    ·cases h
    rename_i c2 hc2;split at h
    case isFalse=>
     simp only[Vd,Ve]at h;obtain⟨rfl,rfl⟩:=h;obtain rfl:lg=[]:=by simpa[Ss.len]using hl
     exact⟨[],[],τ,rfl,.nil _ _,fun _ _=>rfl,by simp[Ss.J1]⟩
    rename_i hin;have hin':c2∈asg:=sX hin;split at h
    case h_2=>cases h
    rename_i body i' l2 hb;split at h
    case h_2=>cases h
    rename_i pk hpk;split at h
    case h_2=>cases h
    rename_i c' x y d hop hdst;split at h
    case h_2=>cases h
    rename_i z hz;split at h
    case isFalse=>cases h
    rename_i hcond;obtain⟨k1,rfl,k3,k4,k5⟩:=hcond;split at h
    case h_2=>cases h
    rename_i r l3 hr;simp only[Vd,Ve]at h;obtain⟨rfl,rfl⟩:=h;simp only[Ss.J1,List.mem_append,VA,not_or]at hcs⊢;obtain⟨q1,q2,q3⟩:=hcs;simp only[Ss.len]at hl;obtain⟨lb,lr,hlg,hlb⟩:∃lb lr,lg=lb++lr∧lb.length=body.len:=⟨lg.take body.len,lg.drop body.len,(List.take_append_drop _ _).symm,sO⟩;subst hlg;rw[Vg,hlb]at hl;cases lr with
    |nil=>simp at hl
    |cons g0 lr=>
     obtain⟨p1,E1,τ1,h1,h2,h3,h4⟩:=JBy m j2 b2 [] (i::l) body _ τ H c' .und lb hb hc2 (sX k4) (hasg c' hin') (.inl rfl) sP hlb;have hcu1:τ1 c=some v:=by rw[h3 c q1];exact hcu
     let e0:En:=⟨pk.dst,.und,[],[],c'::(tO z++[c])⟩
     have hasg':∀t∈d::(body.J1++asg),ZC τ1 e0 t=some .und:=by
      intro t ht;by_cases e:t=d
      ·subst e;exact JAg (e:=e0) (by simp[wT,e0,hdst])
      ·rw[U6 (e:=e0) (by simpa[e0,hdst]using e)];by_cases hbt:t∈body.J1
       ·exact h4 t hbt
       ·rw[h3 t hbt];simp only[VA,List.mem_append]at ht;rcases ht with h|h|h
        ·exact absurd h e
        ·exact absurd h hbt
        ·exact hasg t h
     obtain⟨p2,E2,τ2,g1,g2,g3,g4⟩:=JBy m j b (d::(body.J1++asg)) l2 r _ (ZC τ1 e0) H c v lr hr hj q3 (by rw[U6 (e:=e0) (by simpa[e0,hdst]using q2)];exact hcu1) hub hasg' (by simp at hl;omega);refine⟨p1++i'::p2,E1++e0::E2,τ2,by rw[h1,g1];simp,?_,?_,?_⟩
     ·refine h2.append ?_;refine .cons i' pk p2 _ _ g0 lr τ1 H e0 E2 τ2 H hpk (.skip j b c v _ k1 hj (by rw[hdst];simp[Zz,k3]) hcu1 hub sP) ⟨hdst,rfl,by simp[e0],by simp[e0],fun _=>⟨rfl,rfl⟩,fun _=>rfl⟩ g2
     ·rintro t ⟨t1,t2,t3⟩;rw[g3 t t3,U6 (e:=e0) (by simpa[e0,hdst]using t2),h3 t t1]
     ·intro t ht;by_cases e1:t∈r.J1
      ·exact g4 t e1
      ·rw[g3 t e1];exact hasg' t (by
        simp only[VA,List.mem_append];rcases ht with h|h|h
        ·exact .inr (.inl h)
        ·exact .inl h
        ·exact absurd h e1)
 termination_by m=>m
theorem JGd:∀(m:Nat) (g:Option (Nat×Bool)) (asg l:List Nat) (s:Ss) (l':List Nat) (K:St→Log→Prop) (st:St) (lg0:Log) (τ:UX),YU P N ops m g asg l=some (s,l')→
  (∀j b,g=some (j,b)→∃c,(ops[j]?).bind (·.dst)=some c∧c∉s.J1∧τ c=some (.d (.bool b)))→UZ P s K st lg0→(∀t v,get st.tm t=some v→τ t=some v)→
  ∃pre E lg τ' st',l=pre++l'∧Chain P N ops pre (fl (gT ops g) s) lg τ (get st.hp) E τ' (get st'.hp)∧K st' (lg0++lg)∧(∀t v,get st'.tm t=some v→τ' t=some v)∧∀t,t∉s.J1→τ' t=τ t
 |0,g,asg,l,s,l',K,st,lg0,τ,h,_,_,_=>by simp[YU]at h
 |m+1,g,asg,[],s,l',K,st,lg0,τ,h,_,hw,hle=>by
  simp only[YU,Vd,Ve]at h;obtain⟨rfl,rfl⟩:=h;exact⟨[],[],[],τ,st,rfl,.nil _ _,by simpa[UZ]using hw,hle,fun _ _=>rfl⟩
 |m+1,g,asg,i::l,s,l',K,st,lg0,τ,h,hgo,hw,hle=>by
  have gon:∀τ1:UX,(∀t,t∉s.J1→τ1 t=τ t)→JGc ops τ1 g:=by
   intro τ1 hfr;cases g with
   |none=>trivial
   |some p=>
    obtain⟨j,b⟩:=p;obtain⟨c,h1,h2,h3⟩:=hgo j b rfl;exact⟨c,h1,by rw[hfr c h2];exact h3⟩
  unfold YU at h;split at h
  ·cases h
  rename_i o ho;split at h
  ·rename_i hg;split at h
   case h_2=>cases h
   rename_i f hf;split at h
   case h_2=>cases h
   rename_i r l2 hr;simp only[Vd,Ve]at h;obtain⟨rfl,rfl⟩:=h;have hdd:=Zd hf r;have rest:∀(fo:Fo) (g0:List Nat×List Nat) (e:En) (st1:St),fl (gT ops g) (f r)=fo::fl (gT ops g) r→Do P N ops o τ (get st.hp) e→Al fo g0 e→e.dst=o.dst→UZ P r K st1 (lg0++[g0])→get st1.hp=JBL (get st.hp) e→
     (∀t v,get st1.tm t=some v→ZC τ e t=some v)→
     ∃pre E lg τ' st',i::l=pre++l2∧Chain P N ops pre (fl (gT ops g) (f r)) lg τ (get st.hp) E τ' (get st'.hp)∧K st' (lg0++lg)∧(∀t v,get st'.tm t=some v→τ' t=some v)∧∀t,t∉(f r).J1→τ' t=τ t:=by
    intro fo g0 e st1 hfl hdo hal hed hw1 hh hle1;obtain⟨pre,E,lg,τ',st',h1,h2,h3,h4,h5⟩:=JGd m g _ l r _ K st1 (lg0++[g0]) (ZC τ e) hr (by
     intro j b hjb;obtain⟨c,q1,q2,q3⟩:=hgo j b hjb;rw[hdd]at q2;exact⟨c,q1,fun h=>q2 (List.mem_append_right _ h),by rw[U6 (by rw[hed];exact fun h=>q2 (List.mem_append_left _ h))];exact q3⟩) hw1 hle1
    refine⟨i::pre,e::E,g0::lg,τ',st',by rw[h1];rfl,?_,by simpa using h3,h4,?_⟩
    ·rw[hfl];refine .cons i o pre fo _ g0 lg τ _ e E τ' _ ho hdo hal ?_;rw[←hh];exact h2
    ·intro t ht;rw[hdd]at ht;rw[h5 t (fun h=>ht (List.mem_append_right _ h)),U6 (by rw[hed];exact fun h=>ht (List.mem_append_left _ h))]
   have put_le:∀(d:Option Nat) (v:Av) (ups:List (Nat×Obj)) (lk nd:List Nat) (t:Nat) (u:Av),get (st.app d v ups).tm t=some u→ZC τ ⟨d,v,ups,lk,nd⟩ t=some u:=by
    intro d v ups lk nd t u ht;cases d with
    |none=>exact hle t u ht
    |some d=>
     simp only[St.app,UF]at ht;simp only[ZC,upd];split at ht
     ·rename_i e;rw[if_pos e];exact ht
     ·rename_i e;rw[if_neg e];exact hle t u ht
   obtain⟨hdok,⟨io,hio,rfl⟩|⟨g',args,argTypes,fc,xs,hop,hcal,hxs,hsz,rfl⟩⟩:=JAD hf
   ·simp only[UZ]at hw;split at hw
    case h_2=>exact hw.elim
    rename_i x hx;obtain⟨hc,hw⟩:=hw;obtain⟨s1,s2⟩:=JKb (τ':=τ) (H':=get st.hp) hx (fun t _ v hv=>hle t v hv) (fun _ _=>rfl);refine rest _ _ ⟨o.dst,x.v,x.ups,rd τ (o.dst.getD 0) io,tI io++gT ops g⟩ _ rfl
     (.op io x _ (by rw[hg];exact gon τ (fun _ _=>rfl)) (by rw[hg];intro t ht;exact List.mem_append_right _ ht) hio hdok (fun t ht=>List.mem_append_left _ ht) s1 hc)
     ⟨rfl,rfl,by rw[s2];exact fun _ h=>h,fun _ h=>h,fun h0=>⟨JSg h0,JHs s1 (by dsimp only at h0;omega)⟩,fun h1=>JHs s1 h1⟩ rfl hw (UA _ _) (put_le _ _ _ _ _)
   ·simp only[UZ]at hw;split at hw
    case h_2=>exact hw.elim
    rename_i f' vs htg;obtain⟨T,v,ups,hp1,hcok,hT,hp1e,hw⟩:=hw;refine rest _ _ ⟨o.dst,v,ups,T.map (·.1),JNY fc++(xs.flatMap tO++gT ops g)⟩ _ rfl
     (.call fc xs g' args argTypes f' vs T v ups _ (by rw[hg];exact gon τ (fun _ _=>rfl)) (by rw[hg];intro t ht;simp[ht]) hop hcal hxs hsz hdok (fun t ht=>by simp[ht]) (fun x hx t ht=>by subst hx;simp[JNY,ht])
      (JFs (nd:=xs.flatMap tO++JNY fc) htg (fun t ht=>List.mem_append_left _ ht) (fun x hx t ht=>by subst hx;exact List.mem_append_right _ ht) (fun t _ v hv=>hle t v hv)) hcok hT)
     ⟨rfl,rfl,fun _ h=>h,fun _ h=>h,(fun h0=>by cases h0),(fun h1=>by dsimp only at h1;omega)⟩ rfl hw (funext hp1e) (put_le _ _ _ _ _)
  ·rename_i hg;split at h
   ·simp only[Vd,Ve]at h;obtain⟨rfl,rfl⟩:=h;exact⟨[],[],[],τ,st,rfl,.nil _ _,by simpa[UZ]using hw,hle,fun _ _=>rfl⟩
   ·rename_i j2 b2 hg2;split at h
    ·cases h
    rename_i c2 hc2;split at h
    case isFalse=>
     simp only[Vd,Ve]at h;obtain⟨rfl,rfl⟩:=h;exact⟨[],[],[],τ,st,rfl,.nil _ _,by simpa[UZ]using hw,hle,fun _ _=>rfl⟩
    split at h
    case h_2=>cases h
    rename_i body i' l2 hb;split at h
    case h_2=>cases h
    rename_i pk hpk;split at h
    case h_2=>cases h
    rename_i c' x y d hop hdst;split at h
    case h_2=>cases h
    rename_i z hz;split at h
    case isFalse=>cases h
    rename_i hcond;obtain⟨k1,rfl,k3,k4,k5⟩:=hcond;split at h
    case h_2=>cases h
    rename_i r l3 hr;simp only[Vd,Ve]at h;obtain⟨rfl,rfl⟩:=h;simp only[UZ]at hw;split at hw
    case h_2=>exact hw.elim
    rename_i xv hxv;obtain⟨yv,hp1,lb,hlb,hbody,hskip,hrest⟩:=hw;have hcx:=hle c' _ hxv;have hcb:c'∉body.J1:=sX k4;have hgt:gT ops (some (j2,b2))=[c']:=by simp[gT,hc2]
    have fin:∀(p1:List Nat) (E1:List En) (τ1:UX) (z':Opd) (v:Bool),i::l=p1++i'::l2→Chain P N ops p1 (fl [c'] body) lb τ (get st.hp) E1 τ1 (get hp1)→(∀t,t∉body.J1→τ1 t=τ t)→
      opd P 0 (if xv then x else y)=some z'→val τ1 z'=some (.d (.bool v))→(∀t∈tO z',t∈tO z)→v=(if b2 then xv&&yv else xv||yv)→
      ∃pre E lg τ' st',i::l=pre++l3∧Chain P N ops pre (fl (gT ops g) (.sc c' b2 body z d r)) lg τ (get st.hp) E τ' (get st'.hp)∧K st' (lg0++lg)∧(∀t v,get st'.tm t=some v→τ' t=some v)∧∀t,t∉(Ss.sc c' b2 body z d r).J1→τ' t=τ t:=by
     intro p1 E1 τ1 z' v h1 hch hfr hz' hv' hzz hvv;subst hvv
     let e0:En:=⟨some d,.d (.bool (if b2 then xv&&yv else xv||yv)),[],[],c'::(tO z++gT ops g)⟩
     have hdo:Do P N ops pk τ1 (get hp1) e0:=.pick c' x y z' d xv _ _ (by rw[k1];exact gon τ1 (fun t ht=>hfr t (fun h=>ht (by simp[Ss.J1,h])))) (by rw[k1];intro t ht;simp[ht]) hop hdst k3 (by rw[hfr c' hcb];exact hcx) hz' hv' sP (fun t ht=>by simp[hzz t ht]);obtain⟨p2,E2,lg2,τ2,st',g1,g2,g3,g4,g5⟩:=JGd m g _ l2 r _ K ⟨put (Un st.tm body.J1) d (.d (.bool (if b2 then xv&&yv else xv||yv))),hp1⟩ (lg0++(lb++[([],[])])) (ZC τ1 e0) hr (by
      intro j b hjb;obtain⟨c,q1,q2,q3⟩:=hgo j b hjb;simp only[Ss.J1,List.mem_append,VA,not_or]at q2;exact⟨c,q1,q2.2.2,by rw[U6 (e:=e0) (by simpa[e0]using q2.2.1),hfr c q2.1];exact q3⟩) hrest (by
      intro t v ht;simp only[UF]at ht;by_cases e:t=d
      ·rw[if_pos e]at ht;subst e;rw[JAg (e:=e0) (by simp[wT,e0])];exact ht
      ·rw[if_neg e,JCX]at ht;split at ht
       ·cases ht
       ·rename_i hnb;rw[U6 (e:=e0) (by simpa[e0]using e),hfr t (sX hnb)];exact hle t v ht)
     refine⟨p1++i'::p2,E1++e0::E2,lb++([],[])::lg2,τ2,st',by rw[h1,g1];simp,?_,by simpa using g3,g4,?_⟩
     ·refine hch.append ?_;exact .cons i' pk p2 _ _ _ lg2 τ1 _ e0 E2 τ2 _ hpk hdo ⟨rfl,rfl,by simp[e0],by simp[e0],fun _=>⟨rfl,rfl⟩,fun _=>rfl⟩ g2
     ·intro t ht;simp only[Ss.J1,List.mem_append,VA,not_or]at ht;rw[g5 t ht.2.2,U6 (e:=e0) (by simpa[e0]using ht.2.1),hfr t ht.1]
    by_cases hxb:xv=b2
    ·obtain⟨p1,E1,lg1,τ1,st1,h1,h2,⟨h3,h3',h3''⟩,h4,h5⟩:=JGd m (some (j2,b2)) [] (i::l) body _ _ st [] τ hb (by
      intro j b hjb;cases hjb;exact⟨c',hc2,hcb,by rw[←hxb];exact hcx⟩) (hbody hxb) hle
     rw[hgt,h3']at h2;rw[List.nil_append]at h3'';rw[h3'']at h2;refine fin p1 E1 τ1 z yv h1 h2 h5 (by rw[hxb];exact hz) (Jk (fun t _ v hv=>h4 t v hv) h3) (fun _ h=>h) ?_;subst hxb;cases xv<;>simp
    ·obtain⟨p1,E1,τ1,h1,h2,h3,h4⟩:=JBy m j2 b2 [] (i::l) body _ τ (get st.hp) c' (.d (.bool xv)) lb hb hc2 hcb hcx (.inr ⟨xv,rfl,hxb⟩) sP hlb;have e1:=hskip hxb;subst e1;unfold JJa at k5;split at k5
     ·have:xv=false:=by cases xv<;>simp_all
      subst this;exact fin p1 E1 τ1 (.k (.bool false)) false h1 h2 h3 rfl rfl (by simp[tO]) sP
     ·have:xv=true:=by cases xv<;>simp_all
      subst this;exact fin p1 E1 τ1 (.k (.bool true)) true h1 h2 h3 rfl rfl (by simp[tO]) sP
     ·cases k5
 termination_by m=>m
end
end Av
