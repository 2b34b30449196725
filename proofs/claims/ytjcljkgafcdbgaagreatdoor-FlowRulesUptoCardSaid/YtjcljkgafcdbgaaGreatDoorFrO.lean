/- Part O of a proof. -/
import Derived.Test.YtjcljkgafcdbgaaGreatDoorFrC
import Derived.Test.YtjcljkgafcdbgaaGreatDoorCards
import Derived.Test.YtjcljkgafcdbgaaGreatDoorFrN
import Derived.ProofKit
import Derived.Stop.LaidErr
import Derived.Lib.LaidTab
import Derived.Lib.ItoaNum
import Derived.LaidLaws
import Derived.Lib.LaidU8T
import Derived.Test.YtjcljkgafcdbgaaGreatDoorFrA
set_option linter.unusedVariables false
set_option linter.unusedSimpArgs false
set_option linter.unusedSectionVars false
set_option linter.constructorNameAsVariable false
set_option linter.unnecessarySimpa false
set_option maxRecDepth 100000
namespace Go.Proofs.YtjcljkgafcdbgaaGreatDoor
open Go Go.Proofs Av
variable {w:World}
theorem g3n:Tryz.prog.globalNamed "internal/strconv.uint64pow10" =some 3:=kR
theorem g3t:(Tryz.prog.globals[3]?).map (·.type)=some 534:=kR
theorem g4n:Tryz.prog.globalNamed "strconv.ErrSyntax" =some 6:=kR
theorem g4t:(Tryz.prog.globals[6]?).map (·.type)=some 330:=kR
theorem g5n:Tryz.prog.globalNamed "strconv.ErrRange" =some 7:=kR
theorem g5t:(Tryz.prog.globals[7]?).map (·.type)=some 330:=kR
theorem c295:Tryz.prog.cellsOf 320=1:=kR
theorem c398:Tryz.prog.cellsOf 534=20:=kR
theorem c434:Tryz.prog.cellsOf 642=1:=kR
theorem c9':Tryz.prog.cellsOf 9=1:=kR
theorem JNx(u:TypeId)(h:Tryz.prog.typeName? 3 u=some "*errors.errorString"):u=640:=
 typeName_ptr_named (nm:= "errors.errorString") kR kR dC u h
theorem YD{n:String}{g:Nat}{vs:List Value}{cs:List Dat}(hn:Tryz.prog.globalNamed n=some g)(h:w.var? Tryz.prog n=some vs.toArray)(hl:cs.length=vs.length)
  (h1:∀v∈vs,v.oneCell'=true)(hv:∀(j:Nat) c v,cs[j]? =some c→vs[j]? =some v→Rep (Av.old w) w c v):JAx (Av.old w) w g cs:=by
 unfold World.var? at h;rw[hn]at h;simp only[Option.bind_some]at h;split at h
 ·rename_i C T fr e;cases h;refine⟨(Array.getElem?_eq_some_iff.1 e).1,_,T,fr,e,by simpa using hl,by simpa using h1,fun j c v hc hv'=>hv j c v hc (by simpa using hv')⟩
 ·cases h
theorem JF0{H:Type}{enc:TypeId×Value→H}{P:Program}{base:Nat}{sp:Nat→Bool}{held:Bool}{fuel:Nat}{t e:TypeId}{n:Nat}{cs:List Value}{ds:List (DataW H)}{p:List MemPlace}
  (ht:P.underlying t=some (.array n e))(h:DataW.trod enc P w base sp held fuel t cs=some (.agg ds,p)):cs.length=P.cellsOf t:=by
 cases fuel with
 |zero=>simp[DataW.trod]at h
 |succ fuel=>
  simp only[DataW.trod,ht]at h;split at h
  ·assumption
  ·cases h
theorem u8x:U8Extra Tryz.prog Tryz.ZH:=⟨kR,kR,kR,kR,kR,kR,kR⟩
theorem JNy:(Lib.firstData:DataW Unit)=Rows.laid_unicode_utf8_first:=kR
theorem JMK:(Lib.acceptData:DataW Unit)=Rows.laid_unicode_utf8_acceptRanges:=kR
theorem JML(c:Nat):Lib.firstT c≤255:=by
 unfold Lib.firstT
 repeat' split
 all_goals decide
theorem JNz(c:Nat):Lib.accLo c≤255:=by
 unfold Lib.accLo
 repeat' split
 all_goals decide
theorem JN0(c:Nat):Lib.accHi c≤255:=by
 unfold Lib.accHi
 repeat' split
 all_goals decide
theorem JN1{A:Nat→Prop}{n:Nat}(h:n≤255):Rep A w (.int .u8 n) (.int .u8 n):=by
 refine .int _ _ ?_;have e1:IntKind.u8.min=0:=dC;have e2:IntKind.u8.max=255:=dC;rw[e1,e2];omega
theorem JS3(i:Nat)(hi:i<16):JGs[2*i]? =some (.int .u8 (Lib.accLo i))∧JGs[2*i+1]? =some (.int .u8 (Lib.accHi i)):=by
 match i,hi with
 |0,_|1,_|2,_|3,_|4,_|5,_|6,_|7,_|8,_|9,_|10,_|11,_|12,_|13,_|14,_|15,_=>exact⟨rfl,rfl⟩
 |n+16,h=>omega
theorem glob01(hL:laidMet Tryz.prog Rows.flowRulesUptoRow.laid w):JAx (Av.old w) w 1 JIC∧JAx (Av.old w) w 2 JGs:=by
 have h3:Lib.VarReads Tryz.prog w "unicode/utf8.first" Lib.firstData:=by
  rw[JNy];exact Lib.laidMet.reads hL (by simp[Rows.flowRulesUptoRow])
 have h4:Lib.VarReads Tryz.prog w "unicode/utf8.acceptRanges" Lib.acceptData:=by
  rw[JMK];exact Lib.laidMet.reads hL (by simp[Rows.flowRulesUptoRow])
 have hu:=utf8Tabs_of_readsT (U8Types.of196 Tryz.JAw) u8x h3 h4;obtain⟨hu0,hu1⟩:=hu;obtain⟨g,t,cs,fuel,p,hg,hty,hvar,hd⟩:=h3;obtain⟨g',t',cs',fuel',p',hg',hty',hvar',hd'⟩:=h4;obtain rfl:=Option.some.inj (u8x.n3.symm.trans hg);obtain rfl:=Option.some.inj (u8x.n4.symm.trans hg');obtain rfl:=Option.some.inj (u8x.y3.symm.trans hty);obtain rfl:=Option.some.inj (u8x.y4.symm.trans hty');have l0:=JF0 (U8Types.of196 Tryz.JAw).t119 hd;have l1:=JF0 (U8Types.of196 Tryz.JAw).t139 hd';rw[u8x.c119]at l0;rw[show Tryz.prog.cellsOf (Tryz.ZH.t 139)=32 from by kernel_rfl]at l1;have a0:∀c,c<256→cs.toList[c]? =some (.int .u8 (Lib.firstT c)):=fun c hc=>by
  have:=hu0 c hc;rw[World.var?_cell hg hvar c]at this;rw[Array.getElem?_toList];exact this
 have a1:∀i,i<16→cs'.toList[2*i]? =some (.int .u8 (Lib.accLo i))∧cs'.toList[2*i+1]? =some (.int .u8 (Lib.accHi i)):=fun i hi=>by
  obtain⟨q1,q2⟩:=hu1 i hi;rw[World.var?_cell hg' hvar' _]at q1 q2;rw[Array.getElem?_toList,Array.getElem?_toList];exact⟨q1,q2⟩
 constructor
 ·refine YD (vs:=cs.toList) hg (sX hvar) (by rw[l0];simp[JIC]) ?_ ?_
  ·intro v hv;obtain⟨j,hj⟩:=List.getElem?_of_mem hv;have hlt:j<256:=by have:=(VB.1 hj).1;omega
   rw[a0 j hlt]at hj;cases hj;rfl
  ·intro j c v hc hv;have hlt:j<256:=by have:=(VB.1 hv).1;omega
   rw[a0 j hlt]at hv;cases hv;have:JIC[j]? =some (.int .u8 (Lib.firstT j)):=by simp[JIC,hlt]
   rw[this]at hc;cases hc;exact JN1 (JML j)
 ·have hcase:∀j,j<32→∃n:Nat,n≤255∧cs'.toList[j]? =some (.int .u8 n)∧JGs[j]? =some (.int .u8 n):=by
   intro j hj;obtain⟨q1,q2⟩:=a1 (j/2) oM;obtain⟨r1,r2⟩:=JS3 (j/2) oM;rcases Nat.mod_two_eq_zero_or_one j with e|e
   ·have ej:2*(j/2)=j:=oM;rw[ej]at q1 r1;exact⟨_,JNz _,q1,r1⟩
   ·have ej:2*(j/2)+1=j:=oM;rw[ej]at q2 r2;exact⟨_,JN0 _,q2,r2⟩
  refine YD (vs:=cs'.toList) hg' (by simpa using hvar') (by rw[l1];rfl) ?_ ?_
  ·intro v hv;obtain⟨j,hj⟩:=List.getElem?_of_mem hv;have hlt:j<32:=by have:=(VB.1 hj).1;omega
   obtain⟨n,_,q,_⟩:=hcase j hlt;rw[q]at hj;cases hj;rfl
  ·intro j c v hc hv;have hlt:j<32:=by have:=(VB.1 hv).1;omega
   obtain⟨n,hn,q,r⟩:=hcase j hlt;rw[q]at hv;rw[r]at hc;cases hv;cases hc;exact JN1 hn
theorem globs(hL:laidMet Tryz.prog Rows.flowRulesUptoRow.laid w):∀g cs,YK g=some cs→JAx (Av.old w) w g cs:=by
 intro g cs h;have hp:Lib.TabIs Tryz.prog w "internal/strconv.uint64pow10" .u64 Lib.pow10Tab:=Lib.tabIs_of_head g3n g3t Tryz.underlying534 Tryz.underlying320 c295 c398 hL.tail.tail;obtain⟨a5,s5,v5,_⟩:=laid_sentinel hL.tail.tail.tail.tail.tail.tail g5n g5t Tryz.underlying330 JNx Tryz.underlying640 Tryz.underlying642 rfl rfl Tryz.underlying9 c434 c9';obtain⟨a4,s4,v4,_⟩:=laid_sentinel hL.tail.tail.tail.tail.tail g4n g4t Tryz.underlying330 JNx Tryz.underlying640 Tryz.underlying642 rfl rfl Tryz.underlying9 c434 c9';obtain⟨g0,g1⟩:=glob01 hL;have hg:(g=3∧cs=JGt)∨(g=6∧cs=[.iface 640 .opq])∨(g=7∧cs=[.iface 640 .opq])∨(g=1∧cs=JIC)∨(g=2∧cs=JGs):=by
  simp only[YK,Glb.l,Av.get]at h;split at h
  ·rename_i e;cases h;exact .inr (.inr (.inr (.inl ⟨e.symm,rfl⟩)))
  ·split at h
   ·rename_i e;cases h;exact .inr (.inr (.inr (.inr ⟨e.symm,rfl⟩)))
   ·split at h
    ·rename_i e;cases h;exact .inr (.inl ⟨e.symm,rfl⟩)
    ·split at h
     ·rename_i e;cases h;exact .inr (.inr (.inl ⟨e.symm,rfl⟩))
     ·split at h
      ·rename_i e;cases h;exact .inl ⟨e.symm,rfl⟩
      ·cases h
 rcases hg with⟨rfl,rfl⟩|⟨rfl,rfl⟩|⟨rfl,rfl⟩|⟨rfl,rfl⟩|⟨rfl,rfl⟩
 rotate_left 3
 ·exact g0
 ·exact g1
 ·refine YD (vs:=Lib.pow10Tab.map fun z=>Value.int .u64 z) g3n hp (by simp[JGt,Lib.pow10Tab]) ?_ ?_
  ·intro v hv;obtain⟨z,_,rfl⟩:=VC.1 hv;rfl
  ·intro j c v hc hv;simp only[JGt,Lib.pow10Tab,List.map_map,Vo]at hc hv;cases e:(List.range 20)[j]? with
   |none=>rw[e]at hc;cases hc
   |some k=>
    rw[e]at hc hv;cases hc;cases hv;refine .int _ _ ?_;obtain⟨hj,rfl⟩:=VB.1 e;simp only[List.length_range]at hj;simp only[List.getElem_range];have e1:IntKind.u64.min=0:=dC;have e2:IntKind.u64.max=18446744073709551615:=dC;rw[e1,e2];have:(10^j:Nat)≤10^19:=Nat.pow_le_pow_right dC oM;have h10:(10^19:Nat)=10000000000000000000:=dC;rw[h10]at this;show(0:Int)≤((10^j:Nat):Int)∧((10^j:Nat):Int)≤18446744073709551615;generalize(10^j:Nat)=x at this⊢;omega
 ·refine YD (vs:=[_]) g4n v4 rfl (by simp;rfl) ?_;intro j c v hc hv
  match j,hc,hv with
  |0,hc,hv=>cases hc;cases hv;exact .iface _ _ _ (.opq _ rfl)
 ·refine YD (vs:=[_]) g5n v5 rfl (by simp;rfl) ?_;intro j c v hc hv
  match j,hc,hv with
  |0,hc,hv=>cases hc;cases hv;exact .iface _ _ _ (.opq _ rfl)
end Go.Proofs.YtjcljkgafcdbgaaGreatDoor
