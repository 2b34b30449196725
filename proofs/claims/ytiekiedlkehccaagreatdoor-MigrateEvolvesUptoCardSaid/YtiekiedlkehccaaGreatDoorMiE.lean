/- Part E of a proof. -/
import Derived.Test.YtiekiedlkehccaaGreatDoorMiD
import Derived.Test.YtiekiedlkehccaaGreatDoorMiA
import Derived.Lib.Bytealg
import Derived.Shelf.SlGeneric
import Derived.Shelf.LaysM
import Derived.Shelf.Strconv.Itoa3
import Derived.Shelf.LaysC
import Derived.Shelf.Strconv.AtoiAll
import Derived.Ground.Names2Prog
import Derived.Ground.SlgnProg
import Derived.Test.YtiekiedlkehccaaGreatDoorProg
import Derived.Below
import Derived.Lib.ItoaLen
import Derived.Sort.Grow
import Derived.Sort.EncStr
import Derived.Lib.SlicesCompact
import Derived.Shelf.Unicode.ValidAny
set_option linter.unusedVariables false
set_option linter.unusedSimpArgs false
set_option linter.unusedSectionVars false
set_option linter.constructorNameAsVariable false
set_option linter.unnecessarySimpa false
set_option maxRecDepth 10000
namespace Go.Proofs
open Go Av
mutual
def okV : Val → Prop
 | .mk _ _ _ _ l f => l.length ≤ 68719476736 ∧ f.length ≤ 68719476736 ∧ okVs l ∧ okFs f
def okVs : List Val → Prop
 | [] => True
 | v :: r => okV v ∧ okVs r
def okF : Fld → Prop
 | .mk _ v => okV v
def okFs : List Fld → Prop
 | [] => True
 | v :: r => okF v ∧ okFs r
end
theorem okVs_mem : ∀ {l : List Val}, okVs l → ∀ x ∈ l, okV x
 | [], _, x, h => by cases h
 | v :: r, ho, x, h => by
  simp only [okVs] at ho;rcases List.mem_cons.1 h with rfl | h
  ·exact ho.1
  ·exact okVs_mem ho.2 x h
theorem okFs_mem : ∀ {l : List Fld}, okFs l → ∀ x ∈ l, okF x
 | [], _, x, h => by cases h
 | v :: r, ho, x, h => by
  simp only [okFs] at ho;rcases List.mem_cons.1 h with rfl | h
  ·exact ho.1
  ·exact okFs_mem ho.2 x h
mutual
def cmpV : Val → Val → Int
 | .mk k i s t l f, b => orI [cmpI k b.kind, cmpI i b.int, cmpI s b.scale, cmpS t b.text, cmpVs l b.list, cmpFs f b.fields]
def cmpVs : List Val → List Val → Int
 | [], [] => 0
 | [], _ :: _ => -1
 | _ :: _, [] => 1
 | x :: xs, y :: ys => if cmpV x y = 0 then cmpVs xs ys else cmpV x y
def cmpF : Fld → Fld → Int
 | .mk n v, g => orI [cmpS n g.name, cmpV v g.value]
def cmpFs : List Fld → List Fld → Int
 | [], [] => 0
 | [], _ :: _ => -1
 | _ :: _, [] => 1
 | x :: xs, y :: ys => if cmpF x y = 0 then cmpFs xs ys else cmpF x y
end
theorem cmpVs_eq : ∀ (xs ys : List Val), cmpVs xs ys = cmpL cmpV xs ys
 | [], [] => by simp [cmpVs, cmpL]
 | [], _ :: _ => by simp [cmpVs, cmpL]
 | _ :: _, [] => by simp [cmpVs, cmpL]
 | x :: xs, y :: ys => by simp [cmpVs, cmpL, cmpVs_eq xs ys]
theorem cmpFs_eq : ∀ (xs ys : List Fld), cmpFs xs ys = cmpL cmpF xs ys
 | [], [] => by simp [cmpFs, cmpL]
 | [], _ :: _ => by simp [cmpFs, cmpL]
 | _ :: _, [] => by simp [cmpFs, cmpL]
 | x :: xs, y :: ys => by simp [cmpFs, cmpL, cmpFs_eq xs ys]
theorem step140 (n n' : Str) (v v' : Val) (h : PT 61 [encV v, encV v'] (.d (.int .i64 (cmpV v v')))) :
  PT 140 [encF (.mk n v), encF (.mk n' v')] (.d (.int .i64 (cmpF (.mk n v) (.mk n' v')))) := by
 refine ok140.pc ?_;rw [encF_eq, encF_eq];have hc := h.call trivial;rw [encV_eq, encV_eq] at hc;simp only [go_sem, ir140, Fld.name, Fld.value, simprocAttr];refine wpsL_call rfl ((walk107 n n').call trivial) trivial ?_;refine zz ?_;refine wpsL_call rfl hc trivial ?_;refine zz ?_;refine ⟨sP, wpsL_call rfl ((walk136 [cmpS n n', cmpV v v'] sP).call trivial) trivial ?_⟩;refine zz ?_;exact ⟨rfl, by simp only [cmpF, Fld.name, Fld.value]⟩
theorem step61 (a b : Val) (ha : a.list.length ≤ 68719476736) (ha2 : a.fields.length ≤ 68719476736) (hb : b.list.length ≤ 68719476736) (hb2 : b.fields.length ≤ 68719476736)
  (h1 : ∀ x ∈ a.list, ∀ y ∈ b.list, CT 61 [.d (encV x), .d (encV y)] [] (.d (.int .i64 (cmpV x y))) [])
  (h2 : ∀ x ∈ a.fields, ∀ y ∈ b.fields, CT 140 [.d (encF x), .d (encF y)] [] (.d (.int .i64 (cmpF x y))) []) :
  PT 61 [encV a, encV b] (.d (.int .i64 (cmpV a b))) := by
 refine ok61.pc ?_;rw [encV_eq, encV_eq];simp only [go_sem, ir61, simprocAttr];refine wpsL_call rfl ((walk137 a.kind b.kind).call trivial) trivial ?_;refine zz ?_;refine wpsL_call rfl ((walk137 a.int b.int).call trivial) trivial ?_;refine zz ?_;refine wpsL_call rfl ((walk137 a.scale b.scale).call trivial) trivial ?_;refine zz ?_;refine wpsL_call rfl ((walk107 a.text b.text).call trivial) trivial ?_;refine zz ?_;refine wpsL_call rfl ((walk138 a.list b.list cmpV 61 ha hb h1).call trivial) trivial ?_;refine zz ?_;refine wpsL_call rfl ((walk139 a.fields b.fields cmpF 140 ha2 hb2 h2).call trivial) trivial ?_;refine zz ?_;refine ⟨sP, wpsL_call rfl ((walk136 [cmpI a.kind b.kind, cmpI a.int b.int, cmpI a.scale b.scale, cmpS a.text b.text, cmpL cmpV a.list b.list, cmpL cmpF a.fields b.fields] sP).call trivial) trivial ?_⟩;refine zz ?_;refine ⟨rfl, ?_⟩;cases a;simp only [cmpV, Val.kind, Val.int, Val.scale, Val.text, Val.list, Val.fields, cmpVs_eq, cmpFs_eq]
mutual
theorem walk61 : ∀ (a : Val), okV a → ∀ b, okV b → PT 61 [encV a, encV b] (.d (.int .i64 (cmpV a b)))
 | .mk k i s t l f, ha, b, hb => by
  simp only [okV] at ha;obtain ⟨a1, a2, a3, a4⟩ := ha;have hb' : b.list.length ≤ 68719476736 ∧ b.fields.length ≤ 68719476736 ∧ okVs b.list ∧ okFs b.fields := by cases b; simpa only [okV, Val.list, Val.fields] using hb
  exact step61 _ b a1 a2 hb'.1 hb'.2.1 (fun x hx y hy => (walkVs l a3 x hx y (okVs_mem hb'.2.2.1 y hy)).call trivial) (fun x hx y hy => (walkFs f a4 x hx y (okFs_mem hb'.2.2.2 y hy)).call trivial)
theorem walkVs : ∀ (l : List Val), okVs l → ∀ x ∈ l, ∀ b, okV b → PT 61 [encV x, encV b] (.d (.int .i64 (cmpV x b)))
 | [], _, x, h, _, _ => by cases h
 | v :: r, ho, x, h, b, hb => by
  simp only [okVs] at ho;by_cases e : x = v
  ·rw [e]; exact walk61 v ho.1 b hb
  ·exact walkVs r ho.2 x ((List.mem_cons.1 h).resolve_left e) b hb
theorem walk140 : ∀ (a : Fld), okF a → ∀ b, okF b → PT 140 [encF a, encF b] (.d (.int .i64 (cmpF a b)))
 | .mk n v, ha, .mk n' v', hb => step140 n n' v v' (walk61 v (by simpa only [okF] using ha) v' (by simpa only [okF] using hb))
theorem walkFs : ∀ (l : List Fld), okFs l → ∀ x ∈ l, ∀ b, okF b → PT 140 [encF x, encF b] (.d (.int .i64 (cmpF x b)))
 | [], _, x, h, _, _ => by cases h
 | v :: r, ho, x, h, b, hb => by
  simp only [okFs] at ho;by_cases e : x = v
  ·rw [e]; exact walk140 v ho.1 b hb
  ·exact walkFs r ho.2 x ((List.mem_cons.1 h).resolve_left e) b hb
end
def eqF {α : Type} (eq : α → α → Bool) (xs ys : List α) : Bool := xs.length == ys.length && (xs.zip ys).all fun p => eq p.1 p.2
theorem eqF_iff {α : Type} {eq : α → α → Bool} {xs ys : List α} (hl : xs.length = ys.length) : eqF eq xs ys = true ↔ ∀ (j : Nat) (h1 : j < xs.length) (h2 : j < ys.length), eq xs[j] ys[j] = true := by
 simp only [eqF, hl, beq_self_eq_true, Bool.true_and, List.all_eq_true];constructor
 ·intro h j h1 h2;have : (xs.zip ys)[j]? = some (xs[j], ys[j]) := by rw [List.getElem?_zip_eq_some]; simp [h1, h2]
  exact h _ (List.mem_of_getElem? this)
 ·intro h p hp;obtain ⟨j, hj⟩ := List.getElem?_of_mem hp;rw [List.getElem?_zip_eq_some] at hj;obtain ⟨h1, e1⟩ := List.getElem?_eq_some_iff.1 hj.1;obtain ⟨h2, e2⟩ := List.getElem?_eq_some_iff.1 hj.2;rw [← e1, ← e2];exact h j oM oM
theorem walk59 (xs ys : List Val) (eq : Val → Val → Bool) (g : Nat) (hl : xs.length ≤ 68719476736)
  (h : ∀ x ∈ xs, ∀ y ∈ ys, CT g [.d (encV x), .d (encV y)] [] (.d (.bool (eq x y))) []) :
  PT 59 [.list 6 (xs.map encV), .list 6 (ys.map encV), .fn (.func g) [] []] (.d (.bool (eqF eq xs ys))) := by
 refine ok59.pc ?_;simp only [go_sem, ir59, simprocAttr];refine ⟨fun hne => ?_, fun heq => ?_⟩
 ·simp only [List.length_map, bne_iff_ne, ne_eq, Int.ofNat_inj] at hne;simp [eqF, hne]
 simp only [List.length_map, bne_eq_false_iff_eq, Int.ofNat_inj] at heq;refine wpc_loop (fun n s => ∃ k : Nat, k ≤ xs.length ∧ n = xs.length - k ∧ (∀ (j : Nat) (h1 : j < xs.length) (h2 : j < ys.length), j < k → eq xs[j] ys[j] = true) ∧
  s = ⟨[(1, .d (.list 6 (ys.map encV))), (2, .d (.fn (.func g) [] [])), (15, .d (.list 6 (xs.map encV))), (16, .d (.int .i64 xs.length)), (17, .d (.int .i64 k))], []⟩) ?_ ?_
 ·refine ⟨_, _, Wk.refl _, 0, Nat.zero_le _, rfl, sP, ?_⟩;simp
 ·rintro n s ⟨k, hk, rfl, hinv, rfl⟩;by_cases hlt : k < xs.length
  ·have hlty : k < ys.length := oM;have hx := nth_encV hlt;have hy := nth_encV hlty;have hd := dT hlt;refine zz23 ?_;have hc := h xs[k] (List.getElem_mem _) ys[k] (List.getElem_mem _);rw [encV_eq, encV_eq] at hc;refine ⟨sO, sO, wn hc ?_⟩;refine zz ?_;refine ⟨fun hne => ?_, fun heq' => ?_⟩
   ·have : eqF eq xs ys = false := by
     cases h0 : eqF eq xs ys with
     | false => rfl
     | true => rw [(eqF_iff heq).1 h0 k hlt oM] at hne; cases hne
    rw [this]
   ·refine zz7 ?_;refine ⟨xs.length - (k + 1), _, oM, Wk.less ?_, k + 1, oM, rfl, ?_, rfl⟩
    ·exact zz trivial
    ·intro j h1 h2 hj;by_cases e : j = k
     ·subst e; simpa using heq'
     ·exact hinv j h1 h2 oM
  ·have hd := dF hlt;refine zz5 ?_;rw [(eqF_iff heq).2 fun j h1 h2 => hinv j h1 h2 oM]
theorem walk17 (a b : Val) (ha : okV a) (hb : okV b) : PT 17 [encV a, encV b] (.d (.bool (cmpV a b == 0))) := by
 refine ok17.pc ?_;have hc := (walk61 a ha b hb).call trivial;rw [encV_eq, encV_eq] at hc;rw [encV_eq, encV_eq];simp only [go_sem, ir17, simprocAttr];refine wc hc trivial
def idxB : List UInt8 → UInt8 → Nat → Int
 | [], _, _ => -1
 | b :: l, c, k => if b == c then (k : Int) else idxB l c (k + 1)
theorem idxB_eq (c : UInt8) : ∀ (l : List UInt8) (k : Nat), idxB l c k = if Lib.indexByte l c = -1 then -1 else Lib.indexByte l c + k
 | [], k => rfl
 | b :: l, k => by
  rw [idxB, Lib.indexByte, idxB_eq c l (k + 1)];have hge := Lib.indexByte_ge l c;by_cases h : (b == c) = true
  ·simp [h]
  ·simp only [h, Bool.false_eq_true, ↓reduceIte, beq_iff_eq];by_cases h2 : Lib.indexByte l c = -1
   ·simp [h2]
   ·simp only [h2, ↓reduceIte];rw [if_neg oM];omega
theorem idxB_le (c : UInt8) : ∀ (l : List UInt8) (k : Nat), -1 ≤ idxB l c k ∧ idxB l c k ≤ (l.length + k : Nat)
 | [], k => by simp only [idxB]; omega
 | b :: l, k => by
  have := idxB_le c l (k + 1);simp only [idxB, List.length_cons];split
  ·omega
  ·omega
theorem ext402 (s : Str) (c : Int) : CT 402 [.d (.str s), .d (.int .u8 c)] [] (.d (.int .i64 (idxB s c.toNat.toUInt8 0))) [] := by
 intro β A w H vs _ hc hvs;obtain ⟨hl, hv⟩ := hvs;have h2 : vs.size = 2 := sX hl.symm;obtain ⟨x, y, rfl⟩ : ∃ x y, vs = #[x, y] := by
  refine ⟨vs[0], vs[1], ?_⟩;apply Array.ext
  ·simp [h2]
  ·intro i h1 h2';have : i = 0 ∨ i = 1 := oM;rcases this with rfl | rfl <;> rfl
 have hx := (hv 0 _ x rfl rfl).of_d;have hy := (hv 1 _ y rfl rfl).of_d;cases hx with
 | str _ hs =>
  cases hy;have hle := idxB_le c.toNat.toUInt8 s 0;refine .inr ⟨.int .i64 (idxB s c.toNat.toUInt8 0), w, ?_, β, A, Stp.refl hc, .d _ _ (.int _ _ ?_)⟩
  ·refine ext_run (e := Extern.BytealgIndexByte.indexByte) Tryz.func402 kR kR kR kR ?_;rw [Lib.run_indexByteString, idxB_eq];congr 2;show Lib.indexByte s _ = _;have hge := Lib.indexByte_ge s c.toNat.toUInt8;by_cases h : Lib.indexByte s c.toNat.toUInt8 = -1
   ·simp [h]
   ·simp [h]
  ·have e1 : IntKind.i64.min = -9223372036854775808 := dC;have e2 : IntKind.i64.max = 9223372036854775807 := dC;rw [e1, e2];omega
def X1 : Ext := fun f ds => match f, ds with
 | 287, [.str a, .str b] => some (.d (.int .i64 (Extern.BytealgCompare.cmp ⟨a.toArray⟩ ⟨b.toArray⟩)))
 | 402, [.str s, .int .u8 c] => some (.d (.int .i64 (idxB s c.toNat.toUInt8 0)))
 | _, _ => none
theorem X1_ok : ExtOK Tryz.prog X1 := by
 intro f ds d h;unfold X1 at h;split at h
 ·cases h; exact ext287 _ _
 ·cases h; exact ext402 _ _
 ·cases h
def K1 (f : Nat) : Bool := f == 55
mutual
def datEq : Dat → Dat → Bool
 | .bool a, .bool b => a == b
 | .int k a, .int l b => decide (k = l) && a == b
 | .str a, .str b => a == b
 | .nil a, .nil b => a == b
 | .list a xs, .list b ys => a == b && datEqs xs ys
 | .agg xs, .agg ys => datEqs xs ys
 | .nilIface, .nilIface => true
 | _, _ => false
def datEqs : List Dat → List Dat → Bool
 | [], [] => true
 | x :: xs, y :: ys => datEq x y && datEqs xs ys
 | _, _ => false
end
mutual
theorem datEq_eq : ∀ (a b : Dat), datEq a b = true → a = b
 | .bool a, .bool b, h => by simp only [datEq, beq_iff_eq] at h; rw [h]
 | .int k a, .int l b, h => by simp only [datEq, Bool.and_eq_true, decide_eq_true_eq, beq_iff_eq] at h; rw [h.1, h.2]
 | .str a, .str b, h => by simp only [datEq, beq_iff_eq] at h; rw [h]
 | .nil a, .nil b, h => by simp only [datEq, beq_iff_eq] at h; rw [h]
 | .list a xs, .list b ys, h => by simp only [datEq, Bool.and_eq_true, beq_iff_eq] at h; rw [h.1, datEqs_eq xs ys h.2]
 | .agg xs, .agg ys, h => by simp only [datEq] at h; rw [datEqs_eq xs ys h]
 | .nilIface, b, h => by cases b <;> first | rfl | (simp [datEq] at h)
 | .fn .., b, h => by cases b <;> simp [datEq] at h
 | .ptr _, b, h => by cases b <;> simp [datEq] at h
 | .map _, b, h => by cases b <;> simp [datEq] at h
 | .nilFn, b, h => by cases b <;> simp [datEq] at h
 | .nilPtr, b, h => by cases b <;> simp [datEq] at h
 | .nilMap, b, h => by cases b <;> simp [datEq] at h
 | .iface _ _, b, h => by cases b <;> simp [datEq] at h
 | .opq, b, h => by cases b <;> simp [datEq] at h
 | .bool _, .int .., h | .bool _, .str _, h | .bool _, .nil _, h | .bool _, .list .., h | .bool _, .agg _, h | .bool _, .fn .., h | .bool _, .ptr _, h | .bool _, .map _, h | .bool _, .nilFn, h | .bool _, .nilPtr, h | .bool _, .nilMap, h | .bool _, .nilIface, h | .bool _, .iface .., h | .bool _, .opq, h => by simp [datEq] at h
 | .int .., .bool _, h | .int .., .str _, h | .int .., .nil _, h | .int .., .list .., h | .int .., .agg _, h | .int .., .fn .., h | .int .., .ptr _, h | .int .., .map _, h | .int .., .nilFn, h | .int .., .nilPtr, h | .int .., .nilMap, h | .int .., .nilIface, h | .int .., .iface .., h | .int .., .opq, h => by simp [datEq] at h
 | .str _, .bool _, h | .str _, .int .., h | .str _, .nil _, h | .str _, .list .., h | .str _, .agg _, h | .str _, .fn .., h | .str _, .ptr _, h | .str _, .map _, h | .str _, .nilFn, h | .str _, .nilPtr, h | .str _, .nilMap, h | .str _, .nilIface, h | .str _, .iface .., h | .str _, .opq, h => by simp [datEq] at h
 | .nil _, .bool _, h | .nil _, .int .., h | .nil _, .str _, h | .nil _, .list .., h | .nil _, .agg _, h | .nil _, .fn .., h | .nil _, .ptr _, h | .nil _, .map _, h | .nil _, .nilFn, h | .nil _, .nilPtr, h | .nil _, .nilMap, h | .nil _, .nilIface, h | .nil _, .iface .., h | .nil _, .opq, h => by simp [datEq] at h
 | .list .., .bool _, h | .list .., .int .., h | .list .., .str _, h | .list .., .nil _, h | .list .., .agg _, h | .list .., .fn .., h | .list .., .ptr _, h | .list .., .map _, h | .list .., .nilFn, h | .list .., .nilPtr, h | .list .., .nilMap, h | .list .., .nilIface, h | .list .., .iface .., h | .list .., .opq, h => by simp [datEq] at h
 | .agg _, .bool _, h | .agg _, .int .., h | .agg _, .str _, h | .agg _, .nil _, h | .agg _, .list .., h | .agg _, .fn .., h | .agg _, .ptr _, h | .agg _, .map _, h | .agg _, .nilFn, h | .agg _, .nilPtr, h | .agg _, .nilMap, h | .agg _, .nilIface, h | .agg _, .iface .., h | .agg _, .opq, h => by simp [datEq] at h
theorem datEqs_eq : ∀ (a b : List Dat), datEqs a b = true → a = b
 | [], [], _ => rfl
 | [], _ :: _, h => by simp [datEqs] at h
 | _ :: _, [], h => by simp [datEqs] at h
 | x :: xs, y :: ys, h => by
  simp only [datEqs, Bool.and_eq_true] at h;rw [datEq_eq x y h.1, datEqs_eq xs ys h.2]
end
def avEqs : List Av → List Av → Bool
 | [], [] => true
 | .d x :: xs, .d y :: ys => datEq x y && avEqs xs ys
 | _, _ => false
theorem avEqs_eq : ∀ (a b : List Av), avEqs a b = true → a = b
 | [], [], _ => rfl
 | [], _ :: _, h => by simp [avEqs] at h
 | x :: xs, [], h => by cases x <;> simp [avEqs] at h
 | x :: xs, y :: ys, h => by
  cases x with
  | d x =>
   cases y with
   | d y =>
    simp only [avEqs, Bool.and_eq_true] at h;rw [datEq_eq x y h.1, avEqs_eq xs ys h.2]
   | _ => simp [avEqs] at h
  | _ => simp [avEqs] at h
def avEq : Av → Av → Bool
 | .d x, .d y => datEq x y
 | .tup xs, .tup ys => avEqs xs ys
 | _, _ => false
theorem avEq_eq {a b : Av} (h : avEq a b = true) : a = b := by
 unfold avEq at h;split at h
 ·rw [datEq_eq _ _ h]
 ·rw [avEqs_eq _ _ h]
 ·cases h
abbrev Tbl := List (Nat × List Dat × Av)
def findT (f : Nat) (ds : List Dat) : Tbl → Option Av
 | [] => none
 | (g, l, v) :: r => match g == f with
  | true => match datEqs ds l with
   | true => some v
   | false => findT f ds r
  | false => findT f ds r
def ext (t : Tbl) (X : Ext) : Ext := fun f ds => match findT f ds t with
 | some v => some v
 | none => X f ds
def tblOK (P : Program) (X : Ext) : Tbl → Bool
 | [] => true
 | (f, l, v) :: r => (match evF P false (callF P X K1 500 40) 500 f (l.map .d) [] with
  | some (u, _) => pureB u && avEq u v
  | none => false) && tblOK P X r
end Go.Proofs
namespace Go.Proofs
open Go Av
open Av.Y
def ir151 : Ic := q (R (ow 2 false<|N) [2])<|q (q (R (om 5 0<|ob 6 .seq (t 5) (.k (.str []))<|om 7 6<|.sc 7 false (om 8 0<|oj 9 8<|oi 10 .gtr 9 32<|N) (t 10) 11 (om 12 11<|.sc 12 false (om 13 0<|oo 14 (.ixs (t 13) (i 0))<|ob 15 .lss (t 14) (.k (.int .u8 97))<|N) (t 15) 16 (om 17 16<|.sc 17 false (om 18 0<|oo 19 (.ixs (t 18) (i 0))<|ob 20 .gtr (t 19) (.k (.int .u8 122))<|N) (t 20) 21 N))) [5,6,7,11,12,16,17])<|D (I 21 (q (R (ow 2 false<|N) [0,21])<|.ret) S) [21])<|q (q (R (om 22 0<|oo 23 (.s2b (t 22))<|oh 24 23<|oz 25 0<|N) [0,22])<|D (.block 0<|.loop (q (.reg (ot 26 .lss 25 24<|N))<|q (D (I 26 S (E 0)) [26])<|q (D (.block 1<|q (R (oa false 27 1 23 25<|ol 28 27<|om 4 28<|N) [27,28])<|q (R (om 29 4<|ob 30 .lss (t 29) (.k (.int .u8 97))<|om 31 30<|.sc 31 false (om 32 4<|ob 33 .gtr (t 32) (.k (.int .u8 122))<|N) (t 33) 34 (om 35 34<|.sc 35 true (om 36 4<|ob 37 .lss (t 36) (.k (.int .u8 48))<|om 38 37<|.sc 38 false (om 39 4<|ob 40 .gtr (t 39) (.k (.int .u8 57))<|N) (t 40) 41 N) (t 41) 42 (om 43 42<|.sc 43 true (om 44 4<|ob 45 .neq (t 44) (.k (.int .u8 95))<|N) (t 45) 46 N))) [4,29,30,31,34,35,42,43])<|D (I 46 (q (R (ow 2 false<|N) [23,24,25,46])<|.ret) S) [46]) [])<|R (oi 47 .add 25 1<|om 25 47<|N) [47])) [23,24,25,26,4])<|q (.reg (ow 2 true<|N))<|.ret
theorem ok151 : FT 151 48 ir151 [.tmp 2] := .o Tryz.func151
end Go.Proofs
namespace Go.Proofs
open Go Av
theorem tbl_one {P : Program} {X : Ext} (hX : ExtOK P X) {f : Nat} {ds : List Dat} {v : Av} (h : tblOK P X [(f, ds, v)] = true) : PCon P f ds v := by
 rw [tblOK, tblOK, Bool.and_true] at h;cases ev : evF P false (callF P X K1 500 40) 500 f (ds.map .d) [] with
 | none => rw [ev] at h; cases h
 | some y =>
  obtain ⟨u, fh⟩ := y;rw [ev] at h;simp only [Bool.and_eq_true] at h;obtain ⟨hp, he⟩ := h;obtain rfl := avEq_eq he;exact ev_pcon (X := X) (K := K1) (L := 500) (n := 40) hX ev hp
theorem idsInL_d {G : Nat → Option Av.Obj} : ∀ cs : List Dat, idsInL G (cs.map .d)
 | [] => trivial
 | _ :: r => ⟨trivial, idsInL_d r⟩
theorem renL_d (ρ : Nat → Nat) : ∀ cs : List Dat, renL ρ (cs.map .d) = cs.map .d
 | [] => rfl
 | _ :: r => by simp only [List.map_cons, renL, Av.ren, renL_d ρ r]
theorem closed_box (i : Nat) (cs : List Dat) : closed (get [(i, .box (cs.map .d))]) := by
 refine closed_of ?_;simp only [closedH, objIn, idsInL_d, and_true]
theorem Con.ro {P : Program} {f : Nat} {ds cs : List Dat} {r : Dat} (h : Con P f (.ref 1000 0 :: ds.map .d) [(1000, .box (cs.map .d))] (.d r) []) (i : Nat) :
  CallOK P f (.ref i 0 :: ds.map .d) [(i, some (.box (cs.map .d)))] (.d r) [] := by
 have h1 : ∀ j, (get [(1000, Obj.box (cs.map .d))] j).isSome = true → j = 1000 := by
  intro j hj;simp only [Av.get] at hj;split at hj
  ·rename_i e; exact e.symm
  ·cases hj
 have := h.call (fun _ => i) (fun j hj => by rw [h1 j hj]; decide) (fun a b ha hb _ => by rw [h1 a ha, h1 b hb]) ?_ (closed_box _ _) [] sP (closed_box _ _) trivial
 ·have e : (ds.map Av.d).map (Av.ren fun _ => i) = ds.map Av.d := by
   rw [List.map_map]; exact List.map_congr_left fun x _ => by simp [Av.ren]
  simpa [Av.ren, Obj.ren, renL_d, e] using this
 ·intro c hc;rcases List.mem_cons.1 hc with rfl | hc
  ·rfl
  ·obtain ⟨x, _, rfl⟩ := List.mem_map.1 hc; trivial
theorem t0' : Int.toNat 0 = 0 := rfl
def nameC (c : UInt8) : Bool := !((decide ((c.toNat : Int) < 97) || decide ((c.toNat : Int) > 122)) && (decide ((c.toNat : Int) < 48) || decide ((c.toNat : Int) > 57)) && ((c.toNat : Int) != 95))
def nameS (s : Str) : Bool := !(s == [] || decide ((s.length : Int) > 32) || decide (((s.getD 0 0).toNat : Int) < 97) || decide (((s.getD 0 0).toNat : Int) > 122)) && s.all nameC
theorem walk151 (s : Str) (hs : s.length ≤ 68719476736) : PT 151 [.str s] (.d (.bool (nameS s))) := by
 refine ok151.pc ?_;cases s with
 | nil =>
  simp only [go_sem, ir151, Nat.reduceAdd, Nat.reduceEqDiff, Nat.reduceBEq, Nat.reduceLeDiff, reduceCtorEq, ↓reduceIte];rfl
 | cons c t =>
  have e0 : ((c :: t : Str) == []) = false := rfl;have e1 : (c :: t).getD 0 0 = c := rfl;simp only [go_sem, ir151, e0, e1, t0', Nat.reduceAdd, Nat.reduceEqDiff, Nat.reduceBEq, Nat.reduceLeDiff, reduceCtorEq, ↓reduceIte];generalize hb : (c :: t : Str) = s at *;have hl : 0 < s.length := by rw [← hb]; simp
  have hlen : (t.length + 1 : Nat) = s.length := by rw [← hb]; simp
  have hc0 : s.getD 0 0 = c := by rw [← hb]; rfl
  have e0' : (s == []) = false := by rw [← hb]; rfl
  rw [hlen];refine sq (decide ((c.toNat : Int) < 97)) ?_ ?_
  ·simp only [go_sem, t0', hc0, Nat.reduceAdd, Nat.reduceEqDiff, Nat.reduceBEq, Nat.reduceLeDiff, reduceCtorEq, ↓reduceIte];omega
  refine zz ?_;refine sq (decide ((c.toNat : Int) > 122)) ?_ ?_
  ·simp only [go_sem, t0', hc0, Nat.reduceAdd, Nat.reduceEqDiff, Nat.reduceBEq, Nat.reduceLeDiff, reduceCtorEq, ↓reduceIte];omega
  refine zz ?_;apply ik <;> intro h
  ·have : nameS s = false := by unfold nameS; rw [e0', hc0, Bool.false_or, h]; rfl
   rw [this]
  have hn : nameS s = s.all nameC := by unfold nameS; rw [e0', hc0, Bool.false_or, h]; rfl
  rw [hn];refine zz4 ?_;refine wpc_loop (fun n st => ∃ k : Nat, k ≤ s.length ∧ n = s.length - k ∧ s.all nameC = (s.drop k).all nameC ∧
   st = ⟨[(23, .d (.list 1 (s.map fun b => .int .u8 b.toNat))), (24, .d (.int .i64 s.length)), (25, .d (.int .i64 k))], []⟩) ?_ ?_
  ·exact ⟨_, _, Wk.refl _, 0, Nat.zero_le _, rfl, rfl, rfl⟩
  ·rintro n st ⟨k, hk, rfl, hinv, rfl⟩;by_cases hlt : k < s.length
   ·have hd := dT hlt;have hg : nth (s.map fun b => Dat.int .u8 b.toNat) k = .int .u8 s[k].toNat := by rw [nth_eq (sX hlt)]; simp
    rw [List.drop_eq_getElem_cons hlt, List.all_cons] at hinv;simp only [go_sem, hd, hg, Int.toNat_natCast, List.length_map, Nat.reduceAdd, Nat.reduceEqDiff, Nat.reduceBEq, Nat.reduceLeDiff, reduceCtorEq, ↓reduceIte];generalize hx : (s[k].toNat : Int) = x at *;refine ⟨oM, oM, ?_⟩;refine sq (decide (x > 122)) ?_ ?_
    ·exact zz trivial
    refine zz ?_;refine sq (decide (x < 48) || decide (x > 57)) ?_ ?_
    ·refine zz ?_;refine sq (decide (x > 57)) ?_ ?_
     ·exact zz trivial
     exact zz trivial
    refine zz ?_;refine sq (x != 95) ?_ ?_
    ·exact zz trivial
    refine zz ?_;have hcx : nameC s[k] = !((decide (x < 97) || decide (x > 122)) && (decide (x < 48) || decide (x > 57)) && (x != 95)) := by rw [← hx]; rfl
    apply ik <;> intro hf
    ·rw [hcx, hf, Bool.not_true, Bool.false_and] at hinv;rw [hinv]
    ·rw [hcx, hf, Bool.not_false, Bool.true_and] at hinv;refine ⟨s.length - (k + 1), _, oM, Wk.less ?_, k + 1, oM, rfl, hinv, rfl⟩;exact zz7 trivial
   ·have hd := dF hlt;obtain rfl : k = s.length := oM;rw [List.drop_length, List.all_nil] at hinv;simp only [go_sem, hd, hinv, Nat.reduceAdd, Nat.reduceEqDiff, Nat.reduceBEq, Nat.reduceLeDiff, reduceCtorEq, ↓reduceIte]
structure Part where
 kind : Int
 index : Int
 name : Str
def encP (p : Part) : Dat := .agg [.int .i64 p.kind, .int .i64 p.index, .str p.name]
end Go.Proofs
namespace Go.Proofs
open Go.Shelf
def Tryz.laysM171_ren : Go.Shelf.Ren := ⟨fun | 171 => 100 | 243 => 200 | 246 => 277 | 283 => 344 | 284 => 345 | 285 => 346 | 286 => 347 | 129 => 256 | 317 => 391 | 318 => 392 | 319 => 393 | 320 => 394 | 337 => 417 | 338 => 418 | n => n, fun | 3 => 3 | 9 => 9 | 2 => 2 | 4 => 4 | 171 => 390 | 0 => 0 | 53 => 320 | 37 => 299 | 5 => 5 | 173 => 392 | 212 => 431 | 51 => 318 | 20 => 20 | 213 => 432 | 46 => 257 | 232 => 459 | 233 => 460 | n => n, fun | 17 => 5 | 18 => 6 | 19 => 7 | n => n⟩
theorem Tryz.laysM171 : Go.Proofs.LaysM.n171 Tryz.prog Tryz.laysM171_ren := {
 mixed := kR
 f129 := Tryz.func256.trans (congrArg some kR)
 f171 := Tryz.func100.trans (congrArg some kR)
 f243 := Tryz.func200.trans (congrArg some kR)
 f246 := Tryz.func277.trans (congrArg some kR)
 f283 := Tryz.func344.trans (congrArg some kR)
 f284 := Tryz.func345.trans (congrArg some kR)
 f285 := Tryz.func346.trans (congrArg some kR)
 f286 := Tryz.func347.trans (congrArg some kR)
 f317 := Tryz.func391.trans (congrArg some kR)
 f318 := Tryz.func392.trans (congrArg some kR)
 f319 := Tryz.func393.trans (congrArg some kR)
 f320 := Tryz.func394.trans (congrArg some kR)
 f337 := Tryz.func417.trans (congrArg some kR)
 f338 := Tryz.func418.trans (congrArg some kR)
 t0 := Tryz.underlying0
 a0 := Tryz.isAgg0
 z0 := Tryz.sizeOf0
 v0 := Tryz.zeroValue0
 t2 := Tryz.underlying2
 a2 := Tryz.isAgg2
 z2 := Tryz.sizeOf2
 v2 := Tryz.zeroValue2
 t3 := Tryz.underlying3
 a3 := Tryz.isAgg3
 z3 := Tryz.sizeOf3
 v3 := Tryz.zeroValue3
 t4 := Tryz.underlying4
 a4 := Tryz.isAgg4
 z4 := Tryz.sizeOf4
 v4 := Tryz.zeroValue4
 t5 := Tryz.underlying5
 a5 := Tryz.isAgg5
 z5 := Tryz.sizeOf5
 v5 := Tryz.zeroValue5
 t9 := Tryz.underlying9
 a9 := Tryz.isAgg9
 z9 := Tryz.sizeOf9
 v9 := Tryz.zeroValue9
 t20 := Tryz.underlying20
 a20 := Tryz.isAgg20
 z20 := Tryz.sizeOf20
 v20 := Tryz.zeroValue20
 t37 := Tryz.underlying299
 a37 := Tryz.isAgg299
 z37 := Tryz.sizeOf299
 v37 := Tryz.zeroValue299
 t46 := Tryz.underlying257
 a46 := Tryz.isAgg257
 z46 := Tryz.sizeOf257
 v46 := Tryz.zeroValue257
 t51 := Tryz.underlying318
 a51 := Tryz.isAgg318
 z51 := Tryz.sizeOf318
 v51 := Tryz.zeroValue318
 t53 := Tryz.underlying320
 a53 := Tryz.isAgg320
 z53 := Tryz.sizeOf320
 v53 := Tryz.zeroValue320
 t171 := Tryz.underlying390
 a171 := Tryz.isAgg390
 z171 := Tryz.sizeOf390
 v171 := Tryz.zeroValue390
 t173 := Tryz.underlying392
 a173 := Tryz.isAgg392
 z173 := Tryz.sizeOf392
 v173 := Tryz.zeroValue392
 t212 := Tryz.underlying431
 a212 := Tryz.isAgg431
 z212 := Tryz.sizeOf431
 v212 := Tryz.zeroValue431
 t213 := Tryz.underlying432
 a213 := Tryz.isAgg432
 z213 := Tryz.sizeOf432
 t232 := Tryz.underlying459
 a232 := Tryz.isAgg459
 z232 := Tryz.sizeOf459
 v232 := Tryz.zeroValue459
 t233 := Tryz.underlying460
 a233 := Tryz.isAgg460
 z233 := Tryz.sizeOf460
 v233 := Tryz.zeroValue460
 g17 := kR
 g18 := kR
 g19 := kR
 i0 := kR
 i2 := kR
 i3 := kR
 i4 := kR
 i5 := kR
 i9 := kR
 i20 := kR
 i37 := kR
 i46 := kR
 i51 := kR
 i53 := kR
 i171 := kR
 i173 := kR
 i212 := kR
 i232 := kR
 i233 := kR
 m17 := kR
 m18 := kR
 m19 := by kernel_rfl }
end Go.Proofs
namespace Av
open Go Go.RowKit
variable [Glb] [Rls]
theorem CallOK.of_callsG {P : Program} {f : Nat} {ds : List Dat} {v : Av} (hh : Has P f)
  (h : ∀ (A : Nat → Prop) (w : World) (vs : Array Value), (∀ g cs, globOf g = some cs → GRep A w g cs) → ds.length = vs.size → (∀ (i : Nat) d u, ds[i]? = some d → vs[i]? = some u → Rep A w d u) →
   Calls P f vs w fun e w' => ∃ u, e = .returned u ∧ Below w.heap.size w w' ∧ ∀ β H, VRep β (fun b => A b) w' H v u) : CallOK P f (ds.map .d) [] v [] := by
 intro β A w H vs _ hc hvs;have hl : ds.length = vs.size := sX hvs.1;refine .inl ⟨hh, (h A w vs hc.glob hl ?_).mono ?_⟩
 ·intro i d u hd hu;have := hvs.2 i (.d d) u (by rw [List.getElem?_map, hd]; rfl) hu;exact this.of_d
 ·rintro e w' ⟨u, rfl, hb, hr⟩;refine ⟨u, rfl, β, A, ?_, hr β _⟩;exact Stp.new hc hb.os hb.tape hb.output hb.size hb.block (fun _ h => h) (fun _ h => .inl h) (fun b hA => Nat.lt_of_lt_of_le (hc.old b hA) hb.size)
end Av
namespace Go.Proofs
open Go Av Go.RowKit
theorem hasT {f : Nat} {fn : Func} (h : Tryz.prog.funcs[f]? = some fn) (h1 : fn.body.isSome = true) (h2 : (fn.name == "runtime.NumGoroutine") = false) : Has Tryz.prog f := ⟨fn, h, h1, h2⟩
theorem one_arg {vs : Array Value} (h : 1 = vs.size) : ∃ x, vs = #[x] := by
 refine ⟨vs[0], ?_⟩;apply Array.ext
 ·simp [← h]
 ·intro i h1 h2;have : i = 0 := oM;subst this; rfl
theorem tabI {A : Nat → Prop} {w : World} (hg : ∀ g cs, globOf g = some cs → GRep A w g cs) : Lib.TabIs Tryz.prog w "internal/strconv.uint64pow10" .u64 Lib.pow10Tab := by
 obtain ⟨h0, C, T, fr, h1, h2, h3, h4⟩ := hg 5 tab3 rfl;have hn : Tryz.prog.globalNamed "internal/strconv.uint64pow10" = some 5 := kR;unfold Lib.TabIs World.var?;rw [hn];simp only [Option.bind_some, h1, Option.some.injEq];have hlen : tab3.length = 20 := by simp [tab3]
 apply Array.ext
 ·rw [← h2, hlen]; simp [Lib.pow10Tab]
 ·intro i hi hi';have hi20 : i < 20 := by rw [← h2, hlen] at hi; exact hi
  have e1 : tab3[i]? = some (.int .u64 ((10 ^ i : Nat) : Int)) := by simp [tab3, hi20]
  have := h4 i _ C[i] e1 sP;generalize C[i] = v at this;cases this;simp [Lib.pow10Tab]
theorem call100 (n : Int) (h0 : -9223372036854775808 ≤ n) (h1 : n ≤ 9223372036854775807) : CT 100 [.d (.int .i64 n)] [] (.d (.str (Lib.itoa n))) [] := by
 refine CallOK.of_callsG (ds := [.int .i64 n]) (hasT Tryz.func100 kR kR) ?_;intro A w vs hg hl hv;obtain ⟨x, rfl⟩ := one_arg hl;have hx := hv 0 _ x rfl rfl;cases hx with
 | int =>
  refine (Any.strconv_Itoa Tryz.laysM171 n h0 h1 w (tabI hg)).mono ?_;rintro e w' ⟨rfl, k, os, rfl⟩;refine ⟨_, rfl, ?_, fun β H => .d _ _ (.str _ ?_)⟩
  ·refine ⟨rfl, rfl, rfl, by simp [Sort.grow], fun i hi => ?_⟩;show ((w.drewN k).heap ++ os)[i]? = _;rw [Array.getElem?_append_left (by show i < w.heap.size; omega)];rfl
  ·have := Lib.itoa_length_le n h0 h1;omega
end Go.Proofs
namespace Go.Proofs
open Go Av
theorem Con.rl {P : Program} {f : Nat} {ds cs : List Dat} {r : Dat} (h : Con P f (ds.map .d ++ [.ref 1000 0]) [(1000, .box (cs.map .d))] (.d r) []) (i : Nat) :
  CallOK P f (ds.map .d ++ [.ref i 0]) [(i, some (.box (cs.map .d)))] (.d r) [] := by
 have h1 : ∀ j, (get [(1000, Obj.box (cs.map .d))] j).isSome = true → j = 1000 := by
  intro j hj;simp only [Av.get] at hj;split at hj
  ·rename_i e; exact e.symm
  ·cases hj
 have := h.call (fun _ => i) (fun j hj => by rw [h1 j hj]; decide) (fun a b ha hb _ => by rw [h1 a ha, h1 b hb]) ?_ (closed_box _ _) [] sP (closed_box _ _) trivial
 ·have e : (ds.map Av.d).map (Av.ren fun _ => i) = ds.map Av.d := by
   rw [List.map_map]; exact List.map_congr_left fun x _ => by simp [Av.ren]
  simpa [Av.ren, Obj.ren, renL_d, e] using this
 ·intro c hc;rcases List.mem_append.1 hc with hc | hc
  ·obtain ⟨x, _, rfl⟩ := List.mem_map.1 hc; trivial
  ·rw [List.mem_singleton.1 hc]; rfl
theorem canonL_parts (l : List Part) : canonL (l.map encP) = l.map encP := by
 rw [canonL_map, List.map_map];exact List.map_congr_left fun p _ => by simp [encP, Dat.canon, canonL]
attribute [go_sem] canonL_parts
theorem step54 (a : Val) (ha : a.list.length ≤ 68719476736) (ha2 : a.fields.length ≤ 68719476736) (h1 : ∀ x ∈ a.list, CT 54 [.d (encV x)] [] (.d (encV x)) []) (h2 : ∀ x ∈ a.fields, CT 54 [.d (encV x.value)] [] (.d (encV x.value)) []) :
  PT 54 [encV a] (.d (encV a)) := by
 refine ok54.pc ?_;rw [encV_eq];simp only [go_sem, ir54, simprocAttr];refine wpc_loop (fun n s => ∃ k : Nat, k ≤ a.list.length ∧ n = a.list.length - k ∧
  s = ⟨[(1, .ref 1 0), (2, .ref 2 0), (3, .ref 3 0), (12, .d (.list 6 (a.list.map encV))), (13, .d (.int .i64 a.list.length)), (14, .d (.int .i64 k))],
   [(1, .box [.d (.int .i64 a.kind), .d (.int .i64 a.int), .d (.int .i64 a.scale), .d (.str a.text), .d (.list 6 (a.list.map encV)), .d (.list 7 (a.fields.map encF))]),
    (2, .box [.d (.int .i64 0), .d (.int .i64 0), .d (.int .i64 0), .d (.str []), .d (.nil 6), .d (.nil 7)]),
    (3, .box [.d (.int .i64 a.kind), .d (.int .i64 a.int), .d (.int .i64 a.scale), .d (.str a.text), .ms 23 k, .d (.nil 7)]),
    (23, .row k 6 ((a.list.take k).map encV))]⟩) ?_ ?_
 ·refine ⟨_, _, Wk.nilB 3 4 23 6 _ rfl rfl rfl dC, 0, Nat.zero_le _, rfl, ?_⟩;simp [put]
 ·rintro n s ⟨k, hk, rfl, rfl⟩;by_cases hlt : k < a.list.length
  ·have hx := nth_encV hlt;have hd := dT hlt;refine zz20 ?_;have hc := h1 a.list[k] (List.getElem_mem _);rw [encV_eq] at hc;refine ⟨sO, wpsL_call rfl hc trivial ?_⟩;refine zz ?_;refine ⟨sP, sO, rfl, a.list.length - (k + 1), _, oM, Wk.less ?_, k + 1, oM, rfl, rfl⟩;rw [List.take_succ_eq_append_getElem hlt, List.map_append];simp only [go_sem, wrap64s k oM, List.map_cons, List.map_nil, encV_eq a.list[k], Nat.reduceAdd, Nat.reduceEqDiff, Nat.reduceBEq, Nat.reduceLeDiff, reduceCtorEq, ↓reduceIte]
  ·have hd := dF hlt;obtain rfl : k = a.list.length := oM;refine zz21 ?_;refine wpc_loop (fun n s => ∃ k : Nat, k ≤ a.fields.length ∧ n = a.fields.length - k ∧
    s = ⟨[(2, .ref 2 0), (3, .ref 3 0), (27, .d (.list 7 (a.fields.map encF))), (28, .d (.int .i64 a.fields.length)), (29, .d (.int .i64 k))],
     [(2, .box [.d (.int .i64 0), .d (.int .i64 0), .d (.int .i64 0), .d (.str []), .d (.nil 6), .d (.nil 7)]),
      (3, .box [.d (.int .i64 a.kind), .d (.int .i64 a.int), .d (.int .i64 a.scale), .d (.str a.text), .ms 23 a.list.length, .ms 42 k]),
      (23, .row a.list.length 6 (a.list.map encV)),
      (42, .row k 7 ((a.fields.take k).map encF))]⟩) ?_ ?_
   ·refine ⟨_, _, (Wk.nilB 3 5 42 7 _ rfl rfl rfl dC).trans (Wk.less ?_), 0, Nat.zero_le _, rfl, rfl⟩;simp [put, go_sem]
   ·rintro n s ⟨k, hk, rfl, rfl⟩;by_cases hlt : k < a.fields.length
    ·have hx := nth_encF hlt;have hd := dT hlt;have hc := h2 a.fields[k] (List.getElem_mem _);rw [encV_eq] at hc;refine zz20 ?_;refine ⟨sO, wpsL_call rfl hc trivial ?_⟩;refine zz ?_;refine ⟨sP, sO, rfl, a.fields.length - (k + 1), _, oM, Wk.less ?_, k + 1, oM, rfl, rfl⟩;rw [List.take_succ_eq_append_getElem hlt, List.map_append];simp only [go_sem, wrap64s k oM, List.map_cons, List.map_nil, encF_eq a.fields[k], Nat.reduceAdd, Nat.reduceEqDiff, Nat.reduceBEq, Nat.reduceLeDiff, reduceCtorEq, ↓reduceIte]
    ·have hd := dF hlt;obtain rfl : k = a.fields.length := oM;exact zz21 trivial
mutual
theorem walk54 : ∀ (a : Val), okV a → PT 54 [encV a] (.d (encV a))
 | .mk k i s t l f, ha => by
  simp only [okV] at ha;obtain ⟨a1, a2, a3, a4⟩ := ha;exact step54 _ a1 a2 (fun x hx => (walk54s l a3 x hx).call trivial) (fun x hx => (walk54f f a4 x hx).call trivial)
theorem walk54s : ∀ (l : List Val), okVs l → ∀ x ∈ l, PT 54 [encV x] (.d (encV x))
 | [], _, x, h => by cases h
 | v :: r, ho, x, h => by
  simp only [okVs] at ho;by_cases e : x = v
  ·rw [e]; exact walk54 v ho.1
  ·exact walk54s r ho.2 x ((List.mem_cons.1 h).resolve_left e)
theorem walk54f : ∀ (l : List Fld), okFs l → ∀ x ∈ l, PT 54 [encV x.value] (.d (encV x.value))
 | [], _, x, h => by cases h
 | .mk n v :: r, ho, x, h => by
  simp only [okFs, okF] at ho;by_cases e : x = .mk n v
  ·rw [e]; exact walk54 v ho.1
  ·exact walk54f r ho.2 x ((List.mem_cons.1 h).resolve_left e)
end
end Go.Proofs
namespace Go.Proofs
open Go Av
open Av.Y
def ir278 : Ic := q (R (ox 2 0<|ox 3 1<|oz 4 0<|N) [0,1,4])<|q (R (of 5 2 5<|ol 6 5<|oo 7 (.fnv (.func 348) [] [t 3])<|cl 8 160 [t 6,t 7]<|om 4 8<|N) [2,3,5,6,7,8])<|.ret
theorem ok278 : FT 278 9 ir278 [.tmp 4] := .o Tryz.func278
def ir348 : Ic := q (R (ox 2 0<|ow 3 false<|N) [0,3])<|q (R (of 4 2 0<|ol 5 4<|ol 6 1<|ot 7 .seq 5 6<|om 3 7<|N) [2,4,5,6,7])<|.ret
theorem ok348 : FT 348 8 ir348 [.tmp 3] := .o Tryz.func348
def ir160 : Ic := q (R (oz 4 0<|N) [4])<|q (q (R (om 6 0<|oh 7 6<|oz 8 0<|N) [6])<|D (.block 0<|.loop (q (.reg (ot 9 .lss 8 7<|N))<|q (D (I 9 S (E 0)) [9])<|q (D (.block 1<|q (R (om 10 8<|om 5 10<|N) [10])<|q (R (om 11 1<|om 12 0<|om 13 5<|oa true 14 7 12 13<|oL 15 7 14<|.call (some 16) (.dyn (t 11)) [t 15] N) [11,12,13,14,15])<|D (I 16 (q (R (om 17 5<|om 4 17<|N) [0,1,7,8,5,16,17])<|.ret) S) [5,16]) [])<|R (oi 18 .add 8 1<|om 8 18<|N) [18])) [0,1,7,8,9,10,5,11])<|q (.reg (oz 4 (-1)<|N))<|.ret
theorem ok160 : FT 160 19 ir160 [.tmp 4] := .o Tryz.func160
def ir201 : Ic := q (R (ox 2 0<|oN 4 v6<|ow 5 false<|N) [0,5])<|q (R (oL 7 6 2<|om 8 1<|cl 9 278 [t 7,t 8]<|om 6 9<|N) [1,7,8,9])<|q (q (R (of 10 2 0<|ol 11 10<|oi 12 .neq 11 9<|om 13 12<|.sc 13 false (om 14 6<|oi 15 .lss 14 0<|N) (t 15) 16 N) [10,11,12,13])<|D (I 16 (q (R (oo 17 (.bld v6 [])<|oS 6 4 17<|ow 5 false<|N) [2,6,16,17])<|.ret) S) [16])<|q (R (of 18 2 5<|ol 19 18<|om 20 6<|oa true 21 7 19 20<|of 22 21 1<|oL 23 6 22<|cl 24 54 [t 23]<|oS 6 4 24<|ow 5 true<|N) [2,6,18,19,20,21,22,23,24])<|.ret
theorem ok201 : FT 201 25 ir201 [.cell 4 (some 6), .tmp 5] := .o Tryz.func201
def ir131 : Ic := q (R (ox 2 0<|ox 3 1<|oN 4 vG<|ow 5 false<|N) [0,1,5])<|q (R (oL 6 7 2<|oo 7 (.fnv (.func 221) [] [t 3])<|cl 8 220 [t 6,t 7]<|oe 9 8 0<|oe 10 8 1<|oS 11 4 9<|om 5 10<|N) [2,3,6,7,8,9,10])<|.ret
theorem ok131 : FT 131 11 ir131 [.cell 4 (some 11), .tmp 5] := .o Tryz.func131
def ir220 : Ic := q (R (ox 2 0<|oN 4 vG<|ow 5 false<|N) [0,5])<|q (q (R (of 7 2 0<|ol 8 7<|oi 9 .neq 8 9<|om 10 9<|.sc 10 true (of 11 2 0<|ol 12 11<|oi 13 .neq 12 10<|N) (t 13) 14 N) [7,8,9,10])<|D (I 14 (q (R (oo 15 (.bld vG [])<|oS 11 4 15<|ow 5 false<|N) [1,2,14,15])<|.ret) S) [14])<|q (R (of 16 2 6<|ol 17 16<|om 18 1<|cl 19 203 [t 17,t 18]<|om 6 19<|N) [1,16,17,18,19])<|q (q (R (om 20 6<|oi 21 .lss 20 0<|N) [20])<|D (I 21 (q (R (oo 22 (.bld vG [])<|oS 11 4 22<|ow 5 false<|N) [2,6,21,22])<|.ret) S) [21])<|q (R (of 23 2 6<|ol 24 23<|om 25 6<|oa true 26 11 24 25<|oL 27 11 26<|cl 28 226 [t 27]<|oS 11 4 28<|ow 5 true<|N) [2,6,23,24,25,26,27,28])<|.ret
theorem ok220 : FT 220 29 ir220 [.cell 4 (some 11), .tmp 5] := .o Tryz.func220
def ir221 : Ic := q (R (ox 2 0<|ow 3 false<|N) [0,3])<|q (R (of 4 2 1<|ol 5 4<|ol 6 1<|ot 7 .seq 5 6<|om 3 7<|N) [2,4,5,6,7])<|.ret
theorem ok221 : FT 221 8 ir221 [.tmp 3] := .o Tryz.func221
end Go.Proofs
namespace Av
open Go
variable {P : Program} {f : Nat}
mutual
def fits : Dat → Prop
 | .str s => s.length ≤ 68719476736
 | .int k n => k.min ≤ n ∧ n ≤ k.max
 | .list _ xs => xs.length ≤ 68719476736 ∧ fitsL xs
 | .agg cs => fitsL cs
 | .ptr cs => fitsL cs
 | .iface _ d => fits d
 | _ => True
def fitsL : List Dat → Prop
 | [] => True
 | x :: r => fits x ∧ fitsL r
end
theorem fitsL_iff : ∀ {l : List Dat}, fitsL l ↔ ∀ x ∈ l, fits x
 | [] => by simp [fitsL]
 | x :: r => by simp [fitsL, fitsL_iff (l := r)]
theorem fits_cells {x : Dat} (h : ∀ c ∈ x.cells, fits c) : fits x := by
 cases x with
 | agg cs => simp only [fits]; exact fitsL_iff.2 h
 | _ => exact h _ (by simp [Dat.cells])
theorem Rep.fits {A : Nat → Prop} {w : World} {x : Dat} {v : Value} (h : Rep A w x v) : Av.fits x := by
 induction h with
 | str s h => exact h
 | int k n h => exact h
 | emp sz a cap => simp [Av.fits, fitsL]
 | list sz xs b o n cap vs hn hAb hl hc h1 hsz hh hvl hv ih =>
  refine ⟨hc, fitsL_iff.2 fun x hx => fits_cells fun c hc' => ?_⟩;have hm : c ∈ flat xs := List.mem_flatMap.2 ⟨x, hx, hc'⟩;obtain ⟨i, hi, rfl⟩ := List.getElem_of_mem hm;exact ih i _ _ (List.getElem?_eq_getElem hi) (List.getElem?_eq_getElem oM)
 | agg cs arr hl h1 hv ih =>
  simp only [Av.fits];refine fitsL_iff.2 fun c hc => ?_
  obtain ⟨i, hi, rfl⟩ := List.getElem_of_mem hc;exact ih i _ _ (List.getElem?_eq_getElem hi) (Array.getElem?_eq_getElem oM)
 | ptr cs b o vs hAb h1 hh hvl hv ih =>
  simp only [Av.fits];refine fitsL_iff.2 fun c hc => ?_
  obtain ⟨i, hi, rfl⟩ := List.getElem_of_mem hc;exact ih i _ _ (List.getElem?_eq_getElem hi) (List.getElem?_eq_getElem oM)
 | iface t x v h ih => exact ih
 | _ => trivial
variable [Glb] [Rls]
theorem PCon.of_fits {ds : List Dat} {v : Av} (hh : Has P f) (h : (∀ d ∈ ds, fits d) → PCon P f ds v) : PCon P f ds v := by
 refine ⟨hh, fun β A w vs hc hvs => (h fun d hd => ?_).2 β A w vs hc hvs⟩;obtain ⟨i, hi, rfl⟩ := List.getElem_of_mem hd;have hl : ds.length = vs.size := sX hvs.1;have := hvs.2 i (.d ds[i]) vs[i] (by simp [hi]) sP;exact this.of_d.fits
theorem Con.of_fits {args : List Av} {T : List (Nat × Obj)} {v : Av} {ups : List (Nat × Obj)} (hh : Has P f) (h : (∀ d, .d d ∈ args → fits d) → Con P f args T v ups) : Con P f args T v ups := by
 refine ⟨hh, fun β A w vs hc hvs => (h fun d hd => ?_).2 β A w vs hc hvs⟩;obtain ⟨i, hi, e⟩ := List.getElem_of_mem hd;have := hvs.2 i (.d d) (vs[i]'(by have := hvs.1; omega)) (by rw [← e]; simp) sP;exact this.of_d.fits
theorem FnOk.has {N : Nat} {ic : Ic} {ris : List RI} (h : FnOk P f N ic ris) : Has P f := by
 obtain ⟨fn, code, h1, h2, h3, _⟩ := h.ex;exact ⟨fn, h1, by rw [h2]; rfl, h3⟩
end Av
namespace Av
open Go Go.Sort Go.Proofs
variable [Glb] [Rls]
theorem flat_str (l : List (List UInt8)) : flat (l.map .str) = l.map .str := by
 induction l with
 | nil => rfl
 | cons x r ih => simp only [flat, List.map_cons, List.flatMap_cons, Dat.cells, List.singleton_append, List.cons.injEq, true_and]; exact ih
section
variable {β : Blocks} {A : Nat → Prop} {w : World} {H : Heap}
theorem size_one {vs : Array Value} (h : 1 = vs.size) : ∃ x, vs = #[x] := by
 refine ⟨vs[0], ?_⟩;apply Array.ext
 ·simp [← h]
 ·intro i h1 h2;have : i = 0 := oM;subst this;rfl
end
theorem Stp.nilB {β : Blocks} {A : Nat → Prop} {w : World} {H : Heap} (hc : Core β A w H) {b j k sz : Nat} {cs : List Av} (hb : H b = some (.box cs)) (hj : cs[j]? = some (.d (.nil sz))) (hk : H k = none) (hsz : 0 < sz) :
  ∃ β', Stp β A w H β' A w (upd (upd H k (some (.row 0 sz []))) b (some (.box (cs.set j (.ms k 0))))) := by
 have hne : b ≠ k := fun e => by subst e; rw [hk] at hb; cases hb
 have hst := Stp.rowNil (β := β) hc hk hsz;have hb1 : upd H k (some (.row 0 sz [])) b = some (.box cs) := by rw [upd_ne _ _ hne]; exact hb
 obtain ⟨bb, C, T, e1, e2, e3, e4, e5⟩ := hst.core.objs b _ hb1;have hset : w.setRow bb C = w := setRow_same e2;have hst2 := Stp.boxSet (cs' := cs.set j (.ms k 0)) (C' := C) hst.core hb1 e1 e2 (sX e3) e4 (fun hall i c v hc' hv' => by
  rw [List.getElem?_set] at hc';split at hc'
  ·rename_i e;subst e;split at hc'
   ·cases hc';obtain ⟨bb0, C0, T0, q1, q2, q3, q4, q5⟩ := hc.objs b _ hb;have hbb : bb0 = bb := by
     rw [upd_ne _ _ hne] at e1;rw [q1] at e1;exact Option.some.inj (BK.mk.inj e1).1
    subst hbb;rw [e2] at q2;cases q2;have hr := (q5 j _ v hj hv').of_d;exact hall _ _ (VRep.rowNil hr)
   ·cases hc'
  ·exact hall _ _ (e5 i c v hc' hv'))
 rw [hset] at hst2;exact ⟨_, hst.trans hst2⟩
end Av
namespace Av
open Go
variable [Glb] [Rls]
section
variable {β : Blocks} {A : Nat → Prop} {w : World} {H : Heap} {D : Nat → Prop}
end
end Av
namespace Av
open Go
variable [Glb] [Rls]
theorem ren_dats (ρ : Nat → Nat) (ds : List Dat) : renL ρ (ds.map .d) = ds.map .d := by
 induction ds with
 | nil => rfl
 | cons x r ih => simp [renL, Av.ren, ih]
theorem ren_pure {v : Av} (h : pureR v) (ρ : Nat → Nat) : v.ren ρ = v := by
 cases v with
 | d x => rfl
 | tup cs =>
  have h' : ∀ c ∈ cs, ∃ x, c = .d x := h;have e : ∃ ds : List Dat, cs = ds.map .d := by
   clear h
   induction cs with
   | nil => exact ⟨[], rfl⟩
   | cons c r ih =>
    obtain ⟨x, rfl⟩ := h' c List.mem_cons_self;obtain ⟨ds, rfl⟩ := ih fun c hc => h' c (List.mem_cons_of_mem _ hc)
    exact ⟨x :: ds, rfl⟩
  obtain ⟨ds, rfl⟩ := e;simp only [Av.ren, ren_dats]
 | _ => exact h.elim
theorem idsInL_dats (G : Nat → Option Obj) (ds : List Dat) : idsInL G (ds.map .d) := by
 induction ds with
 | nil => trivial
 | cons x r ih => exact ⟨trivial, ih⟩
theorem inT_pure {v : Av} (h : pureR v) (G : Heap) : inT G v := by
 cases v with
 | d x => trivial
 | tup cs =>
  have h' : ∀ c ∈ cs, ∃ x, c = .d x := h;show idsInL _ cs;clear h
  induction cs with
  | nil => trivial
  | cons c r ih =>
   obtain ⟨x, rfl⟩ := h' c List.mem_cons_self;exact ⟨trivial, ih fun c hc => h' c (List.mem_cons_of_mem _ hc)⟩
 | _ => exact h.elim
theorem Con.rw1 {P : Program} {f : Nat} {az cs cs' : List Dat} {v : Av} (h : Con P f (.ref 1000 0 :: az.map .d) [(1000, .box (cs.map .d))] v [(1000, .box (cs'.map .d))]) (hv : pureR v) (i : Nat) :
  CallOK P f (.ref i 0 :: az.map .d) [(i, some (.box (cs.map .d)))] v [(i, .box (cs'.map .d))] := by
 have hcl : ∀ a : List Dat, closed (get [(1000, .box (a.map .d))]) := fun a => closed_of ⟨idsInL_dats _ a, trivial⟩
 have hu : hputs (get [(1000, .box (cs.map .d))]) [(1000, .box (cs'.map .d))] = get [(1000, .box (cs'.map .d))] := by
  rw [← get_puts]; rfl
 have hdom : ∀ (a : List Dat) j, (get [(1000, Obj.box (a.map .d))] j).isSome = true → j = 1000 := by
  intro a j hj;simp only [get] at hj;split at hj
  ·rename_i e; exact e.symm
  ·cases hj
 have := h.call (fun _ => i) ?_ ?_ ?_ (hcl cs) [] ?_ ?_ ?_
 ·have e : (az.map Av.d).map (Av.ren fun _ => i) = az.map Av.d := by
   rw [List.map_map]; exact List.map_congr_left fun x _ => by simp [Av.ren]
  simpa [Av.ren, Obj.ren, ren_dats, e, ren_pure hv] using this
 ·intro j hj;rw [hdom _ j hj];decide
 ·intro a b ha hb _;rw [hu] at ha hb;rw [hdom _ a ha, hdom _ b hb]
 ·intro c hc;rcases List.mem_cons.1 hc with rfl | hc
  ·rfl
  ·obtain ⟨x, _, rfl⟩ := List.mem_map.1 hc; trivial
 ·intro e he;simp only [List.mem_singleton] at he;subst he;exact .inl rfl
 ·rw [hu]; exact hcl cs'
 ·exact inT_pure hv _
end Av
namespace Av
open Go
variable [Glb] [Rls]
theorem Wk.frzT {D : Nat → Prop} {st : St} (t i v sz : Nat) (xs : List Dat) (ht : get st.tm t = some (.ms i v)) (hi : get st.hp i = some (.row v sz xs)) : Wk D st ⟨put st.tm t (.d (.list sz xs)), put st.hp i (.frz v sz xs)⟩ := by
 refine Wk.of_stp ?_;intro β A w a hc htr;obtain ⟨u, q1, q2⟩ := htr t _ ht;have hd : datumAll (get st.hp) [.ms i v] = some (v = v ∧ True, [.list sz xs], [(i, .frz v sz xs)]) := by simp [datumAll, datum, datum1, hi]
 obtain ⟨A1, s1, l1, r1, m1⟩ := datumAll_ok hc hd ⟨rfl, trivial⟩ (us := [u]) rfl (fun k c u' h1 h2 => by
  cases k with
  | zero => simp at h1 h2; subst h1; subst h2; exact q2
  | succ k => simp at h1)
 have hh : get (put st.hp i (.frz v sz xs)) = hputs (get st.hp) [(i, .frz v sz xs)] := funext fun j => by rw [get_put]; rfl
 rw [hh];refine ⟨β, A1, s1, ?_⟩;intro t' v' hv;rw [get_put] at hv;split at hv
 ·rename_i e;subst e;cases hv;exact ⟨u, q1, .d _ _ (r1 0 _ u rfl rfl)⟩
 ·obtain ⟨u', g1, g2⟩ := htr t' v' hv;exact ⟨u', g1, s1.vals _ _ g2⟩
end Av
namespace Av
open Go
variable [Glb] [Rls]
abbrev cloD (g : Nat) (cs : List Dat) : Dat := .fn (.func g) [] [.ptr cs]
theorem allD_map (cs : List Dat) : allD (cs.map .d) = some cs := by
 induction cs with
 | nil => rfl
 | cons x r ih => simp only [List.map_cons, allD, ih]
theorem CallOK.clo {P : Program} {f g : Nat} {ds cs : List Dat} {r : Dat} (h : PCon P f (ds ++ [cloD g cs]) (.d r)) (hr : scalar r = true) (i : Nat) :
  CallOK P f (ds.map .d ++ [.clo (.func g) [] [.ref i 0]]) [(i, some (.box (cs.map .d)))] (.d r) [] := by
 intro β A w H vs hT hc hvs;have hi : H i = some (.box (cs.map .d)) := hT _ (List.mem_singleton.2 rfl);have st := Stp.freezeBox hc hi (allD_map cs);have hc0 : Core β (fun k => A k ∨ β i = some k) w (get []) := ⟨(by intro i o hi; cases hi), (by intro i j o o' b hi; cases hi), (by intro i o b hi; cases hi), st.core.old, st.core.glob⟩;refine .inl ⟨h.1, (h.2 β (fun k => A k ∨ β i = some k) w vs hc0 ⟨by have := hvs.1; simp at this ⊢; omega, ?_⟩).mono ?_⟩
 ·intro k c v h1 h2;rw [List.getElem?_map] at h1;cases e : (ds ++ [cloD g cs])[k]? with
  | none => simp [e] at h1
  | some x =>
   simp only [e, Option.map_some, Option.some.injEq] at h1;subst h1;refine .d _ _ ?_;by_cases hk : k < ds.length
   ·rw [List.getElem?_append_left hk] at e;have := hvs.2 k (.d x) v (by rw [List.getElem?_append_left (sX hk), List.getElem?_map, e]; rfl) h2;exact (st.vals _ _ this).of_d
   ·rw [List.getElem?_append_right oM] at e;have hk0 : k - ds.length = 0 := by
     rcases Nat.eq_zero_or_pos (k - ds.length) with h | h
     ·exact h
     ·rw [List.getElem?_eq_none sO] at e; cases e
    rw [hk0] at e;cases e;have hlen : (ds.map Av.d).length = ds.length := sP;have := hvs.2 k (.clo (.func g) [] [.ref i 0]) v (by rw [List.getElem?_append_right sO, hlen, hk0]; rfl) h2;have h3 := st.vals _ _ this;cases h3 with
    | clo _ _ _ a1 a2 l1 l2 hf hvv =>
     refine .fn _ _ _ a1 a2 l1 (sX l2) (by intro j c v hj; cases hj) ?_;intro j c v hj hjv
     match j, hj with
     | 0, hj =>
      cases hj;have hrf := hvv 0 _ v rfl hjv;cases hrf with
      | ref _ _ _ _ _ hu g0 g1 g2 =>
       have := g2 cs sU;simpa using this
     | j + 1, hj => cases hj
 ·rintro e w' ⟨v, β1, A1, rfl, hsince, hc1, hv⟩;obtain ⟨s1, s2, s3, s4, s5, sl, s6, s7, s8⟩ := hsince;dsimp only at s1 s2 s3 s4 s5 sl;have hsame : ∀ b, b < w.heap.size → w'.heap[b]? = w.heap[b]? := fun b hb => s5 b hb (by intro i o hi; cases hi)
  have hst : Stp β A w H β A w' H := Stp.new hc s1 s2 s3 s4 hsame (fun _ h => h) (fun _ h => .inl h) (fun b hb => by have := hc.old b hb; omega);exact ⟨v, rfl, β, A, hst, .d _ _ (hv.of_d.scalar hr)⟩
theorem PCon.callFr {P : Program} {f i v sz : Nat} {xs : List Dat} {r : Av} (h : PCon P f [.list sz xs] r) (hr : pureR r) : CallOK P f [.ms i v] [(i, some (.row v sz xs))] r [(i, .frz v sz xs)] := by
 intro β A w H vs hT hc hvs;have hi : H i = some (.row v sz xs) := hT _ (List.mem_singleton.2 rfl);have hd : datumAll H [.ms i v] = some (v = v ∧ True, [.list sz xs], [(i, .frz v sz xs)]) := by simp [datumAll, datum, datum1, hi]
 obtain ⟨A1, s1, l1, r1, m1⟩ := datumAll_ok hc hd ⟨rfl, trivial⟩ (us := vs.toList) (sX hvs.1) (fun k c u h1 h2 => hvs.2 k c u h1 (sX h2));have := h.call hr β A1 w _ vs sP s1.core ⟨by simpa using l1, fun k c u h1 h2 => by
  rw [List.getElem?_map] at h1;cases hq : [Dat.list sz xs][k]? with
  | none => rw [hq] at h1; cases h1
  | some x =>
   rw [hq] at h1;cases h1;exact .d _ _ (r1 k x u hq (sX h2))⟩
 rcases this with ⟨a1, a2⟩ | ⟨u, w', a1, β', A', a2, a3⟩
 ·refine .inl ⟨a1, a2.mono ?_⟩;rintro e w' ⟨u, rfl, β', A', b1, b2⟩;exact ⟨u, rfl, β', A', s1.trans b1, b2⟩
 ·exact .inr ⟨u, w', a1, β', A', s1.trans a2, a3⟩
end Av
namespace Go.Proofs
open Go Av
def ixF (q : Fld → Bool) (l : List Fld) : Int := match l.findIdx? q with
 | some k => (k : Int)
 | none => -1
theorem walk160 {g : Nat} {cs : List Dat} {q : Fld → Bool} (hq : ∀ x, PT g [encF x, .ptr cs] (.d (.bool (q x)))) (l : List Fld) (hl : l.length ≤ 68719476736) :
  PT 160 [.list 7 (l.map encF), cloD g cs] (.d (.int .i64 (ixF q l))) := by
 refine ok160.pc ?_;simp only [go_sem, ir160, List.length_map, simprocAttr];refine wpc_loop (fun n s => ∃ k : Nat, k ≤ l.length ∧ n = l.length - k ∧ (∀ (j : Nat) (h1 : j < l.length), j < k → q l[j] = false) ∧
  s = ⟨[(0, .d (.list 7 (l.map encF))), (1, .d (cloD g cs)), (7, .d (.int .i64 l.length)), (8, .d (.int .i64 k))], []⟩) ?_ ?_
 ·exact ⟨_, _, Wk.refl _, 0, Nat.zero_le _, rfl, sP, rfl⟩
 ·rintro n s ⟨k, hk, rfl, hinv, rfl⟩;by_cases hlt : k < l.length
  ·have hx := nth_encF hlt;have hd := dT hlt;have hc := (hq l[k]).call trivial;rw [encF_eq] at hc;refine zz6 ?_;refine ⟨oM, wn hc ?_⟩;refine zz ?_;apply ik <;> intro hf
   ·have : l.findIdx? q = some k := by
     rw [List.findIdx?_eq_some_iff_getElem];exact ⟨hlt, hf, fun j hj => by rw [hinv j oM hj]; decide⟩
    simp only [ixF, this]
   ·refine ⟨l.length - (k + 1), _, oM, Wk.less ?_, k + 1, oM, rfl, ?_, rfl⟩
    ·exact zz7 trivial
    ·intro j h1 hj;by_cases e : j = k
     ·subst e; exact hf
     ·exact hinv j h1 oM
  ·have hd := dF hlt;refine zz5 ?_;have : l.findIdx? q = none := by
    rw [List.findIdx?_eq_none_iff];intro x hx;obtain ⟨j, hj, rfl⟩ := List.getElem_of_mem hx;exact hinv j hj oM
   simp only [ixF, this]
theorem ixF_bd {q : Fld → Bool} {l : List Fld} : -1 ≤ ixF q l ∧ ixF q l < l.length := by
 unfold ixF;cases e : l.findIdx? q with
 | none => simp only; omega
 | some k =>
  obtain ⟨h, _⟩ := List.findIdx?_eq_some_iff_getElem.1 e;simp only; omega
theorem walk348 (x : Fld) (n : Str) : PT 348 [encF x, .ptr [.str n]] (.d (.bool (x.name == n))) := by
 refine ok348.pc ?_;rw [encF_eq];simp only [go_sem, ir348, Nat.reduceAdd, Nat.reduceEqDiff, Nat.reduceBEq, Nat.reduceLeDiff, reduceCtorEq, ↓reduceIte];exact Nat.one_pos
def ixN (n : Str) (l : List Fld) : Int := ixF (fun f => f.name == n) l
theorem walk278 (v : Val) (n : Str) (hl : v.fields.length ≤ 68719476736) : PT 278 [encV v, .str n] (.d (.int .i64 (ixN n v.fields))) := by
 refine ok278.pc ?_;have hc := CallOK.clo (ds := [.list 7 (v.fields.map encF)]) (walk160 (fun x => walk348 x n) v.fields hl) rfl 3;simp only [List.map_cons, List.map_nil, List.cons_append, List.nil_append] at hc;rw [encV_eq];simp only [go_sem, ir278, simprocAttr];refine wn hc ?_;simp only [go_sem, ixN, simprocAttr]
theorem nameS_len {s : Str} (h : nameS s = true) : s.length ≤ 32 := by
 simp only [nameS, Bool.and_eq_true, Bool.not_eq_true', Bool.or_eq_false_iff, decide_eq_false_iff_not] at h;omega
mutual
def szV : Val → Nat
 | .mk _ _ _ _ l f => 1 + szVs l + szFs f
def szVs : List Val → Nat
 | [] => 0
 | v :: r => szV v + szVs r
def szFs : List Fld → Nat
 | [] => 0
 | .mk _ v :: r => szV v + szFs r
end
theorem szV_eq (v : Val) : szV v = 1 + szVs v.list + szFs v.fields := by cases v; rfl
theorem szV_pos (v : Val) : 1 ≤ szV v := by rw [szV_eq]; omega
theorem szFs_len : ∀ l : List Fld, l.length ≤ szFs l
 | [] => by simp [szFs]
 | .mk _ v :: r => by
  have := szFs_len r;have := szV_pos v;simp only [List.length_cons, szFs]; omega
theorem szVs_mem : ∀ {l : List Val} {x : Val}, x ∈ l → szV x ≤ szVs l
 | v :: r, x, h => by
  rcases List.mem_cons.1 h with rfl | h
  ·simp only [szVs]; omega
  ·have := szVs_mem h;simp only [szVs]; omega
theorem szFs_mem : ∀ {l : List Fld} {x : Fld}, x ∈ l → szV x.value ≤ szFs l
 | .mk n v :: r, x, h => by
  rcases List.mem_cons.1 h with rfl | h
  ·show szV v ≤ _;simp only [szFs]; omega
  ·have := szFs_mem h;simp only [szFs]; omega
end Go.Proofs
namespace Go.Proofs
open Go Av
open Go.Proofs.YtiekiedlkehccaaGreatDoor.Rows (uptoBulk uptoBulkAll)
theorem c3 : Tryz.prog.cellsOf 3 = 1 := kR
theorem c9 : Tryz.prog.cellsOf 9 = 1 := kR
theorem c31 : Tryz.prog.cellsOf 27 = 1 := kR
theorem c27 : Tryz.prog.cellsOf 28 = 1 := kR
theorem c19 : Tryz.prog.cellsOf 30 = 6 := kR
theorem c106 : Tryz.prog.cellsOf 113 = 7 := kR
theorem okVs_of : ∀ {l : List Val}, (∀ a ∈ l, okV a) → okVs l
 | [], _ => by simp [okVs]
 | v :: r, h => by simp only [okVs]; exact ⟨h v List.mem_cons_self, okVs_of fun a ha => h a (List.mem_cons_of_mem _ ha)⟩
theorem okFs_of : ∀ {l : List Fld}, (∀ a ∈ l, okF a) → okFs l
 | [], _ => by simp [okFs]
 | v :: r, h => by simp only [okFs]; exact ⟨h v List.mem_cons_self, okFs_of fun a ha => h a (List.mem_cons_of_mem _ ha)⟩
section
variable {H : Type} {enc : TypeId × Value → H} {w : World} {base : Nat} {spare : Nat → Bool} {held : Bool}
theorem fld {fs : Array Field} {n : Nat} {cs : List Value} {xs : List (DataW H × List MemPlace)}
  (hf : ∀ (i : Nat) (f : Field), fs[i]? = some f → DataW.trod enc Tryz.prog w base spare held n f.type ((cs.drop f.offset).take (Tryz.prog.cellsOf f.type)) = xs[i]?)
  (i : Nat) (t off : Nat) {k : Nat} (hi : (fs[i]?).map (fun f => (f.type, f.offset)) = some (t, off)) (hc : Tryz.prog.cellsOf t = k) : DataW.trod enc Tryz.prog w base spare held n t ((cs.drop off).take k) = xs[i]? := by
 cases e : fs[i]? with
 | none => rw [e] at hi; cases hi
 | some f =>
  rw [e] at hi;simp only [Option.map_some, Option.some.injEq, Prod.mk.injEq] at hi;have := hf i f e;rw [hi.1, hi.2, hc] at this;exact this
theorem encV_len (a : Val) : (encV a).cells.length = 6 := by rw [encV_eq]; rfl
theorem encF_len (a : Fld) : (encF a).cells.length = 7 := by rw [encF_eq]; rfl
theorem szVs_sum : ∀ l : List Val, szVs l = (l.map szV).sum
 | [] => rfl
 | v :: r => by simp only [szVs, List.map_cons, List.sum_cons, szVs_sum r]
theorem szFs_sum : ∀ l : List Fld, szFs l = (l.map fun f => szV f.value).sum
 | [] => rfl
 | .mk n v :: r => by simp only [szFs, List.map_cons, List.sum_cons, szFs_sum r]; rfl
end
end Go.Proofs
namespace Go.Proofs
open Go.Shelf
def Tryz.laysValid_ren : Go.Shelf.Ren := ⟨fun | 196 => 173 | 259 => 240 | n => n, fun | 9 => 9 | 4 => 4 | 3 => 3 | 5 => 5 | 12 => 12 | 119 => 305 | 0 => 0 | 46 => 257 | 139 => 308 | 138 => 307 | 53 => 320 | n => n, fun | 3 => 0 | 4 => 1 | n => n⟩
theorem Tryz.laysValid : Go.Proofs.Lays.n196 Tryz.prog Tryz.laysValid_ren := {
 mixed := kR
 f196 := Tryz.func173.trans (congrArg some kR)
 f259 := Tryz.func240.trans (congrArg some kR)
 t0 := Tryz.underlying0
 a0 := Tryz.isAgg0
 z0 := Tryz.sizeOf0
 v0 := Tryz.zeroValue0
 t3 := Tryz.underlying3
 a3 := Tryz.isAgg3
 z3 := Tryz.sizeOf3
 v3 := Tryz.zeroValue3
 t4 := Tryz.underlying4
 a4 := Tryz.isAgg4
 z4 := Tryz.sizeOf4
 v4 := Tryz.zeroValue4
 t5 := Tryz.underlying5
 a5 := Tryz.isAgg5
 z5 := Tryz.sizeOf5
 v5 := Tryz.zeroValue5
 t9 := Tryz.underlying9
 a9 := Tryz.isAgg9
 z9 := Tryz.sizeOf9
 v9 := Tryz.zeroValue9
 t12 := Tryz.underlying12
 a12 := Tryz.isAgg12
 z12 := Tryz.sizeOf12
 v12 := Tryz.zeroValue12
 t46 := Tryz.underlying257
 a46 := Tryz.isAgg257
 z46 := Tryz.sizeOf257
 v46 := Tryz.zeroValue257
 t53 := Tryz.underlying320
 a53 := Tryz.isAgg320
 z53 := Tryz.sizeOf320
 v53 := Tryz.zeroValue320
 t119 := Tryz.underlying305
 a119 := Tryz.isAgg305
 z119 := Tryz.sizeOf305
 t138 := Tryz.underlying307
 a138 := Tryz.isAgg307
 z138 := Tryz.sizeOf307
 v138 := Tryz.zeroValue307
 t139 := Tryz.underlying308
 a139 := Tryz.isAgg308
 z139 := Tryz.sizeOf308
 v139 := Tryz.zeroValue308
 g3 := kR
 g4 := by kernel_rfl }
end Go.Proofs
