/- Part H of a proof. -/
import Derived.Test.YtholoaojlcnacaaGreatDoorFtC
import Derived.Test.YtholoaojlcnacaaGreatDoorFtA
import Derived.Test.YtholoaojlcnacaaGreatDoorFtF
import Derived.Lib.Bytealg
import Derived.Shelf.SlGeneric
import Derived.Shelf.LaysM
import Derived.Shelf.Strconv.Itoa3
import Derived.Shelf.LaysC
import Derived.Shelf.Strconv.AtoiAll
import Derived.Ground.Names2Prog
import Derived.Ground.SlgnProg
import Derived.Test.YtholoaojlcnacaaGreatDoorProg
import Derived.Test.YtholoaojlcnacaaGreatDoorFtD
import Derived.Lib.ItoaLen
import Derived.Sort.Grow
import Derived.Sort.EncStr
import Derived.Lib.SlicesCompact
set_option linter.unusedVariables false
set_option linter.unusedSimpArgs false
set_option linter.unusedSectionVars false
set_option maxRecDepth 10000
namespace Av
open Go
variable [Glb]
mutual
inductive Typ where
 | mk (kind min max scale : Int) (words : List Str) (elem : List Typ) (fields : List TFl)
inductive TFl where
 | mk (number : Int) (name : Str) (need : Int) (type : Typ) (dflt : List Val)
end
namespace Typ
def kind : Typ → Int | .mk k _ _ _ _ _ _ => k
def min : Typ → Int | .mk _ a _ _ _ _ _ => a
def max : Typ → Int | .mk _ _ b _ _ _ _ => b
def scale : Typ → Int | .mk _ _ _ s _ _ _ => s
def words : Typ → List Str | .mk _ _ _ _ w _ _ => w
def elem : Typ → List Typ | .mk _ _ _ _ _ e _ => e
def fields : Typ → List TFl | .mk _ _ _ _ _ _ f => f
end Typ
namespace TFl
def number : TFl → Int | .mk n _ _ _ _ => n
def name : TFl → Str | .mk _ n _ _ _ => n
def need : TFl → Int | .mk _ _ n _ _ => n
def type : TFl → Typ | .mk _ _ _ t _ => t
def dflt : TFl → List Val | .mk _ _ _ _ d => d
end TFl
mutual
def Jk : Typ → Dat
 | .mk k a b s w e f => .agg [.int .i64 k, .int .i64 a, .int .i64 b, .int .i64 s, .list 1 (w.map .str), .list 7 (JBo e), .list 11 (JBp f)]
def JBo : List Typ → List Dat
 | [] => []
 | v :: r => Jk v :: JBo r
def UW : TFl → Dat
 | .mk n m d t v => .agg ([.int .i64 n, .str m, .int .i64 d] ++ ((Jk t).cells ++ [.list 6 (v.map JB)]))
def JBp : List TFl → List Dat
 | [] => []
 | v :: r => UW v :: JBp r
end
theorem JCZ : ∀ l : List Typ, JBo l = l.map Jk
 | [] => by simp [JBo]
 | v :: r => by simp [JBo, JCZ r]
theorem JCa : ∀ l : List TFl, JBp l = l.map UW
 | [] => by simp [JBp]
 | v :: r => by simp [JBp, JCa r]
theorem JN (t : Typ) : Jk t = .agg [.int .i64 t.kind, .int .i64 t.min, .int .i64 t.max, .int .i64 t.scale, .list 1 (t.words.map .str), .list 7 (t.elem.map Jk), .list 11 (t.fields.map UW)] := by
 cases t; simp [Jk, JCZ, JCa, Typ.kind, Typ.min, Typ.max, Typ.scale, Typ.words, Typ.elem, Typ.fields]
theorem UC (f : TFl) : UW f = .agg [.int .i64 f.number, .str f.name, .int .i64 f.need, .int .i64 f.type.kind, .int .i64 f.type.min, .int .i64 f.type.max, .int .i64 f.type.scale,
  .list 1 (f.type.words.map .str), .list 7 (f.type.elem.map Jk), .list 11 (f.type.fields.map UW), .list 6 (f.dflt.map JB)] := by
 cases f; simp [UW, JN, TFl.number, TFl.name, TFl.need, TFl.type, TFl.dflt, Dat.cells]
theorem JBq {xs : List Typ} {k : Nat} (h : k < xs.length) : nth (xs.map Jk) k = .agg [.int .i64 xs[k].kind, .int .i64 xs[k].min, .int .i64 xs[k].max, .int .i64 xs[k].scale, .list 1 (xs[k].words.map .str), .list 7 (xs[k].elem.map Jk), .list 11 (xs[k].fields.map UW)] := by
 rw [U2 (sX h), List.getElem_map, JN]
theorem Yh {xs : List TFl} {k : Nat} (h : k < xs.length) : nth (xs.map UW) k = .agg [.int .i64 xs[k].number, .str xs[k].name, .int .i64 xs[k].need, .int .i64 xs[k].type.kind, .int .i64 xs[k].type.min, .int .i64 xs[k].type.max, .int .i64 xs[k].type.scale,
  .list 1 (xs[k].type.words.map .str), .list 7 (xs[k].type.elem.map Jk), .list 11 (xs[k].type.fields.map UW), .list 6 (xs[k].dflt.map JB)] := by
 rw [U2 (sX h), List.getElem_map, UC]
theorem JC7 (l : List Str) : Ji (l.map .str) = l.map .str := by
 rw [Uf, List.map_map];exact List.map_congr_left fun p _ => by simp [Dat.canon]
mutual
theorem JA8 : ∀ t : Typ, (Jk t).canon = Jk t
 | .mk k a b s w e f => by simp only [Jk, Dat.canon, Ji, JC7, Z4 e, Z5 f]
theorem Z4 : ∀ l : List Typ, Ji (JBo l) = JBo l
 | [] => by simp [JBo, Ji]
 | v :: r => by simp only [JBo, Ji, JA8 v, Z4 r]
theorem JEP : ∀ f : TFl, (UW f).canon = UW f
 | .mk n m d t v => by
  have := JA8 t;cases t with
  | mk k a b s w e f =>
   simp only [Jk, Dat.canon, Ji, Dat.agg.injEq, List.cons.injEq, true_and, and_true, Dat.list.injEq] at this;simp only [UW, Jk, Dat.cells, List.cons_append, List.nil_append, Dat.canon, Ji, X7, this]
theorem Z5 : ∀ l : List TFl, Ji (JBp l) = JBp l
 | [] => by simp [JBp, Ji]
 | v :: r => by simp only [JBp, Ji, JEP v, Z5 r]
end
theorem JHo (l : List Typ) : Ji (l.map Jk) = l.map Jk := by rw [← JCZ, Z4]
theorem JHp (l : List TFl) : Ji (l.map UW) = l.map UW := by rw [← JCa, Z5]
attribute [go_sem] JC7 JA8 JEP JHo JHp
end Av
namespace Go.Proofs
open Go Av
open Go.Proofs.YtholoaojlcnacaaGreatDoor.Rows (uptoBulk uptoBulkAll)
theorem c29 : Tryz.prog.cellsOf 29 = 1 := kR
theorem c30 : Tryz.prog.cellsOf 30 = 1 := kR
theorem c31 : Tryz.prog.cellsOf 31 = 1 := kR
theorem c33 : Tryz.prog.cellsOf 33 = 7 := kR
theorem c73 : Tryz.prog.cellsOf 73 = 11 := kR
theorem JNU (a : Typ) : (Jk a).cells.length = 7 := by rw [JN]; rfl
theorem JNV (a : TFl) : (UW a).cells.length = 11 := by rw [UC]; rfl
section
variable {H : Type} {enc : TypeId × Value → H} {w : World} {base : Nat} {spare : Nat → Bool} {held : Bool}
theorem JNW (fuel : Nat) (v : Value) (x : DataW H × List MemPlace) (h : DataW.trod enc Tryz.prog w base spare held fuel 24 v.cells.toList = some x) (hb : uptoBulk x.1 ≤ 1048576) :
  ∃ m : List Rule, okM m ∧ CR (old w) w [.list 6 (m.map Yg)] v.cells.toList := by
 generalize v.cells.toList = cs at h ⊢;obtain ⟨xs, n, rfl, rfl, hl, hlen, hf⟩ := DataW.trod_struct Tryz.underlying24 h;rw [c24] at hl;have h0 := fld hf 0 22 0 rfl c22
 match xs, hlen, cs, hl with
 | [y0], _, [a0], _ =>
  simp only [Va, Vb, uptoBulk, uptoBulkAll] at hb;obtain ⟨m, em, om, g⟩ := Xd (encA := Yg) (ok := fun r => okE r.expr) Tryz.underlying22 c48 dC JNL (show DataW.trod enc Tryz.prog w base spare held n 22 [a0] = some y0 from h0) oM
   (fun k cs' y _ hy hyb => by
    obtain ⟨xs, m', rfl, rfl, hl, hlen, hf⟩ := DataW.trod_struct Tryz.underlying48 hy;rw [c48] at hl;have h0 := fld hf 0 9 0 rfl c9;have h1 := fld hf 1 46 1 rfl c46
    match xs, hlen, cs', hl with
    | [y0, y1], _, [a0, a1, a2, a3, a4, a5], _ =>
     simp only [Va, Vb, uptoBulk, uptoBulkAll] at hyb;obtain ⟨tg, _, g0⟩ := JCK Tryz.underlying9 (show DataW.trod enc Tryz.prog w base spare held m' 9 [a0] = some y0 from h0) oM;obtain ⟨e, oe, g1⟩ := JNM m' [a1, a2, a3, a4, a5] y1 h1 oM;refine ⟨⟨tg, e⟩, oe.1, ?_⟩;have := g0.append g1;rw [JE] at this;simpa only [Yg, Dat.cells, List.singleton_append] using this)
  exact ⟨m, ⟨oM, om⟩, g⟩
theorem JNX (fuel : Nat) : ∀ (cs : List Value) (x : DataW H × List MemPlace), DataW.trod enc Tryz.prog w base spare held fuel 33 cs = some x → uptoBulk x.1 ≤ 1048576 → ∃ a : Typ, CR (old w) w (Jk a).cells cs := by
 induction fuel using Nat.strongRecOn with
 | _ fuel ih =>
  intro cs x h hb;obtain ⟨xs, n, rfl, rfl, hl, hlen, hf⟩ := DataW.trod_struct Tryz.underlying33 h;rw [c33] at hl;have h0 := fld hf 0 3 0 rfl c3;have h1 := fld hf 1 3 1 rfl c3;have h2 := fld hf 2 3 2 rfl c3;have h3 := fld hf 3 3 3 rfl c3;have h4 := fld hf 4 29 4 rfl c29;have h5 := fld hf 5 30 5 rfl c30;have h6 := fld hf 6 31 6 rfl c31
  match xs, hlen, cs, hl with
  | [y0, y1, y2, y3, y4, y5, y6], _, [a0, a1, a2, a3, a4, a5, a6], _ =>
   simp only [Va, Vb, uptoBulk, uptoBulkAll] at hb;obtain ⟨k, g0⟩ := Ya Tryz.underlying3 (show DataW.trod enc Tryz.prog w base spare held n 3 [a0] = some y0 from h0);obtain ⟨i, g1⟩ := Ya Tryz.underlying3 (show DataW.trod enc Tryz.prog w base spare held n 3 [a1] = some y1 from h1);obtain ⟨j, g2⟩ := Ya Tryz.underlying3 (show DataW.trod enc Tryz.prog w base spare held n 3 [a2] = some y2 from h2);obtain ⟨s, g3⟩ := Ya Tryz.underlying3 (show DataW.trod enc Tryz.prog w base spare held n 3 [a3] = some y3 from h3);obtain ⟨wd, _, _, g4⟩ := Xd (encA := Dat.str) (ok := fun _ => True) Tryz.underlying29 c9 dC (fun _ => rfl) (show DataW.trod enc Tryz.prog w base spare held n 29 [a4] = some y4 from h4) oM
    (fun m cs' y _ hy hyb => by
     obtain ⟨t, _, g⟩ := JCK Tryz.underlying9 hy hyb;exact ⟨t, trivial, g⟩)
   obtain ⟨el, _, _, g5⟩ := Xd (encA := Jk) (ok := fun _ => True) Tryz.underlying30 c33 dC JNU (show DataW.trod enc Tryz.prog w base spare held n 30 [a5] = some y5 from h5) oM
    (fun m cs' y hm hy hyb => by
     obtain ⟨t, g⟩ := ih m oM cs' y hy hyb;exact ⟨t, trivial, g⟩)
   obtain ⟨f, _, _, g6⟩ := Xd (encA := UW) (ok := fun _ => True) Tryz.underlying31 c73 dC JNV (show DataW.trod enc Tryz.prog w base spare held n 31 [a6] = some y6 from h6) oM
    (fun m cs' y hm hy hyb => by
     obtain ⟨xs, m', rfl, rfl, hl, hlen, hf⟩ := DataW.trod_struct Tryz.underlying73 hy;rw [c73] at hl;have h0 := fld hf 0 3 0 rfl c3;have h1 := fld hf 1 9 1 rfl c9;have h2 := fld hf 2 3 2 rfl c3;have h3 := fld hf 3 33 3 rfl c33;have h4 := fld hf 4 25 10 rfl c25
     match xs, hlen, cs', hl with
     | [y0, y1, y2, y3, y4], _, [a0, a1, a2, a3, a4, a5, a6, a7, a8, a9, a10], _ =>
      simp only [Va, Vb, uptoBulk, uptoBulkAll] at hyb;obtain ⟨nu, g0⟩ := Ya Tryz.underlying3 (show DataW.trod enc Tryz.prog w base spare held m' 3 [a0] = some y0 from h0);obtain ⟨nm, _, g1⟩ := JCK Tryz.underlying9 (show DataW.trod enc Tryz.prog w base spare held m' 9 [a1] = some y1 from h1) oM;obtain ⟨ne, g2⟩ := Ya Tryz.underlying3 (show DataW.trod enc Tryz.prog w base spare held m' 3 [a2] = some y2 from h2);obtain ⟨ty, g3⟩ := ih m' oM [a3, a4, a5, a6, a7, a8, a9] y3 h3 oM;obtain ⟨df, _, _, g4⟩ := Xd (encA := JB) (ok := okV) Tryz.underlying25 c28 dC JEN (show DataW.trod enc Tryz.prog w base spare held m' 25 [a10] = some y4 from h4) oM
       (fun m cs' y _ hy hyb => JEO m cs' y hy hyb)
      refine ⟨.mk nu nm ne ty df, trivial, ?_⟩;have := g0.append (g1.append (g2.append (g3.append g4)));simpa only [UW, Dat.cells, List.singleton_append, List.cons_append, List.nil_append, List.append_assoc] using this)
   refine ⟨.mk k i j s wd el f, ?_⟩;have := g0.append (g1.append (g2.append (g3.append (g4.append (g5.append g6)))));simpa only [JN, Typ.kind, Typ.min, Typ.max, Typ.scale, Typ.words, Typ.elem, Typ.fields, Dat.cells, List.singleton_append, List.cons_append, List.nil_append] using this
end
end Go.Proofs
namespace Go.Proofs.YtholoaojlcnacaaGreatDoor
open Go Go.Proofs Av Go.ChangeShapes Go.WideShapes Go.ChangeAt Go.RowKit
theorem JJB {H : Type} {enc : TypeId × Value → H} {w : World} {r : Reach} {base b0 : Nat} {spare : Nat → Bool} {held : Bool} {v : Value} {d : DataW H} {ps : List MemPlace}
  (hval : Value.okWide Tryz.prog w r b0 24 v) (hd : DataW.Trod enc Tryz.prog w base spare held 24 v d ps) (hb : Rows.uptoBulk d ≤ 1048576) : ∃ m : List Rule, okM m ∧ Rep (Av.old w) w (Yv m) v := by
 obtain ⟨fuel, hf⟩ := hd;obtain ⟨m, hm, hc⟩ := JNW fuel v (d, ps) hf hb;refine ⟨m, hm, ?_⟩;unfold Value.okWide at hval;rw [Tryz.underlying24] at hval;obtain ⟨cs, rfl, _, _⟩ := hval;obtain ⟨h1, h2, h3⟩ := hc;have e : (Value.agg cs).cells = cs := rfl;rw [e] at h1 h2 h3;exact .agg _ _ (sX h1) h2 (fun i c v hc hv => h3 i c v hc (sX hv))
theorem JJC {H : Type} {enc : TypeId × Value → H} {w : World} {r : Reach} {base b0 : Nat} {spare : Nat → Bool} {held : Bool} {v : Value} {d : DataW H} {ps : List MemPlace}
  (hval : Value.okWide Tryz.prog w r b0 28 v) (hd : DataW.Trod enc Tryz.prog w base spare held 28 v d ps) (hb : Rows.uptoBulk d ≤ 1048576) : ∃ e : Val, Rep (Av.old w) w (JB e) v := by
 obtain ⟨fuel, hf⟩ := hd;obtain ⟨m, _, hc⟩ := JEO fuel _ (d, ps) hf hb;refine ⟨m, ?_⟩;unfold Value.okWide at hval;rw [Tryz.underlying28] at hval;obtain ⟨cs, rfl, _, _⟩ := hval;obtain ⟨h1, h2, h3⟩ := hc;have e : (Value.agg cs).cells = cs := rfl;rw [e] at h1 h2 h3;have h1' : (JB m).cells.length = cs.size := sX h1;rw [JA] at h1' h3 ⊢;exact .agg _ _ h1' h2 (fun i c v hc hv => h3 i c v hc (sX hv))
theorem JJD {H : Type} {enc : TypeId × Value → H} {w : World} {r : Reach} {base b0 : Nat} {spare : Nat → Bool} {held : Bool} {v : Value} {d : DataW H} {ps : List MemPlace}
  (hval : Value.okWide Tryz.prog w r b0 33 v) (hd : DataW.Trod enc Tryz.prog w base spare held 33 v d ps) (hb : Rows.uptoBulk d ≤ 1048576) : ∃ e : Typ, Rep (Av.old w) w (Jk e) v := by
 obtain ⟨fuel, hf⟩ := hd;obtain ⟨m, hc⟩ := JNX fuel _ (d, ps) hf hb;refine ⟨m, ?_⟩;unfold Value.okWide at hval;rw [Tryz.underlying33] at hval;obtain ⟨cs, rfl, _, _⟩ := hval;obtain ⟨h1, h2, h3⟩ := hc;have e : (Value.agg cs).cells = cs := rfl;rw [e] at h1 h2 h3;have h1' : (Jk m).cells.length = cs.size := sX h1;rw [JN] at h1' h3 ⊢;exact .agg _ _ h1' h2 (fun i c v hc hv => h3 i c v hc (sX hv))
end Go.Proofs.YtholoaojlcnacaaGreatDoor
namespace Go.Proofs
open Go Av
def Z6 : List UInt8 → UInt8 → Nat → Int
 | [], _, _ => -1
 | b :: l, c, k => if b == c then (k : Int) else Z6 l c (k + 1)
theorem JKS (c : UInt8) : ∀ (l : List UInt8) (k : Nat), Z6 l c k = if Lib.indexByte l c = -1 then -1 else Lib.indexByte l c + k
 | [], k => rfl
 | b :: l, k => by
  rw [Z6, Lib.indexByte, JKS c l (k + 1)];have hge := Lib.indexByte_ge l c;by_cases h : (b == c) = true
  ·simp [h]
  ·simp only [h, Vu, ↓reduceIte, beq_iff_eq];by_cases h2 : Lib.indexByte l c = -1
   ·simp [h2]
   ·simp only [h2, ↓reduceIte];rw [if_neg oM];omega
theorem JGT (c : UInt8) : ∀ (l : List UInt8) (k : Nat), -1 ≤ Z6 l c k ∧ Z6 l c k ≤ (l.length + k : Nat)
 | [], k => by simp only [Z6]; omega
 | b :: l, k => by
  have := JGT c l (k + 1);simp only [Z6, Vf];split
  ·omega
  ·omega
theorem JNY (s : Str) (c : Int) : CT 370 [.d (.str s), .d (.int .u8 c)] [] (.d (.int .i64 (Z6 s c.toNat.toUInt8 0))) [] := by
 intro β A w H vs _ hc hvs;obtain ⟨hl, hv⟩ := hvs;have h2 : vs.size = 2 := sX hl.symm;obtain ⟨x, y, rfl⟩ : ∃ x y, vs = #[x, y] := by
  refine ⟨vs[0], vs[1], ?_⟩;apply Array.ext
  ·simp [h2]
  ·intro i h1 h2';have : i = 0 ∨ i = 1 := oM;rcases this with rfl | rfl <;> rfl
 have hx := (hv 0 _ x rfl rfl).JX;have hy := (hv 1 _ y rfl rfl).JX;cases hx with
 | str _ hs =>
  cases hy;have hle := JGT c.toNat.toUInt8 s 0;refine .inr ⟨.int .i64 (Z6 s c.toNat.toUInt8 0), w, ?_, β, A, Stp.refl hc, .d _ _ (.int _ _ ?_)⟩
  ·refine JKN (e := Extern.BytealgIndexByte.indexByte) Tryz.func370 kR kR kR kR ?_;rw [Lib.run_indexByteString, JKS];congr 2;show Lib.indexByte s _ = _;have hge := Lib.indexByte_ge s c.toNat.toUInt8;by_cases h : Lib.indexByte s c.toNat.toUInt8 = -1
   ·simp [h]
   ·simp [h]
  ·have e1 : IntKind.i64.min = -9223372036854775808 := dC;have e2 : IntKind.i64.max = 9223372036854775807 := dC;rw [e1, e2];omega
def X1 : Ext := fun f ds => match f, ds with
 | 217, [.str a, .str b] => some (.d (.int .i64 (Extern.BytealgCompare.cmp ⟨a.toArray⟩ ⟨b.toArray⟩)))
 | 370, [.str s, .int .u8 c] => some (.d (.int .i64 (Z6 s c.toNat.toUInt8 0)))
 | _, _ => none
theorem JHq : Yo Tryz.prog X1 := by
 intro f ds d h;unfold X1 at h;split at h
 ·cases h; exact JNF _ _
 ·cases h; exact JNY _ _
 ·cases h
def K1 (f : Nat) : Bool := f == 55
end Go.Proofs
namespace Go.Proofs
open Go Av
variable {P : Program} {X : Ext}
mutual
def Uu : Dat → Dat → Bool
 | .bool a, .bool b => a == b
 | .int k a, .int l b => decide (k = l) && a == b
 | .str a, .str b => a == b
 | .nil a, .nil b => a == b
 | .list a xs, .list b ys => a == b && Z7 xs ys
 | .agg xs, .agg ys => Z7 xs ys
 | .nilIface, .nilIface => true
 | _, _ => false
def Z7 : List Dat → List Dat → Bool
 | [], [] => true
 | x :: xs, y :: ys => Uu x y && Z7 xs ys
 | _, _ => false
end
mutual
theorem JEQ : ∀ (a b : Dat), Uu a b = true → a = b
 | .bool a, .bool b, h => by simp only [Uu, beq_iff_eq] at h; rw [h]
 | .int k a, .int l b, h => by simp only [Uu, Vi, decide_eq_true_eq, beq_iff_eq] at h; rw [h.1, h.2]
 | .str a, .str b, h => by simp only [Uu, beq_iff_eq] at h; rw [h]
 | .nil a, .nil b, h => by simp only [Uu, beq_iff_eq] at h; rw [h]
 | .list a xs, .list b ys, h => by simp only [Uu, Vi, beq_iff_eq] at h; rw [h.1, JAW xs ys h.2]
 | .agg xs, .agg ys, h => by simp only [Uu] at h; rw [JAW xs ys h]
 | .nilIface, b, h => by cases b <;> first | rfl | (simp [Uu] at h)
 | .fn .., b, h => by cases b <;> simp [Uu] at h
 | .ptr _, b, h => by cases b <;> simp [Uu] at h
 | .map _, b, h => by cases b <;> simp [Uu] at h
 | .nilFn, b, h => by cases b <;> simp [Uu] at h
 | .nilPtr, b, h => by cases b <;> simp [Uu] at h
 | .nilMap, b, h => by cases b <;> simp [Uu] at h
 | .iface _ _, b, h => by cases b <;> simp [Uu] at h
 | .opq, b, h => by cases b <;> simp [Uu] at h
 | .bool _, .int .., h | .bool _, .str _, h | .bool _, .nil _, h | .bool _, .list .., h | .bool _, .agg _, h | .bool _, .fn .., h | .bool _, .ptr _, h | .bool _, .map _, h | .bool _, .nilFn, h | .bool _, .nilPtr, h | .bool _, .nilMap, h | .bool _, .nilIface, h | .bool _, .iface .., h | .bool _, .opq, h => by simp [Uu] at h
 | .int .., .bool _, h | .int .., .str _, h | .int .., .nil _, h | .int .., .list .., h | .int .., .agg _, h | .int .., .fn .., h | .int .., .ptr _, h | .int .., .map _, h | .int .., .nilFn, h | .int .., .nilPtr, h | .int .., .nilMap, h | .int .., .nilIface, h | .int .., .iface .., h | .int .., .opq, h => by simp [Uu] at h
 | .str _, .bool _, h | .str _, .int .., h | .str _, .nil _, h | .str _, .list .., h | .str _, .agg _, h | .str _, .fn .., h | .str _, .ptr _, h | .str _, .map _, h | .str _, .nilFn, h | .str _, .nilPtr, h | .str _, .nilMap, h | .str _, .nilIface, h | .str _, .iface .., h | .str _, .opq, h => by simp [Uu] at h
 | .nil _, .bool _, h | .nil _, .int .., h | .nil _, .str _, h | .nil _, .list .., h | .nil _, .agg _, h | .nil _, .fn .., h | .nil _, .ptr _, h | .nil _, .map _, h | .nil _, .nilFn, h | .nil _, .nilPtr, h | .nil _, .nilMap, h | .nil _, .nilIface, h | .nil _, .iface .., h | .nil _, .opq, h => by simp [Uu] at h
 | .list .., .bool _, h | .list .., .int .., h | .list .., .str _, h | .list .., .nil _, h | .list .., .agg _, h | .list .., .fn .., h | .list .., .ptr _, h | .list .., .map _, h | .list .., .nilFn, h | .list .., .nilPtr, h | .list .., .nilMap, h | .list .., .nilIface, h | .list .., .iface .., h | .list .., .opq, h => by simp [Uu] at h
 | .agg _, .bool _, h | .agg _, .int .., h | .agg _, .str _, h | .agg _, .nil _, h | .agg _, .list .., h | .agg _, .fn .., h | .agg _, .ptr _, h | .agg _, .map _, h | .agg _, .nilFn, h | .agg _, .nilPtr, h | .agg _, .nilMap, h | .agg _, .nilIface, h | .agg _, .iface .., h | .agg _, .opq, h => by simp [Uu] at h
theorem JAW : ∀ (a b : List Dat), Z7 a b = true → a = b
 | [], [], _ => rfl
 | [], _ :: _, h => by simp [Z7] at h
 | _ :: _, [], h => by simp [Z7] at h
 | x :: xs, y :: ys, h => by
  simp only [Z7, Vi] at h;rw [JEQ x y h.1, JAW xs ys h.2]
end
def JC8 : List Av → List Av → Bool
 | [], [] => true
 | .d x :: xs, .d y :: ys => Uu x y && JC8 xs ys
 | _, _ => false
theorem JHr : ∀ (a b : List Av), JC8 a b = true → a = b
 | [], [], _ => rfl
 | [], _ :: _, h => by simp [JC8] at h
 | x :: xs, [], h => by cases x <;> simp [JC8] at h
 | x :: xs, y :: ys, h => by
  cases x with
  | d x =>
   cases y with
   | d y =>
    simp only [JC8, Vi] at h;rw [JEQ x y h.1, JHr xs ys h.2]
   | _ => simp [JC8] at h
  | _ => simp [JC8] at h
def avEq : Av → Av → Bool
 | .d x, .d y => Uu x y
 | .tup xs, .tup ys => JC8 xs ys
 | _, _ => false
theorem JKT {a b : Av} (h : avEq a b = true) : a = b := by
 unfold avEq at h;split at h
 ·rw [JEQ _ _ h]
 ·rw [JHr _ _ h]
 ·cases h
abbrev Tbl := List (Nat × List Dat × Av)
def JHs (f : Nat) (ds : List Dat) : Tbl → Option Av
 | [] => none
 | (g, l, v) :: r => match g == f with
  | true => match Z7 ds l with
   | true => some v
   | false => JHs f ds r
  | false => JHs f ds r
def ext (t : Tbl) (X : Ext) : Ext := fun f ds => match JHs f ds t with
 | some v => some v
 | none => X f ds
def Yp (P : Program) (X : Ext) : Tbl → Bool
 | [] => true
 | (f, l, v) :: r => (match evF P false (Yf P X K1 500 40) 500 f (l.map .d) [] with
  | some (u, _) => JHh u && avEq u v
  | none => false) && Yp P X r
theorem JA9 (hX : Yo P X) : ∀ {t : Tbl} {f : Nat} {ds : List Dat} {v : Av}, Yp P X t = true → JHs f ds t = some v → JQ P (.fn f) (ds.map .d) [] v []
 | [], _, _, _, _, h => by cases h
 | (g, l, x) :: r, f, ds, v, h, hf => by
  rw [Yp, Vi] at h;rw [JHs] at hf;split at hf
  ·rename_i e1;split at hf
   ·rename_i e2;cases hf;obtain rfl := JAW _ _ e2;simp only [beq_iff_eq] at e1;subst e1;have h1 := h.1;cases ev : evF P false (Yf P X K1 500 40) 500 g (ds.map .d) [] with
    | none => rw [ev] at h1; cases h1
    | some y =>
     obtain ⟨u, fh⟩ := y;rw [ev] at h1;simp only [Vi] at h1;obtain ⟨hp, he⟩ := h1;obtain rfl := JKT he;have hc : Ui P g ds u := JGN (X := X) (K := K1) (L := 500) (n := 40) hX ev hp;exact hc.call (JBi hp)
   ·exact JA9 hX h.2 hf
  ·exact JA9 hX h.2 hf
theorem JBA {t : Tbl} (hX : Yo P X) (h : Yp P X t = true) : Yo P (ext t X) := by
 intro f ds v hx;unfold ext at hx;split at hx
 ·rename_i u e;cases hx;exact JA9 hX h e
 ·exact hX f ds v hx
def JNZ (P : Program) (X : Ext) (f : Nat) : Bool := match evF P false (Yf P X K1 500 40) 500 f [] [] with
 | some (.d (.bool b), _) => b
 | _ => false
theorem JJE (hX : Yo P X) {f : Nat} (h : JNZ P X f = true) : Ui P f [] (.d (.bool true)) := by
 unfold JNZ at h;cases e : evF P false (Yf P X K1 500 40) 500 f [] [] with
 | none => rw [e] at h; cases h
 | some x =>
  obtain ⟨v, fh⟩ := x;rw [e] at h;have hv : v = .d (.bool true) := by
   cases v with
   | d x => cases x <;> first | (cases h; done) | (simp only at h; rw [h])
   | _ => cases h
  subst hv;exact JGN (X := X) (K := K1) (L := 500) (n := 40) (f := f) (ds := []) (v := .d (.bool true)) (fh := fh) hX e rfl
end Go.Proofs
namespace Go.Proofs
open Go Av
open Av.Y
def ir41 : Ic := q (R (ox 1 0<|oz 2 0<|N) [0,2])<|q (q (R (of 8 1 0<|ol 9 8<|oh 10 9<|oi 11 .gtr 10 256<|N) [8,9,10])<|D (I 11 (q (R (oz 2 9<|N) [1,11])<|.ret) S) [11])<|q (.reg (ok 3 (.k (.nil 1))<|N))<|q (q (R (of 12 1 0<|ol 13 12<|oh 14 13<|oz 15 0<|N) [1,12])<|D (.block 0<|.loop (q (.reg (ot 16 .lss 15 14<|N))<|q (D (I 16 S (E 0)) [16])<|q (D (.block 1<|q (R (oa true 17 6 13 15<|oL 18 6 17<|oN 5 [.str [],.int .i64 0,.int .i64 0,.str [],.nil 6,.nil 5]<|oS 6 5 18<|N) [17,18])<|q (R (of 20 5 0<|ol 21 20<|cl 22 80 [t 21]<|om 19 22<|oe 23 19 0<|oe 24 19 1<|oN 6 [.nil 3]<|os 6 23<|om 7 24<|N) [5,20,21,22,19,23,24])<|q (D (.block 2<|q (R (om 26 7<|oi 27 .neq 26 0<|om 25 27<|N) [26,27])<|D (I 25 (q (R (om 28 7<|om 2 28<|N) [3,13,14,15,6,7,25,28])<|.ret) (q (R (ol 30 6<|cl 31 81 [t 30,.k (.fn (.func 82) [] [])]<|om 29 31<|N) [7,25,30,31])<|D (I 29 (q (R (oz 2 22<|N) [3,13,14,15,6,29])<|.ret) (q (R (om 33 3<|oo 34 (.fnv (.func 84) [] [t 6])<|cl 35 83 [t 33,t 34]<|om 32 35<|N) [29,33,34,35])<|D (I 32 (q (R (oz 2 7<|N) [3,13,14,15,6,32])<|.ret) S) [32])) [])) []) [])<|R (om 36 3<|ol 37 6<|oo 38 (.bls 1 [t 37])<|oo 39 (.app 1 (t 36) (t 38))<|om 3 39<|N) [6,36,37,38,39]) [])<|R (oi 40 .add 15 1<|om 15 40<|N) [40])) [3,13,14,15,16,5,6,7])<|q (.reg (oz 2 0<|N))<|.ret
theorem ok41 : FT 41 41 ir41 [.tmp 2] := .o Tryz.func41
def ir80 : Ic := q (R (ok 2 (.k (.nil 3))<|oz 3 0<|N) [2,3])<|q (D (.block 0<|q (R (om 10 0<|ob 11 .seq (t 10) (.k (.str []))<|om 9 11<|N) [10,11])<|D (I 9 (q (R (ok 2 (.k (.nil 3))<|oz 3 4<|N) [0,9])<|.ret) (q (R (om 13 0<|oj 14 13<|oi 15 .gtr 14 200<|om 12 15<|N) [9,13,14,15])<|D (I 12 (q (R (ok 2 (.k (.nil 3))<|oz 3 5<|N) [0,12])<|.ret) S) [12])) []) [])<|q (.reg (ok 4 (.k (.nil 3))<|N))<|q (q (R (om 16 0<|ob 17 .cat (.k (.str [46])) (t 16)<|om 5 17<|N) [0,16,17])<|D (.block 1<|.loop (q (q (R (om 18 5<|ob 19 .sne (t 18) (.k (.str []))<|N) [18])<|D (I 19 S (E 1)) [19])<|D (.block 2<|q (R (om 21 5<|cl 22 147 [t 21]<|om 20 22<|oe 23 20 0<|oe 24 20 1<|oe 25 20 2<|oN 6 [.int .i64 0,.int .i64 0,.str []]<|oS 3 6 23<|om 7 24<|om 8 25<|N) [5,21,22,20,23,24,25])<|q (q (R (om 26 8<|og 27 26<|om 28 27<|.sc 28 false (oL 29 3 6<|cl 30 148 [t 29]<|og 31 30<|N) (t 31) 32 N) [8,26,27,28])<|D (I 32 (q (R (ok 2 (.k (.nil 3))<|oz 3 13<|N) [4,6,7,32])<|.ret) S) [32])<|R (om 33 4<|oL 34 3 6<|oo 35 (.bls 3 [t 34])<|oo 36 (.app 3 (t 33) (t 35))<|om 37 7<|om 4 36<|om 5 37<|N) [6,7,33,34,35,36,37]) [])) [5,19,6,7,8])<|q (q (R (om 38 4<|oh 39 38<|oi 40 .gtr 39 16<|N) [38,39])<|D (I 40 (q (R (ok 2 (.k (.nil 3))<|oz 3 9<|N) [4,40])<|.ret) S) [40])<|q (R (om 41 4<|om 2 41<|oz 3 0<|N) [4,41])<|.ret
theorem ok80 : FT 80 42 ir80 [.tmp 2, .tmp 3] := .o Tryz.func80
def ir81 : Ic := q (R (ow 4 false<|N) [4])<|q (R (om 5 0<|om 6 1<|cl 7 149 [t 5,t 6]<|oi 8 .geq 7 0<|om 4 8<|N) [0,1,5,6,7,8])<|.ret
theorem ok81 : FT 81 9 ir81 [.tmp 4] := .o Tryz.func81
def ir82 : Ic := q (R (ox 1 0<|ow 2 false<|N) [0,2])<|q (R (of 3 1 0<|ol 4 3<|oi 5 .neq 4 1<|om 2 5<|N) [1,3,4,5])<|.ret
theorem ok82 : FT 82 6 ir82 [.tmp 2] := .o Tryz.func82
def ir83 : Ic := q (R (ow 4 false<|N) [4])<|q (R (om 5 0<|om 6 1<|cl 7 150 [t 5,t 6]<|oi 8 .geq 7 0<|om 4 8<|N) [0,1,5,6,7,8])<|.ret
theorem ok83 : FT 83 9 ir83 [.tmp 4] := .o Tryz.func83
def ir84 : Ic := q (R (ow 3 false<|N) [3])<|q (R (ol 4 1<|om 5 0<|cl 6 85 [t 4,t 5]<|om 7 6<|.sc 7 false (om 8 0<|ol 9 1<|cl 10 85 [t 8,t 9]<|N) (t 10) 11 (om 3 11<|N)) [0,4,5,6,7,11])<|.ret
theorem ok84 : FT 84 12 ir84 [.tmp 3] := .o Tryz.func84
def ir85 : Ic := q (R (ow 4 false<|N) [4])<|q (R (om 5 0<|oh 6 5<|om 7 1<|oh 8 7<|ot 9 .geq 6 8<|om 10 9<|.sc 10 true (om 11 0<|om 12 1<|oh 13 12<|oo 14 (.slc 3 (t 11) none (some (t 13)) none)<|om 15 1<|cl 16 151 [t 14,t 15]<|N) (t 16) 17 (om 4 17<|N)) [0,1,5,6,7,8,9,10,17])<|.ret
theorem ok85 : FT 85 18 ir85 [.tmp 4] := .o Tryz.func85
def JS9 : Ic := q (R (ox 1 0<|oN 2 [.int .i64 0,.int .i64 0,.str []]<|ok 3 (.k (.str []))<|ow 4 false<|N) [0,3,4])<|q (R (oo 12 (.fnv (.func 218) [] [t 1])<|om 5 12<|N) [12])<|q (R (om 13 5<|.call (some 14) (.dyn (t 13)) [i 1] (om 6 14<|N)) [5,13,14])<|q (D (.block 0<|q (R (ol 16 1<|cl 17 220 [t 16,.k (.str [91,42,93])]<|om 15 17<|N) [16,17])<|D (I 15 (q (D (.regd [(1,3)] (oo 18 (.bld [.int .i64 0,.int .i64 0,.str []] [(0,1,i 3)])<|ol 19 1<|oo 20 (.sls (t 19) (some (i 3)) none)<|oS 3 2 18<|om 3 20<|ow 4 true<|N)) [1,6,15,18,19,20])<|.ret) (q (R (ol 22 1<|oo 23 (.ixs (t 22) (i 0))<|ob 24 .eql (t 23) (.k (.int .u8 46))<|om 21 24<|N) [15,22,23,24])<|D (I 21 (q (D (.regd [(4,7)] (ol 25 1<|om 26 6<|oo 27 (.sls (t 25) (some (i 1)) (some (t 26)))<|oo 28 (.bld [.int .i64 0,.int .i64 0,.str []] [(0,1,i 1),(2,1,t 27)])<|ol 29 1<|om 30 6<|oo 31 (.sls (t 29) (some (t 30)) none)<|oS 3 2 28<|om 3 31<|ow 4 true<|N)) [1,6,21,25,26,27,28,29,30,31])<|.ret) (q (R (ol 33 1<|oo 34 (.ixs (t 33) (i 0))<|ob 35 .eql (t 34) (.k (.int .u8 63))<|om 32 35<|N) [21,33,34,35])<|D (I 32 (q (D (.regd [(4,7)] (ol 36 1<|om 37 6<|oo 38 (.sls (t 36) (some (i 1)) (some (t 37)))<|oo 39 (.bld [.int .i64 0,.int .i64 0,.str []] [(0,1,i 4),(2,1,t 38)])<|ol 40 1<|om 41 6<|oo 42 (.sls (t 40) (some (t 41)) none)<|oS 3 2 39<|om 3 42<|ow 4 true<|N)) [1,6,32,36,37,38,39,40,41,42])<|.ret) S) [6,32])) [])) []) [])<|q (R (ol 44 1<|oo 45 (.sls (t 44) (some (i 1)) none)<|cl 46 221 [t 45,.k (.str [93])]<|om 43 46<|oe 47 43 0<|oe 48 43 1<|oe 49 43 2<|om 7 47<|om 8 48<|om 9 49<|N) [44,45,46,43,47,48,49])<|q (R (om 51 7<|cl 52 222 [t 51]<|om 50 52<|oe 53 50 0<|oe 54 50 1<|om 10 53<|om 11 54<|N) [51,52,50,53,54])<|q (R (om 55 10<|oo 56 (.bld [.int .i64 0,.int .i64 0,.str []] [(0,1,i 2),(1,1,t 55)])<|om 57 8<|ol 58 1<|oo 59 (.ixs (t 58) (i 0))<|ob 60 .eql (t 59) (.k (.int .u8 91))<|om 61 60<|.sc 61 true (om 62 9<|N) (t 62) 63 (om 64 63<|.sc 64 true (om 65 11<|ob 66 .nileq (t 65) (.k .nilIface)<|N) (t 66) 67 (om 68 67<|.sc 68 true (om 69 10<|cl 70 96 [t 69]<|om 71 7<|ot 72 .seq 70 71<|N) (t 72) 73 (oS 3 2 56<|om 3 57<|om 4 73<|N)))) [1,7,8,9,10,11,55,56,57,58,59,60,61,63,64,67,68,73])<|.ret
theorem ok147 : FT 147 74 JS9 [.cell 2 (some 3), .tmp 3, .tmp 4] := .o Tryz.func147
def JFp : Ic := q (R (ox 1 0<|ow 2 false<|N) [0,2])<|q (q (R (of 3 1 0<|ol 4 3<|N) [3])<|D (.block 0<|q (q (R (oi 6 .eql 4 1<|om 5 6<|N) [6])<|I 5 S (R (oi 7 .eql 4 4<|om 5 7<|N) [7]))<|D (I 5 (q (R (of 8 1 1<|ol 9 8<|oi 10 .eql 9 0<|om 11 10<|.sc 11 true (of 12 1 2<|ol 13 12<|cl 14 112 [t 13]<|N) (t 14) 15 (om 2 15<|N)) [1,4,5,8,9,10,11,15])<|.ret) (q (R (oi 17 .eql 4 2<|om 16 17<|N) [5,17])<|D (I 16 (q (R (of 18 1 2<|ol 19 18<|ob 20 .seq (t 19) (.k (.str []))<|om 21 20<|.sc 21 true (of 22 1 1<|ol 23 22<|oi 24 .geq 23 0<|N) (t 24) 25 (om 26 25<|.sc 26 true (of 27 1 1<|ol 28 27<|oi 29 .lss 28 256<|N) (t 29) 30 (om 2 30<|N))) [1,4,16,18,19,20,21,25,26,30])<|.ret) (q (R (oi 32 .eql 4 3<|om 31 32<|N) [4,16,32])<|D (I 31 (q (R (of 33 1 2<|ol 34 33<|ob 35 .seq (t 34) (.k (.str []))<|om 36 35<|.sc 36 true (of 37 1 1<|ol 38 37<|oi 39 .eql 38 0<|N) (t 39) 40 (om 2 40<|N)) [1,31,33,34,35,36,40])<|.ret) S) [1,31])) [])) []) [7,8,9,10,11])<|q (.reg (ow 2 false<|N))<|.ret
theorem ok148 : FT 148 41 JFp [.tmp 2] := .o Tryz.func148
def JTA : Ic := q (R (oz 4 0<|N) [4])<|q (q (R (om 6 0<|oh 7 6<|oz 8 0<|N) [6])<|D (.block 0<|.loop (q (.reg (ot 9 .lss 8 7<|N))<|q (D (I 9 S (E 0)) [9])<|q (D (.block 1<|q (R (om 10 8<|om 5 10<|N) [10])<|q (R (om 11 1<|om 12 0<|om 13 5<|oa true 14 3 12 13<|oL 15 3 14<|.call (some 16) (.dyn (t 11)) [t 15] N) [11,12,13,14,15])<|D (I 16 (q (R (om 17 5<|om 4 17<|N) [0,1,7,8,5,16,17])<|.ret) S) [5,16]) [])<|R (oi 18 .add 8 1<|om 8 18<|N) [18])) [0,1,7,8,9,10,5,11])<|q (.reg (oz 4 (-1)<|N))<|.ret
theorem JTB : FT 149 19 JTA [.tmp 4] := .o Tryz.func149
def JTC : Ic := q (R (oz 4 0<|N) [4])<|q (q (R (om 6 0<|oh 7 6<|oz 8 0<|N) [6])<|D (.block 0<|.loop (q (.reg (ot 9 .lss 8 7<|N))<|q (D (I 9 S (E 0)) [9])<|q (D (.block 1<|q (R (om 10 8<|om 5 10<|N) [10])<|q (R (om 11 1<|om 12 0<|om 13 5<|oa false 14 1 12 13<|ol 15 14<|.call (some 16) (.dyn (t 11)) [t 15] N) [11,12,13,14,15])<|D (I 16 (q (R (om 17 5<|om 4 17<|N) [0,1,7,8,5,16,17])<|.ret) S) [5,16]) [])<|R (oi 18 .add 8 1<|om 8 18<|N) [18])) [0,1,7,8,9,10,5,11])<|q (.reg (oz 4 (-1)<|N))<|.ret
theorem ok150 : FT 150 19 JTC [.tmp 4] := .o Tryz.func150
def JTD : Ic := q (R (ow 4 false<|N) [4])<|q (q (R (om 6 0<|oh 7 6<|om 8 1<|oh 9 8<|ot 10 .neq 7 9<|N) [6,7,8,9])<|D (I 10 (q (R (ow 4 false<|N) [0,1,10])<|.ret) S) [10])<|q (q (R (om 11 0<|oh 12 11<|oz 13 0<|N) [11])<|D (.block 0<|.loop (q (.reg (ot 14 .lss 13 12<|N))<|q (D (I 14 S (E 0)) [14])<|q (D (.block 1<|q (R (om 15 13<|om 5 15<|N) [15])<|q (R (om 16 0<|om 17 5<|oa true 18 3 16 17<|oL 19 3 18<|om 20 1<|om 21 5<|oa true 22 3 20 21<|oL 23 3 22<|ot 24 (.tne [.i,.i,.s]) 19 23<|N) [5,16,17,18,19,20,21,22,23])<|D (I 24 (q (R (ow 4 false<|N) [0,1,12,13,24])<|.ret) S) [24]) [])<|R (oi 25 .add 13 1<|om 13 25<|N) [25])) [0,1,12,13,14,5])<|q (.reg (ow 4 true<|N))<|.ret
theorem ok151 : FT 151 26 JTD [.tmp 4] := .o Tryz.func151
def JNa : Ic := q (R (ow 2 false<|N) [2])<|q (q (R (om 5 0<|ob 6 .seq (t 5) (.k (.str []))<|om 7 6<|.sc 7 false (om 8 0<|oj 9 8<|oi 10 .gtr 9 32<|N) (t 10) 11 (om 12 11<|.sc 12 false (om 13 0<|oo 14 (.ixs (t 13) (i 0))<|ob 15 .lss (t 14) (.k (.int .u8 97))<|N) (t 15) 16 (om 17 16<|.sc 17 false (om 18 0<|oo 19 (.ixs (t 18) (i 0))<|ob 20 .gtr (t 19) (.k (.int .u8 122))<|N) (t 20) 21 N))) [5,6,7,11,12,16,17])<|D (I 21 (q (R (ow 2 false<|N) [0,21])<|.ret) S) [21])<|q (q (R (om 22 0<|oo 23 (.s2b (t 22))<|oh 24 23<|oz 25 0<|N) [0,22])<|D (.block 0<|.loop (q (.reg (ot 26 .lss 25 24<|N))<|q (D (I 26 S (E 0)) [26])<|q (D (.block 1<|q (R (oa false 27 1 23 25<|ol 28 27<|om 4 28<|N) [27,28])<|q (R (om 29 4<|ob 30 .lss (t 29) (.k (.int .u8 97))<|om 31 30<|.sc 31 false (om 32 4<|ob 33 .gtr (t 32) (.k (.int .u8 122))<|N) (t 33) 34 (om 35 34<|.sc 35 true (om 36 4<|ob 37 .lss (t 36) (.k (.int .u8 48))<|om 38 37<|.sc 38 false (om 39 4<|ob 40 .gtr (t 39) (.k (.int .u8 57))<|N) (t 40) 41 N) (t 41) 42 (om 43 42<|.sc 43 true (om 44 4<|ob 45 .neq (t 44) (.k (.int .u8 95))<|N) (t 45) 46 N))) [4,29,30,31,34,35,42,43])<|D (I 46 (q (R (ow 2 false<|N) [23,24,25,46])<|.ret) S) [46]) [])<|R (oi 47 .add 25 1<|om 25 47<|N) [47])) [23,24,25,26,4])<|q (.reg (ow 2 true<|N))<|.ret
theorem JNb : FT 112 48 JNa [.tmp 2] := .o Tryz.func112
def JTE : Ic := q (R (oz 3 0<|N) [3])<|q (R (ol 5 1<|om 6 0<|oo 7 (.sls (t 5) (some (t 6)) none)<|cl 8 219 [t 7,.k (.str [46,91,63])]<|om 4 8<|N) [5,6,7,8])<|q (q (R (om 9 4<|oi 10 .lss 9 0<|N) [9])<|D (I 10 (q (R (ol 11 1<|oj 12 11<|om 3 12<|N) [0,4,10,11,12])<|.ret) S) [10])<|q (R (om 13 0<|om 14 4<|ot 15 .add 13 14<|om 3 15<|N) [0,4,13,14,15])<|.ret
theorem ok218 : FT 218 16 JTE [.tmp 3] := .o Tryz.func218
def JTF : Ic := q (R (oz 4 0<|N) [4])<|q (q (R (om 11 1<|ob 12 .seq (t 11) (.k (.str []))<|N) [11])<|D (I 12 (q (R (oz 4 (-1)<|N) [0,1,12])<|.ret) S) [12])<|q (q (R (om 13 1<|oj 14 13<|oi 15 .eql 14 1<|N) [13,14])<|D (I 15 (q (R (om 16 1<|oo 17 (.ixs (t 16) (i 0))<|oo 18 (.cvi .i32 (t 17))<|om 5 18<|N) [1,15,16,17,18])<|q (q (R (om 19 5<|ob 20 .geq (t 19) (.k (.int .i32 128))<|N) [19])<|D (I 20 (R (ok 5 (.k (.int .i32 65533))<|N) [20]) S) [20])<|q (R (om 21 0<|om 22 5<|cl 23 271 [t 21,t 22]<|om 4 23<|N) [0,5,21,22,23])<|.ret) S) [15])<|q (q (R (om 24 0<|oj 25 24<|cl 26 272 [t 25]<|N) [24,25])<|D (I 26 (q (R (om 28 1<|cl 29 273 [t 28]<|om 27 29<|oe 30 27 0<|oe 31 27 1<|oN 6 [.bool false,.bool false,.bool false,.bool false,.bool false,.bool false,.bool false,.bool false,.bool false,.bool false,.bool false,.bool false,.bool false,.bool false,.bool false,.bool false,.bool false,.bool false,.bool false,.bool false,.bool false,.bool false,.bool false,.bool false,.bool false,.bool false,.bool false,.bool false,.bool false,.bool false,.bool false,.bool false,.bool false,.bool false,.bool false,.bool false,.bool false,.bool false,.bool false,.bool false,.bool false,.bool false,.bool false,.bool false,.bool false,.bool false,.bool false,.bool false,.bool false,.bool false,.bool false,.bool false,.bool false,.bool false,.bool false,.bool false,.bool false,.bool false,.bool false,.bool false,.bool false,.bool false,.bool false,.bool false,.bool false,.bool false,.bool false,.bool false,.bool false,.bool false,.bool false,.bool false,.bool false,.bool false,.bool false,.bool false,.bool false,.bool false,.bool false,.bool false,.bool false,.bool false,.bool false,.bool false,.bool false,.bool false,.bool false,.bool false,.bool false,.bool false,.bool false,.bool false,.bool false,.bool false,.bool false,.bool false,.bool false,.bool false,.bool false,.bool false,.bool false,.bool false,.bool false,.bool false,.bool false,.bool false,.bool false,.bool false,.bool false,.bool false,.bool false,.bool false,.bool false,.bool false,.bool false,.bool false,.bool false,.bool false,.bool false,.bool false,.bool false,.bool false,.bool false,.bool false,.bool false,.bool false,.bool false,.bool false,.bool false,.bool false,.bool false,.bool false,.bool false,.bool false,.bool false,.bool false,.bool false,.bool false,.bool false,.bool false,.bool false,.bool false,.bool false,.bool false,.bool false,.bool false,.bool false,.bool false,.bool false,.bool false,.bool false,.bool false,.bool false,.bool false,.bool false,.bool false,.bool false,.bool false,.bool false,.bool false,.bool false,.bool false,.bool false,.bool false,.bool false,.bool false,.bool false,.bool false,.bool false,.bool false,.bool false,.bool false,.bool false,.bool false,.bool false,.bool false,.bool false,.bool false,.bool false,.bool false,.bool false,.bool false,.bool false,.bool false,.bool false,.bool false,.bool false,.bool false,.bool false,.bool false,.bool false,.bool false,.bool false,.bool false,.bool false,.bool false,.bool false,.bool false,.bool false,.bool false,.bool false,.bool false,.bool false,.bool false,.bool false,.bool false,.bool false,.bool false,.bool false,.bool false,.bool false,.bool false,.bool false,.bool false,.bool false,.bool false,.bool false,.bool false,.bool false,.bool false,.bool false,.bool false,.bool false,.bool false,.bool false,.bool false,.bool false,.bool false,.bool false,.bool false,.bool false,.bool false,.bool false,.bool false,.bool false,.bool false,.bool false,.bool false,.bool false,.bool false,.bool false,.bool false,.bool false,.bool false,.bool false,.bool false,.bool false,.bool false,.bool false,.bool false,.bool false,.bool false,.bool false,.bool false,.bool false,.bool false]<|oS 256 6 30<|om 7 31<|N) [26,28,29,27,30,31])<|q (R (om 32 7<|N) [7])<|D (I 32 (q (q (R (oz 8 0<|N) [1,32])<|D (.block 0<|.loop (q (q (R (om 33 8<|om 34 0<|oj 35 34<|ot 36 .lss 33 35<|N) [33,34,35])<|D (I 36 S (E 0)) [36])<|q (D (.block 1<|q (R (om 39 0<|om 40 8<|oo 41 (.ixs (t 39) (t 40))<|cl 42 274 [t 6,t 41]<|N) [39,40,41])<|D (I 42 (q (R (om 43 8<|om 4 43<|N) [0,6,8,42,43])<|.ret) S) [42]) [])<|R (om 37 8<|oi 38 .add 37 1<|om 8 38<|N) [37,38])) [0,6,8,36])<|q (.reg (oz 4 (-1)<|N))<|.ret) S) [6,32]) S) [26])<|q (q (R (om 44 0<|oo 45 (.rgs (t 44))<|N) [0,44])<|D (.block 2<|.loop (q (.reg (oo 46 (.nxs (t 45))<|oe 47 46 0<|N))<|q (D (I 47 S (E 2)) [47])<|D (.block 3<|q (R (oe 48 46 1<|oe 49 46 2<|om 9 48<|om 10 49<|N) [46,48,49])<|q (R (om 50 1<|om 51 10<|cl 52 271 [t 50,t 51]<|oi 53 .geq 52 0<|N) [10,50,51,52])<|D (I 53 (q (R (om 54 9<|om 4 54<|N) [1,45,9,53,54])<|.ret) S) [9,53]) [])) [1,45,46,47,9,10])<|q (.reg (oz 4 (-1)<|N))<|.ret
theorem ok219 : FT 219 55 JTF [.tmp 4] := .o Tryz.func219
def JTG : Ic := q (R (ow 4 false<|N) [4])<|q (R (om 5 0<|om 6 1<|cl 7 275 [t 5,t 6]<|om 4 7<|N) [0,1,5,6,7])<|.ret
theorem ok220 : FT 220 8 JTG [.tmp 4] := .o Tryz.func220
def JTH : Ic := q (R (ok 4 (.k (.str []))<|ok 5 (.k (.str []))<|ow 6 false<|N) [4,5,6])<|q (R (om 7 0<|om 8 1<|cl 9 276 [t 7,t 8]<|oe 10 9 0<|oe 11 9 1<|oe 12 9 2<|om 4 10<|om 5 11<|om 6 12<|N) [0,1,7,8,9,10,11,12])<|.ret
theorem ok221 : FT 221 13 JTH [.tmp 4, .tmp 5, .tmp 6] := .o Tryz.func221
def JNc : Ic := q (R (oz 4 0<|N) [4])<|D (.block 0<|q (R (om 161 1<|ob 162 .leq (.k (.int .i32 0)) (t 161)<|om 163 162<|.sc 163 true (om 164 1<|ob 165 .lss (t 164) (.k (.int .i32 128))<|N) (t 165) 166 (om 160 166<|N)) [161,162,163,164,165,166])<|I 160 (q (R (om 167 0<|om 168 1<|oo 169 (.cvi .u8 (t 168))<|cl 170 320 [t 167,t 169]<|om 4 170<|N) [0,1,160,167,168,169,170])<|.ret) (q (R (om 172 1<|ob 173 .eql (t 172) (.k (.int .i32 65533))<|om 171 173<|N) [160,172,173])<|I 171 (q (q (R (om 174 0<|oo 175 (.rgs (t 174))<|N) [0,1,171,174])<|D (.block 9<|.loop (q (.reg (oo 176 (.nxs (t 175))<|oe 177 176 0<|N))<|q (D (I 177 S (E 9)) [177])<|D (.block 10<|q (R (oe 178 176 1<|oe 179 176 2<|om 5 178<|om 6 179<|N) [176,178,179])<|q (R (om 180 6<|ob 181 .eql (t 180) (.k (.int .i32 65533))<|N) [6,180])<|D (I 181 (q (R (om 182 5<|om 4 182<|N) [175,5,181,182])<|.ret) S) [4,5,181]) [176,178,179,5,6,180,181,182,4])) [175,176,177,178,179,5,6,180,181,182,4])<|q (.reg (oz 4 (-1)<|N))<|.ret) (q (R (om 184 1<|cl 185 321 [t 184]<|og 186 185<|om 183 186<|N) [171,184,185,186])<|I 183 (q (R (oz 4 (-1)<|N) [0,1,183])<|.ret) (.scp (q (R (om 17 1<|oo 18 (.i2s (t 17))<|om 7 18<|N) [1,183,17,18])<|q (R (om 19 7<|oj 20 19<|oi 21 .sub 20 1<|om 8 21<|N) [19,20,21])<|q (R (om 22 8<|om 9 22<|N) [22])<|q (R (oz 10 0<|N) [10])<|q (D (.block 1<|.loop (q (q (R (om 23 9<|om 24 0<|oj 25 24<|ot 26 .lss 23 25<|N) [23,24,25])<|D (I 26 S (E 1)) [26])<|D (.block 2<|.scp (q (q (R (om 27 0<|om 28 9<|oo 29 (.ixs (t 27) (t 28))<|om 30 7<|om 31 8<|oo 32 (.ixs (t 30) (t 31))<|ot 33 .neq 29 32<|N) [27,28,29,30,31,32])<|D (I 33 (q (R (om 34 0<|om 35 9<|oi 36 .add 35 1<|oo 37 (.sls (t 34) (some (t 36)) none)<|om 38 7<|om 39 8<|oo 40 (.ixs (t 38) (t 39))<|cl 41 320 [t 37,t 40]<|om 11 41<|N) [33,34,35,36,37,38,39,40,41])<|q (q (R (om 42 11<|oi 43 .lss 42 0<|N) [42])<|D (I 43 (q (R (oz 4 (-1)<|N) [0,7,8,9,11,43])<|.ret) S) [4,43])<|R (om 44 9<|om 45 11<|oi 46 .add 45 1<|ot 47 .add 44 46<|om 9 47<|N) [11,44,45,46,47]) S) [33])<|q (q (.reg (oz 12 1<|N))<|D (.block 3<|.loop (q (q (R (om 48 12<|om 49 7<|oj 50 49<|ot 51 .lss 48 50<|N) [48,49,50])<|D (I 51 S (E 3)) [51])<|q (D (.block 4<|q (R (om 54 0<|om 55 9<|om 56 12<|ot 57 .sub 55 56<|oo 58 (.ixs (t 54) (t 57))<|om 59 7<|om 60 8<|om 61 12<|ot 62 .sub 60 61<|oo 63 (.ixs (t 59) (t 62))<|ot 64 .neq 58 63<|N) [54,55,56,57,58,59,60,61,62,63])<|D (I 64 .bad S) [64]) [54,55,56,57,58,59,60,61,62,63,64])<|R (om 52 12<|oi 53 .add 52 1<|om 12 53<|N) [52,53])) [0,7,12,48,49,50,51,54,55,56,57,58,59,60,61,62,63,64,52,53])<|q (q (R (om 65 9<|om 66 8<|ot 67 .sub 65 66<|om 4 67<|N) [8,9,65,66,67])<|.ret)<|q .lab<|q (R (om 68 10<|oi 69 .add 68 1<|om 10 69<|N) [4,68,69])<|q (R (om 70 9<|oi 71 .add 70 1<|om 9 71<|N) [70,71])<|q (R (ow 72 true<|.sc 72 true (om 73 10<|om 74 9<|cl 75 322 [t 74]<|ot 76 .gtr 73 75<|N) (t 76) 77 (om 78 77<|.sc 78 true (om 79 9<|om 80 0<|oj 81 80<|ot 82 .lss 79 81<|N) (t 82) 83 (om 84 83<|.sc 84 false (ow 85 false<|.sc 85 true (om 86 10<|om 87 9<|oo 88 (.bit .shr (t 87) (.k (.int .u64 4)))<|ob 89 .add (i 4) (t 88)<|ot 90 .geq 86 89<|N) (t 90) 91 (om 92 91<|.sc 92 true (om 93 9<|om 94 0<|oj 95 94<|ot 96 .lss 93 95<|N) (t 96) 97 N)) (t 97) 98 N))) [10,72,73,74,75,76,77,78,79,80,81,82,83,84,85,86,87,88,89,90,91,92,93,94,95,96,97])<|D (I 98 .bad S) [98])) [27,28,29,30,31,32,33,34,35,36,37,38,39,40,41,11,42,43,4,44,45,46,47,12,48,49,50,51,54,55,56,57,58,59,60,61,62,63,64,52,53,65,66,67,68,69,10,70,71,72,73,74,75,76,77,78,79,80,81,82,83,84,85,86,87,88,89,90,91,92,93,94,95,96,97,98])) [0,7,8,9,23,24,25,26,27,28,29,30,31,32,33,34,35,36,37,38,39,40,41,11,42,43,4,44,45,46,47,12,48,49,50,51,54,55,56,57,58,59,60,61,62,63,64,52,53,65,66,67,68,69,10,70,71,72,73,74,75,76,77,78,79,80,81,82,83,84,85,86,87,88,89,90,91,92,93,94,95,96,97,98])<|q (q (.reg (oz 4 (-1)<|N))<|.ret)<|q .lab<|q (.ite (B true) (q (R (om 99 0<|om 100 9<|om 101 8<|ot 102 .sub 100 101<|oo 103 (.sls (t 99) (some (t 102)) none)<|om 104 1<|oo 105 (.i2s (t 104))<|cl 106 323 [t 103,t 105]<|om 13 106<|N) [4,99,100,101,102,103,104,105,106])<|q (R (om 107 13<|oi 108 .geq 107 0<|N) [107])<|D (I 108 (q (R (om 109 9<|om 110 13<|ot 111 .add 109 110<|om 112 8<|ot 113 .sub 111 112<|om 4 113<|N) [13,108,109,110,111,112,113])<|.ret) S) [4,13,108]) (.scp (q (R (om 114 7<|om 115 8<|oo 116 (.ixs (t 114) (t 115))<|om 14 116<|N) [4,114,115,116])<|q (R (om 117 7<|om 118 8<|oi 119 .sub 118 1<|oo 120 (.ixs (t 117) (t 119))<|om 15 120<|N) [117,118,119,120])<|q .lab<|D (.block 5<|.loop (q (q (R (om 121 9<|om 122 0<|oj 123 122<|ot 124 .lss 121 123<|N) [121,122,123])<|D (I 124 S (E 5)) [124])<|q (D (.block 6<|q (R (om 127 0<|om 128 9<|oo 129 (.ixs (t 127) (t 128))<|om 130 14<|ot 131 .eql 129 130<|om 132 131<|.sc 132 true (om 133 0<|om 134 9<|oi 135 .sub 134 1<|oo 136 (.ixs (t 133) (t 135))<|om 137 15<|ot 138 .eql 136 137<|N) (t 138) 139 N) [127,128,129,130,131,132,133,134,135,136,137,138])<|D (I 139 (q (q (R (oz 16 2<|N) [139])<|D (.block 7<|.loop (q (q (R (om 140 16<|om 141 7<|oj 142 141<|ot 143 .lss 140 142<|N) [140,141,142])<|D (I 143 S (E 7)) [143])<|q (D (.block 8<|q (R (om 146 0<|om 147 9<|om 148 16<|ot 149 .sub 147 148<|oo 150 (.ixs (t 146) (t 149))<|om 151 7<|om 152 8<|om 153 16<|ot 154 .sub 152 153<|oo 155 (.ixs (t 151) (t 154))<|ot 156 .neq 150 155<|N) [146,147,148,149,150,151,152,153,154,155])<|D (I 156 (E 6) S) [156]) [146,147,148,149,150,151,152,153,154,155,156])<|R (om 144 16<|oi 145 .add 144 1<|om 16 145<|N) [144,145])) [14,15,16,140,141,142,143,146,147,148,149,150,151,152,153,154,155,156,144,145])<|q (R (om 157 9<|om 158 8<|ot 159 .sub 157 158<|om 4 159<|N) [157,158,159])<|.ret) S) [4,139]) [127,128,129,130,131,132,133,134,135,136,137,138,139,16,140,141,142,143,146,147,148,149,150,151,152,153,154,155,156,144,145,157,158,159,4])<|R (om 125 9<|oi 126 .add 125 1<|om 9 126<|N) [125,126])) [14,15,121,122,123,124,127,128,129,130,131,132,133,134,135,136,137,138,139,16,140,141,142,143,146,147,148,149,150,151,152,153,154,155,156,144,145,157,158,159,4,125,126,9])))<|q (.reg (oz 4 (-1)<|N))<|.ret))))) [0,1,161,162,163,164,165,166,160,167,168,169,170,172,173,171,174,175,176,177,178,179,5,6,180,181,182,184,185,186,183,17,18,7,19,20,21,8,22,9,10,23,24,25,26,27,28,29,30,31,32,33,34,35,36,37,38,39,40,41,11,42,43,44,45,46,47,12,48,49,50,51,54,55,56,57,58,59,60,61,62,63,64,52,53,65,66,67,68,69,70,71,72,73,74,75,76,77,78,79,80,81,82,83,84,85,86,87,88,89,90,91,92,93,94,95,96,97,98,99,100,101,102,103,104,105,106,13,107,108,109,110,111,112,113,114,115,116,14,117,118,119,120,15,121,122,123,124,127,128,129,130,131,132,133,134,135,136,137,138,139,16,140,141,142,143,146,147,148,149,150,151,152,153,154,155,156,144,145,157,158,159,125,126]
theorem JTI : FT 271 187 JNc [.tmp 4] := .o Tryz.func271
def JTJ : Ic := q (R (ow 2 false<|N) [2])<|q (R (om 3 0<|oi 4 .gtr 3 8<|om 2 4<|N) [0,3,4])<|.ret
theorem ok272 : FT 272 5 JTJ [.tmp 2] := .o Tryz.func272
def JTK : Ic := q (R (ow 4 false<|N) [4])<|q (R (om 5 0<|om 6 1<|oc 7 5<|oo 8 (.ixr 256 1 (t 7) (t 6))<|ol 9 8<|om 4 9<|N) [0,1,5,6,7,8,9])<|.ret
theorem ok274 : FT 274 10 JTK [.tmp 4] := .o Tryz.func274
def JTL : Ic := q (R (ow 4 false<|N) [4])<|q (R (om 5 0<|oj 6 5<|om 7 1<|oj 8 7<|ot 9 .geq 6 8<|om 10 9<|.sc 10 true (om 11 0<|om 12 1<|oj 13 12<|oo 14 (.sls (t 11) none (some (t 13)))<|om 15 1<|ot 16 .seq 14 15<|N) (t 16) 17 (om 4 17<|N)) [0,1,5,6,7,8,9,10,17])<|.ret
theorem ok275 : FT 275 18 JTL [.tmp 4] := .o Tryz.func275
def JTM : Ic := q (R (ok 4 (.k (.str []))<|ok 5 (.k (.str []))<|ow 6 false<|N) [4,5,6])<|q (q (R (om 8 0<|om 9 1<|cl 10 324 [t 8,t 9]<|om 7 10<|N) [8,9,10])<|q (R (om 11 7<|oi 12 .geq 11 0<|N) [11])<|D (I 12 (q (R (om 13 0<|om 14 7<|oo 15 (.sls (t 13) none (some (t 14)))<|om 16 0<|om 17 7<|om 18 1<|oj 19 18<|ot 20 .add 17 19<|oo 21 (.sls (t 16) (some (t 20)) none)<|om 4 15<|om 5 21<|ow 6 true<|N) [0,1,7,12,13,14,15,16,17,18,19,20,21])<|.ret) S) [1,7,12])<|q (R (om 22 0<|om 4 22<|ok 5 (.k (.str []))<|ow 6 false<|N) [0,22])<|.ret
theorem ok276 : FT 276 23 JTM [.tmp 4, .tmp 5, .tmp 6] := .o Tryz.func276
def ir320 : Ic := q (R (oz 4 0<|N) [4])<|q (R (om 5 0<|om 6 1<|cl 7 357 [t 5,t 6]<|om 4 7<|N) [0,1,5,6,7])<|.ret
theorem ok320 : FT 320 8 ir320 [.tmp 4] := .o Tryz.func320
def ir321 : Ic := q (R (ow 2 false<|N) [2])<|q (D (.block 0<|q (R (om 4 0<|ob 5 .leq (.k (.int .i32 0)) (t 4)<|om 6 5<|.sc 6 true (om 7 0<|ob 8 .lss (t 7) (.k (.int .i32 55296))<|N) (t 8) 9 (om 3 9<|N)) [4,5,6,9])<|D (I 3 (q (R (ow 2 true<|N) [0,3])<|.ret) (q (R (om 11 0<|ob 12 .lss (.k (.int .i32 57343)) (t 11)<|om 13 12<|.sc 13 true (om 14 0<|ob 15 .leq (t 14) (.k (.int .i32 1114111))<|N) (t 15) 16 (om 10 16<|N)) [0,3,11,12,13,16])<|D (I 10 (q (R (ow 2 true<|N) [10])<|.ret) S) [10])) []) [])<|q (.reg (ow 2 false<|N))<|.ret
theorem ok321 : FT 321 17 ir321 [.tmp 2] := .o Tryz.func321
def ir324 : Ic := q (R (oz 4 0<|N) [4])<|q (R (om 14 1<|oj 15 14<|om 5 15<|N) [14,15])<|q (D (.block 0<|q (R (om 17 5<|oi 18 .eql 17 0<|om 19 18<|.sc 19 false (om 20 1<|om 21 0<|ot 22 .seq 20 21<|N) (t 22) 23 (om 16 23<|N)) [17,18,19,23])<|D (I 16 (q (R (oz 4 0<|N) [0,1,5,16])<|.ret) (q (R (om 25 5<|oi 26 .eql 25 1<|om 24 26<|N) [16,25,26])<|D (I 24 (q (R (om 27 0<|om 28 1<|oo 29 (.ixs (t 28) (i 0))<|cl 30 357 [t 27,t 29]<|om 4 30<|N) [0,1,5,24,27,28,29,30])<|.ret) (q (R (om 32 5<|om 33 0<|oj 34 33<|ot 35 .geq 32 34<|om 31 35<|N) [24,32,33,34,35])<|D (I 31 (q (R (oz 4 (-1)<|N) [0,1,5,31])<|.ret) (q (R (om 37 5<|oo 38 (.ld none (.k (.glo 2)))<|ot 39 .leq 37 38<|om 40 39<|.sc 40 true (om 41 0<|oj 42 41<|oi 43 .leq 42 64<|N) (t 43) 44 (om 36 44<|N)) [31,37,38,39,40,44])<|D (I 36 (q (R (om 45 0<|om 46 1<|cl 47 323 [t 45,t 46]<|om 4 47<|N) [0,1,5,36,45,46,47])<|.ret) S) [36])) [])) [])) []) [])<|q (R (om 48 1<|oo 49 (.ixs (t 48) (i 0))<|om 6 49<|N) [48,49])<|q (R (om 50 1<|oo 51 (.ixs (t 50) (i 1))<|om 7 51<|N) [50,51])<|q (.reg (oz 8 0<|N))<|q (R (om 52 0<|oj 53 52<|om 54 5<|ot 55 .sub 53 54<|oi 56 .add 55 1<|om 9 56<|N) [52,53,54,55,56])<|q (.reg (oz 10 0<|N))<|q (D (.block 1<|.loop (q (q (R (om 57 8<|om 58 9<|ot 59 .lss 57 58<|N) [57,58])<|D (I 59 S (E 1)) [59])<|D (.block 2<|q (q (R (om 60 0<|om 61 8<|oo 62 (.ixs (t 60) (t 61))<|om 63 6<|ot 64 .neq 62 63<|N) [60,61,62,63])<|D (I 64 (q (R (om 65 0<|om 66 8<|oi 67 .add 66 1<|om 68 9<|oo 69 (.sls (t 65) (some (t 67)) (some (t 68)))<|om 70 6<|cl 71 357 [t 69,t 70]<|om 11 71<|N) [64,65,66,67,68,69,70,71])<|q (q (R (om 72 11<|oi 73 .lss 72 0<|N) [72])<|D (I 73 (q (R (oz 4 (-1)<|N) [0,1,5,6,7,8,9,10,11,73])<|.ret) S) [73])<|R (om 74 8<|om 75 11<|oi 76 .add 75 1<|ot 77 .add 74 76<|om 8 77<|N) [11,74,75,76,77]) S) [64])<|q (q (R (om 78 0<|om 79 8<|oi 80 .add 79 1<|oo 81 (.ixs (t 78) (t 80))<|om 82 7<|ot 83 .eql 81 82<|om 84 83<|.sc 84 true (om 85 0<|om 86 8<|om 87 8<|om 88 5<|ot 89 .add 87 88<|oo 90 (.sls (t 85) (some (t 86)) (some (t 89)))<|om 91 1<|ot 92 .seq 90 91<|N) (t 92) 93 N) [78,79,80,81,82,83,84])<|D (I 93 (q (R (om 94 8<|om 4 94<|N) [0,1,5,6,7,8,9,10,93,94])<|.ret) S) [93])<|q (R (om 95 8<|oi 96 .add 95 1<|om 8 96<|N) [95,96])<|q (R (om 97 10<|oi 98 .add 97 1<|om 10 98<|N) [97,98])<|q (R (om 99 5<|oo 100 (.ld none (.k (.glo 2)))<|ot 101 .leq 99 100<|om 102 101<|.sc 102 true (om 103 10<|om 104 8<|cl 105 322 [t 104]<|ot 106 .gtr 103 105<|N) (t 106) 107 N) [99,100,101,102])<|D (I 107 (q (R (om 108 0<|om 109 8<|oo 110 (.sls (t 108) (some (t 109)) none)<|om 111 1<|cl 112 323 [t 110,t 111]<|om 12 112<|N) [0,1,5,6,7,9,10,107,108,109,110,111,112])<|q (q (R (om 113 12<|oi 114 .geq 113 0<|N) [113])<|D (I 114 (q (R (om 115 12<|om 116 8<|ot 117 .add 115 116<|om 4 117<|N) [8,12,114,115,116,117])<|.ret) S) [8,12,114])<|q (.reg (oz 4 (-1)<|N))<|.ret) (q (R (om 118 5<|oo 119 (.ld none (.k (.glo 2)))<|ot 120 .gtr 118 119<|om 121 120<|.sc 121 true (om 122 10<|om 123 8<|oo 124 (.bit .shr (t 123) (.k (.int .u64 4)))<|ob 125 .add (i 4) (t 124)<|ot 126 .geq 122 125<|N) (t 126) 127 (om 128 127<|.sc 128 true (om 129 8<|om 130 9<|ot 131 .lss 129 130<|N) (t 131) 132 N)) [107,118,119,120,121,127,128])<|D (I 132 (q (R (om 133 0<|om 134 8<|oo 135 (.sls (t 133) (some (t 134)) none)<|om 136 1<|cl 137 358 [t 135,t 136]<|om 13 137<|N) [0,1,5,6,7,9,10,132,133,134,135,136,137])<|q (q (R (om 138 13<|oi 139 .lss 138 0<|N) [138])<|D (I 139 (q (R (oz 4 (-1)<|N) [8,13,139])<|.ret) S) [139])<|q (R (om 140 8<|om 141 13<|ot 142 .add 140 141<|om 4 142<|N) [8,13,140,141,142])<|.ret) S) [132])) []) [11])) [0,1,5,6,7,8,9,10,59,11])<|q (.reg (oz 4 (-1)<|N))<|.ret
theorem ok324 : FT 324 143 ir324 [.tmp 4] := .o Tryz.func324
def ir357 : Ic := q (R (oz 4 0<|N) [4])<|q (R (om 5 0<|om 6 1<|cl 7 370 [t 5,t 6]<|om 4 7<|N) [0,1,5,6,7])<|.ret
theorem ok357 : FT 357 8 ir357 [.tmp 4] := .o Tryz.func357
end Go.Proofs
namespace Go.Proofs
open Go Av
def ixb (s : Str) (c : Int) : Int := Z6 s c.toNat.toUInt8 0
theorem JJF (s : Str) (c : Int) : -1 ≤ ixb s c ∧ ixb s c ≤ s.length := by
 have := JGT c.toNat.toUInt8 s 0;simpa [ixb] using this
theorem JKU (s : Str) (c : Int) : PT 357 [.str s, .int .u8 c] (.d (.int .i64 (ixb s c))) := by
 refine ok357.pc ?_;simp only [go_sem, ir357, simprocAttr];refine wn (JNY s c) ?_;simp only [go_sem, Nat.reduceAdd, Nat.reduceEqDiff, Nat.reduceBEq, Nat.reduceLeDiff, reduceCtorEq, ↓reduceIte, ixb]
theorem JGU (s : Str) (c : Int) : PT 320 [.str s, .int .u8 c] (.d (.int .i64 (ixb s c))) := by
 refine ok320.pc ?_;simp only [go_sem, ir320, simprocAttr];refine wc ((JKU s c).call trivial) trivial
def JCb (r : Int) : Bool := (decide (0 ≤ r) && decide (r < 55296)) || (decide (57343 < r) && decide (r ≤ 1114111))
theorem JQy (r : Int) : PT 321 [.int .i32 r] (.d (.bool (JCb r))) := by
 refine ok321.pc ?_;simp only [go_sem, ir321, simprocAttr];refine sq (decide (r < 55296)) ?_ ?_
 all_goals simp only [go_sem, simprocAttr]
 apply ik <;> intro h
 ·simp only [JCb, h, Bool.true_or]
 refine sq (decide (r ≤ 1114111)) ?_ ?_
 all_goals simp only [go_sem, simprocAttr]
 apply ik <;> intro h2
 ·simp only [JCb, h, h2, Bool.false_or]
 ·simp only [JCb, h, h2, Bool.false_or]
def JDN : Str := [46, 91, 63]
theorem JGV {P : Program} {X : Ext} (hX : Yo P X) {f : Nat} {ds : List Dat} {v : Av} (h : Yp P X [(f, ds, v)] = true) : Ui P f ds v := by
 rw [Yp, Yp, Bool.and_true] at h;cases ev : evF P false (Yf P X K1 500 40) 500 f (ds.map .d) [] with
 | none => rw [ev] at h; cases h
 | some y =>
  obtain ⟨u, fh⟩ := y;rw [ev] at h;simp only [Vi] at h;obtain ⟨hp, he⟩ := h;obtain rfl := JKT he;exact JGN (X := X) (K := K1) (L := 500) (n := 40) hX ev hp
theorem JNd : PT 271 [.str JDN, .int .i32 65533] (.d (.int .i64 (-1))) := JGV JHq kR
def as3 : List Bool := (List.range 256).map fun k => k == 46 || k == 91 || k == 63
theorem set3 : PT 273 [.str JDN] (.tup [.d (.agg (as3.map .bool)), .d (.bool true)]) := JGV JHq kR
theorem JNe {r : Int} (hv : Utf8.valid r = true) (h : 128 ≤ r) : ∃ l : Str, ∃ c : UInt8, (Utf8.encode r).data.toList = l ++ [c] ∧ 128 ≤ c.toNat ∧ 1 ≤ l.length ∧ l.length ≤ 3 := by
 have hc : ¬ r.toNat < 128 := oM;unfold Utf8.encode;simp only [hv, if_true, hc, if_false];split
 ·exact ⟨[_], _, rfl, sO, sP, sP⟩
 ·split
  ·exact ⟨[_, _], _, rfl, sO, sP, sP⟩
  ·exact ⟨[_, _, _], _, rfl, sO, sP, sP⟩
theorem JKV (r : Int) : ∃ n : Int, PT 271 [.str JDN, .int .i32 r] (.d (.int .i64 n)) ∧ -1 ≤ n ∧ n ≤ 3 := by
 by_cases h0 : (0 ≤ r ∧ r < 128)
 ·refine ⟨ixb JDN (IntKind.u8.wrap r), ?_, (JJF _ _).1, (JJF _ _).2⟩;refine JTI.pc ?_;have e1 : decide (0 ≤ r) = true := decide_eq_true h0.1;have e2 : decide (r < 128) = true := decide_eq_true h0.2;simp only [go_sem, JNc, e1, e2, simprocAttr];refine wc ((JGU _ _).call trivial) trivial
 by_cases h1 : r = 65533
 ·subst h1;exact ⟨-1, JNd, oM, oM⟩
 refine ⟨-1, ?_, oM, oM⟩;refine JTI.pc ?_;simp only [go_sem, JNc, simprocAttr];refine sq (decide (r < 128)) ?_ ?_
 all_goals simp only [go_sem, simprocAttr]
 have e0 : (decide (0 ≤ r) && decide (r < 128)) = false := sO;have e1 : (r == 65533) = false := sX h1;simp only [go_sem, e0, e1, simprocAttr];refine wc ((JQy r).call trivial) ?_;apply ik <;> intro hv
 ·trivial
 have hval : Utf8.valid r = true := by
  simp only [Bool.not_eq_false'] at hv;simp only [JCb, Vx, Vi, decide_eq_true_eq] at hv;simp only [Utf8.valid, Vi, Vx, decide_eq_true_eq, Bool.not_eq_true', decide_eq_false_iff_not];omega
 have hr128 : 128 ≤ r := by
  simp only [Bool.not_eq_false'] at hv;simp only [JCb, Vx, Vi, decide_eq_true_eq] at hv;omega
 obtain ⟨l, c, he, hc1, hl1, hl2⟩ := JNe hval hr128;rw [he];have hw : IntKind.i64.wrap (((l ++ [c]).length : Int) - 1) = (l.length : Int) := by
  rw [Vg, List.length_singleton];rw [wrap64 oM oM]; omega
 rw [hw];have hnx : ∀ t : Str, (∀ b ∈ t, b.toNat < 128) → ixb t (c.toNat : Int) = -1 := by
  intro t ht;have hk : ∀ (t : Str) k, (∀ b ∈ t, b.toNat < 128) → Z6 t c k = -1 := by
   intro t
   induction t with
   | nil => intro k _; rfl
   | cons b t ih =>
    intro k ht;have hb := ht b Vh;have hne : (b == c) = false := by
     rw [beq_eq_false_iff_ne]; rintro rfl; omega
    rw [Z6, hne];exact ih (k + 1) fun b hb => ht b (Vn _ hb)
  have e : (c.toNat : Int).toNat.toUInt8 = c := sP;rw [ixb, e];exact hk t 0 ht
 have hg : ((l ++ [c]).getD l.length 0) = c := sP;refine JJ (fun n s => n = 0 ∧ s = ⟨[(0, .d (.str JDN)), (7, .d (.str (l ++ [c]))), (8, .d (.int .i64 l.length)), (9, .d (.int .i64 l.length))], []⟩) ⟨0, _, Wk.refl _, rfl, rfl⟩ ?_;rintro n s ⟨rfl, rfl⟩;have k1 : ((1 : Nat) : Int) = 1 := rfl;have k2 : ((3 : Nat) : Int) = 3 := rfl;have k3 : ((2 : Nat) : Int) = 2 := rfl;rcases (by omega : l.length = 1 ∨ l.length = 2 ∨ l.length = 3) with h | h | h
 ·rw [h] at hg ⊢;have hlen : (l ++ [c]).length = 2 := by simp [h]
  have t1 : Int.toNat 1 = 1 := rfl;refine zz69 ?_;refine ⟨fun _ => ⟨⟨dC, dC⟩, ⟨dC, dC⟩, fun _ => ⟨⟨dC, dC, dC⟩, ⟨dC, dC⟩, ?_⟩, fun hne => ?_⟩, fun h => by simp at h⟩
  ·refine wn ((JGU _ _).call trivial) ?_;rw [hnx _ dC];refine zz ?_;refine ⟨fun _ => ?_, fun h => by simp at h⟩;trivial
  ·exfalso;simp only [bne_eq_false_iff_eq, Int.ofNat_inj] at hne
   have : UInt8.toNat 91 < 128 := dC;omega
 ·rw [h] at hg ⊢;have hlen : (l ++ [c]).length = 3 := by simp [h]
  have t1 : Int.toNat 2 = 2 := rfl;refine zz69 ?_;refine ⟨fun _ => ⟨⟨dC, dC⟩, ⟨dC, dC⟩, fun _ => ⟨⟨dC, dC, dC⟩, ⟨dC, dC⟩, ?_⟩, fun hne => ?_⟩, fun h => by simp at h⟩
  ·refine wn ((JGU _ _).call trivial) ?_;rw [hnx _ dC];refine zz ?_;refine ⟨fun _ => ?_, fun h => by simp at h⟩;trivial
  ·exfalso;simp only [bne_eq_false_iff_eq, Int.ofNat_inj] at hne
   have : UInt8.toNat 63 < 128 := dC;omega
 ·rw [h] at hg ⊢;have hlen : (l ++ [c]).length = 4 := by simp [h]
  simp only [go_sem, JDN, hlen, hg, k1, k2, k3, Vf, Vm, simprocAttr];refine ⟨fun h => by simp at h, fun _ => ?_⟩;trivial
theorem JQz (n : Int) : PT 272 [.int .i64 n] (.d (.bool (decide (n > 8)))) := by
 refine ok272.pc ?_;simp only [go_sem, JTJ, simprocAttr]
theorem JER {G : Nat → Option Av.Obj} : ∀ cs : List Dat, JP G (cs.map .d)
 | [] => trivial
 | _ :: r => ⟨trivial, JER r⟩
theorem JJG (ρ : Nat → Nat) : ∀ cs : List Dat, J1 ρ (cs.map .d) = cs.map .d
 | [] => rfl
 | _ :: r => by simp only [Va, J1, Av.ren, JJG ρ r]
theorem XT (i : Nat) (cs : List Dat) : closed (get [(i, .box (cs.map .d))]) := by
 refine UZ ?_;simp only [Jc, J4, JER, and_true]
theorem Con.ro {P : Program} {f : Nat} {ds cs : List Dat} {r : Dat} (h : Con P f (.ref 1000 0 :: ds.map .d) [(1000, .box (cs.map .d))] (.d r) []) (i : Nat) :
  JQ P f (.ref i 0 :: ds.map .d) [(i, some (.box (cs.map .d)))] (.d r) [] := by
 have h1 : ∀ j, (get [(1000, Obj.box (cs.map .d))] j).isSome = true → j = 1000 := by
  intro j hj;simp only [Av.get] at hj;split at hj
  ·rename_i e; exact e.symm
  ·cases hj
 have := h.call (fun _ => i) (fun j hj => by rw [h1 j hj]; decide) (fun a b ha hb _ => by rw [h1 a ha, h1 b hb]) ?_ (XT _ _) [] sP (XT _ _) trivial
 ·have e : (ds.map Av.d).map (Av.ren fun _ => i) = ds.map Av.d := by
   rw [List.map_map]; exact List.map_congr_left fun x _ => by simp [Av.ren]
  simpa [Av.ren, Obj.ren, JJG, e] using this
 ·intro c hc;rcases VA.1 hc with rfl | hc
  ·rfl
  ·obtain ⟨x, _, rfl⟩ := VC.1 hc; trivial
theorem JQ0 (bs : List Bool) (c : Nat) (hb : bs.length = 256) (hc : c < 256) :
  KT 274 (.ref 1000 0 :: [Dat.int .u8 c].map .d) [(1000, .box ((bs.map .bool).map .d))] (.d (.bool (bs.getD c false))) [] := by
 refine ok274.co (k := false) (XT _ _) trivial ?_;have hx : ((bs.map Dat.bool).map Av.d)[c * 1]? = some (.d (.bool (bs.getD c false))) := by simp [Vo, List.getD_eq_getElem?_getD, hb, hc]
 simp only [Va, Vb];simp only [go_sem, JTK, Vv, hx, simprocAttr];omega
noncomputable def rn (r : Int) : Int := Classical.choose (JKV r)
theorem JNf (r : Int) : PT 271 [.str JDN, .int .i32 r] (.d (.int .i64 (rn r))) := (Classical.choose_spec (JKV r)).1
theorem JJH (s : ByteArray) (i : Nat) : 1 ≤ (Utf8.decode s i).2 := by
 unfold Utf8.decode;dsimp only
 repeat' split
 all_goals simp
noncomputable def rnR (s : Str) : Nat → Nat → Int
 | 0, _ => -1
 | f + 1, p => if p < s.length then (if 0 ≤ rn (Utf8.decode ⟨s.toArray⟩ p).1 then (p : Int) else rnR s f (p + (Utf8.decode ⟨s.toArray⟩ p).2)) else -1
theorem JNg (s : Str) : ∀ f p, -1 ≤ rnR s f p ∧ rnR s f p < s.length
 | 0, p => by simp only [rnR]; omega
 | f + 1, p => by
  have := JNg s f (p + (Utf8.decode ⟨s.toArray⟩ p).2);simp only [rnR];split
  ·split
   ·omega
   ·exact this
  ·omega
def JJI (s : Str) : Int := match s.findIdx? (fun c => as3.getD c.toNat false) with
 | some k => (k : Int)
 | none => -1
theorem JQ1 (s : Str) : -1 ≤ JJI s ∧ JJI s < s.length := by
 unfold JJI;split
 ·rename_i k h;have := (List.findIdx?_eq_some_iff_getElem.1 h).1;omega
 ·omega
noncomputable def anyI (s : Str) : Int := if (s.length : Int) > 8 then JJI s else rnR s (s.length + 1) 0
theorem JKW (s : Str) : -1 ≤ anyI s ∧ anyI s < s.length := by
 unfold anyI;split
 ·exact JQ1 s
 ·exact JNg _ _ _
theorem JKX : as3.length = 256 := dC
theorem JQ2 (s : Str) (hs : s.length ≤ 68719476736) : PT 219 [.str s, .str JDN] (.d (.int .i64 (anyI s))) := by
 refine ok219.pc ?_;have e1 : (JDN == ([] : Str)) = false := dC;have e2 : (((JDN.length : Nat) : Int) == 1) = false := dC;simp only [go_sem, JTF, e1, e2, simprocAttr];refine wc ((JQz _).call trivial) ?_;apply ik <;> intro h8
 ·have ha : anyI s = JJI s := by simp only [decide_eq_true_eq] at h8; unfold anyI; rw [if_pos h8]
  rw [ha];refine wn (set3.call (by simp [JU])) ?_;have hl : (List.map Av.d (List.map Dat.bool as3)).length = 256 := by simp [JKX]
  simp only [go_sem, hl, Vf, Vm, Nat.reduceAdd, Nat.reduceEqDiff, Nat.reduceBEq, Nat.reduceLeDiff, reduceCtorEq, ↓reduceIte, Nat.le_refl, and_self];refine JJ (fun n st => ∃ k : Nat, k ≤ s.length ∧ n = s.length - k ∧ (∀ (j : Nat) (h : j < s.length), j < k → as3.getD s[j].toNat false = false) ∧
   st = ⟨[(0, .d (.str s)), (6, .ref 6 0), (8, .d (.int .i64 k))], [(6, .box ((as3.map .bool).map .d))]⟩) ?_ ?_
  ·exact ⟨_, _, Wk.refl _, 0, Nat.zero_le _, rfl, sP, rfl⟩
  ·rintro n st ⟨k, hk, rfl, hinv, rfl⟩;by_cases hlt : k < s.length
   ·have hd := dT hlt;have hg : s.getD k 0 = s[k] := by simp [List.getD_eq_getElem?_getD, hlt]
    simp only [go_sem, hd, hg, Vv, simprocAttr];have hc := Con.ro (JQ0 as3 s[k].toNat JKX (UInt8.toNat_lt _)) 6;refine ⟨oM, wn hc ?_⟩;refine zz ?_;apply ik <;> intro hf
    ·have : s.findIdx? (fun c => as3.getD c.toNat false) = some k := by
      rw [List.findIdx?_eq_some_iff_getElem];exact ⟨hlt, hf, fun j hj => by rw [hinv j oM hj]; decide⟩
     simp only [JJI, this]
    ·refine ⟨s.length - (k + 1), _, oM, Wk.less ?_, k + 1, oM, rfl, ?_, rfl⟩
     ·simp only [go_sem, Jj k oM, JER, simprocAttr]
     ·intro j h hj;by_cases e : j = k
      ·subst e; exact hf
      ·exact hinv j h oM
   ·have hd := dF hlt;refine JAl ?_;have : s.findIdx? (fun c => as3.getD c.toNat false) = none := by
     rw [List.findIdx?_eq_none_iff];intro x hx;obtain ⟨j, hj, rfl⟩ := List.getElem_of_mem hx;exact hinv j hj oM
    simp only [JJI, this]
 ·have ha : anyI s = rnR s (s.length + 1) 0 := by simp only [decide_eq_false_iff_not] at h8; unfold anyI; rw [if_neg h8]
  rw [ha];generalize hR : rnR s (s.length + 1) 0 = R;refine JJ (fun n st => ∃ p : Nat, s.length < n + p ∧ R = rnR s n p ∧ st = ⟨[(1, .d (.str JDN)), (45, .mp 45)], [(45, .sit s p)]⟩) ?_ ?_
  ·exact ⟨s.length + 1, _, Wk.refl _, 0, oM, hR.symm, rfl⟩
  ·rintro n st ⟨p, hp, hr, rfl⟩;by_cases hlt : p < s.length
   ·obtain ⟨n, rfl⟩ : ∃ m, n = m + 1 := by
     cases n with
     | zero => omega
     | succ m => exact ⟨m, rfl⟩
    have hdp := JJH ⟨s.toArray⟩ p;simp only [rnR, hlt, ↓reduceIte] at hr;simp only [go_sem, hlt, simprocAttr];refine wc ((JNf _).call trivial) ?_;apply ik <;> intro hf
    ·simp only [decide_eq_true_eq] at hf;have hf' : 0 ≤ rn (Utf8.decode ⟨s.toArray⟩ p).1 := hf;rw [if_pos hf'] at hr;rw [hr]
    ·simp only [decide_eq_false_iff_not] at hf;have hf' : ¬ 0 ≤ rn (Utf8.decode ⟨s.toArray⟩ p).1 := hf;refine ⟨n, _, oM, Wk.less ?_, p + (Utf8.decode ⟨s.toArray⟩ p).2, oM, ?_, rfl⟩
     ·exact zz trivial
     ·rw [if_neg hf'] at hr;exact hr
   ·simp only [go_sem, hlt, simprocAttr];have : rnR s n p = -1 := by
     cases n with
     | zero => rfl
     | succ n => simp [rnR, hlt]
    rw [hr, this]
theorem JQ3 (s p : Str) (hp : p.length ≤ 68719476736) : PT 275 [.str s, .str p] (.d (.bool (decide ((s.length : Int) ≥ p.length) && (s.take p.length == p)))) := by
 refine ok275.pc ?_;simp only [go_sem, JTL, simprocAttr];refine Us (s.take p.length == p) (fun h => ?_) ?_
 ·simp only [decide_eq_true_eq] at h;simp only [go_sem, Vv, Int.toNat_zero, List.drop_zero, Nat.sub_zero, simprocAttr];have e : ((p.length : Int) - 0).toNat = p.length := oM;rw [e];exact ⟨oM, rfl⟩
 ·exact zz trivial
def JQ4 (s p : Str) : Bool := decide ((s.length : Int) ≥ p.length) && (s.take p.length == p)
theorem JQ5 (s p : Str) (hp : p.length ≤ 68719476736) : PT 220 [.str s, .str p] (.d (.bool (JQ4 s p))) := by
 refine ok220.pc ?_;simp only [go_sem, JTG, simprocAttr];refine wn ((JQ3 s p hp).call trivial) ?_;simp only [go_sem, JQ4, simprocAttr]
theorem k1' : ((1 : Nat) : Int) = 1 := rfl
theorem l10 : ((1 : Int) == 0) = false := rfl
theorem l11 : ((1 : Int) == 1) = true := rfl
theorem t0' : Int.toNat 0 = 0 := rfl
theorem JQ6 (s : Str) (c : UInt8) : PT 324 [.str s, .str [c]] (.d (.int .i64 (ixb s c.toNat))) := by
 refine ok324.pc ?_;have e3 : (([c] : Str).getD 0 0) = c := rfl;simp only [go_sem, ir324, k1', l10, l11, t0', e3, List.length_singleton, Nat.reduceAdd, Nat.reduceEqDiff, Nat.reduceBEq, Nat.reduceLeDiff, reduceCtorEq, ↓reduceIte];refine ⟨fun h => ?_, fun h => ⟨dC, ?_⟩⟩
 ·simp only [beq_iff_eq] at h;subst h;have : ixb [c] c.toNat = 0 := by simp [ixb, Z6]
  rw [this]
 ·refine wc ((JKU _ _).call trivial) trivial
theorem ixb_lt (s : Str) (c : UInt8) : ixb s c.toNat < s.length := by
 have hk : ∀ (t : Str) k, Z6 t c k < (t.length + k : Nat) ∨ Z6 t c k = -1 := by
  intro t
  induction t with
  | nil => intro k; right; rfl
  | cons b t ih =>
   intro k;rw [Z6];split
   ·left; simp only [Vf]; omega
   ·rcases ih (k + 1) with h | h
    ·left; simp only [Vf]; omega
    ·right; exact h
 have e : (c.toNat : Int).toNat.toUInt8 = c := sP;rw [ixb, e];rcases hk s 0 with h | h
 ·simpa using h
 ·omega
def Xp (s : Str) (c : UInt8) : Str × Str × Bool := if ixb s c.toNat ≥ 0 then (s.take (ixb s c.toNat).toNat, s.drop ((ixb s c.toNat).toNat + 1), true) else (s, [], false)
theorem JQ7 (s : Str) (c : UInt8) (hs : s.length ≤ 68719476736) : PT 276 [.str s, .str [c]] (.tup [.d (.str (Xp s c).1), .d (.str (Xp s c).2.1), .d (.bool (Xp s c).2.2)]) := by
 refine ok276.pc ?_;simp only [go_sem, JTM, Nat.reduceAdd, Nat.reduceEqDiff, Nat.reduceBEq, Nat.reduceLeDiff, reduceCtorEq, ↓reduceIte];refine wn ((JQ6 s c).call trivial) ?_;simp only [go_sem, k1', List.length_singleton, Nat.reduceAdd, Nat.reduceEqDiff, Nat.reduceBEq, Nat.reduceLeDiff, reduceCtorEq, ↓reduceIte];have hlt := ixb_lt s c;have hge := (JJF s c.toNat).1;apply ik <;> intro h
 ·simp only [decide_eq_true_eq] at h;have hw : IntKind.i64.wrap (ixb s c.toNat + 1) = ixb s c.toNat + 1 := wrap64 oM oM;simp only [hw];have e1 : s.take ((ixb s c.toNat) - 0).toNat = s.take (ixb s c.toNat).toNat := by rw [Int.sub_zero]
  have e2 : ((s.length : Int) - (ixb s c.toNat + 1)).toNat = (s.drop (ixb s c.toNat + 1).toNat).length := by rw [List.length_drop]; omega
  have e3 : (ixb s c.toNat + 1).toNat = (ixb s c.toNat).toNat + 1 := oM;have e4 : Xp s c = (s.take (ixb s c.toNat).toNat, s.drop ((ixb s c.toNat).toNat + 1), true) := by unfold Xp; rw [if_pos h]
  refine ⟨oM, oM, ?_⟩;rw [t0', List.drop_zero, e1, e2, List.take_length, e3, e4]
 ·simp only [decide_eq_false_iff_not] at h;have : Xp s c = (s, [], false) := by unfold Xp; rw [if_neg h]
  rw [this]
theorem JKY (s : Str) (c : UInt8) (hs : s.length ≤ 68719476736) : PT 221 [.str s, .str [c]] (.tup [.d (.str (Xp s c).1), .d (.str (Xp s c).2.1), .d (.bool (Xp s c).2.2)]) := by
 refine ok221.pc ?_;simp only [go_sem, JTH, simprocAttr];refine wc ((JQ7 s c hs).call (by simp [JU])) trivial
def JHt (c : UInt8) : Bool := !((decide ((c.toNat : Int) < 97) || decide ((c.toNat : Int) > 122)) && (decide ((c.toNat : Int) < 48) || decide ((c.toNat : Int) > 57)) && ((c.toNat : Int) != 95))
def XK (s : Str) : Bool := !(s == [] || decide ((s.length : Int) > 32) || decide (((s.getD 0 0).toNat : Int) < 97) || decide (((s.getD 0 0).toNat : Int) > 122)) && s.all JHt
theorem JDV (s : Str) (hs : s.length ≤ 68719476736) : PT 112 [.str s] (.d (.bool (XK s))) := by
 refine JNb.pc ?_;cases s with
 | nil =>
  simp only [go_sem, JNa, Nat.reduceAdd, Nat.reduceEqDiff, Nat.reduceBEq, Nat.reduceLeDiff, reduceCtorEq, ↓reduceIte];rfl
 | cons c t =>
  have e0 : ((c :: t : Str) == []) = false := rfl;have e1 : (c :: t).getD 0 0 = c := rfl;simp only [go_sem, JNa, e0, e1, t0', Nat.reduceAdd, Nat.reduceEqDiff, Nat.reduceBEq, Nat.reduceLeDiff, reduceCtorEq, ↓reduceIte];generalize hb : (c :: t : Str) = s at *;have hl : 0 < s.length := by rw [← hb]; simp
  have hlen : (t.length + 1 : Nat) = s.length := by rw [← hb]; simp
  have hc0 : s.getD 0 0 = c := by rw [← hb]; rfl
  have e0' : (s == []) = false := by rw [← hb]; rfl
  rw [hlen];refine sq (decide ((c.toNat : Int) < 97)) ?_ ?_
  ·simp only [go_sem, t0', hc0, Nat.reduceAdd, Nat.reduceEqDiff, Nat.reduceBEq, Nat.reduceLeDiff, reduceCtorEq, ↓reduceIte];omega
  refine zz ?_;refine sq (decide ((c.toNat : Int) > 122)) ?_ ?_
  ·simp only [go_sem, t0', hc0, Nat.reduceAdd, Nat.reduceEqDiff, Nat.reduceBEq, Nat.reduceLeDiff, reduceCtorEq, ↓reduceIte];omega
  refine zz ?_;apply ik <;> intro h
  ·have : XK s = false := by unfold XK; rw [e0', hc0, Bool.false_or, h]; rfl
   rw [this]
  have hn : XK s = s.all JHt := by unfold XK; rw [e0', hc0, Bool.false_or, h]; rfl
  rw [hn];refine zz7 ?_;refine JJ (fun n st => ∃ k : Nat, k ≤ s.length ∧ n = s.length - k ∧ s.all JHt = (s.drop k).all JHt ∧
   st = ⟨[(23, .d (.list 1 (s.map fun b => .int .u8 b.toNat))), (24, .d (.int .i64 s.length)), (25, .d (.int .i64 k))], []⟩) ?_ ?_
  ·exact ⟨_, _, Wk.refl _, 0, Nat.zero_le _, rfl, rfl, rfl⟩
  ·rintro n st ⟨k, hk, rfl, hinv, rfl⟩;by_cases hlt : k < s.length
   ·have hd := dT hlt;have hg : nth (s.map fun b => Dat.int .u8 b.toNat) k = .int .u8 s[k].toNat := by rw [U2 (sX hlt)]; simp
    rw [Vq hlt, List.all_cons] at hinv;simp only [go_sem, hd, hg, Vv, Vc, Nat.reduceAdd, Nat.reduceEqDiff, Nat.reduceBEq, Nat.reduceLeDiff, reduceCtorEq, ↓reduceIte];generalize hx : (s[k].toNat : Int) = x at *;refine ⟨oM, oM, ?_⟩;refine sq (decide (x > 122)) ?_ ?_
    ·exact zz trivial
    refine zz ?_;refine sq (decide (x < 48) || decide (x > 57)) ?_ ?_
    ·refine zz ?_;refine sq (decide (x > 57)) ?_ ?_
     ·exact zz trivial
     exact zz trivial
    refine zz ?_;refine sq (x != 95) ?_ ?_
    ·exact zz trivial
    refine zz ?_;have hcx : JHt s[k] = !((decide (x < 97) || decide (x > 122)) && (decide (x < 48) || decide (x > 57)) && (x != 95)) := by rw [← hx]; rfl
    apply ik <;> intro hf
    ·rw [hcx, hf, Vr, Bool.false_and] at hinv;rw [hinv]
    ·rw [hcx, hf, Vs, Vt] at hinv;refine ⟨s.length - (k + 1), _, oM, Wk.less ?_, k + 1, oM, rfl, hinv, rfl⟩;exact Y6 trivial
   ·have hd := dF hlt;obtain rfl : k = s.length := oM;rw [List.drop_length, List.all_nil] at hinv;exact zz55 trivial
structure Part where
 kind : Int
 index : Int
 name : Str
def Jr (p : Part) : Dat := .agg [.int .i64 p.kind, .int .i64 p.index, .str p.name]
def J7 (p : Part) : Bool :=
 if p.kind = 1 ∨ p.kind = 4 then (p.index == 0) && XK p.name else if p.kind = 2 then (p.name == []) && decide (p.index ≥ 0) && decide (p.index < 256) else if p.kind = 3 then (p.name == []) && (p.index == 0) else false
theorem JKZ (p : Part) (hp : p.name.length ≤ 68719476736) : PT 148 [Jr p] (.d (.bool (J7 p))) := by
 refine ok148.pc ?_;obtain ⟨k, i, n⟩ := p;simp only at hp;simp only [Jr];by_cases h1 : k = 1 ∨ k = 4
 ·have hv : J7 ⟨k, i, n⟩ = ((i == 0) && XK n) := by unfold J7; rw [if_pos h1]
  rw [hv];rcases h1 with rfl | rfl
  ·simp only [go_sem, JFp, beq_self_eq_true, simprocAttr];refine sq (XK n) ?_ ?_
   ·refine zz ?_;refine wc ((JDV n hp).call trivial) trivial
   ·exact zz trivial
  ·have q1 : ((4 : Int) == 1) = false := rfl;simp only [go_sem, JFp, q1, beq_self_eq_true, simprocAttr];refine sq (XK n) ?_ ?_
   ·refine zz ?_;refine wc ((JDV n hp).call trivial) trivial
   ·exact zz trivial
 ·have q1 : (k == 1) = false := sO;have q4 : (k == 4) = false := sO;by_cases h2 : k = 2
  ·subst h2;have hv : J7 ⟨2, i, n⟩ = ((n == []) && decide (i ≥ 0) && decide (i < 256)) := by unfold J7; rw [if_neg h1, if_pos rfl]
   rw [hv];simp only [go_sem, JFp, q1, q4, beq_self_eq_true, simprocAttr];refine sq (decide (i ≥ 0)) ?_ ?_
   ·exact zz trivial
   refine zz ?_;refine sq (decide (i < 256)) ?_ ?_
   ·exact zz trivial
   exact zz trivial
  ·have q2 : (k == 2) = false := sO;by_cases h3 : k = 3
   ·subst h3;have hv : J7 ⟨3, i, n⟩ = ((n == []) && (i == 0)) := by unfold J7; rw [if_neg h1, if_neg h2, if_pos rfl]
    rw [hv];simp only [go_sem, JFp, q1, q2, q4, beq_self_eq_true, simprocAttr];refine sq (i == 0) ?_ ?_
    ·exact zz trivial
    exact zz trivial
   ·have q3 : (k == 3) = false := sO;have hv : J7 ⟨k, i, n⟩ = false := by unfold J7; rw [if_neg h1, if_neg h2, if_neg h3]
    rw [hv];simp only [go_sem, JFp, q1, q2, q3, q4, simprocAttr]
end Go.Proofs
namespace Go.Proofs
open Go.Shelf
def Tryz.JG5 : Go.Shelf.Ren := ⟨fun | 171 => 96 | 243 => 162 | 246 => 226 | 283 => 280 | 284 => 281 | 285 => 282 | 286 => 283 | 129 => 208 | 317 => 331 | 318 => 332 | 319 => 333 | 320 => 334 | 337 => 362 | 338 => 363 | n => n, fun | 3 => 3 | 9 => 9 | 2 => 2 | 4 => 4 | 171 => 304 | 0 => 0 | 53 => 248 | 37 => 215 | 5 => 5 | 173 => 306 | 212 => 349 | 51 => 246 | 20 => 20 | 213 => 350 | 46 => 189 | 232 => 384 | 233 => 385 | n => n, fun | 17 => 3 | 18 => 6 | 19 => 7 | n => n⟩
theorem Tryz.JQE : Go.Proofs.LaysM.n171 Tryz.prog Tryz.JG5 := {
 mixed := kR
 f129 := Tryz.func208.trans (congrArg some kR)
 f171 := Tryz.func96.trans (congrArg some kR)
 f243 := Tryz.func162.trans (congrArg some kR)
 f246 := Tryz.func226.trans (congrArg some kR)
 f283 := Tryz.func280.trans (congrArg some kR)
 f284 := Tryz.func281.trans (congrArg some kR)
 f285 := Tryz.func282.trans (congrArg some kR)
 f286 := Tryz.func283.trans (congrArg some kR)
 f317 := Tryz.func331.trans (congrArg some kR)
 f318 := Tryz.func332.trans (congrArg some kR)
 f319 := Tryz.func333.trans (congrArg some kR)
 f320 := Tryz.func334.trans (congrArg some kR)
 f337 := Tryz.func362.trans (congrArg some kR)
 f338 := Tryz.func363.trans (congrArg some kR)
 t0 := Tryz.underlying0
 a0 := Tryz.isAgg0
 z0 := Tryz.sizeOf0
 v0 := Tryz.zeroValue0
 t2 := Tryz.underlying2
 a2 := Tryz.isAgg2
 z2 := Tryz.sizeOf2
 v2 := Tryz.zeroValue2
 t3 := Tryz.underlying3
 a3 := Tryz.isAgg3
 z3 := Tryz.sizeOf3
 v3 := Tryz.zeroValue3
 t4 := Tryz.underlying4
 a4 := Tryz.isAgg4
 z4 := Tryz.sizeOf4
 v4 := Tryz.zeroValue4
 t5 := Tryz.underlying5
 a5 := Tryz.isAgg5
 z5 := Tryz.sizeOf5
 v5 := Tryz.zeroValue5
 t9 := Tryz.underlying9
 a9 := Tryz.isAgg9
 z9 := Tryz.sizeOf9
 v9 := Tryz.zeroValue9
 t20 := Tryz.underlying20
 a20 := Tryz.isAgg20
 z20 := Tryz.sizeOf20
 v20 := Tryz.zeroValue20
 t37 := Tryz.underlying215
 a37 := Tryz.isAgg215
 z37 := Tryz.sizeOf215
 v37 := Tryz.zeroValue215
 t46 := Tryz.underlying189
 a46 := Tryz.isAgg189
 z46 := Tryz.sizeOf189
 v46 := Tryz.zeroValue189
 t51 := Tryz.underlying246
 a51 := Tryz.isAgg246
 z51 := Tryz.sizeOf246
 v51 := Tryz.zeroValue246
 t53 := Tryz.underlying248
 a53 := Tryz.isAgg248
 z53 := Tryz.sizeOf248
 v53 := Tryz.zeroValue248
 t171 := Tryz.underlying304
 a171 := Tryz.isAgg304
 z171 := Tryz.sizeOf304
 v171 := Tryz.zeroValue304
 t173 := Tryz.underlying306
 a173 := Tryz.isAgg306
 z173 := Tryz.sizeOf306
 v173 := Tryz.zeroValue306
 t212 := Tryz.underlying349
 a212 := Tryz.isAgg349
 z212 := Tryz.sizeOf349
 v212 := Tryz.zeroValue349
 t213 := Tryz.underlying350
 a213 := Tryz.isAgg350
 z213 := Tryz.sizeOf350
 t232 := Tryz.underlying384
 a232 := Tryz.isAgg384
 z232 := Tryz.sizeOf384
 v232 := Tryz.zeroValue384
 t233 := Tryz.underlying385
 a233 := Tryz.isAgg385
 z233 := Tryz.sizeOf385
 v233 := Tryz.zeroValue385
 g17 := kR
 g18 := kR
 g19 := kR
 i0 := kR
 i2 := kR
 i3 := kR
 i4 := kR
 i5 := kR
 i9 := kR
 i20 := kR
 i37 := kR
 i46 := kR
 i51 := kR
 i53 := kR
 i171 := kR
 i173 := kR
 i212 := kR
 i232 := kR
 i233 := kR
 m17 := kR
 m18 := kR
 m19 := by kernel_rfl }
def Tryz.JG6 : Go.Shelf.Ren := ⟨fun | 172 => 222 | 244 => 277 | 245 => 278 | 247 => 325 | 279 => 326 | 280 => 327 | 281 => 328 | 282 => 329 | 287 => 359 | 316 => 360 | 171 => 96 | 205 => 361 | 321 => 372 | 322 => 373 | 243 => 162 | 246 => 226 | 283 => 280 | 284 => 281 | 285 => 282 | 286 => 283 | 129 => 208 | 317 => 331 | 318 => 332 | 319 => 333 | 320 => 334 | 337 => 362 | 338 => 363 | n => n, fun | 9 => 9 | 3 => 3 | 75 => 257 | 76 => 258 | 4 => 4 | 5 => 5 | 167 => 341 | 37 => 215 | 0 => 0 | 85 => 342 | 2 => 2 | 168 => 344 | 53 => 248 | 175 => 365 | 46 => 189 | 210 => 368 | 127 => 312 | 145 => 383 | 143 => 381 | 21 => 21 | 171 => 304 | 173 => 306 | 212 => 349 | 51 => 246 | 20 => 20 | 213 => 350 | 232 => 384 | 233 => 385 | 80 => 271 | n => n, fun | 15 => 4 | 16 => 5 | 17 => 3 | 18 => 6 | 19 => 7 | n => n⟩
theorem Tryz.JE7 : Go.Proofs.LaysC.n172 Tryz.prog Tryz.JG6 := {
 mixed := kR
 f129 := Tryz.func208.trans (congrArg some kR)
 f171 := Tryz.func96.trans (congrArg some kR)
 f172 := Tryz.func222.trans (congrArg some kR)
 f205 := Tryz.func361.trans (congrArg some kR)
 f243 := Tryz.func162.trans (congrArg some kR)
 f244 := Tryz.func277.trans (congrArg some kR)
 f245 := Tryz.func278.trans (congrArg some kR)
 f246 := Tryz.func226.trans (congrArg some kR)
 f247 := Tryz.func325.trans (congrArg some kR)
 f279 := Tryz.func326.trans (congrArg some kR)
 f280 := Tryz.func327.trans (congrArg some kR)
 f281 := Tryz.func328.trans (congrArg some kR)
 f282 := Tryz.func329.trans (congrArg some kR)
 f283 := Tryz.func280.trans (congrArg some kR)
 f284 := Tryz.func281.trans (congrArg some kR)
 f285 := Tryz.func282.trans (congrArg some kR)
 f286 := Tryz.func283.trans (congrArg some kR)
 f287 := Tryz.func359.trans (congrArg some kR)
 f316 := Tryz.func360.trans (congrArg some kR)
 f317 := Tryz.func331.trans (congrArg some kR)
 f318 := Tryz.func332.trans (congrArg some kR)
 f319 := Tryz.func333.trans (congrArg some kR)
 f320 := Tryz.func334.trans (congrArg some kR)
 f321 := Tryz.func372.trans (congrArg some kR)
 f322 := Tryz.func373.trans (congrArg some kR)
 f337 := Tryz.func362.trans (congrArg some kR)
 f338 := Tryz.func363.trans (congrArg some kR)
 t0 := Tryz.underlying0
 a0 := Tryz.isAgg0
 z0 := Tryz.sizeOf0
 v0 := Tryz.zeroValue0
 t2 := Tryz.underlying2
 a2 := Tryz.isAgg2
 z2 := Tryz.sizeOf2
 v2 := Tryz.zeroValue2
 t3 := Tryz.underlying3
 a3 := Tryz.isAgg3
 z3 := Tryz.sizeOf3
 v3 := Tryz.zeroValue3
 t4 := Tryz.underlying4
 a4 := Tryz.isAgg4
 z4 := Tryz.sizeOf4
 v4 := Tryz.zeroValue4
 t5 := Tryz.underlying5
 a5 := Tryz.isAgg5
 z5 := Tryz.sizeOf5
 v5 := Tryz.zeroValue5
 t9 := Tryz.underlying9
 a9 := Tryz.isAgg9
 z9 := Tryz.sizeOf9
 v9 := Tryz.zeroValue9
 t20 := Tryz.underlying20
 a20 := Tryz.isAgg20
 z20 := Tryz.sizeOf20
 v20 := Tryz.zeroValue20
 t21 := Tryz.underlying21
 a21 := Tryz.isAgg21
 z21 := Tryz.sizeOf21
 v21 := Tryz.zeroValue21
 t37 := Tryz.underlying215
 a37 := Tryz.isAgg215
 z37 := Tryz.sizeOf215
 v37 := Tryz.zeroValue215
 t46 := Tryz.underlying189
 a46 := Tryz.isAgg189
 z46 := Tryz.sizeOf189
 v46 := Tryz.zeroValue189
 t51 := Tryz.underlying246
 a51 := Tryz.isAgg246
 z51 := Tryz.sizeOf246
 v51 := Tryz.zeroValue246
 t53 := Tryz.underlying248
 a53 := Tryz.isAgg248
 z53 := Tryz.sizeOf248
 v53 := Tryz.zeroValue248
 t75 := Tryz.underlying257
 a75 := Tryz.isAgg257
 z75 := Tryz.sizeOf257
 v75 := Tryz.zeroValue257
 t76 := Tryz.underlying258
 a76 := Tryz.isAgg258
 z76 := Tryz.sizeOf258
 v76 := Tryz.zeroValue258
 t85 := Tryz.underlying342
 a85 := Tryz.isAgg342
 z85 := Tryz.sizeOf342
 v85 := Tryz.zeroValue342
 t127 := Tryz.underlying312
 a127 := Tryz.isAgg312
 z127 := Tryz.sizeOf312
 v127 := Tryz.zeroValue312
 t143 := Tryz.underlying381
 a143 := Tryz.isAgg381
 z143 := Tryz.sizeOf381
 v143 := Tryz.zeroValue381
 t145 := Tryz.underlying383
 a145 := Tryz.isAgg383
 z145 := Tryz.sizeOf383
 v145 := Tryz.zeroValue383
 t167 := Tryz.underlying341
 a167 := Tryz.isAgg341
 z167 := Tryz.sizeOf341
 v167 := Tryz.zeroValue341
 t168 := Tryz.underlying344
 a168 := Tryz.isAgg344
 z168 := Tryz.sizeOf344
 v168 := Tryz.zeroValue344
 t171 := Tryz.underlying304
 a171 := Tryz.isAgg304
 z171 := Tryz.sizeOf304
 v171 := Tryz.zeroValue304
 t173 := Tryz.underlying306
 a173 := Tryz.isAgg306
 z173 := Tryz.sizeOf306
 v173 := Tryz.zeroValue306
 t175 := Tryz.underlying365
 a175 := Tryz.isAgg365
 z175 := Tryz.sizeOf365
 v175 := Tryz.zeroValue365
 t210 := Tryz.underlying368
 a210 := Tryz.isAgg368
 z210 := Tryz.sizeOf368
 v210 := Tryz.zeroValue368
 t212 := Tryz.underlying349
 a212 := Tryz.isAgg349
 z212 := Tryz.sizeOf349
 v212 := Tryz.zeroValue349
 t213 := Tryz.underlying350
 a213 := Tryz.isAgg350
 z213 := Tryz.sizeOf350
 t232 := Tryz.underlying384
 a232 := Tryz.isAgg384
 z232 := Tryz.sizeOf384
 v232 := Tryz.zeroValue384
 t233 := Tryz.underlying385
 a233 := Tryz.isAgg385
 z233 := Tryz.sizeOf385
 v233 := Tryz.zeroValue385
 g15 := kR
 g16 := kR
 g17 := kR
 g18 := kR
 g19 := kR
 t80 := Tryz.underlying271
 a80 := Tryz.isAgg271
 z80 := Tryz.sizeOf271
 v80 := Tryz.zeroValue271
 i0 := kR
 i2 := kR
 i3 := kR
 i4 := kR
 i5 := kR
 i9 := kR
 i20 := kR
 i21 := kR
 i37 := kR
 i46 := kR
 i51 := kR
 i53 := kR
 i75 := kR
 i76 := kR
 i80 := kR
 i85 := kR
 i127 := kR
 i143 := kR
 i145 := kR
 i167 := kR
 i168 := kR
 i171 := kR
 i173 := kR
 i175 := kR
 i210 := kR
 i212 := kR
 i232 := kR
 i233 := kR
 m15 := kR
 m16 := kR
 m17 := kR
 m18 := kR
 m19 := kR
 c0 := kR
 c2 := kR
 c3 := kR
 c4 := kR
 c5 := kR
 c9 := kR
 c20 := kR
 c21 := kR
 c37 := kR
 c46 := kR
 c51 := kR
 c53 := kR
 c75 := kR
 c76 := kR
 c80 := kR
 c85 := kR
 c127 := kR
 c143 := kR
 c145 := kR
 c167 := kR
 c168 := kR
 c171 := kR
 c173 := kR
 c175 := kR
 c210 := kR
 c212 := kR
 c213 := kR
 c232 := kR
 c233 := by kernel_rfl }
end Go.Proofs
namespace Go.Proofs
open Go Av Go.RowKit
variable {A : Nat → Prop} {w : World}
theorem JHu {f : Nat} {fn : Func} (h : Tryz.prog.funcs[f]? = some fn) (h1 : fn.body.isSome = true) (h2 : (fn.name == "runtime.NumGoroutine") = false) : Has Tryz.prog f := ⟨fn, h, h1, h2⟩
theorem JBr {vs : Array Value} (h : 1 = vs.size) : ∃ x, vs = #[x] := by
 refine ⟨vs[0], ?_⟩;apply Array.ext
 ·simp [← h]
 ·intro i h1 h2;have : i = 0 := oM;subst this; rfl
def XA (s : Str) : Int × Dat := match Lib.atoiAll s with
 | .ok v => (v, .nilIface)
 | .range => (Lib.atoiSat s, .iface 344 .opq)
 | _ => (0, .iface 344 .opq)
theorem JKa (hg : ∀ g cs, Xc g = some cs → Zp A w g cs) (g : Nat) (h : Xc g = some [.iface 381 .opq]) :
  ∃ ev, w.cell? ⟨g, 0, none⟩ = some ev ∧ (ev = .nilIface ∨ ∃ te pe, ev = .iface te pe) := by
 obtain ⟨h0, C, T, fr, h1, h2, h3, h4⟩ := hg g _ h;have hs : C[0]? = some (C[0]'(by simp at h2; omega)) := sP;have := h4 0 _ _ rfl hs;refine ⟨C[0]'(by simp at h2; omega), ?_, ?_⟩
 ·simp [World.cell?, h1]
 ·generalize C[0]'(by simp at h2; omega) = v at this;cases this with
  | iface t x v h => exact .inr ⟨_, _, rfl⟩
theorem Z8 {β : JM} {H : Heap} {x y : Dat} {u v : Value} (h1 : Rep A w x u) (h2 : Rep A w y v) : VRep β A w H (.tup [.d x, .d y]) (.tuple #[u, v]) := by
 refine .tup _ _ rfl ?_;intro i c z hc hz
 match i, hc, hz with
 | 0, hc, hz => cases hc; cases hz; exact .d _ _ h1
 | 1, hc, hz => cases hc; cases hz; exact .d _ _ h2
theorem JQ8 {v : Int} (h0 : -9223372036854775808 ≤ v) (h1 : v ≤ 9223372036854775807) : IntKind.i64.min ≤ v ∧ v ≤ IntKind.i64.max := by
 have e1 : IntKind.i64.min = -9223372036854775808 := dC;have e2 : IntKind.i64.max = 9223372036854775807 := dC;rw [e1, e2]; exact ⟨h0, h1⟩
theorem call222 (s : Str) (hs : s.length ≤ 68719476736) : CT 222 [.d (.str s)] [] (.tup [.d (.int .i64 (XA s).1), .d (XA s).2]) [] := by
 refine JQ.JAj (ds := [.str s]) (JHu Tryz.func222 kR kR) ?_;intro A w vs hg hl hv;obtain ⟨x, rfl⟩ := JBr hl;have hx := hv 0 _ x rfl rfl;cases hx with
 | str _ h =>
  have e : (⟨s.toArray⟩ : ByteArray).data.toList = s := sP;have hsz : (⟨s.toArray⟩ : ByteArray).size = s.length := by simp [ByteArray.size]
  cases ha : Lib.atoiAll s with
  | ok v =>
   have hv : XA s = (v, .nilIface) := by unfold XA; rw [ha]
   rw [hv];obtain ⟨b0, b1⟩ := Lib.atoiAll_bounds ha;refine (Any.strconv_Atoi_ok Tryz.JE7 ⟨s.toArray⟩ oM v (by rw [e]; exact ha) w).mono ?_;rintro e w' ⟨rfl, hw⟩;refine ⟨_, rfl, ?_, fun β H => Z8 (.int _ _ (JQ8 b0 b1)) .nilIface⟩;rcases hw with rfl | ⟨t, rfl⟩
   ·exact Below.refl _ _
   ·exact Lib.bytesWorld_below _ _ _
  | range =>
   have hv : XA s = (Lib.atoiSat s, .iface 344 .opq) := by unfold XA; rw [ha]
   rw [hv];obtain ⟨ev, g1, g2⟩ := JKa hg 5 rfl;obtain ⟨b0, b1⟩ := Lib.atoiSat_bounds s;refine (Any.strconv_Atoi_range Tryz.JE7 ⟨s.toArray⟩ oM (by rw [e]; exact ha) ev w g1 g2).mono ?_;rintro e' w' ⟨N, rfl, h1, h2, hb⟩;rw [e];exact ⟨_, rfl, hb, fun β H => Z8 (.int _ _ (JQ8 b0 b1)) (.iface _ _ _ (.opq _ rfl))⟩
  | _ =>
   have hv : XA s = (0, .iface 344 .opq) := by unfold XA; rw [ha]
   rw [hv];obtain ⟨ev, g1, g2⟩ := JKa hg 4 rfl;refine (Any.strconv_Atoi_syntax Tryz.JE7 ⟨s.toArray⟩ oM (by rw [e]; exact ha) ev w g1 g2).mono ?_;rintro e w' ⟨N, rfl, h1, h2, hb⟩;exact ⟨_, rfl, hb, fun β H => Z8 (.int _ _ (JQ8 oM oM)) (.iface _ _ _ (.opq _ rfl))⟩
theorem JNh (s : Str) : -9223372036854775808 ≤ (XA s).1 ∧ (XA s).1 ≤ 9223372036854775807 := by
 unfold XA;cases ha : Lib.atoiAll s with
 | ok v => exact Lib.atoiAll_bounds ha
 | range => exact Lib.atoiSat_bounds s
 | _ => exact ⟨by show (-9223372036854775808 : Int) ≤ 0; omega, by show (0 : Int) ≤ 9223372036854775807; omega⟩
theorem JFq (s : Str) : (XA s).2 = .nilIface ∨ (XA s).2 = .iface 344 .opq := by
 unfold XA;cases ha : Lib.atoiAll s with
 | ok v => exact .inl rfl
 | range => exact .inr rfl
 | _ => exact .inr rfl
theorem tabI (hg : ∀ g cs, Xc g = some cs → Zp A w g cs) : Lib.TabIs Tryz.prog w "internal/strconv.uint64pow10" .u64 Lib.pow10Tab := by
 obtain ⟨h0, C, T, fr, h1, h2, h3, h4⟩ := hg 3 JGQ rfl;have hn : Tryz.prog.globalNamed "internal/strconv.uint64pow10" = some 3 := kR;unfold Lib.TabIs World.var?;rw [hn];simp only [Option.bind_some, h1, Vd];have hlen : JGQ.length = 20 := by simp [JGQ]
 apply Array.ext
 ·rw [← h2, hlen]; simp [Lib.pow10Tab]
 ·intro i hi hi';have hi20 : i < 20 := by rw [← h2, hlen] at hi; exact hi
  have e1 : JGQ[i]? = some (.int .u64 ((10 ^ i : Nat) : Int)) := by simp [JGQ, hi20]
  have := h4 i _ C[i] e1 sP;generalize C[i] = v at this;cases this;simp [Lib.pow10Tab]
theorem call96 (n : Int) (h0 : -9223372036854775808 ≤ n) (h1 : n ≤ 9223372036854775807) : CT 96 [.d (.int .i64 n)] [] (.d (.str (Lib.itoa n))) [] := by
 refine JQ.JAj (ds := [.int .i64 n]) (JHu Tryz.func96 kR kR) ?_;intro A w vs hg hl hv;obtain ⟨x, rfl⟩ := JBr hl;have hx := hv 0 _ x rfl rfl;cases hx with
 | int =>
  refine (Any.strconv_Itoa Tryz.JQE n h0 h1 w (tabI hg)).mono ?_;rintro e w' ⟨rfl, k, os, rfl⟩;refine ⟨_, rfl, ?_, fun β H => .d _ _ (.str _ ?_)⟩
  ·refine ⟨rfl, rfl, rfl, by simp [Sort.grow], fun i hi => ?_⟩;show ((w.drewN k).heap ++ os)[i]? = _;rw [Array.getElem?_append_left (by show i < w.heap.size; omega)];rfl
  ·have := Lib.itoa_length_le n h0 h1;omega
end Go.Proofs
namespace Go.Proofs
open Go Av
theorem Con.rl {P : Program} {f : Nat} {ds cs : List Dat} {r : Dat} (h : Con P f (ds.map .d ++ [.ref 1000 0]) [(1000, .box (cs.map .d))] (.d r) []) (i : Nat) :
  JQ P f (ds.map .d ++ [.ref i 0]) [(i, some (.box (cs.map .d)))] (.d r) [] := by
 have h1 : ∀ j, (get [(1000, Obj.box (cs.map .d))] j).isSome = true → j = 1000 := by
  intro j hj;simp only [Av.get] at hj;split at hj
  ·rename_i e; exact e.symm
  ·cases hj
 have := h.call (fun _ => i) (fun j hj => by rw [h1 j hj]; decide) (fun a b ha hb _ => by rw [h1 a ha, h1 b hb]) ?_ (XT _ _) [] sP (XT _ _) trivial
 ·have e : (ds.map Av.d).map (Av.ren fun _ => i) = ds.map Av.d := by
   rw [List.map_map]; exact List.map_congr_left fun x _ => by simp [Av.ren]
  simpa [Av.ren, Obj.ren, JJG, e] using this
 ·intro c hc;rcases List.mem_append.1 hc with hc | hc
  ·obtain ⟨x, _, rfl⟩ := VC.1 hc; trivial
  ·rw [List.mem_singleton.1 hc]; rfl
noncomputable def Z9 (s : Str) : Int := if anyI (s.drop 1) < 0 then s.length else 1 + anyI (s.drop 1)
theorem JKb (s : Str) (h : 0 < s.length) : 1 ≤ Z9 s ∧ Z9 s ≤ s.length := by
 have := JKW (s.drop 1);rw [List.length_drop] at this;unfold Z9;split <;> omega
theorem JAA (s : Str) (k : Nat) : (s.drop k).take ((s.length : Int) - k).toNat = s.drop k := by
 apply List.take_of_length_le;rw [List.length_drop]; omega
theorem JFr (s : Str) (n : Int) (h : 0 ≤ n) : (s.drop n.toNat).take ((s.length : Int) - n).toNat = s.drop n.toNat := by
 have := JAA s n.toNat;rwa [Int.toNat_of_nonneg h] at this
theorem JQ9 (s : Str) (hs : s.length ≤ 68719476736) (h0 : 0 < s.length) : KT 218 ([Dat.int .i64 1].map .d ++ [.ref 1000 0]) [(1000, .box ([Dat.str s].map .d))] (.d (.int .i64 (Z9 s))) [] := by
 refine ok218.co (k := false) (XT _ _) trivial ?_;have t1 : Int.toNat 1 = 1 := rfl;have e1 : (s.drop 1).take ((s.length : Int) - 1).toNat = s.drop 1 := JAA s 1;have hd : (s.drop 1).length ≤ 68719476736 := by rw [List.length_drop]; omega
 have hb := JKW (s.drop 1);rw [List.length_drop] at hb;simp only [Va, Vb, List.cons_append, List.nil_append];simp only [go_sem, JTE, t1, e1, simprocAttr];refine ⟨oM, wn ((JQ2 (s.drop 1) hd).call trivial) ?_⟩;refine zz ?_;apply ik <;> intro h
 ·simp only [decide_eq_true_eq] at h;have : Z9 s = s.length := by unfold Z9; rw [if_pos h]
  rw [this]
 ·simp only [decide_eq_false_iff_not] at h;have : Z9 s = 1 + anyI (s.drop 1) := by unfold Z9; rw [if_neg h]
  rw [this];have hw : IntKind.i64.wrap (1 + anyI (s.drop 1)) = 1 + anyI (s.drop 1) := wrap64 oM oM;rw [hw]
noncomputable def Xj (s : Str) : Part × Str × Bool :=
 if JQ4 s [91, 42, 93] then (⟨3, 0, []⟩, s.drop 3, true)
 else if s.getD 0 0 = 46 then (⟨1, 0, (s.drop 1).take ((Z9 s) - 1).toNat⟩, s.drop (Z9 s).toNat, true)
 else if s.getD 0 0 = 63 then (⟨4, 0, (s.drop 1).take ((Z9 s) - 1).toNat⟩, s.drop (Z9 s).toNat, true)
 else (⟨2, (XA (Xp (s.drop 1) 93).1).1, []⟩, (Xp (s.drop 1) 93).2.1,
  ((((s.getD 0 0).toNat : Int) == 91) && (Xp (s.drop 1) 93).2.2) && ((YH (.d (XA (Xp (s.drop 1) 93).1).2)).getD false) && (Lib.itoa (XA (Xp (s.drop 1) 93).1).1 == (Xp (s.drop 1) 93).1))
theorem JES (s : Str) (c : UInt8) : (Xp s c).1.length ≤ s.length ∧ (Xp s c).2.1.length ≤ s.length := by
 unfold Xp;split
 ·simp only [List.length_take, List.length_drop]; omega
 ·simp
theorem JNi (s : Str) (h0 : 0 < s.length) : (Xj s).2.1.length < s.length ∧ (Xj s).1.name.length ≤ s.length := by
 have he := JKb s h0;unfold Xj;split
 ·simp only [List.length_drop, Vm]; omega
 split
 ·simp only [List.length_drop, List.length_take]; omega
 split
 ·simp only [List.length_drop, List.length_take]; omega
 ·have := JES (s.drop 1) 93;rw [List.length_drop] at this;simp only [Vm]; omega
theorem JRA (s : Str) (hs : s.length ≤ 68719476736) (h0 : 0 < s.length) : PT 147 [.str s] (.tup [.d (Jr (Xj s).1), .d (.str (Xj s).2.1), .d (.bool (Xj s).2.2)]) := by
 refine ok147.pc ?_;have he := JKb s h0;have t1 : Int.toNat 1 = 1 := rfl;have t3 : Int.toNat 3 = 3 := rfl;simp only [go_sem, JS9, simprocAttr];refine wc (Con.rl (JQ9 s hs h0) 1) ?_;refine wc ((JQ5 s [91, 42, 93] dC).call trivial) ?_;apply ik <;> intro hp
 ·have hv : Xj s = (⟨3, 0, []⟩, s.drop 3, true) := by unfold Xj; rw [if_pos hp]
  have hl : 3 ≤ s.length := by
   unfold JQ4 at hp;simp only [Vi, decide_eq_true_eq] at hp;have := hp.1;simp only [Vf, Vm] at this;omega
  rw [hv];have q := JAA s 3;refine ⟨oM, dC, ?_⟩;rw [show ((s.length : Int) - 3).toNat = ((s.length : Int) - (3 : Nat)).toNat from rfl, t3, q];rfl
 ·have q2 := JFr s (Z9 s) oM;have q3 := JAA s 1;refine ⟨oM, fun h46 => ?_, fun h46 => ⟨oM, fun h63 => ?_, fun h63 => ⟨oM, ?_⟩⟩⟩
  ·have hc : s.getD 0 0 = 46 := by
    simp only [t0', beq_iff_eq] at h46;have : (s.getD 0 0).toNat = (46 : UInt8).toNat := by exact_mod_cast h46
    exact UInt8.toNat_inj.1 this
   have hv : Xj s = (⟨1, 0, (s.drop 1).take ((Z9 s) - 1).toNat⟩, s.drop (Z9 s).toNat, true) := by unfold Xj; rw [if_neg (by simp [hp]), if_pos hc]
   refine ⟨oM, oM, dC, ?_⟩;rw [q2, hv, t1];rfl
  ·have hn46 : ¬ s.getD 0 0 = 46 := by
    intro e;simp only [t0', e] at h46;cases h46
   have hc : s.getD 0 0 = 63 := by
    simp only [t0', beq_iff_eq] at h63;have : (s.getD 0 0).toNat = (63 : UInt8).toNat := by exact_mod_cast h63
    exact UInt8.toNat_inj.1 this
   have hv : Xj s = (⟨4, 0, (s.drop 1).take ((Z9 s) - 1).toNat⟩, s.drop (Z9 s).toNat, true) := by unfold Xj; rw [if_neg (by simp [hp]), if_neg hn46, if_pos hc]
   refine ⟨oM, oM, dC, ?_⟩;rw [q2, hv, t1];rfl
  ·have hn46 : ¬ s.getD 0 0 = 46 := by
    intro e;simp only [t0', e] at h46;cases h46
   have hn63 : ¬ s.getD 0 0 = 63 := by
    intro e;simp only [t0', e] at h63;cases h63
   have hv : Xj s = (⟨2, (XA (Xp (s.drop 1) 93).1).1, []⟩, (Xp (s.drop 1) 93).2.1,
     ((((s.getD 0 0).toNat : Int) == 91) && (Xp (s.drop 1) 93).2.2) && ((YH (.d (XA (Xp (s.drop 1) 93).1).2)).getD false) && (Lib.itoa (XA (Xp (s.drop 1) 93).1).1 == (Xp (s.drop 1) 93).1)) := by
    unfold Xj; rw [if_neg (by simp [hp]), if_neg hn46, if_neg hn63]
   rw [hv, t1, show ((s.length : Int) - 1).toNat = ((s.length : Int) - (1 : Nat)).toNat from rfl, q3];have hd : (s.drop 1).length ≤ 68719476736 := by rw [List.length_drop]; omega
   refine wn ((JKY (s.drop 1) 93 hd).call (by simp [JU])) ?_;have hcl := JES (s.drop 1) 93;generalize hcut : Xp (s.drop 1) 93 = cu at *;obtain ⟨num, rest, closed⟩ := cu;refine zz ?_;have hnl : num.length ≤ 68719476736 := by simp only at hcl; omega
   have hab := JNh num;have hae := JFq num;refine wn (call222 num hnl) ?_;generalize hat : XA num = av at *;obtain ⟨iv, er⟩ := av;simp only at hab hae;simp only [go_sem, t0', simprocAttr];refine ⟨oM, Us closed (fun _ => ?_) ?_⟩
   ·exact zz trivial
   refine zz ?_;rcases hae with rfl | rfl
   ·refine Us true (fun _ => ?_) ?_
    ·simp only [go_sem, YH, simprocAttr]
    refine zz ?_;refine sq (Lib.itoa iv == num) ?_ ?_
    ·refine zz ?_;refine wc (call96 iv hab.1 hab.2) trivial
    refine zz70 ?_;rfl
   ·refine Us false (fun _ => ?_) ?_
    ·simp only [go_sem, YH, simprocAttr]
    refine zz ?_;refine sq (Lib.itoa iv == num) ?_ ?_
    ·refine zz ?_;refine wc (call96 iv hab.1 hab.2) trivial
    refine zz70 ?_;rfl
noncomputable def Xk : Nat → Str → Option (List Part)
 | 0, _ => some []
 | f + 1, r => if r == [] then some [] else if !(Xj r).2.2 || !(J7 (Xj r).1) then none else match Xk f (Xj r).2.1 with
  | some ps => some ((Xj r).1 :: ps)
  | none => none
noncomputable def JH (s : Str) : List Part × Int :=
 if s == [] then ([], 4) else if (s.length : Int) > 200 then ([], 5) else match Xk (s.length + 2) (46 :: s) with
  | some ps => if (ps.length : Int) > 16 then ([], 9) else (ps, 0)
  | none => ([], 13)
theorem JBs (l : List Part) : Ji (l.map Jr) = l.map Jr := by
 rw [Uf, List.map_map];exact List.map_congr_left fun p _ => by simp [Jr, Dat.canon, Ji]
attribute [go_sem] JBs
theorem JCc (s : Str) (hs : s.length ≤ 68719476736) : PT 80 [.str s] (.tup [.d (.list 3 ((JH s).1.map Jr)), .d (.int .i64 (JH s).2)]) := by
 refine ok80.pc ?_;simp only [go_sem, ir80, simprocAttr];refine ⟨fun h0 => ?_, fun h0 => ⟨fun h200 => ?_, fun h200 => ?_⟩⟩
 ·have : JH s = ([], 4) := by unfold JH; rw [if_pos h0]
  rw [this]; rfl
 ·have : JH s = ([], 5) := by
   unfold JH; rw [if_neg (by simp [h0])];simp only [decide_eq_true_eq] at h200;rw [if_pos h200]
  rw [this]; rfl
 have hR : JH s = match Xk (s.length + 2) (46 :: s) with
  | some ps => if (ps.length : Int) > 16 then ([], 9) else (ps, 0)
  | none => ([], 13) := by
   unfold JH; rw [if_neg (by simp [h0])];simp only [decide_eq_false_iff_not] at h200;rw [if_neg h200]
 generalize hr0 : Xk (s.length + 2) (46 :: s) = R at hR;simp only [decide_eq_false_iff_not] at h200;refine ⟨by first | omega | (simp; omega), ?_⟩;refine JJ (fun n st => ∃ (ps : List Part) (rest : Str), rest.length < n ∧ ps.length + rest.length ≤ 201 ∧ rest.length ≤ 68719476736 ∧ R = (Xk n rest).map (ps ++ ·) ∧
  st = ⟨[(4, .ms 36 ps.length), (5, .d (.str rest))], [(36, .row ps.length 3 (ps.map Jr))]⟩) ?_ ?_
 ·refine ⟨s.length + 2, _, Wk.JId 4 36 3 rfl rfl dC, [], 46 :: s, sP, sO, sO, ?_, rfl⟩;rw [hr0]; cases R <;> simp
 ·rintro n st ⟨ps, rest, hn, hb, hl, hinv, rfl⟩;by_cases he : rest = []
  ·subst he;obtain ⟨n, rfl⟩ : ∃ m, n = m + 1 := by cases n with | zero => simp at hn | succ m => exact ⟨m, rfl⟩
   have e1 : (([] : Str) == []) = true := rfl;have hRp : R = some ps := by rw [hinv]; simp [Xk]
   subst hRp;simp only at hR;simp only [go_sem, e1, Vr, Vc, simprocAttr];apply ik <;> intro h16
   ·have h16 : (ps.length : Int) > 16 := sX h16;rw [if_pos h16] at hR;rw [hR]; rfl
   ·have h16 : ¬ (ps.length : Int) > 16 := sX h16;rw [if_neg h16] at hR;rw [hR]
  ·have h0r : 0 < rest.length := List.length_pos_iff.2 he;have e2 : (rest == []) = false := sX he;obtain ⟨n, rfl⟩ : ∃ m, n = m + 1 := by cases n with | zero => omega | succ m => exact ⟨m, rfl⟩
   have hlt := JNi rest h0r;simp only [Xk, e2] at hinv;simp only [go_sem, e2, Vs, simprocAttr];refine wn ((JRA rest hl h0r).call (by simp [JU])) ?_;generalize htk : Xj rest = tk at *;obtain ⟨⟨pk, pi, pn⟩, nx, is⟩ := tk;simp only at hlt hinv;simp only [go_sem, Jr, simprocAttr];have hv := JKZ ⟨pk, pi, pn⟩ (by simp only; omega);refine sq (!J7 ⟨pk, pi, pn⟩) ?_ ?_
   ·refine zz ?_;refine wc (hv.call trivial) trivial
   refine zz ?_;apply ik <;> intro hf
   ·rw [hf] at hinv;simp only [↓reduceIte, Option.map_none] at hinv;subst hinv;rw [hR]; rfl
   ·rw [hf] at hinv;refine ⟨sP, sO, n, _, oM, Wk.less ?_, ps ++ [⟨pk, pi, pn⟩], nx, oM, sO, oM, ?_, rfl⟩
    ·simp only [go_sem, Jr, Vg, List.length_singleton, Vw, Va, Vb, simprocAttr]
    ·rw [hinv];cases Xk n nx <;> simp
def eqP (a b : Part) : Bool := (a.kind == b.kind) && ((a.index == b.index) && ((a.name == b.name) && true))
theorem JDW {a b : Part} : eqP a b = true ↔ a = b := by
 obtain ⟨k, i, n⟩ := a;obtain ⟨k', i', n'⟩ := b;simp [eqP]
def Zl : List Part → List Part → Bool
 | [], [] => true
 | a :: r, b :: s => eqP a b && Zl r s
 | _, _ => false
theorem JBt : ∀ {a b : List Part}, Zl a b = true ↔ a = b
 | [], [] => by simp [Zl]
 | [], _ :: _ => by simp [Zl]
 | _ :: _, [] => by simp [Zl]
 | a :: r, b :: s => by simp [Zl, JDW, JBt]
theorem Yi {xs : List Part} {k : Nat} (h : k < xs.length) : nth (xs.map Jr) k = .agg [.int .i64 xs[k].kind, .int .i64 xs[k].index, .str xs[k].name] := by
 rw [U2 (sX h), List.getElem_map, Jr]
theorem eqP_ne {xs ys : List Part} {k : Nat} (h : k < xs.length) (h' : k < ys.length) (hf : eqP xs[k] ys[k] = false) : Zl xs ys = false := by
 cases e : Zl xs ys with
 | false => rfl
 | true =>
  have := JBt.1 e;subst this;have := (JDW (a := xs[k]) (b := xs[k])).2 rfl;rw [hf] at this;cases this
theorem JRB (xs ys : List Part) (hx : xs.length ≤ 68719476736) : PT 151 [.list 3 (xs.map Jr), .list 3 (ys.map Jr)] (.d (.bool (Zl xs ys))) := by
 refine ok151.pc ?_;simp only [go_sem, JTD, Vc, simprocAttr];apply ik <;> intro h
 ·have : Zl xs ys = false := by
   cases e : Zl xs ys with
   | false => rfl
   | true => have := JBt.1 e; subst this; simp at h
  rw [this]
 have hl : xs.length = ys.length := by
  have h' : (xs.length : Int) = ys.length := sX h;omega
 refine JJ (fun n s => ∃ k : Nat, k ≤ xs.length ∧ n = xs.length - k ∧ (∀ (j : Nat) (h1 : j < xs.length) (h2 : j < ys.length), j < k → eqP xs[j] ys[j] = true) ∧
  s = ⟨[(0, .d (.list 3 (xs.map Jr))), (1, .d (.list 3 (ys.map Jr))), (12, .d (.int .i64 xs.length)), (13, .d (.int .i64 k))], []⟩) ?_ ?_
 ·exact ⟨_, _, Wk.refl _, 0, Nat.zero_le _, rfl, sP, rfl⟩
 ·rintro n s ⟨k, hk, rfl, hinv, rfl⟩;by_cases hlt : k < xs.length
  ·have hlty : k < ys.length := oM;have hx := Yi hlt;have hy := Yi hlty;have hd := dT hlt;simp only [go_sem, hx, hy, hd, Vv, Vc, simprocAttr];refine ⟨oM, oM, fun hf => ?_, fun hf => ?_⟩
   ·have : eqP xs[k] ys[k] = false := by rw [Bool.not_eq_true'] at hf; exact hf
    rw [eqP_ne hlt hlty this]
   ·have hq : eqP xs[k] ys[k] = true := by rw [Bool.not_eq_false'] at hf; exact hf
    refine ⟨xs.length - (k + 1), _, oM, Wk.less ?_, k + 1, oM, rfl, ?_, rfl⟩
    ·exact Y6 trivial
    ·intro j h1 h2 hj;by_cases e : j = k
     ·subst e; exact hq
     ·exact hinv j h1 h2 oM
  ·have hd := dF hlt;refine JAl ?_;have : Zl xs ys = true := by
    rw [JBt];apply List.ext_getElem hl;intro i h1 h2;exact JDW.1 (hinv i h1 h2 oM)
   rw [this]
def XQ (l front : List Part) : Bool := decide ((l.length : Int) ≥ front.length) && Zl (l.take front.length) front
theorem JNj (l o : List Part) (hl : l.length ≤ 68719476736) (ho : o.length ≤ 68719476736) : PT 85 [.list 3 (l.map Jr), .list 3 (o.map Jr)] (.d (.bool (XQ l o))) := by
 refine ok85.pc ?_;simp only [go_sem, ir85, Vc, simprocAttr];refine Us (Zl (l.take o.length) o) (fun h => ?_) ?_
 ·simp only [decide_eq_true_eq] at h;refine zz7 ?_;have e : ((o.length : Int) - 0).toNat = o.length := oM;rw [e, t0', List.drop_zero, ← List.map_take];refine ⟨oM, wn ((JRB (l.take o.length) o sO).call trivial) ?_⟩;exact zz trivial
 ·simp only [go_sem, XQ, simprocAttr]
theorem walk82 (p : Part) : PT 82 [Jr p] (.d (.bool (p.kind != 1))) := by
 refine ok82.pc ?_;simp only [Jr];simp only [go_sem, ir82, simprocAttr]
def JNk (l : List Part) : Int := match l.findIdx? (fun p => p.kind != 1) with
 | some k => (k : Int)
 | none => -1
theorem JRC (l : List Part) (hl : l.length ≤ 68719476736) : PT 149 [.list 3 (l.map Jr), .fn (.func 82) [] []] (.d (.int .i64 (JNk l))) := by
 refine JTB.pc ?_;refine zz71 ?_;refine JJ (fun n s => ∃ k : Nat, k ≤ l.length ∧ n = l.length - k ∧ (∀ (j : Nat) (h1 : j < l.length), j < k → (l[j].kind != 1) = false) ∧
  s = ⟨[(0, .d (.list 3 (l.map Jr))), (1, .d (.fn (.func 82) [] [])), (7, .d (.int .i64 l.length)), (8, .d (.int .i64 k))], []⟩) ?_ ?_
 ·exact ⟨_, _, Wk.refl _, 0, Nat.zero_le _, rfl, sP, rfl⟩
 ·rintro n s ⟨k, hk, rfl, hinv, rfl⟩;by_cases hlt : k < l.length
  ·have hx := Yi hlt;have hd := dT hlt;have hc := (walk82 l[k]).call trivial;simp only [Jr] at hc;refine zz8 ?_;refine ⟨oM, wn hc ?_⟩;refine zz ?_;apply ik <;> intro hf
   ·have : l.findIdx? (fun p => p.kind != 1) = some k := by
     rw [List.findIdx?_eq_some_iff_getElem];exact ⟨hlt, hf, fun j hj => by rw [hinv j oM hj]; decide⟩
    simp only [JNk, this]
   ·refine ⟨l.length - (k + 1), _, oM, Wk.less ?_, k + 1, oM, rfl, ?_, rfl⟩
    ·exact Y6 trivial
    ·intro j h1 hj;by_cases e : j = k
     ·subst e; exact hf
     ·exact hinv j h1 oM
  ·have hd := dF hlt;refine JAl ?_;have : l.findIdx? (fun p => p.kind != 1) = none := by
    rw [List.findIdx?_eq_none_iff];intro x hx;obtain ⟨j, hj, rfl⟩ := List.getElem_of_mem hx;exact hinv j hj oM
   simp only [JNk, this]
def JJJ (l : List Part) : Bool := l.any fun p => p.kind != 1
theorem walk81 (l : List Part) (hl : l.length ≤ 68719476736) : PT 81 [.list 3 (l.map Jr), .fn (.func 82) [] []] (.d (.bool (JJJ l))) := by
 refine ok81.pc ?_;simp only [go_sem, ir81, simprocAttr];refine wn ((JRC l hl).call trivial) ?_;have : decide (JNk l ≥ 0) = JJJ l := by
  unfold JNk JJJ;cases e : l.findIdx? (fun p => p.kind != 1) with
  | none =>
   rw [List.findIdx?_eq_none_iff] at e;have : (l.any fun p => p.kind != 1) = false := by rw [List.any_eq_false]; intro x hx; rw [e x hx]; decide
   rw [this]; simp
  | some k =>
   obtain ⟨h1, h2, _⟩ := List.findIdx?_eq_some_iff_getElem.1 e;have : (l.any fun p => p.kind != 1) = true := by rw [List.any_eq_true]; exact ⟨_, Vk h1, h2⟩
   rw [this]; simp
 exact zz56 trivial
theorem step55 (a : Val) (ha : a.list.length ≤ 68719476736) (ha2 : a.fields.length ≤ 68719476736) (h1 : ∀ x ∈ a.list, CT 55 [.d (JB x)] [] (.d (JB x)) []) (h2 : ∀ x ∈ a.fields, CT 55 [.d (JB x.value)] [] (.d (JB x.value)) []) :
  PT 55 [JB a] (.d (JB a)) := by
 refine ok55.pc ?_;rw [JA];simp only [go_sem, ir55, simprocAttr];refine JJ (fun n s => ∃ k : Nat, k ≤ a.list.length ∧ n = a.list.length - k ∧
  s = ⟨[(1, .ref 1 0), (2, .ref 2 0), (3, .ref 3 0), (12, .d (.list 6 (a.list.map JB))), (13, .d (.int .i64 a.list.length)), (14, .d (.int .i64 k))],
   [(1, .box [.d (.int .i64 a.kind), .d (.int .i64 a.int), .d (.int .i64 a.scale), .d (.str a.text), .d (.list 6 (a.list.map JB)), .d (.list 7 (a.fields.map Jh))]),
    (2, .box [.d (.int .i64 0), .d (.int .i64 0), .d (.int .i64 0), .d (.str []), .d (.nil 6), .d (.nil 7)]),
    (3, .box [.d (.int .i64 a.kind), .d (.int .i64 a.int), .d (.int .i64 a.scale), .d (.str a.text), .ms 23 k, .d (.nil 7)]),
    (23, .row k 6 ((a.list.take k).map JB))]⟩) ?_ ?_
 ·refine ⟨_, _, Wk.JIe 3 4 23 6 _ rfl rfl rfl dC, 0, Nat.zero_le _, rfl, ?_⟩;simp [put]
 ·rintro n s ⟨k, hk, rfl, rfl⟩;by_cases hlt : k < a.list.length
  ·have hx := Jy hlt;have hd := dT hlt;refine JIx ?_;have hc := h1 a.list[k] (Vk _);rw [JA] at hc;refine ⟨sO, JC rfl hc trivial ?_⟩;refine zz ?_;refine ⟨sP, sO, rfl, a.list.length - (k + 1), _, oM, Wk.less ?_, k + 1, oM, rfl, rfl⟩;rw [List.take_succ_eq_append_getElem hlt, Vw];simp only [go_sem, Jj k oM, Va, Vb, JA a.list[k], Nat.reduceAdd, Nat.reduceEqDiff, Nat.reduceBEq, Nat.reduceLeDiff, reduceCtorEq, ↓reduceIte]
  ·have hd := dF hlt;obtain rfl : k = a.list.length := oM;refine JGF ?_;refine JJ (fun n s => ∃ k : Nat, k ≤ a.fields.length ∧ n = a.fields.length - k ∧
    s = ⟨[(2, .ref 2 0), (3, .ref 3 0), (27, .d (.list 7 (a.fields.map Jh))), (28, .d (.int .i64 a.fields.length)), (29, .d (.int .i64 k))],
     [(2, .box [.d (.int .i64 0), .d (.int .i64 0), .d (.int .i64 0), .d (.str []), .d (.nil 6), .d (.nil 7)]),
      (3, .box [.d (.int .i64 a.kind), .d (.int .i64 a.int), .d (.int .i64 a.scale), .d (.str a.text), .ms 23 a.list.length, .ms 42 k]),
      (23, .row a.list.length 6 (a.list.map JB)),
      (42, .row k 7 ((a.fields.take k).map Jh))]⟩) ?_ ?_
   ·refine ⟨_, _, (Wk.JIe 3 5 42 7 _ rfl rfl rfl dC).trans (Wk.less ?_), 0, Nat.zero_le _, rfl, rfl⟩;simp [put, go_sem]
   ·rintro n s ⟨k, hk, rfl, rfl⟩;by_cases hlt : k < a.fields.length
    ·have hx := J5 hlt;have hd := dT hlt;have hc := h2 a.fields[k] (Vk _);rw [JA] at hc;refine JIx ?_;refine ⟨sO, JC rfl hc trivial ?_⟩;refine zz ?_;refine ⟨sP, sO, rfl, a.fields.length - (k + 1), _, oM, Wk.less ?_, k + 1, oM, rfl, rfl⟩;rw [List.take_succ_eq_append_getElem hlt, Vw];simp only [go_sem, Jj k oM, Va, Vb, J3 a.fields[k], Nat.reduceAdd, Nat.reduceEqDiff, Nat.reduceBEq, Nat.reduceLeDiff, reduceCtorEq, ↓reduceIte]
    ·have hd := dF hlt;obtain rfl : k = a.fields.length := oM;exact JGF trivial
mutual
theorem JCd : ∀ (a : Val), okV a → PT 55 [JB a] (.d (JB a))
 | .mk k i s t l f, ha => by
  simp only [okV] at ha;obtain ⟨a1, a2, a3, a4⟩ := ha;exact step55 _ a1 a2 (fun x hx => (JGW l a3 x hx).call trivial) (fun x hx => (JGX f a4 x hx).call trivial)
theorem JGW : ∀ (l : List Val), Yw l → ∀ x ∈ l, PT 55 [JB x] (.d (JB x))
 | [], _, x, h => by cases h
 | v :: r, ho, x, h => by
  simp only [Yw] at ho;by_cases e : x = v
  ·rw [e]; exact JCd v ho.1
  ·exact JGW r ho.2 x ((VA.1 h).resolve_left e)
theorem JGX : ∀ (l : List Fld), ZE l → ∀ x ∈ l, PT 55 [JB x.value] (.d (JB x.value))
 | [], _, x, h => by cases h
 | .mk n v :: r, ho, x, h => by
  simp only [ZE, okF] at ho;by_cases e : x = .mk n v
  ·rw [e]; exact JCd v ho.1
  ·exact JGX r ho.2 x ((VA.1 h).resolve_left e)
end
end Go.Proofs
namespace Go.Proofs
open Go Av
open Av.Y
def ir228 : Ic := q (R (oz 2 0<|N) [2])<|q (q (R (om 6 0<|oh 7 6<|oi 8 .lss 7 1<|om 9 8<|.sc 9 false (om 10 0<|oh 11 10<|oi 12 .gtr 11 16<|N) (t 12) 13 (om 14 13<|.sc 14 false (om 15 0<|oo 16 (.ixa true 3 (t 15) (i 0))<|of 17 16 0<|ol 18 17<|oi 19 .neq 18 1<|N) (t 19) 20 N)) [6,7,8,9,13,14])<|D (I 20 (q (R (oz 2 3<|N) [0,20])<|.ret) S) [20])<|q (.reg (oz 3 (-1)<|N))<|q (q (R (om 21 0<|oh 22 21<|oz 23 0<|N) [0])<|D (.block 0<|.loop (q (.reg (ot 24 .lss 23 22<|N))<|q (D (I 24 S (E 0)) [24])<|q (D (.block 1<|q (R (oa true 25 3 21 23<|oL 26 3 25<|oN 5 [.int .i64 0,.int .i64 0,.str []]<|oS 3 5 26<|N) [25,26])<|q (q (R (oL 27 3 5<|cl 28 148 [t 27]<|og 29 28<|N) [27,28])<|D (I 29 (q (R (oz 2 3<|N) [3,21,22,23,5,29])<|.ret) S) [29])<|R (om 30 3<|oL 31 3 5<|cl 32 284 [t 31]<|oj 33 32<|ot 34 .add 30 33<|om 3 34<|N) [5,30,31,32,33,34]) [])<|R (oi 35 .add 23 1<|om 23 35<|N) [35])) [21,22,23,24,5])<|q (q (R (om 36 3<|oi 37 .gtr 36 200<|N) [3,36])<|D (I 37 (q (R (oz 2 3<|N) [37])<|.ret) S) [37])<|q (.reg (oz 2 0<|N))<|.ret
theorem ok228 : FT 228 38 ir228 [.tmp 2] := .o Tryz.func228
def ir284 : Ic := q (R (ox 1 0<|ok 2 (.k (.str []))<|N) [0,2])<|q (q (R (of 3 1 0<|ol 4 3<|N) [3])<|D (.block 0<|q (R (oi 6 .eql 4 1<|om 5 6<|N) [6])<|D (I 5 (q (R (of 7 1 2<|ol 8 7<|ob 9 .cat (.k (.str [46])) (t 8)<|om 2 9<|N) [1,4,5,7,8,9])<|.ret) (q (R (oi 11 .eql 4 2<|om 10 11<|N) [5,11])<|D (I 10 (q (R (of 12 1 1<|ol 13 12<|cl 14 96 [t 13]<|ob 15 .cat (.k (.str [91])) (t 14)<|ob 16 .cat (t 15) (.k (.str [93]))<|om 2 16<|N) [1,4,10,12,13,14,15,16])<|.ret) (q (R (oi 18 .eql 4 3<|om 17 18<|N) [4,10,18])<|D (I 17 (q (R (ok 2 (.k (.str [91,42,93]))<|N) [1,17])<|.ret) S) [17])) [])) []) [7,8,9])<|q (R (of 19 1 2<|ol 20 19<|ob 21 .cat (.k (.str [63])) (t 20)<|om 2 21<|N) [1,19,20,21])<|.ret
theorem ok284 : FT 284 22 ir284 [.tmp 2] := .o Tryz.func284
def ir229 : Ic := q (R (ox 2 0<|ox 3 1<|ow 4 false<|N) [0,1,4])<|q (q (R (of 5 2 0<|ol 6 5<|N) [2,5])<|D (.block 0<|q (R (oi 8 .eql 6 1<|om 7 8<|N) [8])<|D (I 7 (q (R (of 9 3 0<|ol 10 9<|oi 11 .eql 10 9<|om 4 11<|N) [3,6,7,9,10,11])<|.ret) (q (R (oi 13 .eql 6 4<|om 12 13<|N) [6,7,13])<|D (I 12 (q (R (of 14 3 0<|ol 15 14<|oi 16 .eql 15 10<|om 17 16<|.sc 17 true (of 18 3 4<|ol 19 18<|oh 20 19<|oi 21 .eql 20 1<|N) (t 21) 22 (om 4 22<|N)) [3,12,14,15,16,17,22])<|.ret) S) [12])) []) [9,10,11])<|q (R (of 23 3 0<|ol 24 23<|oi 25 .eql 24 8<|om 4 25<|N) [3,23,24,25])<|.ret
theorem ok229 : FT 229 26 ir229 [.tmp 4] := .o Tryz.func229
def ir230 : Ic := q (R (ox 2 0<|ox 3 1<|ok 4 (.k (.nil 6))<|N) [0,1,4])<|q (D (.block 0<|q (R (of 7 2 0<|ol 8 7<|oi 9 .eql 8 1<|om 6 9<|N) [7,8,9])<|I 6 (q (R (oL 10 6 3<|of 11 2 2<|ol 12 11<|cl 13 285 [t 10,t 12]<|om 5 13<|N) [2,6,10,11,12,13])<|q (R (om 14 5<|oi 15 .geq 14 0<|N) [14])<|D (I 15 (q (R (of 16 3 5<|ol 17 16<|om 18 5<|oa true 19 7 17 18<|of 20 19 1<|oL 21 6 20<|oo 22 (.bls 6 [t 21])<|om 4 22<|N) [3,5,15,16,17,18,19,20,21,22])<|.ret) S) [3,5,15]) (q (R (of 24 2 0<|ol 25 24<|oi 26 .eql 25 3<|om 27 26<|.sc 27 false (of 28 2 0<|ol 29 28<|oi 30 .eql 29 4<|om 31 30<|.sc 31 true (of 32 3 3<|ol 33 32<|of 34 2 2<|ol 35 34<|ot 36 .seq 33 35<|N) (t 36) 37 N) (t 37) 38 (om 23 38<|N)) [6,24,25,26,27,38])<|D (I 23 (q (R (of 39 3 4<|ol 40 39<|om 4 40<|N) [2,3,23,39,40])<|.ret) (q (R (of 42 2 0<|ol 43 42<|oi 44 .eql 43 2<|om 45 44<|.sc 45 true (of 46 2 1<|ol 47 46<|of 48 3 4<|ol 49 48<|oh 50 49<|ot 51 .lss 47 50<|N) (t 51) 52 (om 41 52<|N)) [23,42,43,44,45,52])<|D (I 41 (q (R (of 53 3 4<|ol 54 53<|of 55 2 1<|ol 56 55<|of 57 2 1<|ol 58 57<|oi 59 .add 58 1<|oo 60 (.slc 6 (t 54) (some (t 56)) (some (t 59)) none)<|om 4 60<|N) [2,3,41,53,54,55,56,57,58,59,60])<|.ret) S) [2,3,41])) [])) [10,11,5])<|q (.reg (ok 4 (.k (.nil 6))<|N))<|.ret
theorem ok230 : FT 230 61 ir230 [.tmp 4] := .o Tryz.func230
def ir285 : Ic := q (R (ox 2 0<|ox 3 1<|oz 4 0<|N) [0,1,4])<|q (R (of 5 2 5<|ol 6 5<|oo 7 (.fnv (.func 335) [] [t 3])<|cl 8 144 [t 6,t 7]<|om 4 8<|N) [2,3,5,6,7,8])<|.ret
theorem ok285 : FT 285 9 ir285 [.tmp 4] := .o Tryz.func285
def ir335 : Ic := q (R (ox 2 0<|ow 3 false<|N) [0,3])<|q (R (of 4 2 0<|ol 5 4<|ol 6 1<|ot 7 .seq 5 6<|om 3 7<|N) [2,4,5,6,7])<|.ret
theorem ok335 : FT 335 8 ir335 [.tmp 3] := .o Tryz.func335
def ir179 : Ic := q (R (ow 2 false<|N) [2])<|q (R (om 3 0<|cl 4 81 [t 3,.k (.fn (.func 231) [] [])]<|om 2 4<|N) [0,3,4])<|.ret
theorem ok179 : FT 179 5 ir179 [.tmp 2] := .o Tryz.func179
def ir231 : Ic := q (R (ox 1 0<|ow 2 false<|N) [0,2])<|q (R (of 3 1 0<|ol 4 3<|oi 5 .eql 4 3<|om 2 5<|N) [1,3,4,5])<|.ret
theorem ok231 : FT 231 6 ir231 [.tmp 2] := .o Tryz.func231
def ir178 : Ic := q (R (ox 2 0<|ok 4 (.k (.nil 6))<|oz 5 0<|N) [0,4,5])<|q (q (R (om 16 1<|cl 17 228 [t 16]<|om 6 17<|N) [16,17])<|q (R (om 18 6<|oi 19 .neq 18 0<|N) [18])<|D (I 19 (q (R (om 20 6<|ok 4 (.k (.nil 6))<|om 5 20<|N) [1,2,6,19,20])<|.ret) S) [6,19])<|q (R (oL 21 6 2<|oo 22 (.bls 6 [t 21])<|om 7 22<|N) [2,21,22])<|q (q (.reg (om 23 1<|oh 24 23<|oz 25 0<|N))<|D (.block 0<|.loop (q (.reg (ot 26 .lss 25 24<|N))<|q (D (I 26 S (E 0)) [26])<|q (D (.block 1<|q (R (oa true 27 3 23 25<|oL 28 3 27<|oN 9 [.int .i64 0,.int .i64 0,.str []]<|oS 3 9 28<|N) [27,28])<|q (.reg (ok 10 (.k (.nil 6))<|N))<|q (q (R (om 29 7<|oh 30 29<|oz 31 0<|N) [7])<|D (.block 2<|.loop (q (.reg (ot 32 .lss 31 30<|N))<|q (D (I 32 S (E 2)) [32])<|q (D (.block 3<|q (R (oa true 33 6 29 31<|oL 34 6 33<|oN 12 v6<|oS 6 12 34<|N) [33,34])<|q (q (R (oL 35 3 9<|oL 36 6 12<|cl 37 229 [t 35,t 36]<|og 38 37<|N) [35,36,37])<|D (I 38 (q (R (ok 4 (.k (.nil 6))<|oz 5 22<|N) [1,23,24,25,9,10,29,30,31,12,38])<|.ret) S) [38])<|R (om 39 10<|oL 40 3 9<|oL 41 6 12<|cl 42 230 [t 40,t 41]<|oo 43 (.app 6 (t 39) (t 42))<|om 10 43<|N) [12,39,40,41,42,43]) [])<|R (oi 44 .add 31 1<|om 31 44<|N) [44])) [9,29,30,31,32])<|R (om 45 10<|om 7 45<|N) [10,45]) [])<|R (oi 46 .add 25 1<|om 25 46<|N) [46])) [23,24,25,26,9,10])<|q (q (R (om 47 7<|oh 48 47<|oi 49 .eql 48 0<|om 50 49<|.sc 50 true (om 51 1<|cl 52 179 [t 51]<|og 53 52<|N) (t 53) 54 N) [1,47,48,49,50])<|D (I 54 (q (R (ok 4 (.k (.nil 6))<|oz 5 19<|N) [7,54])<|.ret) S) [54])<|q (.reg (ok 13 (.k (.nil 6))<|N))<|q (q (R (om 55 7<|oh 56 55<|oz 57 0<|N) [7])<|D (.block 4<|.loop (q (.reg (ot 58 .lss 57 56<|N))<|q (D (I 58 S (E 4)) [58])<|q (D (.block 5<|q (R (oa true 59 6 55 57<|oL 60 6 59<|oN 15 v6<|oS 6 15 60<|N) [59,60])<|R (om 61 13<|oL 62 6 15<|cl 63 55 [t 62]<|oo 64 (.bls 6 [t 63])<|oo 65 (.app 6 (t 61) (t 64))<|om 13 65<|N) [15,61,62,63,64,65]) [])<|R (oi 66 .add 57 1<|om 57 66<|N) [66])) [55,56,57,58])<|q (R (om 67 13<|om 4 67<|oz 5 0<|N) [13,67])<|.ret
theorem ok178 : FT 178 68 ir178 [.tmp 4, .tmp 5] := .o Tryz.func178
def ir125 : Ic := q (R (ox 2 0<|oN 4 v6<|oz 5 0<|N) [0,5])<|q (R (oL 9 6 2<|om 10 1<|cl 11 178 [t 9,t 10]<|om 8 11<|oe 12 8 0<|oe 13 8 1<|om 6 12<|om 7 13<|N) [2,9,10,11,8,12,13])<|q (D (.block 0<|q (R (om 15 7<|oi 16 .neq 15 0<|om 14 16<|N) [15,16])<|D (I 14 (q (R (oo 17 (.bld v6 [])<|om 18 7<|oS 6 4 17<|om 5 18<|N) [1,6,7,14,17,18])<|.ret) (q (R (om 20 1<|cl 21 179 [t 20]<|om 19 21<|N) [1,7,14,20,21])<|D (I 19 (q (R (om 22 6<|oo 23 (.bld v6 [(0,1,i 8),(4,1,t 22)])<|oS 6 4 23<|oz 5 0<|N) [6,19,22,23])<|.ret) S) [19])) []) [])<|q (R (om 24 6<|oo 25 (.ixa true 6 (t 24) (i 0))<|oL 26 6 25<|oS 6 4 26<|oz 5 0<|N) [6,24,25,26])<|.ret
theorem ok125 : FT 125 27 ir125 [.cell 4 (some 6), .tmp 5] := .o Tryz.func125
def ir180 : Ic := q (R (oN 2 [.int .i64 0,.int .i64 0]<|oz 3 0<|N) [3])<|q (q (R (om 8 0<|oh 9 8<|oi 10 .gtr 9 256<|N) [8,9])<|D (I 10 (q (R (oo 11 (.bld [.int .i64 0,.int .i64 0] [])<|oS 2 2 11<|oz 3 9<|N) [0,10,11])<|.ret) S) [10])<|q (q (R (om 12 0<|cl 13 59 [t 12]<|om 4 13<|N) [12,13])<|q (R (om 14 4<|oi 15 .neq 14 0<|N) [14])<|D (I 15 (q (R (oo 16 (.bld [.int .i64 0,.int .i64 0] [])<|om 17 4<|oS 2 2 16<|om 3 17<|N) [0,4,15,16,17])<|.ret) S) [4,15])<|q (.reg (oz 5 0<|N))<|q (q (.reg (om 18 0<|oh 19 18<|oz 20 0<|N))<|D (.block 0<|.loop (q (.reg (ot 21 .lss 20 19<|N))<|q (D (I 21 S (E 0)) [21])<|q (D (.block 1<|q (R (oa true 22 2 18 20<|oL 23 2 22<|oN 7 [.int .i64 0,.int .i64 0]<|oS 2 7 23<|N) [22,23])<|R (om 24 5<|of 25 7 1<|ol 26 25<|oo 27 (.mx (t 24) (t 26))<|om 5 27<|N) [7,24,25,26,27]) [])<|R (oi 28 .add 20 1<|om 20 28<|N) [28])) [18,19,20,21,7])<|q (R (om 29 0<|om 30 5<|cl 31 60 [t 29,t 30]<|oe 32 31 0<|oe 33 31 1<|oS 2 2 32<|om 3 33<|N) [0,5,29,30,31,32,33])<|.ret
theorem ok180 : FT 180 34 ir180 [.cell 2 (some 2), .tmp 3] := .o Tryz.func180
def ir127 : Ic := q (R (ox 3 1<|oN 4 v6<|N) [1])<|q (R (of 17 3 2<|ol 18 17<|cl 19 80 [t 18]<|om 16 19<|oe 20 16 0<|oe 21 16 1<|om 5 20<|om 6 21<|N) [17,18,19,16,20,21,6])<|q (R (om 23 0<|oc 24 23<|of 25 24 0<|oL 26 6 25<|om 27 5<|cl 28 178 [t 26,t 27]<|om 22 28<|oe 29 22 0<|oe 30 22 1<|om 7 29<|om 8 30<|N) [5,23,24,25,26,27,28,22,29,30])<|q (q (R (om 31 8<|oi 32 .neq 31 0<|N) [31])<|D (I 32 (q (R (om 33 0<|om 34 8<|cl 35 126 [t 33,t 34]<|oS 6 4 35<|N) [0,3,7,8,32,33,34,35])<|.ret) S) [8,32])<|q (R (oo 36 (.bls 2 [])<|om 9 36<|N) [36])<|q (q (R (om 37 7<|oh 38 37<|oz 39 0<|N) [7])<|D (.block 0<|.loop (q (.reg (ot 40 .lss 39 38<|N))<|q (D (I 40 S (E 0)) [40])<|q (D (.block 1<|q (R (oa true 41 6 37 39<|oL 42 6 41<|oN 11 v6<|oS 6 11 42<|N) [41,42])<|q (q (D (.regd [(15,18)] (of 43 3 1<|ol 44 43<|oi 45 .eql 44 0<|om 46 45<|.sc 46 true (of 47 11 0<|ol 48 47<|oi 49 .neq 48 2<|N) (t 49) 50 (om 51 50<|.sc 51 false (oL 52 6 11<|cl 53 176 [t 52]<|og 54 53<|N) (t 54) 55 (om 56 55<|.sc 56 false (oL 57 6 11<|cl 58 177 [t 57]<|oo 59 (.fld none (t 58) 1)<|of 60 3 1<|ol 61 60<|ot 62 .gtr 59 61<|N) (t 62) 63 N)))) [43,44,45,46,50,51,55,56])<|D (I 63 (q (R (om 64 0<|cl 65 126 [t 64,i 18]<|oS 6 4 65<|N) [0,3,9,37,38,39,11,63,64,65])<|.ret) S) [63])<|R (om 66 9<|oL 67 6 11<|cl 68 177 [t 67]<|oo 69 (.bls 2 [t 68])<|oo 70 (.app 2 (t 66) (t 69))<|om 9 70<|N) [11,66,67,68,69,70]) [])<|R (oi 71 .add 39 1<|om 39 71<|N) [71])) [37,38,39,40,11])<|q (q (R (om 72 9<|oh 73 72<|oi 74 .gtr 73 256<|N) [72,73])<|D (I 74 (q (R (om 75 0<|cl 76 126 [t 75,i 9]<|oS 6 4 76<|N) [0,3,9,74,75,76])<|.ret) S) [74])<|q (q (R (of 77 3 1<|ol 78 77<|oi 79 .eql 78 0<|N) [77,78])<|D (I 79 (q (R (om 81 9<|cl 82 180 [t 81]<|om 80 82<|oe 83 80 0<|oe 84 80 1<|oN 12 [.int .i64 0,.int .i64 0]<|oS 2 12 83<|om 13 84<|N) [3,9,79,81,82,80,83,84])<|q (R (om 85 0<|oL 86 2 12<|om 87 13<|cl 88 181 [t 85,B true,t 86,t 87]<|oS 6 4 88<|N) [0,12,13,85,86,87,88])<|.ret) S) [79])<|q (R (of 89 3 1<|ol 90 89<|oo 91 (.bld [.int .i64 0,.int .i64 0] [(1,1,t 90)])<|oN 14 [.int .i64 0,.int .i64 0]<|oS 2 14 91<|N) [3,89,90,91])<|q (R (om 93 9<|cl 94 180 [t 93]<|om 92 94<|oe 95 92 0<|oe 96 92 1<|oN 15 [.int .i64 0,.int .i64 0]<|oS 2 15 95<|om 8 96<|N) [9,93,94,92,95,96])<|q (q (R (om 97 8<|oi 98 .neq 97 0<|N) [97])<|D (I 98 (q (R (om 99 0<|om 100 8<|cl 101 126 [t 99,t 100]<|oS 6 4 101<|N) [0,14,15,8,98,99,100,101])<|.ret) S) [8,98])<|q (R (oL 103 2 15<|oL 104 2 14<|cl 105 22 [t 103,t 104]<|om 102 105<|oe 106 102 0<|oe 107 102 1<|oS 2 15 106<|om 8 107<|N) [14,103,104,105,102,106,107])<|q (R (om 108 0<|oL 109 2 15<|om 110 8<|cl 111 181 [t 108,B false,t 109,t 110]<|oS 6 4 111<|N) [0,15,8,108,109,110,111])<|.ret
theorem ok127 : FT 127 112 ir127 [.cell 4 (some 6)] := .o Tryz.func127
def ir128 : Ic := q (R (ox 3 1<|ow 4 false<|N) [1,4])<|q (R (om 6 0<|oL 7 5 3<|cl 8 122 [t 6,t 7]<|oN 5 v6<|oS 6 5 8<|N) [3,6,7,8])<|q (q (R (om 9 0<|oc 10 9<|of 11 10 6<|ol 12 11<|oi 13 .eql 12 0<|om 14 13<|.sc 14 true (of 15 5 0<|ol 16 15<|oi 17 .neq 16 1<|N) (t 17) 18 N) [9,10,11,12,13,14])<|D (I 18 (R (om 19 0<|cl 20 126 [t 19,i 18]<|N) [18,19,20]) S) [18])<|q (R (om 21 0<|oc 22 21<|of 23 22 6<|ol 24 23<|oi 25 .eql 24 0<|om 26 25<|.sc 26 true (of 27 5 1<|ol 28 27<|oi 29 .eql 28 1<|N) (t 29) 30 (om 4 30<|N)) [0,5,21,22,23,24,25,26,30])<|.ret
theorem ok128 : FT 128 31 ir128 [.tmp 4] := .o Tryz.func128
def ir129 : Ic := q (R (ox 4 1<|ox 5 2<|ow 6 false<|N) [1,2,6])<|q (D (.block 0<|q (R (om 10 0<|oc 11 10<|of 12 11 6<|ol 13 12<|oi 14 .neq 13 0<|om 9 14<|N) [10,11,12,13,14])<|D (I 9 (q (R (ow 6 false<|N) [0,4,5,9])<|.ret) (q (R (oL 16 6 4<|cl 17 176 [t 16]<|om 18 17<|.sc 18 true (oL 19 6 5<|cl 20 176 [t 19]<|N) (t 20) 21 (om 15 21<|N)) [9,16,17,18,21])<|D (I 15 (q (D (.regd [(1,2)] (oL 23 6 4<|cl 24 177 [t 23]<|oL 25 6 5<|cl 26 177 [t 25]<|cl 27 23 [t 24,t 26]<|om 22 27<|oe 28 22 0<|oe 29 22 1<|om 7 28<|om 8 29<|N)) [4,5,15,23,24,25,26,27,22,28,29])<|q (q (R (om 30 8<|oi 31 .neq 30 0<|N) [30])<|D (I 31 (R (om 32 0<|om 33 8<|cl 34 126 [t 32,t 33]<|N) [0,31,32,33,34]) S) [0,31])<|q (R (om 35 8<|oi 36 .eql 35 0<|om 37 36<|.sc 37 true (om 38 7<|oi 39 .eql 38 0<|N) (t 39) 40 (om 6 40<|N)) [7,8,35,36,37,40])<|.ret) (q (R (of 42 4 0<|ol 43 42<|of 44 5 0<|ol 45 44<|ot 46 .neq 43 45<|om 41 46<|N) [15,42,43,44,45,46])<|D (I 41 (q (R (om 47 0<|cl 48 126 [t 47,i 18]<|N) [0,4,5,41,47,48])<|q (.reg (ow 6 false<|N))<|.ret) S) [0,41])) [])) []) [7,8])<|q (R (oL 49 6 4<|oL 50 6 5<|cl 51 16 [t 49,t 50]<|om 6 51<|N) [4,5,49,50,51])<|.ret
theorem ok129 : FT 129 52 ir129 [.tmp 6] := .o Tryz.func129
def ir131 : Ic := q (R (ox 4 1<|ox 5 2<|oN 6 v6<|N) [1,2])<|q (D (.block 0<|q (R (om 8 0<|oc 9 8<|of 10 9 6<|ol 11 10<|oi 12 .neq 11 0<|om 7 12<|N) [8,9,10,11,12])<|I 7 (q (R (oo 13 (.bld v6 [])<|oS 6 6 13<|N) [0,4,5,7,13])<|.ret) (q (R (of 15 4 0<|ol 16 15<|oi 17 .neq 16 4<|om 18 17<|.sc 18 false (of 19 5 0<|ol 20 19<|oi 21 .neq 20 4<|N) (t 21) 22 (om 14 22<|N)) [7,15,16,17,18,22])<|I 14 (q (R (om 23 0<|cl 24 126 [t 23,i 18]<|oS 6 6 24<|N) [0,4,5,14,23,24])<|.ret) (q (R (of 26 4 3<|ol 27 26<|oj 28 27<|of 29 5 3<|ol 30 29<|oj 31 30<|ot 32 .add 28 31<|oi 33 .gtr 32 1024<|om 25 33<|N) [14,26,27,28,29,30,31,32,33])<|D (I 25 (q (R (om 34 0<|cl 35 126 [t 34,i 5]<|oS 6 6 35<|N) [0,4,5,25,34,35])<|.ret) S) [0,25]))) [])<|q (R (of 36 4 3<|ol 37 36<|of 38 5 3<|ol 39 38<|ot 40 .cat 37 39<|cl 41 37 [t 40]<|oS 6 6 41<|N) [4,5,36,37,38,39,40,41])<|.ret
theorem ok131 : FT 131 42 ir131 [.cell 6 (some 6)] := .o Tryz.func131
def ir154 : Ic := q (R (ox 2 0<|ox 3 1<|oz 4 0<|N) [0,1,4])<|q (R (of 5 2 5<|ol 6 5<|oo 7 (.fnv (.func 223) [] [t 3])<|cl 8 144 [t 6,t 7]<|om 4 8<|N) [2,3,5,6,7,8])<|.ret
theorem ok154 : FT 154 9 ir154 [.tmp 4] := .o Tryz.func154
def ir223 : Ic := q (R (ox 2 0<|ow 3 false<|N) [0,3])<|q (R (of 4 2 0<|ol 5 4<|ol 6 1<|ot 7 .seq 5 6<|om 3 7<|N) [2,4,5,6,7])<|.ret
theorem ok223 : FT 223 8 ir223 [.tmp 3] := .o Tryz.func223
def ir144 : Ic := q (R (oz 4 0<|N) [4])<|q (q (R (om 6 0<|oh 7 6<|oz 8 0<|N) [6])<|D (.block 0<|.loop (q (.reg (ot 9 .lss 8 7<|N))<|q (D (I 9 S (E 0)) [9])<|q (D (.block 1<|q (R (om 10 8<|om 5 10<|N) [10])<|q (R (om 11 1<|om 12 0<|om 13 5<|oa true 14 7 12 13<|oL 15 7 14<|.call (some 16) (.dyn (t 11)) [t 15] N) [11,12,13,14,15])<|D (I 16 (q (R (om 17 5<|om 4 17<|N) [0,1,7,8,5,16,17])<|.ret) S) [5,16]) [])<|R (oi 18 .add 8 1<|om 8 18<|N) [18])) [0,1,7,8,9,10,5,11])<|q (.reg (oz 4 (-1)<|N))<|.ret
theorem ok144 : FT 144 19 ir144 [.tmp 4] := .o Tryz.func144
def ir89 : Ic := q (R (ox 2 0<|oN 4 v6<|ow 5 false<|N) [0,5])<|q (R (oL 7 6 2<|om 8 1<|cl 9 154 [t 7,t 8]<|om 6 9<|N) [1,7,8,9])<|q (q (R (of 10 2 0<|ol 11 10<|oi 12 .neq 11 9<|om 13 12<|.sc 13 false (om 14 6<|oi 15 .lss 14 0<|N) (t 15) 16 N) [10,11,12,13])<|D (I 16 (q (R (oo 17 (.bld v6 [])<|oS 6 4 17<|ow 5 false<|N) [2,6,16,17])<|.ret) S) [16])<|q (R (of 18 2 5<|ol 19 18<|om 20 6<|oa true 21 7 19 20<|of 22 21 1<|oL 23 6 22<|cl 24 55 [t 23]<|oS 6 4 24<|ow 5 true<|N) [2,6,18,19,20,21,22,23,24])<|.ret
theorem ok89 : FT 89 25 ir89 [.cell 4 (some 6), .tmp 5] := .o Tryz.func89
def ir155 : Ic := q (R (ox 2 0<|ow 3 false<|N) [0,3])<|q (R (of 4 2 0<|ol 5 4<|ol 6 1<|ot 7 .sgt 5 6<|om 3 7<|N) [2,4,5,6,7])<|.ret
theorem ok155 : FT 155 8 ir155 [.tmp 3] := .o Tryz.func155
def ir88 : Ic := q (R (ox 2 0<|ox 3 1<|oN 4 vG<|ow 5 false<|N) [0,1,5])<|q (R (oL 6 7 2<|oo 7 (.fnv (.func 153) [] [t 3])<|cl 8 152 [t 6,t 7]<|oe 9 8 0<|oe 10 8 1<|oS 11 4 9<|om 5 10<|N) [2,3,6,7,8,9,10])<|.ret
theorem ok88 : FT 88 11 ir88 [.cell 4 (some 11), .tmp 5] := .o Tryz.func88
def ir152 : Ic := q (R (ox 2 0<|oN 4 vG<|ow 5 false<|N) [0,5])<|q (q (R (of 7 2 0<|ol 8 7<|oi 9 .neq 8 9<|om 10 9<|.sc 10 true (of 11 2 0<|ol 12 11<|oi 13 .neq 12 10<|N) (t 13) 14 N) [7,8,9,10])<|D (I 14 (q (R (oo 15 (.bld vG [])<|oS 11 4 15<|ow 5 false<|N) [1,2,14,15])<|.ret) S) [14])<|q (R (of 16 2 6<|ol 17 16<|om 18 1<|cl 19 164 [t 17,t 18]<|om 6 19<|N) [1,16,17,18,19])<|q (q (R (om 20 6<|oi 21 .lss 20 0<|N) [20])<|D (I 21 (q (R (oo 22 (.bld vG [])<|oS 11 4 22<|ow 5 false<|N) [2,6,21,22])<|.ret) S) [21])<|q (R (of 23 2 6<|ol 24 23<|om 25 6<|oa true 26 11 24 25<|oL 27 11 26<|cl 28 195 [t 27]<|oS 11 4 28<|ow 5 true<|N) [2,6,23,24,25,26,27,28])<|.ret
theorem ok152 : FT 152 29 ir152 [.cell 4 (some 11), .tmp 5] := .o Tryz.func152
def ir153 : Ic := q (R (ox 2 0<|ow 3 false<|N) [0,3])<|q (R (of 4 2 1<|ol 5 4<|ol 6 1<|ot 7 .seq 5 6<|om 3 7<|N) [2,4,5,6,7])<|.ret
theorem ok153 : FT 153 8 ir153 [.tmp 3] := .o Tryz.func153
def ir43 : Ic := q (R (ox 2 0<|ow 4 false<|N) [0,4])<|q (q (.reg (om 9 1<|oh 10 9<|oz 11 0<|N))<|D (.block 0<|.loop (q (.reg (ot 12 .lss 11 10<|N))<|q (D (I 12 S (E 0)) [12])<|q (D (.block 1<|q (R (om 13 11<|oa true 14 3 9 11<|oL 15 3 14<|oN 6 [.int .i64 0,.int .i64 0,.str []]<|om 5 13<|oS 3 6 15<|N) [13,14,15])<|q (q (R (of 16 2 0<|ol 17 16<|oi 18 .neq 17 9<|N) [16,17])<|D (I 18 (q (R (ow 4 false<|N) [1,2,9,10,11,6,5,18])<|.ret) S) [18])<|q (R (oL 20 7 2<|of 21 6 2<|ol 22 21<|cl 23 88 [t 20,t 22]<|om 19 23<|oe 24 19 0<|oe 25 19 1<|oN 7 vG<|oS 11 7 24<|om 8 25<|N) [6,20,21,22,23,19,24,25])<|q (q (R (om 26 8<|og 27 26<|N) [8,26])<|D (I 27 (q (R (ow 4 false<|N) [1,2,9,10,11,5,7,27])<|.ret) S) [27])<|q (q (R (om 28 5<|om 29 1<|oh 30 29<|oi 31 .sub 30 1<|ot 32 .eql 28 31<|N) [5,28,29,30,31])<|D (I 32 (q (R (of 33 7 2<|ol 34 33<|oi 35 .eql 34 1<|om 4 35<|N) [1,2,9,10,11,7,32,33,34,35])<|.ret) S) [32])<|R (of 36 7 3<|oL 37 7 36<|oS 7 2 37<|N) [7,36,37]) [])<|R (oi 38 .add 11 1<|om 11 38<|N) [38])) [1,2,9,10,11,12,6,5,7,8])<|q (.reg (ow 4 false<|N))<|.ret
theorem ok43 : FT 43 39 ir43 [.tmp 4] := .o Tryz.func43
def ir44 : Ic := q (R (ox 3 0<|ox 5 2<|oN 6 v6<|oz 7 0<|N) [0,2,7])<|q (q (R (om 12 1<|oh 13 12<|oi 14 .eql 13 1<|om 15 14<|.sc 15 true (oL 16 6 5<|cl 17 13 [t 16]<|N) (t 17) 18 N) [12,13,14,15])<|D (I 18 (q (R (oL 19 6 3<|oS 6 6 19<|oz 7 0<|N) [1,3,5,18,19])<|.ret) S) [18])<|q (R (om 20 1<|oo 21 (.ixa true 3 (t 20) (i 0))<|of 22 21 2<|ol 23 22<|om 8 23<|N) [20,21,22,23])<|q (q (R (om 24 1<|oh 25 24<|oi 26 .gtr 25 1<|N) [24,25])<|D (I 26 (q (R (oL 28 6 3<|om 29 8<|cl 30 89 [t 28,t 29]<|om 27 30<|oe 31 27 0<|oe 32 27 1<|oN 9 v6<|oS 6 9 31<|om 10 32<|N) [26,28,29,30,27,31,32])<|q (q (R (om 33 10<|og 34 33<|N) [10,33])<|D (I 34 (R (cl 35 35 [.k (.nil 7)]<|oS 6 9 35<|N) [34,35]) S) [34])<|q (R (oz 11 0<|N) [11])<|q (R (oL 37 6 9<|om 38 1<|oo 39 (.slc 3 (t 38) (some (i 1)) none none)<|oL 40 6 5<|cl 41 44 [t 37,t 39,t 40]<|om 36 41<|oe 42 36 0<|oe 43 36 1<|oS 6 5 42<|om 11 43<|N) [1,9,37,38,39,40,41,36,42,43])<|q (R (om 44 11<|oi 45 .neq 44 0<|N) [44])<|D (I 45 (q (R (oo 46 (.bld v6 [])<|om 47 11<|oS 6 6 46<|om 7 47<|N) [3,5,8,11,45,46,47])<|.ret) S) [11,45]) S) [1,26])<|q (R (oL 48 6 3<|om 49 8<|oL 50 6 5<|cl 51 90 [t 48,t 49,t 50]<|oe 52 51 0<|oe 53 51 1<|oS 6 6 52<|om 7 53<|N) [3,5,8,48,49,50,51,52,53])<|.ret
theorem ok44 : FT 44 54 ir44 [.cell 6 (some 6), .tmp 7] := .o Tryz.func44
def ir87 : Ic := q (R (ox 1 0<|ok 2 (.k (.nil 1))<|N) [0,2])<|q (.reg (ok 3 (.k (.nil 1))<|N))<|q (q (R (of 8 1 0<|ol 9 8<|oh 10 9<|oz 11 0<|N) [1,8])<|D (.block 0<|.loop (q (.reg (ot 12 .lss 11 10<|N))<|q (D (I 12 S (E 0)) [12])<|q (D (.block 1<|q (R (oa true 13 6 9 11<|oL 14 6 13<|oN 5 [.str [],.int .i64 0,.int .i64 0,.str [],.nil 6,.nil 5]<|oS 6 5 14<|N) [13,14])<|q (R (of 16 5 0<|ol 17 16<|cl 18 80 [t 17]<|om 15 18<|oe 19 15 0<|oe 20 15 1<|om 6 19<|om 7 20<|N) [5,16,17,18,15,19,20,7])<|R (om 21 3<|om 22 6<|oo 23 (.bls 1 [t 22])<|oo 24 (.app 1 (t 21) (t 23))<|om 3 24<|N) [6,21,22,23,24]) [])<|R (oi 25 .add 11 1<|om 11 25<|N) [25])) [9,10,11,12,5,6,7])<|q (R (om 26 3<|om 2 26<|N) [3,26])<|.ret
theorem ok87 : FT 87 27 ir87 [.tmp 2] := .o Tryz.func87
def ir42 : Ic := q (R (ox 3 0<|ox 4 1<|ox 5 2<|ok 6 (.k .nilFn)<|N) [0,1,2,6])<|q (R (oo 7 (.fnv (.func 86) [] [t 3,t 4,t 5])<|om 6 7<|N) [3,4,5,7])<|.ret
theorem ok42 : FT 42 8 ir42 [.tmp 6] := .o Tryz.func42
def ir86 : Ic := q (R (oL 10 1 1<|cl 11 87 [t 10]<|om 5 11<|N) [10,11])<|q (R (of 12 1 0<|ol 13 12<|oh 14 13<|oz 15 0<|N) [12])<|D (.block 0<|.loop (q (.reg (ot 16 .lss 15 14<|N))<|q (D (I 16 S (E 0)) [16])<|q (D (.block 1<|q (R (om 17 15<|oa true 18 6 13 15<|oL 19 6 18<|oN 7 [.str [],.int .i64 0,.int .i64 0,.str [],.nil 6,.nil 5]<|om 6 17<|oS 6 7 19<|N) [17,18,19])<|q (R (of 21 7 1<|oL 22 5 21<|oL 23 6 2<|cl 24 18 [t 22,t 23]<|om 20 24<|oe 25 20 0<|oe 26 20 1<|oN 8 v6<|oS 6 8 25<|om 9 26<|N) [7,21,22,23,24,20,25,26])<|q (q (R (om 27 9<|oi 28 .neq 27 0<|N) [27])<|D (I 28 (q (R (ol 29 3<|om 30 9<|oc 31 29<|os 31 30<|N) [0,5,13,14,15,6,8,9,28,29,30,31])<|.ret) S) [9,28])<|q (R (om 32 0<|om 33 5<|om 34 6<|oa false 35 1 33 34<|ol 36 35<|oL 37 6 8<|.call (some 38) (.dyn (t 32)) [t 36,t 37] (og 39 38<|N)) [6,8,32,33,34,35,36,37,38])<|D (I 39 .ret S) [39]) [])<|R (oi 40 .add 15 1<|om 15 40<|N) [40])) [0,5,13,14,15,16,7,6,8,9]
theorem ok86 : FT 86 41 ir86 [] := .o Tryz.func86
end Go.Proofs
namespace Av
open Go
variable {P : Program} {f : Nat}
mutual
def fits : Dat → Prop
 | .str s => s.length ≤ 68719476736
 | .int k n => k.min ≤ n ∧ n ≤ k.max
 | .list _ xs => xs.length ≤ 68719476736 ∧ XL xs
 | .agg cs => XL cs
 | .ptr cs => XL cs
 | .iface _ d => fits d
 | _ => True
def XL : List Dat → Prop
 | [] => True
 | x :: r => fits x ∧ XL r
end
theorem UQ : ∀ {l : List Dat}, XL l ↔ ∀ x ∈ l, fits x
 | [] => by simp [XL]
 | x :: r => by simp [XL, UQ (l := r)]
theorem JJK {x : Dat} (h : ∀ c ∈ x.cells, fits c) : fits x := by
 cases x with
 | agg cs => simp only [fits]; exact UQ.2 h
 | _ => exact h _ (by simp [Dat.cells])
theorem Rep.fits {A : Nat → Prop} {w : World} {x : Dat} {v : Value} (h : Rep A w x v) : Av.fits x := by
 induction h with
 | str s h => exact h
 | int k n h => exact h
 | emp sz a cap => simp [Av.fits, XL]
 | list sz xs b o n cap vs hn hAb hl hc h1 hsz hh hvl hv ih =>
  refine ⟨hc, UQ.2 fun x hx => JJK fun c hc' => ?_⟩;have hm : c ∈ flat xs := List.mem_flatMap.2 ⟨x, hx, hc'⟩;obtain ⟨i, hi, rfl⟩ := List.getElem_of_mem hm;exact ih i _ _ (Vl hi) (Vl oM)
 | agg cs arr hl h1 hv ih =>
  simp only [Av.fits];refine UQ.2 fun c hc => ?_
  obtain ⟨i, hi, rfl⟩ := List.getElem_of_mem hc;exact ih i _ _ (Vl hi) (Array.getElem?_eq_getElem oM)
 | ptr cs b o vs hAb h1 hh hvl hv ih =>
  simp only [Av.fits];refine UQ.2 fun c hc => ?_
  obtain ⟨i, hi, rfl⟩ := List.getElem_of_mem hc;exact ih i _ _ (Vl hi) (Vl oM)
 | iface t x v h ih => exact ih
 | _ => trivial
variable [Glb] [Rls]
theorem Ui.Ju {ds : List Dat} {v : Av} (hh : Has P f) (h : (∀ d ∈ ds, fits d) → Ui P f ds v) : Ui P f ds v := by
 refine ⟨hh, fun β A w vs hc hvs => (h fun d hd => ?_).2 β A w vs hc hvs⟩;obtain ⟨i, hi, rfl⟩ := List.getElem_of_mem hd;have hl : ds.length = vs.size := sX hvs.1;have := hvs.2 i (.d ds[i]) vs[i] (by simp [hi]) sP;exact this.JX.fits
theorem Con.Ju {args : List Av} {T : List (Nat × Obj)} {v : Av} {ups : List (Nat × Obj)} (hh : Has P f) (h : (∀ d, .d d ∈ args → fits d) → Con P f args T v ups) : Con P f args T v ups := by
 refine ⟨hh, fun β A w vs hc hvs => (h fun d hd => ?_).2 β A w vs hc hvs⟩;obtain ⟨i, hi, e⟩ := List.getElem_of_mem hd;have := hvs.2 i (.d d) (vs[i]'(by have := hvs.1; omega)) (by rw [← e]; simp) sP;exact this.JX.fits
theorem FnOk.has {N : Nat} {ic : Ic} {ris : List RI} (h : FnOk P f N ic ris) : Has P f := by
 obtain ⟨fn, code, h1, h2, h3, _⟩ := h.ex;exact ⟨fn, h1, by rw [h2]; rfl, h3⟩
end Av
namespace Av
open Go Go.Sort Go.Proofs
variable [Glb] [Rls]
theorem JAB (l : List (List UInt8)) : flat (l.map .str) = l.map .str := by
 induction l with
 | nil => rfl
 | cons x r ih => simp only [flat, Va, List.flatMap_cons, Dat.cells, List.singleton_append, List.cons.injEq, true_and]; exact ih
section
variable {β : JM} {A : Nat → Prop} {w : World} {H : Heap}
theorem JNl {vs : Array Value} (h : 1 = vs.size) : ∃ x, vs = #[x] := by
 refine ⟨vs[0], ?_⟩;apply Array.ext
 ·simp [← h]
 ·intro i h1 h2;have : i = 0 := oM;subst this;rfl
end
theorem ZF : ∀ (ups : List (Nat × Obj)) (H : Heap) (m : Nat), ¬ (get ups m).isSome = true → JD H ups m = H m
 | [], H, m, _ => rfl
 | (i, o) :: r, H, m, h => by
  simp only [get] at h;split at h
  ·exact absurd rfl h
  ·rename_i hne;simp only [JD];rw [ZF r _ m h, Jf _ _ (Ne.symm hne)]
theorem JET : ∀ (ups : List (Nat × Obj)) (H H' : Heap) (m : Nat), (get ups m).isSome = true → JD H ups m = JD H' ups m
 | [], H, H', m, h => by cases h
 | (i, o) :: r, H, H', m, h => by
  simp only [JD];by_cases hr : (get r m).isSome = true
  ·exact JET r _ _ m hr
  ·rw [ZF r _ m hr, ZF r _ m hr];simp only [get] at h;split at h
   ·rename_i e; subst e; rw [JR, JR]
   ·exact absurd h hr
theorem Stp.JIe {β : JM} {A : Nat → Prop} {w : World} {H : Heap} (hc : Core β A w H) {b j k sz : Nat} {cs : List Av} (hb : H b = some (.box cs)) (hj : cs[j]? = some (.d (.nil sz))) (hk : H k = none) (hsz : 0 < sz) :
  ∃ β', Stp β A w H β' A w (upd (upd H k (some (.row 0 sz []))) b (some (.box (cs.set j (.ms k 0))))) := by
 have hne : b ≠ k := fun e => by subst e; rw [hk] at hb; cases hb
 have hst := Stp.JBM (β := β) hc hk hsz;have hb1 : upd H k (some (.row 0 sz [])) b = some (.box cs) := by rw [Jf _ _ hne]; exact hb
 obtain ⟨bb, C, T, e1, e2, e3, e4, e5⟩ := hst.core.objs b _ hb1;have hset : w.setRow bb C = w := Zs e2;have hst2 := Stp.JJu (cs' := cs.set j (.ms k 0)) (C' := C) hst.core hb1 e1 e2 (sX e3) e4 (fun hall i c v hc' hv' => by
  rw [List.getElem?_set] at hc';split at hc'
  ·rename_i e;subst e;split at hc'
   ·cases hc';obtain ⟨bb0, C0, T0, q1, q2, q3, q4, q5⟩ := hc.objs b _ hb;have hbb : bb0 = bb := by
     rw [Jf _ _ hne] at e1;rw [q1] at e1;exact Option.some.inj e1
    subst hbb;rw [e2] at q2;cases q2;have hr := (q5 j _ v hj hv').JX;exact hall _ _ (VRep.JBM hr)
   ·cases hc'
  ·exact hall _ _ (e5 i c v hc' hv'))
 rw [hset] at hst2;exact ⟨_, hst.trans hst2⟩
theorem JQ.nilBox {P : Program} {f : Cee} {args : List Av} {v : Av} {ups : List (Nat × Obj)} {T : List (Nat × Option Obj)} {i k sz j : Nat} {cs : List Av}
  (h : JQ P f args ((i, some (.box (cs.set j (.ms k 0)))) :: (k, some (.row 0 sz [])) :: T) v ups) (hT : ∀ e ∈ T, e.1 ≠ i ∧ e.1 ≠ k) (hik : i ≠ k) (hj : cs[j]? = some (.d (.nil sz))) (hsz : 0 < sz)
  (hui : (get ups i).isSome = true) (huk : (get ups k).isSome = true) : JQ P f args ((i, some (.box cs)) :: (k, none) :: T) v ups := by
 intro β A w H vs hT' hc hvs;have hi : H i = some (.box cs) := hT' (i, some (.box cs)) Vh;have hk : H k = none := hT' (k, none) (Vn _ Vh);have hst := Stp.JIe hc hi hj hk hsz;obtain ⟨β2, hst⟩ := hst;have hput : JD (upd (upd H k (some (.row 0 sz []))) i (some (.box (cs.set j (.ms k 0))))) ups = JD H ups := by
  funext m;by_cases hm : (get ups m).isSome = true
  ·exact JET ups _ _ m hm
  ·have hmi : m ≠ i := fun e => hm (e ▸ hui)
   have hmk : m ≠ k := fun e => hm (e ▸ huk)
   rw [ZF ups _ m hm, ZF ups _ m hm, Jf _ _ hmi, Jf _ _ hmk]
 have := h β2 A w _ vs (fun e he => ?_) hst.core ⟨hvs.1, fun n c u h1 h2 => hst.vals c u (hvs.2 n c u h1 h2)⟩
 ·rw [hput] at this;cases f with
  | fn g =>
   rcases this with ⟨a1, a2⟩ | ⟨u, w', a1, β', A', a2, a3⟩
   ·refine .inl ⟨a1, a2.mono ?_⟩;rintro e w' ⟨u, rfl, β', A', b1, b2⟩;exact ⟨u, rfl, β', A', hst.trans b1, b2⟩
   ·exact .inr ⟨u, w', a1, β', A', hst.trans a2, a3⟩
  | yld =>
   obtain ⟨l, rest, a1, fn, tmps, asg, body, a2, a3⟩ := this;refine ⟨l, rest, a1, fn, tmps, asg, body, a2, a3.mono ?_⟩;rintro e w' ⟨u, rfl, β', A', b1, b2⟩;exact ⟨u, rfl, β', A', hst.trans b1, b2⟩
 ·simp only [VA] at he;rcases he with rfl | rfl | he
  ·exact JR _ _ _
  ·rw [Jf _ _ (Ne.symm hik)]; exact JR _ _ _
  ·obtain ⟨q1, q2⟩ := hT e he;rw [Jf _ _ q1, Jf _ _ q2];exact hT' e (Vn _ (Vn _ he))
end Av
namespace Av
open Go
variable [Glb] [Rls]
section
variable {β : JM} {A : Nat → Prop} {w : World} {H : Heap} {D : Nat → Prop}
end
end Av
namespace Av
open Go
variable [Glb] [Rls]
theorem JHv (ρ : Nat → Nat) (ds : List Dat) : J1 ρ (ds.map .d) = ds.map .d := by
 induction ds with
 | nil => rfl
 | cons x r ih => simp [J1, Av.ren, ih]
theorem JNm {v : Av} (h : JU v) (ρ : Nat → Nat) : v.ren ρ = v := by
 cases v with
 | d x => rfl
 | tup cs =>
  have h' : ∀ c ∈ cs, ∃ x, c = .d x := h;have e : ∃ ds : List Dat, cs = ds.map .d := by
   clear h
   induction cs with
   | nil => exact ⟨[], rfl⟩
   | cons c r ih =>
    obtain ⟨x, rfl⟩ := h' c Vh;obtain ⟨ds, rfl⟩ := ih fun c hc => h' c (Vn _ hc)
    exact ⟨x :: ds, rfl⟩
  obtain ⟨ds, rfl⟩ := e;simp only [Av.ren, JHv]
 | _ => exact h.elim
theorem JC9 (G : Nat → Option Obj) (ds : List Dat) : JP G (ds.map .d) := by
 induction ds with
 | nil => trivial
 | cons x r ih => exact ⟨trivial, ih⟩
theorem JNn {v : Av} (h : JU v) (G : Heap) : inT G v := by
 cases v with
 | d x => trivial
 | tup cs =>
  have h' : ∀ c ∈ cs, ∃ x, c = .d x := h;show JP _ cs;clear h
  induction cs with
  | nil => trivial
  | cons c r ih =>
   obtain ⟨x, rfl⟩ := h' c Vh;exact ⟨trivial, ih fun c hc => h' c (Vn _ hc)⟩
 | _ => exact h.elim
theorem Con.rw1 {P : Program} {f : Nat} {az cs cs' : List Dat} {v : Av} (h : Con P f (.ref 1000 0 :: az.map .d) [(1000, .box (cs.map .d))] v [(1000, .box (cs'.map .d))]) (hv : JU v) (i : Nat) :
  JQ P f (.ref i 0 :: az.map .d) [(i, some (.box (cs.map .d)))] v [(i, .box (cs'.map .d))] := by
 have hcl : ∀ a : List Dat, closed (get [(1000, .box (a.map .d))]) := fun a => UZ ⟨JC9 _ a, trivial⟩
 have hu : JD (get [(1000, .box (cs.map .d))]) [(1000, .box (cs'.map .d))] = get [(1000, .box (cs'.map .d))] := by
  rw [← Jg]; rfl
 have hdom : ∀ (a : List Dat) j, (get [(1000, Obj.box (a.map .d))] j).isSome = true → j = 1000 := by
  intro a j hj;simp only [get] at hj;split at hj
  ·rename_i e; exact e.symm
  ·cases hj
 have := h.call (fun _ => i) ?_ ?_ ?_ (hcl cs) [] ?_ ?_ ?_
 ·have e : (az.map Av.d).map (Av.ren fun _ => i) = az.map Av.d := by
   rw [List.map_map]; exact List.map_congr_left fun x _ => by simp [Av.ren]
  simpa [Av.ren, Obj.ren, JHv, e, JNm hv] using this
 ·intro j hj;rw [hdom _ j hj];decide
 ·intro a b ha hb _;rw [hu] at ha hb;rw [hdom _ a ha, hdom _ b hb]
 ·intro c hc;rcases VA.1 hc with rfl | hc
  ·rfl
  ·obtain ⟨x, _, rfl⟩ := VC.1 hc; trivial
 ·intro e he;simp only [List.mem_singleton] at he;subst he;exact .inl rfl
 ·rw [hu]; exact hcl cs'
 ·exact JNn hv _
end Av
namespace Av
open Go
variable [Glb] [Rls]
theorem Wk.frzT {D : Nat → Prop} {st : St} (t i v sz : Nat) (xs : List Dat) (ht : get st.tm t = some (.ms i v)) (hi : get st.hp i = some (.row v sz xs)) : Wk D st ⟨put st.tm t (.d (.list sz xs)), put st.hp i (.frz v sz xs)⟩ := by
 refine Wk.JG4 ?_;intro β A w a hc htr;obtain ⟨u, q1, q2⟩ := htr t _ ht;have hd : Jq (get st.hp) [.ms i v] = some (v = v ∧ True, [.list sz xs], [(i, .frz v sz xs)]) := by simp [Jq, datum, Uj, hi]
 obtain ⟨A1, s1, l1, r1, m1⟩ := XW hc hd ⟨rfl, trivial⟩ (us := [u]) rfl (fun k c u' h1 h2 => by
  cases k with
  | zero => simp at h1 h2; subst h1; subst h2; exact q2
  | succ k => simp at h1)
 have hh : get (put st.hp i (.frz v sz xs)) = JD (get st.hp) [(i, .frz v sz xs)] := funext fun j => by rw [UM]; rfl
 rw [hh];refine ⟨β, A1, s1, ?_⟩;intro t' v' hv;rw [UM] at hv;split at hv
 ·rename_i e;subst e;cases hv;exact ⟨u, q1, .d _ _ (r1 0 _ u rfl rfl)⟩
 ·obtain ⟨u', g1, g2⟩ := htr t' v' hv;exact ⟨u', g1, s1.vals _ _ g2⟩
end Av
namespace Av
open Go
variable [Glb] [Rls]
abbrev JFK (g : Nat) (cs : List Dat) : Dat := .fn (.func g) [] [.ptr cs]
theorem JEU (cs : List Dat) : Yb (cs.map .d) = some cs := by
 induction cs with
 | nil => rfl
 | cons x r ih => simp only [Va, Yb, ih]
theorem JQ.clo {P : Program} {f g : Nat} {ds cs : List Dat} {r : Dat} (h : Ui P f (ds ++ [JFK g cs]) (.d r)) (hr : scalar r = true) (i : Nat) :
  JQ P f (ds.map .d ++ [.clo (.func g) [] [.ref i 0]]) [(i, some (.box (cs.map .d)))] (.d r) [] := by
 intro β A w H vs hT hc hvs;have hi : H i = some (.box (cs.map .d)) := hT _ (List.mem_singleton.2 rfl);have st := Stp.JAi hc hi (JEU cs);have hc0 : Core β (fun k => A k ∨ β i = some k) w (get []) := ⟨(by intro i o hi; cases hi), (by intro i j o o' b hi; cases hi), (by intro i o b hi; cases hi), st.core.old, st.core.glob⟩;refine .inl ⟨h.1, (h.2 β (fun k => A k ∨ β i = some k) w vs hc0 ⟨by have := hvs.1; simp at this ⊢; omega, ?_⟩).mono ?_⟩
 ·intro k c v h1 h2;rw [Vo] at h1;cases e : (ds ++ [JFK g cs])[k]? with
  | none => simp [e] at h1
  | some x =>
   simp only [e, Vj, Vd] at h1;subst h1;refine .d _ _ ?_;by_cases hk : k < ds.length
   ·rw [Vz hk] at e;have := hvs.2 k (.d x) v (by rw [Vz (sX hk), Vo, e]; rfl) h2;exact (st.vals _ _ this).JX
   ·rw [Vy oM] at e;have hk0 : k - ds.length = 0 := by
     rcases Nat.eq_zero_or_pos (k - ds.length) with h | h
     ·exact h
     ·rw [List.getElem?_eq_none sO] at e; cases e
    rw [hk0] at e;cases e;have hlen : (ds.map Av.d).length = ds.length := sP;have := hvs.2 k (.clo (.func g) [] [.ref i 0]) v (by rw [Vy sO, hlen, hk0]; rfl) h2;have h3 := st.vals _ _ this;cases h3 with
    | clo _ _ _ a1 a2 l1 l2 hf hvv =>
     refine .fn _ _ _ a1 a2 l1 (sX l2) (by intro j c v hj; cases hj) ?_;intro j c v hj hjv
     match j, hj with
     | 0, hj =>
      cases hj;have hrf := hvv 0 _ v rfl hjv;cases hrf with
      | ref _ _ _ _ _ hu g0 g1 g2 =>
       have := g2 cs sU;simpa using this
     | j + 1, hj => cases hj
 ·rintro e w' ⟨v, β1, A1, rfl, hsince, hc1, hv⟩;obtain ⟨s1, s2, s3, s4, s5, sl, s6, s7, s8⟩ := hsince;dsimp only at s1 s2 s3 s4 s5 sl;have hsame : ∀ b, b < w.heap.size → w'.heap[b]? = w.heap[b]? := fun b hb => s5 b hb (by intro i o hi; cases hi)
  have hst : Stp β A w H β A w' H := Stp.new hc s1 s2 s3 s4 hsame (fun _ h => h) (fun _ h => .inl h) (fun b hb => by have := hc.old b hb; omega);exact ⟨v, rfl, β, A, hst, .d _ _ (hv.JX.scalar hr)⟩
theorem Ui.callFr {P : Program} {f i v sz : Nat} {xs : List Dat} {r : Av} (h : Ui P f [.list sz xs] r) (hr : JU r) : JQ P f [.ms i v] [(i, some (.row v sz xs))] r [(i, .frz v sz xs)] := by
 intro β A w H vs hT hc hvs;have hi : H i = some (.row v sz xs) := hT _ (List.mem_singleton.2 rfl);have hd : Jq H [.ms i v] = some (v = v ∧ True, [.list sz xs], [(i, .frz v sz xs)]) := by simp [Jq, datum, Uj, hi]
 obtain ⟨A1, s1, l1, r1, m1⟩ := XW hc hd ⟨rfl, trivial⟩ (us := vs.toList) (sX hvs.1) (fun k c u h1 h2 => hvs.2 k c u h1 (sX h2));have := h.call hr β A1 w _ vs sP s1.core ⟨by simpa using l1, fun k c u h1 h2 => by
  rw [Vo] at h1;cases hq : [Dat.list sz xs][k]? with
  | none => rw [hq] at h1; cases h1
  | some x =>
   rw [hq] at h1;cases h1;exact .d _ _ (r1 k x u hq (sX h2))⟩
 rcases this with ⟨a1, a2⟩ | ⟨u, w', a1, β', A', a2, a3⟩
 ·refine .inl ⟨a1, a2.mono ?_⟩;rintro e w' ⟨u, rfl, β', A', b1, b2⟩;exact ⟨u, rfl, β', A', s1.trans b1, b2⟩
 ·exact .inr ⟨u, w', a1, β', A', s1.trans a2, a3⟩
end Av
namespace Go.Proofs
open Go Av
def ixF (q : Fld → Bool) (l : List Fld) : Int := match l.findIdx? q with
 | some k => (k : Int)
 | none => -1
theorem JGY {g : Nat} {cs : List Dat} {q : Fld → Bool} (hq : ∀ x, PT g [Jh x, .ptr cs] (.d (.bool (q x)))) (l : List Fld) (hl : l.length ≤ 68719476736) :
  PT 144 [.list 7 (l.map Jh), JFK g cs] (.d (.int .i64 (ixF q l))) := by
 refine ok144.pc ?_;simp only [go_sem, ir144, Vc, simprocAttr];refine JJ (fun n s => ∃ k : Nat, k ≤ l.length ∧ n = l.length - k ∧ (∀ (j : Nat) (h1 : j < l.length), j < k → q l[j] = false) ∧
  s = ⟨[(0, .d (.list 7 (l.map Jh))), (1, .d (JFK g cs)), (7, .d (.int .i64 l.length)), (8, .d (.int .i64 k))], []⟩) ?_ ?_
 ·exact ⟨_, _, Wk.refl _, 0, Nat.zero_le _, rfl, sP, rfl⟩
 ·rintro n s ⟨k, hk, rfl, hinv, rfl⟩;by_cases hlt : k < l.length
  ·have hx := J5 hlt;have hd := dT hlt;have hc := (hq l[k]).call trivial;rw [J3] at hc;refine zz8 ?_;refine ⟨oM, wn hc ?_⟩;refine zz ?_;apply ik <;> intro hf
   ·have : l.findIdx? q = some k := by
     rw [List.findIdx?_eq_some_iff_getElem];exact ⟨hlt, hf, fun j hj => by rw [hinv j oM hj]; decide⟩
    simp only [ixF, this]
   ·refine ⟨l.length - (k + 1), _, oM, Wk.less ?_, k + 1, oM, rfl, ?_, rfl⟩
    ·exact Y6 trivial
    ·intro j h1 hj;by_cases e : j = k
     ·subst e; exact hf
     ·exact hinv j h1 oM
  ·have hd := dF hlt;refine JAl ?_;have : l.findIdx? q = none := by
    rw [List.findIdx?_eq_none_iff];intro x hx;obtain ⟨j, hj, rfl⟩ := List.getElem_of_mem hx;exact hinv j hj oM
   simp only [ixF, this]
theorem JCe {q : Fld → Bool} {l : List Fld} : -1 ≤ ixF q l ∧ ixF q l < l.length := by
 unfold ixF;cases e : l.findIdx? q with
 | none => simp only; omega
 | some k =>
  obtain ⟨h, _⟩ := List.findIdx?_eq_some_iff_getElem.1 e;simp only; omega
theorem JRD (x : Fld) (n : Str) : PT 335 [Jh x, .ptr [.str n]] (.d (.bool (x.name == n))) := by
 refine ok335.pc ?_;rw [J3];simp only [go_sem, ir335, Nat.reduceAdd, Nat.reduceEqDiff, Nat.reduceBEq, Nat.reduceLeDiff, reduceCtorEq, ↓reduceIte];exact Nat.one_pos
theorem JRE (x : Fld) (n : Str) : PT 223 [Jh x, .ptr [.str n]] (.d (.bool (x.name == n))) := by
 refine ok223.pc ?_;rw [J3];simp only [go_sem, ir223, Nat.reduceAdd, Nat.reduceEqDiff, Nat.reduceBEq, Nat.reduceLeDiff, reduceCtorEq, ↓reduceIte];exact Nat.one_pos
def gtB (a b : Str) : Bool := !(strLt a b || a == b)
theorem JRF (x : Fld) (n : Str) : PT 155 [Jh x, .ptr [.str n]] (.d (.bool (gtB x.name n))) := by
 refine ok155.pc ?_;rw [J3];simp only [go_sem, ir155, gtB, Nat.reduceAdd, Nat.reduceEqDiff, Nat.reduceBEq, Nat.reduceLeDiff, reduceCtorEq, ↓reduceIte];exact Nat.one_pos
def ixN (n : Str) (l : List Fld) : Int := ixF (fun f => f.name == n) l
theorem JRG (v : Val) (n : Str) (hl : v.fields.length ≤ 68719476736) : PT 285 [JB v, .str n] (.d (.int .i64 (ixN n v.fields))) := by
 refine ok285.pc ?_;have hc := JQ.clo (ds := [.list 7 (v.fields.map Jh)]) (JGY (fun x => JRD x n) v.fields hl) rfl 3;simp only [Va, Vb, List.cons_append, List.nil_append] at hc;rw [JA];simp only [go_sem, ir285, simprocAttr];refine wn hc ?_;simp only [go_sem, ixN, simprocAttr]
theorem JRH (v : Val) (n : Str) (hl : v.fields.length ≤ 68719476736) : PT 154 [JB v, .str n] (.d (.int .i64 (ixN n v.fields))) := by
 refine ok154.pc ?_;have hc := JQ.clo (ds := [.list 7 (v.fields.map Jh)]) (JGY (fun x => JRE x n) v.fields hl) rfl 3;simp only [Va, Vb, List.cons_append, List.nil_append] at hc;rw [JA];simp only [go_sem, ir154, simprocAttr];refine wn hc ?_;simp only [go_sem, ixN, simprocAttr]
def JLZ (p : Part) (v : Val) : Bool := if p.kind == 1 then v.kind == 9 else if p.kind == 4 then (v.kind == 10) && (((v.list.length : Nat) : Int) == 1) else v.kind == 8
theorem JRI (p : Part) (v : Val) : PT 229 [Jr p, JB v] (.d (.bool (JLZ p v))) := by
 refine ok229.pc ?_;rw [JA];simp only [Jr, JLZ];simp only [go_sem, ir229, simprocAttr];apply ik <;> intro h
 ·simp only [h, ↓reduceIte]
 simp only [h, Vu, ↓reduceIte]
 try refine zz ?_
 apply ik <;> intro h2
 ·simp only [h2, ↓reduceIte];refine sq (((v.list.length : Nat) : Int) == 1) ?_ ?_
  ·exact zz7 trivial
  ·exact zz trivial
 ·simp only [h2, Vu, ↓reduceIte]
def Zm (p : Part) (v : Val) : List Val :=
 if p.kind == 1 then (if ixN p.name v.fields ≥ 0 then [((v.fields[(ixN p.name v.fields).toNat]?).map Fld.value).getD (.mk 0 0 0 [] [] [])] else [])
 else if (p.kind == 3) || ((p.kind == 4) && (v.text == p.name)) then v.list
 else if (p.kind == 2) && decide (p.index < ((v.list.length : Nat) : Int)) then (v.list.drop p.index.toNat).take 1 else []
theorem JRJ (p : Part) (v : Val) (hl : v.fields.length ≤ 68719476736) (hl2 : v.list.length ≤ 68719476736) (hi : 0 ≤ p.index) : PT 230 [Jr p, JB v] (.d (.list 6 ((Zm p v).map JB))) := by
 refine ok230.pc ?_;have c285 := (JRG v p.name hl).call trivial;have hbd := JCe (q := fun f => f.name == p.name) (l := v.fields);change -1 ≤ ixN p.name v.fields ∧ ixN p.name v.fields < v.fields.length at hbd;generalize hT : Zm p v = T;unfold Zm at hT;rw [JA] at c285;rw [JA];simp only [Jr];simp only [go_sem, ir230, simprocAttr];apply ik <;> intro h
 ·rw [if_pos h] at hT;refine wc c285 ?_;generalize ixN p.name v.fields = k at *;apply ik <;> intro h2
  ·simp only [decide_eq_true_eq] at h2;rw [if_pos h2] at hT;have hk : k.toNat < v.fields.length := oM;have hx := J5 hk;have hd : 0 ≤ k ∧ k < (v.fields.length : Int) := ⟨h2, hbd.2⟩;rw [Vl hk] at hT;simp only [Vj, Vp] at hT;rw [← hT];simp only [go_sem, hx, Vc, Va, Vb, JA, simprocAttr];refine ⟨hd, fun x hx => ?_⟩;rcases List.mem_singleton.1 hx with rfl
   rfl
  ·simp only [decide_eq_false_iff_not] at h2;rw [if_neg h2] at hT;rw [← hT];rfl
 rw [if_neg (nF h)] at hT;refine sq ((p.kind == 4) && (v.text == p.name)) ?_ ?_
 ·refine zz ?_;refine sq (v.text == p.name) ?_ ?_
  ·exact zz trivial
  exact zz trivial
 refine zz ?_;apply ik <;> intro h2
 ·rw [if_pos h2] at hT;rw [← hT]
 rw [if_neg (nF h2)] at hT
 try refine zz ?_
 refine sq (decide (p.index < ((v.list.length : Nat) : Int))) ?_ ?_
 ·exact zz7 trivial
 refine zz ?_;apply ik <;> intro h3
 ·rw [if_pos h3] at hT;simp only [Vi, decide_eq_true_eq] at h3;have hw : IntKind.i64.wrap (p.index + 1) = p.index + 1 := wrap64 oM oM;have ht : (p.index + 1 - p.index).toNat = 1 := oM;rw [← hT];simp only [go_sem, hw, ht, List.map_take, List.map_drop, Vc, simprocAttr];refine ⟨⟨hi, oM, oM⟩, ?_⟩;rw [← List.map_drop, ← List.map_take, X7]
 ·rw [if_neg (nF h3)] at hT;rw [← hT];rfl
def JHw (p : Part) : Str := if p.kind == 1 then [46] ++ p.name else if p.kind == 2 then ([91] ++ Lib.itoa p.index) ++ [93] else if p.kind == 3 then [91, 42, 93] else [63] ++ p.name
theorem JRK (p : Part) (hp : p.name.length ≤ 1000) (h0 : -9223372036854775808 ≤ p.index) (h1 : p.index ≤ 9223372036854775807) : PT 284 [Jr p] (.d (.str (JHw p))) := by
 refine ok284.pc ?_;have c96 := call96 p.index h0 h1;have hil := Lib.itoa_length_le p.index h0 h1;simp only [Jr, JHw];simp only [go_sem, ir284, simprocAttr];apply ik <;> intro h
 ·simp only [h, ↓reduceIte, Vg, Vf, Vm];exact ⟨oM, trivial⟩
 simp only [h, Vu, ↓reduceIte]
 try refine zz ?_
 apply ik <;> intro h2
 ·simp only [h2, ↓reduceIte];refine wn c96 ?_;simp only [go_sem, Vg, Vf, Vm, simprocAttr]
  try exact ⟨oM, oM⟩
  try omega
 simp only [h2, Vu, ↓reduceIte]
 try refine zz ?_
 apply ik <;> intro h3
 ·simp only [h3, ↓reduceIte]
 simp only [h3, Vu, ↓reduceIte, Vg, Vf, Vm];exact ⟨oM, trivial⟩
theorem JLa {s : Str} (h : XK s = true) : s.length ≤ 32 := by
 simp only [XK, Vi, Bool.not_eq_true', Bool.or_eq_false_iff, decide_eq_false_iff_not] at h;omega
theorem YZ {p : Part} (h : J7 p = true) : p.name.length ≤ 32 ∧ 0 ≤ p.index ∧ p.index ≤ 255 := by
 unfold J7 at h;split at h
 ·simp only [Vi, beq_iff_eq] at h;exact ⟨JLa h.2, oM, oM⟩
 split at h
 ·simp only [Vi, beq_iff_eq, decide_eq_true_eq] at h;refine ⟨by rw [h.1.1]; simp, oM, oM⟩
 split at h
 ·simp only [Vi, beq_iff_eq] at h;exact ⟨by rw [h.1]; simp, oM, oM⟩
 ·cases h
theorem JHx {p : Part} (h : J7 p = true) : (JHw p).length ≤ 40 := by
 obtain ⟨h1, h2, h3⟩ := YZ h;have := Lib.itoa_length_le p.index oM oM;unfold JHw;split
 ·simp; omega
 split
 ·simp; omega
 split
 ·simp
 ·simp; omega
def szP (l : List Part) : Int := l.foldl (fun n p => n + ((JHw p).length : Int)) (-1)
def hdP (l : List Part) : Bool := (decide ((l.length : Int) < 1) || decide ((l.length : Int) > 16)) || ((l[0]?.map Part.kind).getD 0 != 1)
def JJL (l : List Part) : Int := if hdP l then 3 else if l.all J7 && decide (szP l ≤ 200) then 0 else 3
theorem JHy {l : List Part} {k : Nat} (h : k < l.length) : szP (l.take (k + 1)) = szP (l.take k) + ((JHw l[k]).length : Int) := by
 rw [List.take_succ_eq_append_getElem h];unfold szP;rw [List.foldl_append];rfl
theorem JNo {l : List Part} : ∀ {k : Nat}, k ≤ l.length → (∀ (j : Nat) (h : j < l.length), j < k → J7 l[j] = true) → -1 ≤ szP (l.take k) ∧ szP (l.take k) ≤ 40 * k
 | 0, _, _ => by simp [szP]
 | k + 1, hk, hv => by
  obtain ⟨h1, h2⟩ := JNo (k := k) oM (fun j h hj => hv j h oM);have := JHx (hv k oM oM);rw [JHy oM]
  push_cast
  omega
theorem JRL (l : List Part) (hl : l.length ≤ 68719476736) (hn : ∀ p ∈ l, p.name.length ≤ 68719476736) : PT 228 [.list 3 (l.map Jr)] (.d (.int .i64 (JJL l))) := by
 refine ok228.pc ?_;generalize hT : JJL l = T;unfold JJL at hT;simp only [go_sem, ir228, Vc, simprocAttr];refine sq (decide ((l.length : Int) > 16)) ?_ ?_
 ·exact zz7 trivial
 refine zz ?_;refine Us ((l[0]?.map Part.kind).getD 0 != 1) (fun hq => ?_) ?_
 ·simp only [Bool.or_eq_false_iff, decide_eq_false_iff_not] at hq;have h0 : 0 < l.length := oM;have hx := Yi (xs := l) h0;have e0 : Int.toNat 0 = 0 := rfl;have e1 : (l[0]?.map Part.kind).getD 0 = l[0].kind := by rw [Vl h0]; rfl
  simp only [go_sem, e0, e1, hx, Vc, simprocAttr]
  try exact ⟨oM, sP⟩
  try omega
 refine zz ?_;have hh : hdP l = ((decide ((l.length : Int) < 1) || decide ((l.length : Int) > 16)) || ((l[0]?.map Part.kind).getD 0 != 1)) := rfl;rw [← hh];apply ik <;> intro h
 ·rw [if_pos h] at hT;rw [← hT]
 rw [if_neg (nF h)] at hT;have hl16 : l.length ≤ 16 := by
  simp only [hdP, Bool.or_eq_false_iff, decide_eq_false_iff_not] at h;omega
 try refine zz7 ?_
 refine JJ (fun n s => ∃ k : Nat, k ≤ l.length ∧ n = l.length - k ∧ (∀ (j : Nat) (h1 : j < l.length), j < k → J7 l[j] = true) ∧
  s = ⟨[(3, .d (.int .i64 (szP (l.take k)))), (21, .d (.list 3 (l.map Jr))), (22, .d (.int .i64 l.length)), (23, .d (.int .i64 k))], []⟩) ?_ ?_
 ·exact ⟨_, _, Wk.refl _, 0, Nat.zero_le _, rfl, sP, rfl⟩
 ·rintro n s ⟨k, hk, rfl, hinv, rfl⟩;by_cases hlt : k < l.length
  ·have hx := Yi hlt;have hd := dT hlt;have hc := (JKZ l[k] (hn _ (Vk hlt))).call trivial;simp only [Jr] at hc;refine zz8 ?_;refine ⟨oM, wn hc ?_⟩;refine zz ?_;apply ik <;> intro hf
   ·simp only [Bool.not_eq_true'] at hf;have : l.all J7 = false := by
     rw [List.all_eq_false];exact ⟨_, Vk hlt, by rw [hf]; decide⟩
    rw [this, Bool.false_and, if_neg Bool.false_ne_true] at hT;rw [← hT]
   ·simp only [Bool.not_eq_false'] at hf;obtain ⟨b1, b2, b3⟩ := YZ hf;have ht := (JRK l[k] oM oM oM).call trivial;have htl := JHx hf;obtain ⟨s1, s2⟩ := JNo (k := k) hk hinv;simp only [Jr] at ht
    try refine zz ?_
    refine wc ht ?_;refine ⟨l.length - (k + 1), _, oM, Wk.less ?_, k + 1, oM, rfl, ?_, rfl⟩
    ·have hw : IntKind.i64.wrap (szP (l.take k) + ((JHw l[k]).length : Int)) = szP (l.take k) + ((JHw l[k]).length : Int) := wrap64 oM oM;simp only [go_sem, hw, JHy hlt, Jj k oM, simprocAttr]
    ·intro j h1 hj;by_cases e : j = k
     ·subst e; exact hf
     ·exact hinv j h1 oM
  ·have hd := dF hlt;obtain rfl : k = l.length := oM;have hall : l.all J7 = true := by
    rw [List.all_eq_true];intro x hx;obtain ⟨j, hj, rfl⟩ := List.getElem_of_mem hx;exact hinv j hj hj
   rw [hall, Vt] at hT;refine JGF ?_;apply ik <;> intro h2
   ·simp only [decide_eq_true_eq] at h2;rw [if_neg sO] at hT;rw [← hT]
   ·simp only [decide_eq_false_iff_not] at h2;rw [if_pos sO] at hT;rw [← hT]
mutual
def szV : Val → Nat
 | .mk _ _ _ _ l f => 1 + UH l + Xa f
def UH : List Val → Nat
 | [] => 0
 | v :: r => szV v + UH r
def Xa : List Fld → Nat
 | [] => 0
 | .mk _ v :: r => szV v + Xa r
end
theorem JBB (v : Val) : szV v = 1 + UH v.list + Xa v.fields := by cases v; rfl
theorem ZY (v : Val) : 1 ≤ szV v := by rw [JBB]; omega
theorem JDA : ∀ a b : List Val, UH (a ++ b) = UH a + UH b
 | [], b => by simp [UH]
 | v :: r, b => by simp only [List.cons_append, UH, JDA r b]; omega
theorem YA : ∀ l : List Val, l.length ≤ UH l
 | [] => by simp [UH]
 | v :: r => by
  have := YA r;have := ZY v;simp only [Vf, UH]; omega
theorem JBu : ∀ l : List Fld, l.length ≤ Xa l
 | [] => by simp [Xa]
 | .mk _ v :: r => by
  have := JBu r;have := ZY v;simp only [Vf, Xa]; omega
theorem ZG : ∀ {l : List Val} {x : Val}, x ∈ l → szV x ≤ UH l
 | v :: r, x, h => by
  rcases VA.1 h with rfl | h
  ·simp only [UH]; omega
  ·have := ZG h;simp only [UH]; omega
theorem JBv : ∀ {l : List Fld} {x : Fld}, x ∈ l → szV x.value ≤ Xa l
 | .mk n v :: r, x, h => by
  rcases VA.1 h with rfl | h
  ·show szV v ≤ _;simp only [Xa]; omega
  ·have := JBv h;simp only [Xa]; omega
theorem JBw : ∀ {a b : List Val}, a.Sublist b → UH a ≤ UH b
 | _, _, .slnil => Nat.le_refl _
 | _, _, .cons x h => by have := JBw h; simp only [UH]; omega
 | _, _, .cons_cons x h => by have := JBw h; simp only [UH]; omega
mutual
theorem JEV : ∀ (v : Val), szV v ≤ 68719476736 → okV v
 | .mk _ _ _ _ l f, h => by
  simp only [szV] at h;have h1 := YA l;have h2 := JBu f;simp only [okV];exact ⟨oM, oM, JKc l oM, JKd f oM⟩
theorem JKc : ∀ (l : List Val), UH l ≤ 68719476736 → Yw l
 | [], _ => by simp [Yw]
 | v :: r, h => by
  simp only [UH] at h;simp only [Yw];exact ⟨JEV v oM, JKc r oM⟩
theorem JKd : ∀ (l : List Fld), Xa l ≤ 68719476736 → ZE l
 | [], _ => by simp [ZE]
 | .mk _ v :: r, h => by
  simp only [Xa] at h;simp only [ZE, okF];exact ⟨JEV v oM, JKd r oM⟩
end
theorem JHz (p : Part) (v : Val) : UH (Zm p v) ≤ szV v := by
 rw [JBB];unfold Zm;split
 ·split
  ·rename_i h;have hbd := JCe (q := fun f => f.name == p.name) (l := v.fields);change -1 ≤ ixN p.name v.fields ∧ ixN p.name v.fields < v.fields.length at hbd;have hk : (ixN p.name v.fields).toNat < v.fields.length := oM;rw [Vl hk];have := JBv (Vk hk);simp only [Vj, Vp, UH];omega
  ·simp [UH]
 split
 ·omega
 split
 ·have := JBw ((List.take_sublist 1 (v.list.drop p.index.toNat)).trans (List.drop_sublist _ _));omega
 ·simp [UH]
theorem JAX (p : Part) : ∀ l : List Val, UH (l.flatMap (Zm p)) ≤ UH l
 | [] => by simp [UH]
 | v :: r => by
  have := JAX p r;have := JHz p v;rw [List.flatMap_cons, JDA];simp only [UH];omega
def evP (l : List Part) : Bool := l.any fun p => p.kind == 3
def Yj : List Part → List Val → Option (List Val)
 | [], now => some now
 | p :: r, now => if now.all (JLZ p) then Yj r (now.flatMap (Zm p)) else none
def JBx (l : List Part) : Option (List Val) → List Val × Int
 | none => ([], 22)
 | some now => if (((now.length : Nat) : Int) == 0) && !evP l then ([], 19) else (now, 0)
def XM (v : Val) (l : List Part) : List Val × Int := if JJL l != 0 then ([], JJL l) else JBx l (Yj l [v])
theorem JEW : ∀ (l : List Part) {now out : List Val}, Yj l now = some out → UH out ≤ UH now
 | [], now, out, h => by cases h; exact Nat.le_refl _
 | p :: r, now, out, h => by
  simp only [Yj] at h;split at h
  ·have := JEW r h;have := JAX p now;omega
  ·cases h
theorem JRM {l : List Part} (h : (JJL l != 0) = false) : l.length ≤ 16 ∧ ∀ p ∈ l, J7 p = true := by
 simp only [bne_eq_false_iff_eq] at h;unfold JJL at h;split at h
 ·cases h
 rename_i hh;split at h
 ·rename_i h2;simp only [Vi, List.all_eq_true] at h2;simp only [hdP, Vx, decide_eq_true_eq, not_or] at hh;exact ⟨oM, h2.1⟩
 ·cases h
theorem JLb (p : Part) {now : List Val} {j : Nat} (h : j < now.length) : (now.take (j + 1)).flatMap (Zm p) = (now.take j).flatMap (Zm p) ++ Zm p now[j] := by
 rw [List.take_succ_eq_append_getElem h, List.flatMap_append];simp
theorem JLc (p : Part) (now : List Val) (j : Nat) : UH ((now.take j).flatMap (Zm p)) ≤ UH now := by
 have := JAX p (now.take j);have := JBw (List.take_sublist j now);omega
theorem JKe (v : Val) (l : List Part) (hl : l.length ≤ 68719476736) (hn : ∀ p ∈ l, p.name.length ≤ 68719476736) (hsz : szV v ≤ 1000000) (JAp : CT 179 [.d (.list 3 (l.map Jr))] [] (.d (.bool (evP l))) []) :
  PT 178 [JB v, .list 3 (l.map Jr)] (.tup [.d (.list 6 ((XM v l).1.map JB)), .d (.int .i64 (XM v l).2)]) := by
 refine ok178.pc ?_;have c228 := (JRL l hl hn).call trivial;generalize hT : XM v l = T;unfold XM at hT;rw [JA];simp only [go_sem, ir178, Nat.reduceAdd, Nat.reduceEqDiff, Nat.reduceBEq, Nat.reduceLeDiff, reduceCtorEq, ↓reduceIte];refine wc c228 ?_;apply ik <;> intro h
 ·rw [if_pos h] at hT;rw [← hT];rfl
 rw [if_neg (nF h)] at hT;obtain ⟨hl16, hval⟩ := JRM h;clear h
 try refine zz7 ?_
 refine ⟨(by intro x hx; rcases List.mem_singleton.1 hx with rfl; rfl), ?_⟩;refine JJ (fun n s => ∃ (k : Nat) (now : List Val), k ≤ l.length ∧ n = l.length - k ∧ UH now ≤ 1000000 ∧ Yj l [v] = Yj (l.drop k) now ∧
  s = ⟨[(1, .d (.list 3 (l.map Jr))), (7, .d (.list 6 (now.map JB))), (23, .d (.list 3 (l.map Jr))), (24, .d (.int .i64 l.length)), (25, .d (.int .i64 k))], []⟩) ?_ ?_
 ·refine ⟨_, _, Wk.less ?_, 0, [v], Nat.zero_le _, rfl, by simpa [UH] using hsz, rfl, rfl⟩;simp only [go_sem, JA v, Va, Vb, Nat.reduceAdd, Nat.reduceEqDiff, Nat.reduceBEq, Nat.reduceLeDiff, reduceCtorEq, ↓reduceIte];exact rfl
 ·rintro n s ⟨k, now, hk, rfl, hnz, hwk, rfl⟩;have hnl := YA now;by_cases hlt : k < l.length
  ·have hx := Yi hlt;have hd := dT hlt;refine zz8 ?_;have hcons : l.drop k = l[k] :: l.drop (k + 1) := Vq hlt;generalize hp : l[k] = p at *;have hpv : J7 p = true := hval p (by rw [← hp]; exact Vk hlt);obtain ⟨_, hpi, _⟩ := YZ hpv;refine ⟨oM, ?_⟩;refine JJ (fun n s => ∃ j : Nat, j ≤ now.length ∧ n = now.length - j ∧ (∀ (i : Nat) (h : i < now.length), i < j → JLZ p now[i] = true) ∧
    s = ⟨[(1, .d (.list 3 (l.map Jr))), (23, .d (.list 3 (l.map Jr))), (24, .d (.int .i64 l.length)), (25, .d (.int .i64 k)), (9, .ref 9 0), (10, .ms 43 j), (29, .d (.list 6 (now.map JB))), (30, .d (.int .i64 now.length)), (31, .d (.int .i64 j))],
     [(9, .box [.d (.int .i64 p.kind), .d (.int .i64 p.index), .d (.str p.name)]), (43, .row j 6 (((now.take j).flatMap (Zm p)).map JB))]⟩) ?_ ?_
   ·refine ⟨_, _, (Wk.JId 10 43 6 rfl rfl dC).trans (Wk.less ?_), 0, Nat.zero_le _, rfl, (by intro i h hi; omega), rfl⟩;simp only [go_sem, List.take_zero, List.flatMap_nil, Vb, Vc, Nat.reduceAdd, Nat.reduceEqDiff, Nat.reduceBEq, Nat.reduceLeDiff, reduceCtorEq, ↓reduceIte]
    try exact rfl
   ·rintro n s ⟨j, hj, rfl, hinv, rfl⟩;by_cases hjl : j < now.length
    ·have hx2 := Jy hjl;have hd2 : decide ((j : Int) < (now.length : Int)) = true := sO;have hm := ZG (Vk hjl);have hszx : szV now[j] ≤ 1000000 := oM;rw [JBB] at hszx;have b1 := YA now[j].list;have b2 := JBu now[j].fields;have c229 := (JRI p now[j]).call trivial;have c230 := (JRJ p now[j] oM oM hpi).call trivial;have hled := YA (Zm p now[j]);have hled2 := JHz p now[j];have hacc := YA ((now.take j).flatMap (Zm p));have hacc2 := JLc p now j;simp only [Jr] at c229 c230;rw [JA] at c229 c230;refine zz72 ?_;refine ⟨oM, wn c229 ?_⟩;refine zz ?_;apply ik <;> intro hf
     ·simp only [Bool.not_eq_true'] at hf;have : now.all (JLZ p) = false := by
       rw [List.all_eq_false];exact ⟨_, Vk hjl, by rw [hf]; decide⟩
      rw [hwk, hcons] at hT;simp only [Yj, this, Vu, ↓reduceIte, JBx] at hT;rw [← hT];rfl
     ·simp only [Bool.not_eq_false'] at hf
      try refine zz ?_
      refine wn c230 ?_;refine zz7 ?_;refine ⟨oM, now.length - (j + 1), _, oM, Wk.less ?_, j + 1, oM, rfl, ?_, rfl⟩
      ·rw [JLb p hjl, Vw];simp only [go_sem, Jj j oM, Nat.reduceAdd, Nat.reduceEqDiff, Nat.reduceBEq, Nat.reduceLeDiff, reduceCtorEq, ↓reduceIte]
      ·intro i h1 hi;by_cases e : i = j
       ·subst e; exact hf
       ·exact hinv i h1 oM
    ·have hd2 : decide ((j : Int) < (now.length : Int)) = false := sO;obtain rfl : j = now.length := oM;have hall : now.all (JLZ p) = true := by
      rw [List.all_eq_true];intro x hx;obtain ⟨i, hi, rfl⟩ := List.getElem_of_mem hx;exact hinv i hi hi
     refine zz73 ?_;refine ⟨l.length - (k + 1), _, oM, (Wk.frzT 7 43 now.length 6 ((now.flatMap (Zm p)).map JB) rfl rfl).trans (Wk.less ?_), k + 1, now.flatMap (Zm p), oM, rfl, ?_, ?_, rfl⟩
     ·exact Y6 trivial
     ·have := JAX p now; omega
     ·rw [hwk, hcons];simp only [Yj, hall, ↓reduceIte]
  ·have hd := dF hlt;obtain rfl : k = l.length := oM;rw [List.drop_length] at hwk;simp only [Yj] at hwk;rw [hwk] at hT;simp only [JBx] at hT;refine zz74 ?_;refine sq (!evP l) ?_ ?_
   ·refine zz ?_;refine wc JAp trivial
   refine zz ?_;apply ik <;> intro h
   ·rw [if_pos h] at hT;rw [← hT];rfl
   rw [if_neg (nF h)] at hT;rw [← hT]
   try refine zz7 ?_
   refine JJ (fun n s => ∃ j : Nat, j ≤ now.length ∧ n = now.length - j ∧
    s = ⟨[(13, .ms 65 j), (55, .d (.list 6 (now.map JB))), (56, .d (.int .i64 now.length)), (57, .d (.int .i64 j))], [(65, .row j 6 ((now.take j).map JB))]⟩) ?_ ?_
   ·refine ⟨_, _, (Wk.JId 13 65 6 rfl rfl dC).trans (Wk.less ?_), 0, Nat.zero_le _, rfl, rfl⟩;refine zz75 ?_;exact zf
   ·rintro n s ⟨j, hj, rfl, rfl⟩;by_cases hjl : j < now.length
    ·have hx2 := Jy hjl;have hd2 : decide ((j : Int) < (now.length : Int)) = true := sO;have hm := ZG (Vk hjl);have c55 := (JCd now[j] (JEV _ oM)).call trivial;rw [JA] at c55;refine zz72 ?_;refine ⟨oM, wn c55 ?_⟩;refine zz76 ?_;refine ⟨(by intro x hx; rcases List.mem_singleton.1 hx with rfl; rfl), oM, now.length - (j + 1), _, oM, Wk.less ?_, j + 1, oM, rfl, rfl⟩;rw [List.take_succ_eq_append_getElem hjl, Vw];simp only [go_sem, Jj j oM, Va, Vb, JA now[j], Nat.reduceAdd, Nat.reduceEqDiff, Nat.reduceBEq, Nat.reduceLeDiff, reduceCtorEq, ↓reduceIte]
    ·have hd2 : decide ((j : Int) < (now.length : Int)) = false := sO;obtain rfl : j = now.length := oM;exact zz73 trivial
abbrev vK (a : Val) (i j : Nat) : Av := .agg [.d (.int .i64 a.kind), .d (.int .i64 a.int), .d (.int .i64 a.scale), .d (.str a.text), .ms i a.list.length, .ms j a.fields.length]
abbrev uK (a : Val) (i j : Nat) : List (Nat × Av.Obj) := [(i, .row a.list.length 6 (a.list.map JB)), (j, .row a.fields.length 7 (a.fields.map Jh))]
theorem con55k (a : Val) (ha : a.list.length ≤ 68719476736) (ha2 : a.fields.length ≤ 68719476736) (h1 : ∀ x ∈ a.list, CT 55 [.d (JB x)] [] (.d (JB x)) []) (h2 : ∀ x ∈ a.fields, CT 55 [.d (JB x.value)] [] (.d (JB x.value)) []) :
  KT 55 [.d (JB a)] [] (vK a 23 42) (uK a 23 42) := by
 refine ok55.co (k := true) (Jd (by simp [UA, put, Jc, J4, JP, JW])) (by simp [JD, upd, inT, JW, JP]) ?_;rw [JA];simp only [go_sem, ir55, simprocAttr];refine JJ (fun n s => ∃ k : Nat, k ≤ a.list.length ∧ n = a.list.length - k ∧
  s = ⟨[(1, .ref 1 0), (2, .ref 2 0), (3, .ref 3 0), (12, .d (.list 6 (a.list.map JB))), (13, .d (.int .i64 a.list.length)), (14, .d (.int .i64 k))],
   [(1, .box [.d (.int .i64 a.kind), .d (.int .i64 a.int), .d (.int .i64 a.scale), .d (.str a.text), .d (.list 6 (a.list.map JB)), .d (.list 7 (a.fields.map Jh))]),
    (2, .box [.d (.int .i64 0), .d (.int .i64 0), .d (.int .i64 0), .d (.str []), .d (.nil 6), .d (.nil 7)]),
    (3, .box [.d (.int .i64 a.kind), .d (.int .i64 a.int), .d (.int .i64 a.scale), .d (.str a.text), .ms 23 k, .d (.nil 7)]),
    (23, .row k 6 ((a.list.take k).map JB))]⟩) ?_ ?_
 ·refine ⟨_, _, Wk.JIe 3 4 23 6 _ rfl rfl rfl dC, 0, Nat.zero_le _, rfl, ?_⟩;simp [put]
 ·rintro n s ⟨k, hk, rfl, rfl⟩;by_cases hlt : k < a.list.length
  ·have hx := Jy hlt;have hd := dT hlt;refine JIx ?_;have hc := h1 a.list[k] (Vk _);rw [JA] at hc;refine ⟨sO, JC rfl hc trivial ?_⟩;refine zz ?_;refine ⟨sP, sO, rfl, a.list.length - (k + 1), _, oM, Wk.less ?_, k + 1, oM, rfl, rfl⟩;rw [List.take_succ_eq_append_getElem hlt, Vw];simp only [go_sem, Jj k oM, Va, Vb, JA a.list[k], Nat.reduceAdd, Nat.reduceEqDiff, Nat.reduceBEq, Nat.reduceLeDiff, reduceCtorEq, ↓reduceIte]
  ·have hd := dF hlt;obtain rfl : k = a.list.length := oM;refine JGF ?_;refine JJ (fun n s => ∃ k : Nat, k ≤ a.fields.length ∧ n = a.fields.length - k ∧
    s = ⟨[(2, .ref 2 0), (3, .ref 3 0), (27, .d (.list 7 (a.fields.map Jh))), (28, .d (.int .i64 a.fields.length)), (29, .d (.int .i64 k))],
     [(2, .box [.d (.int .i64 0), .d (.int .i64 0), .d (.int .i64 0), .d (.str []), .d (.nil 6), .d (.nil 7)]),
      (3, .box [.d (.int .i64 a.kind), .d (.int .i64 a.int), .d (.int .i64 a.scale), .d (.str a.text), .ms 23 a.list.length, .ms 42 k]),
      (23, .row a.list.length 6 (a.list.map JB)),
      (42, .row k 7 ((a.fields.take k).map Jh))]⟩) ?_ ?_
   ·refine ⟨_, _, (Wk.JIe 3 5 42 7 _ rfl rfl rfl dC).trans (Wk.less ?_), 0, Nat.zero_le _, rfl, rfl⟩;simp [put, go_sem]
   ·rintro n s ⟨k, hk, rfl, rfl⟩;by_cases hlt : k < a.fields.length
    ·have hx := J5 hlt;have hd := dT hlt;have hc := h2 a.fields[k] (Vk _);rw [JA] at hc;refine JIx ?_;refine ⟨sO, JC rfl hc trivial ?_⟩;refine zz ?_;refine ⟨sP, sO, rfl, a.fields.length - (k + 1), _, oM, Wk.less ?_, k + 1, oM, rfl, rfl⟩;rw [List.take_succ_eq_append_getElem hlt, Vw];simp only [go_sem, Jj k oM, Va, Vb, J3 a.fields[k], Nat.reduceAdd, Nat.reduceEqDiff, Nat.reduceBEq, Nat.reduceLeDiff, reduceCtorEq, ↓reduceIte]
    ·have hd := dF hlt;obtain rfl : k = a.fields.length := oM;exact JGF trivial
theorem JRN (a : Val) (ha : okV a) (i j : Nat) (hij : i ≠ j) : CT 55 [.d (JB a)] [(i, none), (j, none)] (vK a i j) (uK a i j) := by
 obtain ⟨k, n, s, t, l, f⟩ := a;simp only [okV] at ha;obtain ⟨a1, a2, a3, a4⟩ := ha;have hd : ∀ m, (JD (get []) (uK (.mk k n s t l f) 23 42) m).isSome = true → m = 23 ∨ m = 42 := by
  intro m h;simp only [uK, JD, upd] at h;split at h
  ·rename_i e; exact .inr e
  ·split at h
   ·rename_i e; exact .inl e
   ·cases h
 have := (con55k (.mk k n s t l f) a1 a2 (fun x hx => (JGW l a3 x hx).call trivial) (fun x hx => (JGX f a4 x hx).call trivial)).call (fun m => if m = 23 then i else j) (by intro j h; cases h) ?_ ?_ (by intro j o h; cases h) [23, 42] ?_ ?_ ?_
 ·simp only [vK, uK, Av.ren, Obj.ren, J1, Va, Vb, List.nil_append, simprocAttr] at this ⊢;exact this
 ·intro a b ha hb e;rcases hd a ha with rfl | rfl <;> rcases hd b hb with rfl | rfl
  ·rfl
  ·simp at e; exact absurd e hij
  ·simp at e; exact absurd e.symm hij
  ·rfl
 ·intro c hc;simp only [List.mem_singleton] at hc;subst hc;trivial
 ·intro e he;simp only [uK, VA, List.not_mem_nil, or_false] at he;rcases he with rfl | rfl <;> exact .inr sP
 ·exact Jd (by simp [uK, UA, put, Jc, J4, JP, JW])
 ·simp [uK, vK, JD, upd, inT, JW, JP]
end Go.Proofs
namespace Go.Proofs
open Go Av
open Av.Y
def ir13 : Ic := q (R (ox 1 0<|ow 2 false<|N) [0,2])<|q (R (of 3 1 0<|ol 4 3<|oi 5 .eql 4 0<|om 6 5<|.sc 6 true (of 7 1 1<|ol 8 7<|oi 9 .eql 8 0<|N) (t 9) 10 (om 11 10<|.sc 11 true (of 12 1 2<|ol 13 12<|oi 14 .eql 13 0<|N) (t 14) 15 (om 16 15<|.sc 16 true (of 17 1 3<|ol 18 17<|ob 19 .seq (t 18) (.k (.str []))<|N) (t 19) 20 (om 21 20<|.sc 21 true (of 22 1 4<|ol 23 22<|oh 24 23<|oi 25 .eql 24 0<|N) (t 25) 26 (om 27 26<|.sc 27 true (of 28 1 5<|ol 29 28<|oh 30 29<|oi 31 .eql 30 0<|N) (t 31) 32 (om 2 32<|N)))))) [1,3,4,5,6,10,11,15,16,20,21,26,27,32])<|.ret
theorem ok13 : FT 13 33 ir13 [.tmp 2] := .o Tryz.func13
def JNp : Ic := q (R (om 5 11<|N) [10,11])<|R (oN 6 v6<|oS 6 6 12<|N) [12]
def JJM : Ic := D (.block 1<|q (R (ol 13 4<|oi 14 .add 13 1<|os 4 14<|N) [13,14])<|q (D (.block 2<|q (R (ol 16 4<|oi 17 .gtr 16 4096<|om 15 17<|N) [4,16,17])<|I 15 (q (R (on (.sto none (t 2) (i 9))<|N) [2,3,5,6,15])<|.ret) (q (R (om 19 5<|oi 20 .gtr 19 8<|om 18 20<|N) [5,15,19,20])<|I 18 (q (R (on (.sto none (t 2) (i 23))<|N) [2,3,6,18])<|.ret) (q (R (oL 22 6 6<|cl 23 13 [t 22]<|om 21 23<|N) [18,22,23])<|I 21 (q (R (on (.sto none (t 2) (i 19))<|N) [2,3,6,21])<|.ret) (q (R (of 25 6 0<|ol 26 25<|oi 27 .lss 26 1<|om 28 27<|.sc 28 false (of 29 6 0<|ol 30 29<|oi 31 .gtr 30 10<|N) (t 31) 32 (om 24 32<|N)) [21,25,26,27,28,29,30,31,32])<|I 24 (q (R (on (.sto none (t 2) (i 11))<|N) [2,3,6,24])<|.ret) (q (R (oL 34 6 6<|cl 35 50 [t 34]<|og 36 35<|om 33 36<|N) [24,34,35,36])<|D (I 33 (q (R (on (.sto none (t 2) (i 3))<|N) [2,3,6,33])<|.ret) S) [33]))))) [4,5,16,17,15,19,20,18,22,23,21,25,26,27,28,29,30,31,32,24,34,35,36,33])<|q (R (of 37 6 0<|ol 38 37<|oo 39 (.ixr 11 1 (t 3) (t 38))<|ol 40 39<|oL 41 6 6<|.call (some 42) (.dyn (t 40)) [t 41] (om 7 42<|N)) [3,6,37,38,39,40,41,42])<|q (R (om 43 7<|oi 44 .neq 43 0<|N) [43])<|D (I 44 (q (R (om 45 7<|os 2 45<|N) [2,7,44,45])<|.ret) S) [2,7,44]) [2,3,4,5,6,13,14,16,17,15,19,20,18,22,23,21,25,26,27,28,29,30,31,32,24,34,35,36,33,37,38,39,40,41,42,7,43,44,45]
noncomputable def ir15 : Ic := q (R (ox 1 0<|oN 2 [.int .i64 0]<|N) [0])<|q (R (cl 8 48 []<|oN 3 [.nilFn,.nilFn,.nilFn,.nilFn,.nilFn,.nilFn,.nilFn,.nilFn,.nilFn,.nilFn,.nilFn]<|oS 11 3 8<|N) [8])<|q (.reg (oN 4 [.int .i64 0]<|on (.sto none (t 4) (i 0))<|N))<|q (q (R (oL 9 6 1<|cl 10 49 [t 9]<|N) [1,9])<|D (.block 0<|D (.rng (t 10) 46 57 #[11,12] (Xs (U3 Tryz.f15) [1,1,1,0,1,0,0]) (Xs (U3 Tryz.f15) [1,1,1,0,1,0,1]) JNp JJM) [3,4,10]) [3,4,10])<|q (.reg (on (.sto none (t 2) (i 0))<|N))<|.ret
theorem ok15 : FT 15 46 ir15 [.cell 2 none] := .o Tryz.func15
def ir48 : Ic := q (.reg (oN 0 [.nilFn,.nilFn,.nilFn,.nilFn,.nilFn,.nilFn,.nilFn,.nilFn,.nilFn,.nilFn,.nilFn]<|N))<|q (R (oo 1 (.bld [.nilFn,.nilFn,.nilFn,.nilFn,.nilFn,.nilFn,.nilFn,.nilFn,.nilFn,.nilFn,.nilFn] [(1,1,.k (.fn (.func 99) [] [])),(2,1,.k (.fn (.func 101) [] [])),(3,1,.k (.fn (.func 102) [] [])),(4,1,.k (.fn (.func 104) [] [])),(5,1,.k (.fn (.func 107) [] [])),(6,1,.k (.fn (.func 108) [] [])),(7,1,.k (.fn (.func 109) [] [])),(8,1,.k (.fn (.func 110) [] [])),(9,1,.k (.fn (.func 111) [] [])),(10,1,.k (.fn (.func 113) [] []))])<|oS 11 0 1<|N) [1])<|.ret
theorem ok48 : FT 48 2 ir48 [.cell 0 (some 11)] := .o Tryz.func48
def ir49 : Ic := q (R (ox 1 0<|ok 2 (.k .nilFn)<|N) [0,2])<|q (R (oo 3 (.fnv (.func 114) [] [t 1])<|om 2 3<|N) [1,3])<|.ret
theorem ok49 : FT 49 4 ir49 [.tmp 2] := .o Tryz.func49
def ir50 : Ic := q (R (ox 1 0<|ow 2 false<|N) [0,2])<|q (R (of 6 1 0<|ol 7 6<|oi 8 .eql 7 1<|om 9 8<|.sc 9 false (of 10 1 0<|ol 11 10<|oi 12 .eql 11 2<|N) (t 12) 13 (om 14 13<|.sc 14 false (of 15 1 0<|ol 16 15<|oi 17 .eql 16 6<|N) (t 17) 18 (om 19 18<|.sc 19 false (of 20 1 0<|ol 21 20<|oi 22 .eql 21 7<|N) (t 22) 23 (om 24 23<|.sc 24 false (of 25 1 0<|ol 26 25<|oi 27 .eql 26 3<|N) (t 27) 28 (om 3 28<|N))))) [6,7,8,9,13,14,18,19,23,24,28])<|q (R (of 29 1 0<|ol 30 29<|oi 31 .eql 30 4<|om 32 31<|.sc 32 false (of 33 1 0<|ol 34 33<|oi 35 .eql 34 5<|N) (t 35) 36 (om 37 36<|.sc 37 false (of 38 1 0<|ol 39 38<|oi 40 .eql 39 10<|N) (t 40) 41 (om 4 41<|N))) [29,30,31,32,36,37,41])<|q (R (of 42 1 0<|ol 43 42<|oi 44 .eql 43 8<|om 45 44<|.sc 45 false (of 46 1 0<|ol 47 46<|oi 48 .eql 47 10<|N) (t 48) 49 (om 5 49<|N)) [42,43,44,45,49])<|q (R (om 50 3<|om 51 50<|.sc 51 false (of 52 1 1<|ol 53 52<|oi 54 .eql 53 0<|N) (t 54) 55 (om 56 55<|.sc 56 true (of 57 1 0<|ol 58 57<|oi 59 .eql 58 3<|om 60 59<|.sc 60 false (of 61 1 2<|ol 62 61<|oi 63 .eql 62 0<|N) (t 63) 64 N) (t 64) 65 (om 66 65<|.sc 66 true (om 67 4<|om 68 67<|.sc 68 false (of 69 1 3<|ol 70 69<|ob 71 .seq (t 70) (.k (.str []))<|N) (t 71) 72 N) (t 72) 73 (om 74 73<|.sc 74 true (om 75 5<|om 76 75<|.sc 76 false (of 77 1 4<|ol 78 77<|oh 79 78<|oi 80 .eql 79 0<|N) (t 80) 81 N) (t 81) 82 (om 83 82<|.sc 83 true (of 84 1 0<|ol 85 84<|oi 86 .eql 85 9<|om 87 86<|.sc 87 false (of 88 1 5<|ol 89 88<|oh 90 89<|oi 91 .eql 90 0<|N) (t 91) 92 N) (t 92) 93 (om 2 93<|N)))))) [1,3,4,5,50,51,55,56,65,66,73,74,82,83,93])<|.ret
theorem ok50 : FT 50 94 ir50 [.tmp 2] := .o Tryz.func50
def ir53 : Ic := q (R (ox 1 0<|oz 2 0<|N) [0,2])<|q (.reg (oN 3 [.int .i64 0]<|on (.sto none (t 3) (i 0))<|N))<|q (.reg (oN 4 [.nilFn]<|N))<|q (R (oo 5 (.fnv (.func 119) [] [t 3,t 4])<|os 4 5<|N) [3,5])<|q (R (ol 6 4<|oL 7 5 1<|.call (some 8) (.dyn (t 6)) [t 7,i 1] (om 2 8<|N)) [1,4,6,7,8])<|.ret
theorem ok53 : FT 53 9 ir53 [.tmp 2] := .o Tryz.func53
def ir67 : Ic := q (R (ow 2 false<|N) [2])<|q (R (om 3 0<|oi 4 .eql 3 2<|om 5 4<|.sc 5 false (om 6 0<|oi 7 .eql 6 22<|N) (t 7) 8 (om 9 8<|.sc 9 false (om 10 0<|oi 11 .eql 10 26<|N) (t 11) 12 (om 2 12<|N))) [0,3,4,5,8,9,12])<|.ret
theorem ok67 : FT 67 13 ir67 [.tmp 2] := .o Tryz.func67
def ir99 : Ic := q (R (ox 1 0<|oz 2 0<|N) [0,2])<|q (R (of 3 1 1<|ol 4 3<|cl 5 100 [t 4,i 0,i 1]<|om 2 5<|N) [1,3,4,5])<|.ret
theorem ok99 : FT 99 6 ir99 [.tmp 2] := .o Tryz.func99
def ir100 : Ic := q (R (oz 6 0<|N) [6])<|q (q (R (om 7 0<|om 8 1<|ot 9 .lss 7 8<|om 10 9<|.sc 10 false (om 11 0<|om 12 2<|ot 13 .gtr 11 12<|N) (t 13) 14 N) [0,1,2,7,8,9,10])<|D (I 14 (q (R (oz 6 2<|N) [14])<|.ret) S) [14])<|q (.reg (oz 6 0<|N))<|.ret
theorem ok100 : FT 100 15 ir100 [.tmp 6] := .o Tryz.func100
def ir101 : Ic := q (R (ox 1 0<|oz 2 0<|N) [0,2])<|q (R (of 3 1 1<|ol 4 3<|cl 5 100 [t 4,i (-999999999999999),i 999999999999999]<|om 2 5<|N) [1,3,4,5])<|.ret
theorem ok101 : FT 101 6 ir101 [.tmp 2] := .o Tryz.func101
def ir102 : Ic := q (R (ox 1 0<|oz 2 0<|N) [0,2])<|q (D (.regd [(2,4)] (of 3 1 1<|ol 4 3<|cl 5 100 [t 4,i (-999999999999999),i 999999999999999]<|of 6 1 2<|ol 7 6<|cl 8 100 [t 7,i 0,i 12]<|oo 9 (.bls 1 [t 5,t 8])<|cl 10 103 [t 9]<|om 2 10<|N)) [1,3,4,5,6,7,8,9,10])<|.ret
theorem ok102 : FT 102 11 ir102 [.tmp 2] := .o Tryz.func102
def ir103 : Ic := q (R (oz 2 0<|N) [2])<|q (q (R (om 5 0<|oh 6 5<|oz 7 0<|N) [0])<|D (.block 0<|.loop (q (.reg (ot 8 .lss 7 6<|N))<|q (D (I 8 S (E 0)) [8])<|q (D (.block 1<|q (R (oa false 9 1 5 7<|ol 10 9<|om 4 10<|N) [9,10])<|q (R (om 11 4<|oi 12 .neq 11 0<|N) [11])<|D (I 12 (q (R (om 13 4<|om 2 13<|N) [5,6,7,4,12,13])<|.ret) S) [4,12]) [])<|R (oi 14 .add 7 1<|om 7 14<|N) [14])) [5,6,7,8,9,10,4,11])<|q (.reg (oz 2 0<|N))<|.ret
theorem ok103 : FT 103 15 ir103 [.tmp 2] := .o Tryz.func103
def ir104 : Ic := q (R (ox 1 0<|oz 2 0<|N) [0,2])<|q (R (of 4 1 3<|ol 5 4<|oj 6 5<|cl 7 105 [t 6,i 1024,i 5]<|om 3 7<|N) [4,5,6,7])<|q (q (R (om 8 3<|oi 9 .eql 8 0<|om 10 9<|.sc 10 true (of 11 1 3<|ol 12 11<|cl 13 106 [t 12]<|og 14 13<|N) (t 14) 15 N) [1,8,9,10])<|D (I 15 (R (oz 3 16<|N) [15]) S) [15])<|q (R (om 16 3<|om 2 16<|N) [3,16])<|.ret
theorem ok104 : FT 104 17 ir104 [.tmp 2] := .o Tryz.func104
def ir105 : Ic := q (R (oz 6 0<|N) [6])<|q (q (R (om 7 0<|om 8 1<|ot 9 .gtr 7 8<|N) [0,1,7,8])<|D (I 9 (q (R (om 10 2<|om 6 10<|N) [2,9,10])<|.ret) S) [2,9])<|q (.reg (oz 6 0<|N))<|.ret
theorem ok105 : FT 105 11 ir105 [.tmp 6] := .o Tryz.func105
def ir107 : Ic := q (R (ox 1 0<|oz 2 0<|N) [0,2])<|q (R (of 3 1 3<|ol 4 3<|oj 5 4<|cl 6 105 [t 5,i 1024,i 5]<|om 2 6<|N) [1,3,4,5,6])<|.ret
theorem ok107 : FT 107 7 ir107 [.tmp 2] := .o Tryz.func107
def ir108 : Ic := q (R (ox 1 0<|oz 2 0<|N) [0,2])<|q (R (of 3 1 1<|ol 4 3<|cl 5 100 [t 4,i (-719162),i 2932896]<|om 2 5<|N) [1,3,4,5])<|.ret
theorem ok108 : FT 108 6 ir108 [.tmp 2] := .o Tryz.func108
def ir109 : Ic := q (R (ox 1 0<|oz 2 0<|N) [0,2])<|q (R (of 3 1 1<|ol 4 3<|cl 5 100 [t 4,i (-62135596800000),i 253402300799999]<|om 2 5<|N) [1,3,4,5])<|.ret
theorem ok109 : FT 109 6 ir109 [.tmp 2] := .o Tryz.func109
def ir110 : Ic := q (R (ox 1 0<|oz 2 0<|N) [0,2])<|q (R (of 3 1 4<|ol 4 3<|oh 5 4<|cl 6 105 [t 5,i 256,i 9]<|om 2 6<|N) [1,3,4,5,6])<|.ret
theorem ok110 : FT 110 7 ir110 [.tmp 2] := .o Tryz.func110
def ir111 : Ic := q (R (ox 1 0<|oz 2 0<|N) [0,2])<|q (q (R (of 6 1 5<|ol 7 6<|oh 8 7<|cl 9 105 [t 8,i 64,i 9]<|om 3 9<|N) [6,7,8,9])<|q (R (om 10 3<|oi 11 .neq 10 0<|N) [10])<|D (I 11 (q (R (om 12 3<|om 2 12<|N) [1,3,11,12])<|.ret) S) [3,11])<|q (q (R (of 13 1 5<|ol 14 13<|oh 15 14<|oz 16 0<|N) [13])<|D (.block 0<|.loop (q (.reg (ot 17 .lss 16 15<|N))<|q (D (I 17 S (E 0)) [17])<|q (D (.block 1<|q (R (om 18 16<|oa true 19 7 14 16<|oL 20 7 19<|oN 5 v7<|om 4 18<|oS 7 5 20<|N) [18,19,20])<|D (.block 2<|q (R (of 22 5 0<|ol 23 22<|cl 24 112 [t 23]<|og 25 24<|om 21 25<|N) [22,23,24,25])<|D (I 21 (q (R (oz 2 12<|N) [1,14,15,16,5,4,21])<|.ret) (q (R (om 27 4<|oi 28 .gtr 27 0<|om 29 28<|.sc 29 true (of 30 5 0<|ol 31 30<|of 32 1 5<|ol 33 32<|om 34 4<|oi 35 .sub 34 1<|oa true 36 7 33 35<|of 37 36 0<|ol 38 37<|ot 39 .seq 31 38<|N) (t 39) 40 (om 26 40<|N)) [21,27,28,29,40])<|D (I 26 (q (R (oz 2 7<|N) [1,14,15,16,5,4,26])<|.ret) (q (R (om 42 4<|oi 43 .gtr 42 0<|om 44 43<|.sc 44 true (of 45 5 0<|ol 46 45<|of 47 1 5<|ol 48 47<|om 49 4<|oi 50 .sub 49 1<|oa true 51 7 48 50<|of 52 51 0<|ol 53 52<|ot 54 .slt 46 53<|N) (t 54) 55 (om 41 55<|N)) [5,4,26,42,43,44,55])<|D (I 41 (q (R (oz 2 24<|N) [1,14,15,16,41])<|.ret) S) [41])) [])) []) []) [])<|R (oi 56 .add 16 1<|om 16 56<|N) [56])) [1,14,15,16,17,5,4])<|q (.reg (oz 2 0<|N))<|.ret
theorem ok111 : FT 111 57 ir111 [.tmp 2] := .o Tryz.func111
def ir113 : Ic := q (R (ox 1 0<|oz 2 0<|N) [0,2])<|q (D (.block 0<|q (R (of 4 1 3<|ol 5 4<|cl 6 112 [t 5]<|og 7 6<|om 3 7<|N) [4,5,6,7])<|D (I 3 (q (R (oz 2 12<|N) [1,3])<|.ret) (q (R (of 9 1 4<|ol 10 9<|oh 11 10<|oi 12 .eql 11 0<|om 8 12<|N) [3,9,10,11,12])<|D (I 8 (q (R (oz 2 4<|N) [1,8])<|.ret) S) [8])) []) [])<|q (R (of 13 1 4<|ol 14 13<|oh 15 14<|cl 16 105 [t 15,i 1,i 3]<|om 2 16<|N) [1,13,14,15,16])<|.ret
theorem ok113 : FT 113 17 ir113 [.tmp 2] := .o Tryz.func113
def ir114 : Ic := R (oL 3 6 1<|om 4 0<|cl 5 115 [t 3,i 1,t 4]<|N) [0,3,4,5]
theorem JNq : FT 114 6 ir114 [] := .o Tryz.func114
def JNr : Ic := q (R (ox 3 0<|ow 6 false<|N) [0,6])<|q (q (R (om 9 2<|om 10 1<|oL 11 6 3<|.call (some 12) (.dyn (t 9)) [t 10,t 11] (og 13 12<|N)) [9,10,11,12])<|D (I 13 (q (R (ow 6 false<|N) [1,2,3,13])<|.ret) S) [13])<|q (q (R (oL 14 6 3<|cl 15 167 [t 14]<|oh 16 15<|oz 17 0<|N) [3,14])<|D (.block 0<|.loop (q (.reg (ot 18 .lss 17 16<|N))<|q (D (I 18 S (E 0)) [18])<|q (D (.block 1<|q (R (oa true 19 6 15 17<|oL 20 6 19<|oN 8 v6<|oS 6 8 20<|N) [19,20])<|q (R (oL 21 6 8<|om 22 1<|oi 23 .add 22 1<|om 24 2<|cl 25 115 [t 21,t 23,t 24]<|og 26 25<|N) [8,21,22,23,24,25])<|D (I 26 (q (R (ow 6 false<|N) [1,2,15,16,17,26])<|.ret) S) [26]) [])<|R (oi 27 .add 17 1<|om 17 27<|N) [27])) [1,2,15,16,17,18,8])<|q (.reg (ow 6 true<|N))<|.ret
theorem JNs : FT 115 28 JNr [.tmp 6] := .o Tryz.func115
def ir119 : Ic := q (R (ox 4 0<|oz 6 0<|N) [0,6])<|q (q (R (ol 11 2<|oi 12 .eql 11 256<|N) [11])<|D (I 12 (q (R (oz 6 9<|N) [1,4,12])<|.ret) S) [12])<|q (R (ol 13 2<|oi 14 .add 13 1<|os 2 14<|N) [13,14])<|q (q (R (om 15 1<|oi 16 .gtr 15 8<|N) [15])<|D (I 16 (q (R (oz 6 23<|N) [1,4,16])<|.ret) S) [16])<|q (q (R (oL 17 5 4<|cl 18 120 [t 17]<|om 7 18<|N) [17,18])<|q (R (om 19 7<|oi 20 .neq 19 0<|N) [19])<|D (I 20 (q (R (om 21 7<|om 6 21<|N) [1,4,7,20,21])<|.ret) S) [7,20])<|q (q (R (of 22 4 4<|ol 23 22<|oh 24 23<|oz 25 0<|N) [4,22])<|D (.block 0<|.loop (q (.reg (ot 26 .lss 25 24<|N))<|q (D (I 26 S (E 0)) [26])<|q (D (.block 1<|q (R (oa true 27 5 23 25<|oL 28 5 27<|oN 9 [.int .i64 0,.int .i64 0,.str [],.nil 6,.nil 5]<|oS 5 9 28<|N) [27,28])<|q (R (ol 29 3<|oL 30 5 9<|om 31 1<|oi 32 .add 31 1<|.call (some 33) (.dyn (t 29)) [t 30,t 32] (om 10 33<|N)) [9,29,30,31,32,33])<|q (R (om 34 10<|oi 35 .neq 34 0<|N) [34])<|D (I 35 (q (R (om 36 10<|om 6 36<|N) [1,23,24,25,10,35,36])<|.ret) S) [10,35]) [])<|R (oi 37 .add 25 1<|om 25 37<|N) [37])) [1,23,24,25,26,9,10])<|q (.reg (oz 6 0<|N))<|.ret
theorem JNt : FT 119 38 ir119 [.tmp 6] := .o Tryz.func119
def ir120 : Ic := q (R (ox 1 0<|oz 2 0<|N) [0,2])<|q (q (R (of 8 1 0<|ol 9 8<|oi 10 .lss 9 1<|om 11 10<|.sc 11 false (of 12 1 0<|ol 13 12<|oi 14 .gtr 13 28<|N) (t 14) 15 N) [8,9,10,11])<|D (I 15 (q (R (oz 2 11<|N) [1,15])<|.ret) S) [15])<|q (R (of 17 1 0<|ol 18 17<|cl 19 168 [t 18]<|om 16 19<|oe 20 16 0<|oe 21 16 1<|om 3 20<|om 4 21<|N) [17,18,19,16,20,21])<|q (D (.block 0<|q (R (of 23 1 0<|ol 24 23<|oi 25 .neq 24 1<|om 26 25<|.sc 26 true (of 27 1 3<|ol 28 27<|oh 29 28<|oi 30 .gtr 29 0<|N) (t 30) 31 (om 32 31<|.sc 32 false (of 33 1 0<|ol 34 33<|cl 35 67 [t 34]<|og 36 35<|om 37 36<|.sc 37 true (of 38 1 2<|ol 39 38<|ob 40 .sne (t 39) (.k (.str []))<|N) (t 40) 41 N) (t 41) 42 (om 43 42<|.sc 43 false (of 44 1 0<|ol 45 44<|cl 46 169 [t 45]<|og 47 46<|om 48 47<|.sc 48 true (of 49 1 1<|ol 50 49<|oi 51 .neq 50 0<|N) (t 51) 52 N) (t 52) 53 (om 22 53<|N)))) [23,24,25,26,31,32,42,43,53])<|D (I 22 (q (R (oz 2 3<|N) [1,3,4,22])<|.ret) (q (R (om 55 4<|oi 56 .eql 55 0<|om 57 56<|.sc 57 true (of 58 1 4<|ol 59 58<|oh 60 59<|oi 61 .gtr 60 0<|N) (t 61) 62 (om 54 62<|N)) [22,55,56,57,62])<|D (I 54 (q (R (oz 2 3<|N) [1,3,4,54])<|.ret) (q (R (of 64 1 4<|ol 65 64<|oh 66 65<|om 67 3<|ot 68 .lss 66 67<|om 63 68<|N) [3,54,64,65,66,67,68])<|D (I 63 (q (R (oz 2 4<|N) [1,4,63])<|.ret) (q (R (of 70 1 4<|ol 71 70<|oh 72 71<|om 73 4<|ot 74 .gtr 72 73<|om 75 74<|.sc 75 true (of 76 1 0<|ol 77 76<|oi 78 .neq 77 25<|N) (t 78) 79 (om 69 79<|N)) [4,63,70,71,72,73,74,75,79])<|D (I 69 (q (R (oz 2 3<|N) [1,69])<|.ret) (q (R (of 81 1 0<|ol 82 81<|oi 83 .eql 82 1<|om 80 83<|N) [69,81,82,83])<|D (I 80 (q (R (of 84 1 3<|ol 85 84<|cl 86 170 [t 85]<|om 2 86<|N) [1,80,84,85,86])<|.ret) (q (R (of 88 1 0<|ol 89 88<|cl 90 67 [t 89]<|om 87 90<|N) [80,88,89,90])<|D (I 87 (q (R (of 92 1 2<|ol 93 92<|cl 94 80 [t 93]<|om 91 94<|oe 95 91 0<|oe 96 91 1<|om 5 95<|om 6 96<|N) [87,92,93,94,91,95,96])<|q (q (R (om 97 6<|oi 98 .neq 97 0<|N) [97])<|D (I 98 (q (R (om 99 6<|om 2 99<|N) [1,5,6,98,99])<|.ret) S) [6,98])<|q (R (om 100 5<|cl 101 81 [t 100,.k (.fn (.func 171) [] [])]<|om 7 101<|N) [5,100,101])<|q (R (om 102 7<|of 103 1 0<|ol 104 103<|oi 105 .eql 104 26<|ot 106 .bne 102 105<|N) [7,102,103,104,105])<|D (I 106 (q (R (oz 2 22<|N) [1,106])<|.ret) S) [106]) S) [87])) [])) [])) [])) [])) []) [5,6,7])<|q (q (R (of 107 1 0<|ol 108 107<|cl 109 169 [t 108]<|om 110 109<|.sc 110 true (of 111 1 1<|ol 112 111<|oi 113 .lss 112 0<|om 114 113<|.sc 114 false (of 115 1 1<|ol 116 115<|oi 117 .gtr 116 12<|N) (t 117) 118 N) (t 118) 119 N) [1,107,108,109,110])<|D (I 119 (q (R (oz 2 2<|N) [119])<|.ret) S) [119])<|q (.reg (oz 2 0<|N))<|.ret
theorem ok120 : FT 120 120 ir120 [.tmp 2] := .o Tryz.func120
def JH0 : Ic := q (R (ox 1 0<|ok 2 (.k (.nil 6))<|N) [0,2])<|q (q (R (of 6 1 0<|ol 7 6<|N) [6])<|D (.block 0<|q (q (R (oi 9 .eql 7 8<|om 8 9<|N) [9])<|I 8 S (R (oi 10 .eql 7 10<|om 8 10<|N) [10]))<|D (I 8 (q (R (of 11 1 4<|ol 12 11<|om 2 12<|N) [1,7,8,11,12])<|.ret) (q (R (oi 14 .eql 7 9<|om 13 14<|N) [7,8,14])<|D (I 13 (q (R (ok 3 (.k (.nil 6))<|N) [13])<|q (q (R (of 15 1 5<|ol 16 15<|oh 17 16<|oz 18 0<|N) [1,15])<|D (.block 1<|.loop (q (.reg (ot 19 .lss 18 17<|N))<|q (D (I 19 S (E 1)) [19])<|q (D (.block 2<|q (R (oa true 20 7 16 18<|oL 21 7 20<|oN 5 v7<|oS 7 5 21<|N) [20,21])<|R (om 22 3<|of 23 5 1<|oL 24 6 23<|oo 25 (.bls 6 [t 24])<|oo 26 (.app 6 (t 22) (t 25))<|om 3 26<|N) [5,22,23,24,25,26]) [])<|R (oi 27 .add 18 1<|om 18 27<|N) [27])) [16,17,18,19,5])<|q (R (om 28 3<|om 2 28<|N) [3,28])<|.ret) S) [1,13])) []) [10,11,3,5])<|q (.reg (ok 2 (.k (.nil 6))<|N))<|.ret
theorem ok167 : FT 167 29 JH0 [.tmp 2] := .o Tryz.func167
def JNu : Ic := q (R (oz 2 0<|oz 3 0<|N) [2,3])<|q (q (R (om 4 0<|N) [0])<|D (.block 0<|q (q (R (oi 6 .eql 4 1<|om 5 6<|N) [6])<|I 5 S (q (R (oi 7 .eql 4 2<|om 5 7<|N) [7])<|I 5 S (q (R (oi 8 .eql 4 22<|om 5 8<|N) [8])<|I 5 S (R (oi 9 .eql 4 26<|om 5 9<|N) [9]))))<|D (I 5 (q (R (oz 2 0<|oz 3 0<|N) [4,5])<|.ret) (q (q (R (oi 11 .eql 4 3<|om 10 11<|N) [5,11])<|I 10 S (q (R (oi 12 .eql 4 16<|om 10 12<|N) [12])<|I 10 S (q (R (oi 13 .eql 4 18<|om 10 13<|N) [13])<|I 10 S (q (R (oi 14 .eql 4 19<|om 10 14<|N) [14])<|I 10 S (q (R (oi 15 .eql 4 20<|om 10 15<|N) [15])<|I 10 S (q (R (oi 16 .eql 4 27<|om 10 16<|N) [16])<|I 10 S (R (oi 17 .eql 4 28<|om 10 17<|N) [17])))))))<|D (I 10 (q (R (oz 2 1<|oz 3 1<|N) [4,10])<|.ret) (q (q (R (oi 19 .eql 4 21<|om 18 19<|N) [10,19])<|I 18 S (R (oi 20 .eql 4 24<|om 18 20<|N) [20]))<|D (I 18 (q (R (oz 2 3<|oz 3 3<|N) [4,18])<|.ret) (q (R (oi 22 .eql 4 25<|om 21 22<|N) [4,18,22])<|D (I 21 (q (R (oz 2 2<|oz 3 256<|N) [21])<|.ret) S) [21])) [])) [])) []) [7,8,9])<|q (.reg (oz 2 2<|oz 3 2<|N))<|.ret
theorem ok168 : FT 168 23 JNu [.tmp 2, .tmp 3] := .o Tryz.func168
def ir169 : Ic := q (R (ow 2 false<|N) [2])<|q (R (om 3 0<|oi 4 .eql 3 15<|om 5 4<|.sc 5 false (om 6 0<|oi 7 .eql 6 26<|N) (t 7) 8 (om 2 8<|N)) [0,3,4,5,8])<|.ret
theorem ok169 : FT 169 9 ir169 [.tmp 2] := .o Tryz.func169
def JKf : Ic := q (R (oz 2 0<|N) [2])<|q (q (R (om 4 0<|oh 5 4<|N) [4])<|D (.block 0<|q (R (oi 7 .eql 5 0<|om 6 7<|N) [7])<|D (I 6 (q (R (oz 2 4<|N) [0,5,6])<|.ret) (q (R (oi 9 .eql 5 1<|om 8 9<|N) [5,6,9])<|D (I 8 (q (q (R (om 10 0<|oo 11 (.ixa true 6 (t 10) (i 0))<|oL 12 6 11<|cl 13 15 [t 12]<|om 3 13<|N) [8,10,11,12,13])<|q (R (om 14 3<|oi 15 .neq 14 0<|N) [14])<|D (I 15 (q (R (om 16 3<|om 2 16<|N) [0,3,15,16])<|.ret) S) [3,15])<|q (q (R (om 17 0<|oo 18 (.ixa true 6 (t 17) (i 0))<|of 19 18 0<|ol 20 19<|cl 21 227 [t 20]<|og 22 21<|N) [0,17,18,19,20,21])<|D (I 22 (q (R (oz 2 18<|N) [22])<|.ret) S) [22])<|q (.reg (oz 2 0<|N))<|.ret) S) [0,8])) []) [10,11,3])<|q (.reg (oz 2 3<|N))<|.ret
theorem ok170 : FT 170 23 JKf [.tmp 2] := .o Tryz.func170
def ir171 : Ic := q (R (ox 1 0<|ow 2 false<|N) [0,2])<|q (R (of 3 1 0<|ol 4 3<|oi 5 .eql 4 3<|om 2 5<|N) [1,3,4,5])<|.ret
theorem ok171 : FT 171 6 ir171 [.tmp 2] := .o Tryz.func171
def ir227 : Ic := q (R (ow 2 false<|N) [2])<|q (R (om 3 0<|oi 4 .geq 3 1<|om 5 4<|.sc 5 true (om 6 0<|oi 7 .leq 6 7<|N) (t 7) 8 (om 2 8<|N)) [0,3,4,5,8])<|.ret
theorem ok227 : FT 227 9 ir227 [.tmp 2] := .o Tryz.func227
end Go.Proofs
namespace Go.Proofs
open Go Av Go.RowKit
def btw (n lo hi : Int) : Int := if decide (n < lo) || decide (n > hi) then 2 else 0
theorem JAY (n lo hi : Int) : PT 100 [.int .i64 n, .int .i64 lo, .int .i64 hi] (.d (.int .i64 (btw n lo hi))) := by
 refine ok100.pc ?_;simp only [go_sem, ir100, simprocAttr];refine sq (decide (n > hi)) ?_ ?_
 ·exact zz trivial
 refine zz ?_;apply ik <;> intro h
 ·rw [btw, if_pos h]
 ·rw [btw, if_neg (by simp [h])]
def szE (n m e : Int) : Int := if decide (n > m) then e else 0
theorem JBy (n m e : Int) : PT 105 [.int .i64 n, .int .i64 m, .int .i64 e] (.d (.int .i64 (szE n m e))) := by
 refine ok105.pc ?_;simp only [go_sem, ir105, simprocAttr];apply ik <;> intro h
 ·rw [szE, if_pos h]
 ·rw [szE, if_neg (by simp [h])]
theorem walk99 (v : Val) : PT 99 [JB v] (.d (.int .i64 (btw v.int 0 1))) := by
 refine ok99.pc ?_;rw [JA];simp only [go_sem, ir99, Vc, simprocAttr];refine wc ((JAY _ _ _).call trivial) trivial
theorem JRO (v : Val) : PT 101 [JB v] (.d (.int .i64 (btw v.int (-999999999999999) 999999999999999))) := by
 refine ok101.pc ?_;rw [JA];simp only [go_sem, ir101, Vc, simprocAttr];refine wc ((JAY _ _ _).call trivial) trivial
theorem JRP (v : Val) : PT 108 [JB v] (.d (.int .i64 (btw v.int (-719162) 2932896))) := by
 refine ok108.pc ?_;rw [JA];simp only [go_sem, ir108, Vc, simprocAttr];refine wc ((JAY _ _ _).call trivial) trivial
theorem JRQ (v : Val) : PT 109 [JB v] (.d (.int .i64 (btw v.int (-62135596800000) 253402300799999))) := by
 refine ok109.pc ?_;rw [JA];simp only [go_sem, ir109, Vc, simprocAttr];refine wc ((JAY _ _ _).call trivial) trivial
theorem JRR (v : Val) : PT 107 [JB v] (.d (.int .i64 (szE v.text.length 1024 5))) := by
 refine ok107.pc ?_;rw [JA];simp only [go_sem, ir107, Vc, simprocAttr];refine wc ((JBy _ _ _).call trivial) trivial
theorem JRS (v : Val) : PT 110 [JB v] (.d (.int .i64 (szE v.list.length 256 9))) := by
 refine ok110.pc ?_;rw [JA];simp only [go_sem, ir110, Vc, simprocAttr];refine wc ((JBy _ _ _).call trivial) trivial
def JGZ : List Int → Int
 | [] => 0
 | x :: r => if x != 0 then x else JGZ r
theorem JRT (l : List Int) (hl : l.length ≤ 68719476736) : PT 103 [.list 1 (l.map fun x => .int .i64 x)] (.d (.int .i64 (JGZ l))) := by
 refine ok103.pc ?_;simp only [go_sem, ir103, Vc, simprocAttr];generalize hR : JGZ l = R;refine JJ (fun n s => ∃ k : Nat, k ≤ l.length ∧ n = l.length - k ∧ R = JGZ (l.drop k) ∧
  s = ⟨[(5, .d (.list 1 (l.map fun x => .int .i64 x))), (6, .d (.int .i64 l.length)), (7, .d (.int .i64 k))], []⟩) ?_ ?_
 ·exact ⟨_, _, Wk.refl _, 0, Nat.zero_le _, rfl, hR.symm, rfl⟩
 ·rintro n s ⟨k, hk, rfl, hinv, rfl⟩;by_cases hlt : k < l.length
  ·have hx : nth (l.map fun x => Dat.int .i64 x) k = .int .i64 l[k] := by rw [U2 (sX hlt)]; simp
   have hd := dT hlt;rw [Vq hlt, JGZ] at hinv;refine zz8 ?_;refine ⟨oM, dC, fun hf => ?_, fun hf => ?_⟩
   ·rw [if_pos hf] at hinv;rw [hinv]
   ·rw [if_neg (by simp [hf])] at hinv;refine ⟨l.length - (k + 1), _, oM, Wk.less ?_, k + 1, oM, rfl, hinv, rfl⟩;exact Y6 trivial
  ·have hd := dF hlt;obtain rfl : k = l.length := oM;rw [List.drop_length, JGZ] at hinv;exact zz55 trivial
theorem JRU (v : Val) : PT 102 [JB v] (.d (.int .i64 (JGZ [btw v.int (-999999999999999) 999999999999999, btw v.scale 0 12]))) := by
 refine ok102.pc ?_;rw [JA];simp only [go_sem, ir102, simprocAttr];refine JC rfl ((JAY _ _ _).call trivial) trivial ?_;refine zz ?_;refine JC rfl ((JAY _ _ _).call trivial) trivial ?_;refine zz ?_;refine ⟨sP, ?_⟩;refine JC rfl ((JRT [btw v.int (-999999999999999) 999999999999999, btw v.scale 0 12] sP).call trivial) trivial ?_;refine zz ?_;rfl
def Uh (v : Val) : Bool := (v.kind == 0) && (v.int == 0) && (v.scale == 0) && (v.text == []) && (((v.list.length : Nat) : Int) == 0) && (((v.fields.length : Nat) : Int) == 0)
theorem JAC (v : Val) : PT 13 [JB v] (.d (.bool (Uh v))) := by
 refine ok13.pc ?_;rw [JA];simp only [go_sem, ir13, simprocAttr];refine sq (v.int == 0) ?_ ?_
 ·exact zz trivial
 refine zz ?_;refine sq (v.scale == 0) ?_ ?_
 ·exact zz trivial
 refine zz ?_;refine sq (v.text == []) ?_ ?_
 ·exact zz trivial
 refine zz ?_;refine sq (((v.list.length : Nat) : Int) == 0) ?_ ?_
 ·exact zz7 trivial
 refine zz ?_;refine sq (((v.fields.length : Nat) : Int) == 0) ?_ ?_
 ·exact zz7 trivial
 simp only [go_sem, Uh, simprocAttr]
def useN (v : Val) : Bool := (v.kind == 1) || (v.kind == 2) || (v.kind == 6) || (v.kind == 7) || (v.kind == 3)
def JRV (v : Val) : Bool := (v.kind == 4) || (v.kind == 5) || (v.kind == 10)
def JRW (v : Val) : Bool := (v.kind == 8) || (v.kind == 10)
def JKg (v : Val) : Bool := (useN v || (v.int == 0)) && ((v.kind == 3) || (v.scale == 0)) && (JRV v || (v.text == [])) && (JRW v || (((v.list.length : Nat) : Int) == 0)) && ((v.kind == 9) || (((v.fields.length : Nat) : Int) == 0))
theorem walk50 (v : Val) : PT 50 [JB v] (.d (.bool (JKg v))) := by
 refine ok50.pc ?_;rw [JA];simp only [go_sem, ir50, simprocAttr];refine sq (v.kind == 2) ?_ ?_
 ·exact zz trivial
 refine zz ?_;refine sq (v.kind == 6) ?_ ?_
 ·exact zz trivial
 refine zz ?_;refine sq (v.kind == 7) ?_ ?_
 ·exact zz trivial
 refine zz ?_;refine sq (v.kind == 3) ?_ ?_
 ·exact zz trivial
 refine zz ?_;refine sq (v.kind == 5) ?_ ?_
 ·exact zz trivial
 refine zz ?_;refine sq (v.kind == 10) ?_ ?_
 ·exact zz trivial
 refine zz ?_;refine sq (v.kind == 10) ?_ ?_
 ·exact zz trivial
 refine zz ?_;refine sq (v.int == 0) ?_ ?_
 ·exact zz trivial
 refine zz ?_;refine sq ((v.kind == 3) || (v.scale == 0)) ?_ ?_
 ·refine zz ?_;refine sq (v.scale == 0) ?_ ?_
  ·exact zz trivial
  exact zz trivial
 refine zz ?_;refine sq (JRV v || (v.text == [])) ?_ ?_
 ·refine zz ?_;refine sq (v.text == []) ?_ ?_
  ·exact zz trivial
  simp only [go_sem, JRV, simprocAttr]
 refine zz ?_;refine sq (JRW v || (((v.list.length : Nat) : Int) == 0)) ?_ ?_
 ·refine zz ?_;refine sq (((v.list.length : Nat) : Int) == 0) ?_ ?_
  ·exact zz7 trivial
  simp only [go_sem, JRW, simprocAttr]
 refine zz ?_;refine sq ((v.kind == 9) || (((v.fields.length : Nat) : Int) == 0)) ?_ ?_
 ·refine zz ?_;refine sq (((v.fields.length : Nat) : Int) == 0) ?_ ?_
  ·exact zz7 trivial
  exact zz trivial
 simp only [go_sem, JKg, useN, simprocAttr]
def Xt (v : Val) : List Val := if v.kind = 8 ∨ v.kind = 10 then v.list else if v.kind = 9 then v.fields.map Fld.value else []
theorem JJN (v : Val) (h : v.list.length ≤ 68719476736) (h2 : v.fields.length ≤ 68719476736) : (Xt v).length ≤ 68719476736 := by
 unfold Xt;split
 ·exact h
 ·split
  ·simpa using h2
  ·simp
theorem JRX (v : Val) (h2 : v.fields.length ≤ 68719476736) : PT 167 [JB v] (.d (.list 6 ((Xt v).map JB))) := by
 refine ok167.pc ?_;rw [JA];by_cases h : v.kind = 8 ∨ v.kind = 10
 ·have hp : Xt v = v.list := by unfold Xt; rw [if_pos h]
  rw [hp];rcases h with h | h
  ·rw [h];simp only [go_sem, JH0, beq_self_eq_true, simprocAttr]
  ·rw [h];have q : ((10 : Int) == 8) = false := rfl;simp only [go_sem, JH0, q, beq_self_eq_true, simprocAttr]
 ·have q8 : (v.kind == 8) = false := sO;have q10 : (v.kind == 10) = false := sO;by_cases h9 : v.kind = 9
  ·have hp : Xt v = v.fields.map Fld.value := by unfold Xt; rw [if_neg h, if_pos h9]
   rw [hp];have q9 : (v.kind == 9) = true := by simp [h9]
   simp only [go_sem, JH0, q8, q9, q10, Vc, simprocAttr];refine JJ (fun n s => ∃ k : Nat, k ≤ v.fields.length ∧ n = v.fields.length - k ∧
    s = ⟨[(3, .ms 26 k), (16, .d (.list 7 (v.fields.map Jh))), (17, .d (.int .i64 v.fields.length)), (18, .d (.int .i64 k))], [(26, .row k 6 (((v.fields.take k).map Fld.value).map JB))]⟩) ?_ ?_
   ·refine ⟨_, _, (Wk.JId 3 26 6 rfl rfl dC).trans (Wk.less ?_), 0, Nat.zero_le _, rfl, rfl⟩;simp [put, go_sem]
   ·rintro n s ⟨k, hk, rfl, rfl⟩;by_cases hlt : k < v.fields.length
    ·have hx := J5 hlt;have hd := dT hlt;refine zz8 ?_;refine ⟨⟨oM, oM⟩, sP, sO, v.fields.length - (k + 1), _, oM, Wk.less ?_, k + 1, oM, rfl, rfl⟩;simp only [go_sem, Jj k oM, List.take_succ_eq_append_getElem hlt, Vw, Va, Vb, JA, simprocAttr]
    ·have hd := dF hlt;obtain rfl : k = v.fields.length := oM;exact zz77 trivial
  ·have hp : Xt v = [] := by unfold Xt; rw [if_neg h, if_neg h9]
   rw [hp];have q9 : (v.kind == 9) = false := by simp [h9]
   simp only [go_sem, JH0, q8, q9, q10, Vb, simprocAttr]
end Go.Proofs
namespace Go.Proofs
open Go Av
open Av.Y
end Go.Proofs
namespace Go.Proofs
open Go Av
open Av.Y
def ir18 : Ic := q (R (ox 2 0<|ox 3 1<|oN 4 v6<|oz 5 0<|N) [0,1,5])<|q (q (R (oL 9 5 2<|cl 10 53 [t 9]<|om 6 10<|N) [9,10])<|q (R (om 11 6<|oi 12 .neq 11 0<|N) [11])<|D (I 12 (q (R (oo 13 (.bld v6 [])<|om 14 6<|oS 6 4 13<|om 5 14<|N) [2,3,6,12,13,14])<|.ret) S) [6,12])<|q (q (R (of 15 3 0<|ol 16 15<|oi 17 .neq 16 9<|N) [15,16])<|D (I 17 (q (R (oo 18 (.bld v6 [])<|oS 6 4 18<|oz 5 11<|N) [2,3,17,18])<|.ret) S) [17])<|q (R (oL 19 6 3<|oo 20 (.bld [.int .i64 0,.int .i64 0,.int .i64 0,.str [],.nil 6,.nil 7,.int .i64 0] [(0,6,t 19)])<|ox 21 20<|om 7 21<|N) [3,19,20,21])<|q (R (om 22 7<|oL 23 5 2<|cl 24 54 [t 22,t 23]<|oN 8 v6<|oS 6 8 24<|N) [2,22,23,24])<|q (q (R (om 25 7<|oc 26 25<|of 27 26 6<|ol 28 27<|oi 29 .neq 28 0<|N) [25,26,27,28])<|D (I 29 (q (D (.regd [(4,5)] (oo 30 (.bld v6 [])<|om 31 7<|oc 32 31<|of 33 32 6<|ol 34 33<|oS 6 4 30<|om 5 34<|N)) [7,8,29,30,31,32,33,34])<|.ret) S) [7,29])<|q (R (oL 35 6 8<|cl 36 55 [t 35]<|oS 6 4 36<|oz 5 0<|N) [8,35,36])<|.ret
theorem ok18 : FT 18 37 ir18 [.cell 4 (some 6), .tmp 5] := .o Tryz.func18
def ir122 : Ic := q (R (ox 3 1<|oN 4 v6<|N) [1])<|q (R (om 6 0<|oL 7 5 3<|cl 8 54 [t 6,t 7]<|oN 5 v6<|oS 6 5 8<|N) [3,6,7,8])<|q (q (R (om 9 0<|oc 10 9<|of 11 10 6<|ol 12 11<|oi 13 .eql 12 0<|om 14 13<|.sc 14 true (oL 15 6 5<|cl 16 13 [t 15]<|N) (t 16) 17 N) [9,10,11,12,13,14])<|D (I 17 (q (R (om 18 0<|cl 19 126 [t 18,i 19]<|oS 6 4 19<|N) [0,5,17,18,19])<|.ret) S) [0,17])<|q (R (oL 20 6 5<|oS 6 4 20<|N) [5,20])<|.ret
theorem ok122 : FT 122 21 ir122 [.cell 4 (some 6)] := .o Tryz.func122
def ir121 : Ic := q (R (ok 0 (.k .nilMap)<|N) [0])<|q (R (oo 1 .mkm<|on (.mpu .i (t 1) (i 8) (.k (.fn (.func 172) [] [])))<|on (.mpu .i (t 1) (i 9) (.k (.fn (.func 173) [] [])))<|on (.mpu .i (t 1) (i 10) (.k (.fn (.func 174) [] [])))<|on (.mpu .i (t 1) (i 11) (.k (.fn (.func 175) [] [])))<|om 2 1<|om 0 2<|N) [1,2])<|.ret
theorem ok121 : FT 121 3 ir121 [.tmp 0] := .o Tryz.func121
def ir172 : Ic := q (R (ow 2 false<|N) [2])<|q (R (om 3 0<|oi 4 .lss 3 0<|om 2 4<|N) [0,3,4])<|.ret
theorem ok172 : FT 172 5 ir172 [.tmp 2] := .o Tryz.func172
def ir173 : Ic := q (R (ow 2 false<|N) [2])<|q (R (om 3 0<|oi 4 .leq 3 0<|om 2 4<|N) [0,3,4])<|.ret
theorem ok173 : FT 173 5 ir173 [.tmp 2] := .o Tryz.func173
def ir174 : Ic := q (R (ow 2 false<|N) [2])<|q (R (om 3 0<|oi 4 .gtr 3 0<|om 2 4<|N) [0,3,4])<|.ret
theorem ok174 : FT 174 5 ir174 [.tmp 2] := .o Tryz.func174
def ir175 : Ic := q (R (ow 2 false<|N) [2])<|q (R (om 3 0<|oi 4 .geq 3 0<|om 2 4<|N) [0,3,4])<|.ret
theorem ok175 : FT 175 5 ir175 [.tmp 2] := .o Tryz.func175
def ir124 : Ic := q (R (ox 4 1<|ox 5 2<|oz 6 0<|N) [1,2,6])<|q (D (.block 0<|q (R (om 10 0<|oc 11 10<|of 12 11 6<|ol 13 12<|oi 14 .neq 13 0<|om 9 14<|N) [10,11,12,13,14])<|D (I 9 (q (R (oz 6 0<|N) [0,4,5,9])<|.ret) (q (R (oL 16 6 4<|cl 17 176 [t 16]<|om 18 17<|.sc 18 true (oL 19 6 5<|cl 20 176 [t 19]<|N) (t 20) 21 (om 15 21<|N)) [9,16,17,18,21])<|D (I 15 (q (D (.regd [(1,2)] (oL 23 6 4<|cl 24 177 [t 23]<|oL 25 6 5<|cl 26 177 [t 25]<|cl 27 23 [t 24,t 26]<|om 22 27<|oe 28 22 0<|oe 29 22 1<|om 7 28<|om 8 29<|N)) [4,5,15,23,24,25,26,27,22,28,29])<|q (q (R (om 30 8<|oi 31 .neq 30 0<|N) [30])<|D (I 31 (R (om 32 0<|om 33 8<|cl 34 126 [t 32,t 33]<|N) [0,8,31,32,33,34]) S) [0,8,31])<|q (R (om 35 7<|om 6 35<|N) [7,35])<|.ret) (q (R (of 37 4 0<|ol 38 37<|oi 39 .eql 38 4<|om 40 39<|.sc 40 true (of 41 5 0<|ol 42 41<|oi 43 .eql 42 4<|N) (t 43) 44 (om 36 44<|N)) [15,37,38,39,40,44])<|D (I 36 (q (R (of 45 4 3<|ol 46 45<|of 47 5 3<|ol 48 47<|cl 49 78 [t 46,t 48]<|om 6 49<|N) [0,4,5,36,45,46,47,48,49])<|.ret) (q (R (of 51 4 0<|ol 52 51<|of 53 5 0<|ol 54 53<|ot 55 .eql 52 54<|om 56 55<|.sc 56 true (of 57 4 0<|ol 58 57<|oi 59 .eql 58 6<|om 60 59<|.sc 60 false (of 61 4 0<|ol 62 61<|oi 63 .eql 62 7<|N) (t 63) 64 (om 65 64<|.sc 65 false (of 66 4 0<|ol 67 66<|oi 68 .eql 67 1<|N) (t 68) 69 N)) (t 69) 70 (om 50 70<|N)) [36,51,52,53,54,55,56,70])<|D (I 50 (q (R (of 71 4 1<|ol 72 71<|of 73 5 1<|ol 74 73<|cl 75 63 [t 72,t 74]<|om 6 75<|N) [0,4,5,50,71,72,73,74,75])<|.ret) S) [4,5,50])) [])) [])) []) [7,8])<|q (R (om 76 0<|cl 77 126 [t 76,i 18]<|N) [0,76,77])<|q (.reg (oz 6 0<|N))<|.ret
theorem ok124 : FT 124 78 ir124 [.tmp 6] := .o Tryz.func124
def ir130 : Ic := q (R (ox 5 1<|ox 6 2<|ox 7 3<|oN 8 v6<|N) [1,2,3])<|q (q (R (om 12 0<|oc 13 12<|of 14 13 6<|ol 15 14<|oi 16 .neq 15 0<|N) [12,13,14,15])<|D (I 16 (q (R (oo 17 (.bld v6 [])<|oS 6 8 17<|N) [0,5,6,7,16,17])<|.ret) S) [16])<|q (q (R (oL 18 6 6<|cl 19 176 [t 18]<|og 20 19<|om 21 20<|.sc 21 false (oL 22 6 7<|cl 23 176 [t 22]<|og 24 23<|N) (t 24) 25 N) [18,19,20,21])<|D (I 25 (q (R (om 26 0<|cl 27 126 [t 26,i 18]<|oS 6 8 27<|N) [0,5,6,7,25,26,27])<|.ret) S) [25])<|q (R (of 28 6 0<|ol 29 28<|oi 30 .eql 29 2<|om 31 30<|.sc 31 true (of 32 7 0<|ol 33 32<|oi 34 .eql 33 2<|N) (t 34) 35 (om 9 35<|N)) [28,29,30,31,35])<|q (.reg (oN 10 [.int .i64 0,.int .i64 0]<|N))<|q (R (oz 11 0<|N) [11])<|q (q (R (of 36 5 0<|ol 37 36<|N) [36])<|D (.block 0<|q (R (oi 49 .eql 37 12<|om 48 49<|N) [49])<|I 48 (D (.regd [(1,2)] (oL 51 6 6<|cl 52 177 [t 51]<|oL 53 6 7<|cl 54 177 [t 53]<|cl 55 22 [t 52,t 54]<|om 50 55<|oe 56 50 0<|oe 57 50 1<|oS 2 10 56<|om 11 57<|N)) [5,6,7,37,48,51,52,53,54,55,50,56,57]) (q (R (oi 59 .eql 37 13<|om 58 59<|N) [48,59])<|I 58 (D (.regd [(1,2)] (oL 61 6 6<|cl 62 177 [t 61]<|oL 63 6 7<|cl 64 177 [t 63]<|cl 65 182 [t 62,t 64]<|om 60 65<|oe 66 60 0<|oe 67 60 1<|oS 2 10 66<|om 11 67<|N)) [5,6,7,37,58,61,62,63,64,65,60,66,67]) (q (R (oi 69 .eql 37 14<|om 68 69<|N) [37,58,69])<|I 68 (D (.regd [(1,2)] (oL 71 6 6<|cl 72 177 [t 71]<|oL 73 6 7<|cl 74 177 [t 73]<|cl 75 183 [t 72,t 74]<|om 70 75<|oe 76 70 0<|oe 77 70 1<|oS 2 10 76<|om 11 77<|N)) [5,6,7,68,71,72,73,74,75,70,76,77]) (q (D (.regd [(1,2),(1,5),(3,5)] (oL 39 6 6<|cl 40 177 [t 39]<|oL 41 6 7<|cl 42 177 [t 41]<|of 43 5 1<|ol 44 43<|cl 45 24 [t 40,t 42,t 44]<|om 38 45<|oe 46 38 0<|oe 47 38 1<|oS 2 10 46<|om 11 47<|N)) [5,6,7,9,68,39,40,41,42,43,44,45,38,46,47])<|.reg (ow 9 false<|N))))) [])<|q (R (om 78 0<|om 79 9<|oL 80 2 10<|om 81 11<|cl 82 181 [t 78,t 79,t 80,t 81]<|oS 6 8 82<|N) [0,9,10,11,78,79,80,81,82])<|.ret
theorem ok130 : FT 130 83 ir130 [.cell 8 (some 6)] := .o Tryz.func130
def ir181 : Ic := q (R (ox 6 2<|oN 8 v6<|N) [2])<|q (D (.block 0<|q (R (om 10 3<|oi 11 .neq 10 0<|om 9 11<|N) [10,11])<|I 9 (q (R (om 12 0<|om 13 3<|cl 14 126 [t 12,t 13]<|oS 6 8 14<|N) [0,1,3,6,9,12,13,14])<|.ret) (q (R (om 16 1<|om 15 16<|N) [0,1,3,9,16])<|D (I 15 (q (R (of 17 6 0<|ol 18 17<|cl 19 36 [t 18]<|oS 6 8 19<|N) [6,15,17,18,19])<|.ret) S) [15])) [])<|q (R (of 20 6 0<|ol 21 20<|of 22 6 1<|ol 23 22<|cl 24 57 [t 21,t 23]<|oS 6 8 24<|N) [6,20,21,22,23,24])<|.ret
theorem ok181 : FT 181 25 ir181 [.cell 8 (some 6)] := .o Tryz.func181
def ir176 : Ic := q (R (ox 1 0<|ow 2 false<|N) [0,2])<|q (R (of 3 1 0<|ol 4 3<|oi 5 .eql 4 2<|om 6 5<|.sc 6 false (of 7 1 0<|ol 8 7<|oi 9 .eql 8 3<|N) (t 9) 10 (om 2 10<|N)) [1,3,4,5,6,10])<|.ret
theorem ok176 : FT 176 11 ir176 [.tmp 2] := .o Tryz.func176
def ir177 : Ic := q (R (ox 1 0<|oN 2 [.int .i64 0,.int .i64 0]<|N) [0])<|q (q (R (of 3 1 0<|ol 4 3<|oi 5 .eql 4 2<|N) [3,4])<|D (I 5 (q (R (of 6 1 1<|ol 7 6<|oo 8 (.bld [.int .i64 0,.int .i64 0] [(0,1,t 7)])<|oS 2 2 8<|N) [1,5,6,7,8])<|.ret) S) [5])<|q (R (of 9 1 1<|ol 10 9<|of 11 1 2<|ol 12 11<|oo 13 (.bld [.int .i64 0,.int .i64 0] [(0,1,t 10),(1,1,t 12)])<|oS 2 2 13<|N) [1,9,10,11,12,13])<|.ret
theorem ok177 : FT 177 14 ir177 [.cell 2 (some 2)] := .o Tryz.func177
def ir126 : Ic := q (.reg (oN 4 v6<|N))<|q (q (R (om 5 0<|oc 6 5<|of 7 6 6<|ol 8 7<|oi 9 .eql 8 0<|N) [5,6,7,8])<|D (I 9 (R (om 10 0<|om 11 1<|oc 12 10<|of 13 12 6<|os 13 11<|N) [0,1,9,10,11,12,13]) S) [0,1,9])<|q (R (oo 14 (.bld v6 [])<|oS 6 4 14<|N) [14])<|.ret
theorem ok126 : FT 126 15 ir126 [.cell 4 (some 6)] := .o Tryz.func126
def ir123 : Ic := q (.reg (oN 2 v6<|N))<|q (q (R (om 3 0<|N) [0])<|D (I 3 (q (R (oo 4 (.bld v6 [(0,1,i 1),(1,1,i 1)])<|oS 6 2 4<|N) [3,4])<|.ret) S) [3])<|q (R (oo 5 (.bld v6 [(0,1,i 1)])<|oS 6 2 5<|N) [5])<|.ret
theorem ok123 : FT 123 6 ir123 [.cell 2 (some 6)] := .o Tryz.func123
def ir57 : Ic := q (.reg (oN 4 v6<|N))<|q (R (om 5 0<|om 6 1<|oo 7 (.bld v6 [(0,1,i 3),(1,1,t 5),(2,1,t 6)])<|oS 6 4 7<|N) [0,1,5,6,7])<|.ret
theorem ok57 : FT 57 8 ir57 [.cell 4 (some 6)] := .o Tryz.func57
def ir36 : Ic := q (.reg (oN 2 v6<|N))<|q (R (om 3 0<|oo 4 (.bld v6 [(0,1,i 2),(1,1,t 3)])<|oS 6 2 4<|N) [0,3,4])<|.ret
theorem ok36 : FT 36 5 ir36 [.cell 2 (some 6)] := .o Tryz.func36
def ir21 : Ic := q (R (ox 1 0<|oz 2 0<|N) [0,2])<|q (q (R (of 3 1 0<|ol 4 3<|cl 5 58 [t 4]<|oi 6 .gtr 5 999999999999999<|om 7 6<|.sc 7 false (of 8 1 0<|ol 9 8<|oi 10 .lss 9 (-999999999999999)<|N) (t 10) 11 (om 12 11<|.sc 12 false (of 13 1 1<|ol 14 13<|oi 15 .lss 14 0<|N) (t 15) 16 (om 17 16<|.sc 17 false (of 18 1 1<|ol 19 18<|oi 20 .gtr 19 12<|N) (t 20) 21 N))) [1,3,4,5,6,7,11,12,16,17])<|D (I 21 (q (R (oz 2 2<|N) [21])<|.ret) S) [21])<|q (.reg (oz 2 0<|N))<|.ret
theorem ok21 : FT 21 22 ir21 [.tmp 2] := .o Tryz.func21
def ir22 : Ic := q (R (ox 2 0<|ox 3 1<|oN 4 [.int .i64 0,.int .i64 0]<|oz 5 0<|N) [0,1,5])<|q (q (R (oL 7 2 2<|oL 8 2 3<|oo 9 (.bls 2 [t 7,t 8])<|cl 10 59 [t 9]<|om 6 10<|N) [7,8,9,10])<|q (R (om 11 6<|oi 12 .neq 11 0<|N) [11])<|D (I 12 (q (R (oo 13 (.bld [.int .i64 0,.int .i64 0] [])<|om 14 6<|oS 2 4 13<|om 5 14<|N) [2,3,6,12,13,14])<|.ret) S) [6,12])<|q (R (oL 15 2 2<|oL 16 2 3<|oo 17 (.bls 2 [t 15,t 16])<|of 18 2 1<|ol 19 18<|of 20 3 1<|ol 21 20<|oo 22 (.mx (t 19) (t 21))<|cl 23 60 [t 17,t 22]<|oe 24 23 0<|oe 25 23 1<|oS 2 4 24<|om 5 25<|N) [2,3,15,16,17,18,19,20,21,22,23,24,25])<|.ret
theorem ok22 : FT 22 26 ir22 [.cell 4 (some 2), .tmp 5] := .o Tryz.func22
def ir23 : Ic := q (R (ox 2 0<|ox 3 1<|oz 4 0<|oz 5 0<|N) [0,1,4,5])<|q (q (R (oL 11 2 2<|oL 12 2 3<|oo 13 (.bls 2 [t 11,t 12])<|cl 14 59 [t 13]<|om 6 14<|N) [11,12,13,14])<|q (R (om 15 6<|oi 16 .neq 15 0<|N) [15])<|D (I 16 (q (R (om 17 6<|oz 4 0<|om 5 17<|N) [2,3,6,16,17])<|.ret) S) [6,16])<|q (R (oL 19 2 2<|cl 20 61 [t 19]<|om 18 20<|oe 21 18 0<|oe 22 18 1<|om 7 21<|om 8 22<|N) [2,19,20,18,21,22])<|q (R (oL 24 2 3<|cl 25 61 [t 24]<|om 23 25<|oe 26 23 0<|oe 27 23 1<|om 9 26<|om 10 27<|N) [3,24,25,23,26,27])<|q (R (om 28 7<|om 29 9<|cl 30 63 [t 28,t 29]<|om 31 8<|om 32 10<|cl 33 63 [t 31,t 32]<|oo 34 (.bls 1 [t 30,t 33])<|cl 35 62 [t 34]<|om 4 35<|oz 5 0<|N) [7,8,9,10,28,29,30,31,32,33,34,35])<|.ret
theorem ok23 : FT 23 36 ir23 [.tmp 4, .tmp 5] := .o Tryz.func23
def ir24 : Ic := q (R (ox 3 0<|ox 4 1<|oN 6 [.int .i64 0,.int .i64 0]<|oz 7 0<|N) [0,1,7])<|q (q (R (oL 10 2 3<|oL 11 2 4<|oo 12 (.bls 2 [t 10,t 11])<|cl 13 59 [t 12]<|om 8 13<|N) [10,11,12,13])<|q (R (om 14 8<|oi 15 .neq 14 0<|N) [14])<|D (I 15 (q (R (oo 16 (.bld [.int .i64 0,.int .i64 0] [])<|om 17 8<|oS 2 6 16<|om 7 17<|N) [2,3,4,8,15,16,17])<|.ret) S) [8,15])<|q (D (.block 0<|q (R (om 19 2<|oi 20 .lss 19 0<|om 21 20<|.sc 21 false (om 22 2<|oi 23 .gtr 22 12<|N) (t 23) 24 (om 18 24<|N)) [19,20,21,24])<|D (I 18 (q (R (oo 25 (.bld [.int .i64 0,.int .i64 0] [])<|oS 2 6 25<|oz 7 2<|N) [2,3,4,18,25])<|.ret) (q (R (of 27 4 0<|ol 28 27<|oi 29 .eql 28 0<|om 26 29<|N) [18,27,28,29])<|D (I 26 (q (R (oo 30 (.bld [.int .i64 0,.int .i64 0] [])<|oS 2 6 30<|oz 7 15<|N) [2,3,4,26,30])<|.ret) S) [26])) []) [])<|q (R (of 31 3 0<|ol 32 31<|of 33 4 0<|ol 34 33<|om 35 2<|of 36 4 1<|ol 37 36<|ot 38 .add 35 37<|of 39 3 1<|ol 40 39<|ot 41 .sub 38 40<|cl 42 64 [t 32,t 34,t 41]<|om 9 42<|N) [31,32,33,34,35,36,37,38,39,40,41,42])<|q (q (R (of 43 3 0<|ol 44 43<|oi 45 .lss 44 0<|of 46 4 0<|ol 47 46<|oi 48 .lss 47 0<|ot 49 .bne 45 48<|N) [3,4,43,44,45,46,47,48])<|D (I 49 (R (om 50 9<|oo 51 (.neg .i64 (t 50))<|om 9 51<|N) [49,50,51]) S) [49])<|q (R (om 52 9<|om 53 2<|cl 54 65 [t 52,t 53]<|oe 55 54 0<|oe 56 54 1<|oS 2 6 55<|om 7 56<|N) [2,9,52,53,54,55,56])<|.ret
theorem ok24 : FT 24 57 ir24 [.cell 6 (some 2), .tmp 7] := .o Tryz.func24
def ir58 : Ic := q (R (oz 2 0<|N) [2])<|q (R (om 3 0<|om 4 0<|oo 5 (.neg .i64 (t 4))<|oo 6 (.mx (t 3) (t 5))<|om 2 6<|N) [0,3,4,5,6])<|.ret
theorem ok58 : FT 58 7 ir58 [.tmp 2] := .o Tryz.func58
def ir59 : Ic := q (R (oz 2 0<|N) [2])<|q (q (R (om 6 0<|oh 7 6<|oz 8 0<|N) [0])<|D (.block 0<|.loop (q (.reg (ot 9 .lss 8 7<|N))<|q (D (I 9 S (E 0)) [9])<|q (D (.block 1<|q (R (oa true 10 2 6 8<|oL 11 2 10<|oN 4 [.int .i64 0,.int .i64 0]<|oS 2 4 11<|N) [10,11])<|q (R (oL 12 2 4<|cl 13 21 [t 12]<|om 5 13<|N) [4,12,13])<|q (R (om 14 5<|oi 15 .neq 14 0<|N) [14])<|D (I 15 (q (R (om 16 5<|om 2 16<|N) [6,7,8,5,15,16])<|.ret) S) [5,15]) [])<|R (oi 17 .add 8 1<|om 8 17<|N) [17])) [6,7,8,9,10,11,4,5])<|q (.reg (oz 2 0<|N))<|.ret
theorem ok59 : FT 59 18 ir59 [.tmp 2] := .o Tryz.func59
def ir60 : Ic := q (R (oN 4 [.int .i64 0,.int .i64 0]<|oz 5 0<|N) [5])<|q (R (cl 13 137 [i 12]<|om 6 13<|N) [13])<|q (.reg (oz 7 0<|oz 8 0<|N))<|q (q (R (om 14 0<|oh 15 14<|oz 16 0<|N) [0])<|D (.block 0<|.loop (q (.reg (ot 17 .lss 16 15<|N))<|q (D (I 17 S (E 0)) [17])<|q (D (.block 1<|q (R (oa true 18 2 14 16<|oL 19 2 18<|oN 10 [.int .i64 0,.int .i64 0]<|oS 2 10 19<|N) [18,19])<|q (R (oL 21 2 10<|cl 22 61 [t 21]<|om 20 22<|oe 23 20 0<|oe 24 20 1<|om 11 23<|om 12 24<|N) [10,21,22,20,23,24])<|R (om 25 7<|om 26 11<|ot 27 .add 25 26<|om 28 8<|om 29 12<|ot 30 .add 28 29<|om 7 27<|om 8 30<|N) [11,12,25,26,27,28,29,30]) [])<|R (oi 31 .add 16 1<|om 16 31<|N) [31])) [14,15,16,17,10,11])<|q (R (om 32 7<|om 33 8<|om 34 6<|ot 35 .quo 33 34<|ot 36 .add 32 35<|om 37 8<|om 38 6<|ot 39 .rem 37 38<|om 7 36<|om 8 39<|N) [32,33,34,35,36,37,38,39])<|q (D (.block 2<|q (R (om 41 7<|oi 42 .gtr 41 0<|om 43 42<|.sc 43 true (om 44 8<|oi 45 .lss 44 0<|N) (t 45) 46 (om 40 46<|N)) [41,42,43,46])<|I 40 (R (om 47 7<|oi 48 .sub 47 1<|om 49 8<|om 50 6<|ot 51 .add 49 50<|om 7 48<|om 8 51<|N) [6,40,47,48,49,50,51]) (q (R (om 53 7<|oi 54 .lss 53 0<|om 55 54<|.sc 55 true (om 56 8<|oi 57 .gtr 56 0<|N) (t 57) 58 (om 52 58<|N)) [40,53,54,55,58])<|D (I 52 (R (om 59 7<|oi 60 .add 59 1<|om 61 8<|om 62 6<|ot 63 .sub 61 62<|om 7 60<|om 8 63<|N) [6,52,59,60,61,62,63]) S) [6,52])) [])<|q (q (R (om 64 7<|cl 65 58 [t 64]<|om 66 1<|cl 67 137 [t 66]<|ob 68 .quo (i 999999999999999) (t 67)<|ot 69 .gtr 65 68<|N) [64,65,66,67,68])<|D (I 69 (q (R (oo 70 (.bld [.int .i64 0,.int .i64 0] [])<|oS 2 4 70<|oz 5 14<|N) [1,7,8,69,70])<|.ret) S) [69])<|q (R (om 71 7<|om 72 1<|cl 73 137 [t 72]<|ot 74 .mul 71 73<|om 75 8<|om 76 1<|ob 77 .sub (i 12) (t 76)<|cl 78 137 [t 77]<|ot 79 .quo 75 78<|ot 80 .add 74 79<|om 81 1<|cl 82 65 [t 80,t 81]<|oe 83 82 0<|oe 84 82 1<|oS 2 4 83<|om 5 84<|N) [1,7,8,71,72,73,74,75,76,77,78,79,80,81,82,83,84])<|.ret
theorem ok60 : FT 60 85 ir60 [.cell 4 (some 2), .tmp 5] := .o Tryz.func60
def ir61 : Ic := q (R (ox 1 0<|oz 2 0<|oz 3 0<|N) [0,2,3])<|q (R (of 5 1 1<|ol 6 5<|cl 7 137 [t 6]<|om 4 7<|N) [5,6,7])<|q (D (.regd [(1,11),(5,11)] (of 8 1 0<|ol 9 8<|om 10 4<|ot 11 .quo 9 10<|of 12 1 0<|ol 13 12<|om 14 4<|ot 15 .rem 13 14<|of 16 1 1<|ol 17 16<|ob 18 .sub (i 12) (t 17)<|cl 19 137 [t 18]<|ot 20 .mul 15 19<|om 2 11<|om 3 20<|N)) [1,4,8,9,10,11,12,13,14,15,16,17,18,19,20])<|.ret
theorem ok61 : FT 61 21 ir61 [.tmp 2, .tmp 3] := .o Tryz.func61
def ir64 : Ic := q (R (oz 6 0<|N) [6])<|q (R (om 9 0<|cl 10 58 [t 9]<|om 11 1<|cl 12 58 [t 11]<|om 0 10<|om 1 12<|N) [9,10,11,12])<|q (D (.block 0<|.loop (q (q (R (om 13 2<|oi 14 .lss 13 0<|om 15 14<|.sc 15 true (om 16 1<|oi 17 .leq 16 3999999999999996<|N) (t 17) 18 N) [13,14,15])<|D (I 18 S (E 0)) [18])<|q (D (.block 1<|R (om 21 1<|oi 22 .mul 21 10<|om 1 22<|N) [21,22]) [])<|R (om 19 2<|oi 20 .add 19 1<|om 2 20<|N) [19,20])) [18])<|q (q (R (om 23 2<|oi 24 .lss 23 0<|N) [23])<|D (I 24 (q (R (oz 6 0<|N) [0,1,2,24])<|.ret) S) [24])<|q (R (om 25 0<|om 26 1<|ot 27 .quo 25 26<|om 28 0<|om 29 1<|ot 30 .rem 28 29<|om 7 27<|om 8 30<|N) [0,25,26,27,28,29,30])<|q (D (.block 2<|.loop (q (q (R (om 31 2<|oi 32 .gtr 31 0<|om 33 32<|.sc 33 true (om 34 7<|oi 35 .leq 34 999999999999999<|N) (t 35) 36 N) [31,32,33])<|D (I 36 S (E 2)) [36])<|q (D (.block 3<|q (R (om 39 8<|oi 40 .mul 39 10<|om 8 40<|N) [39,40])<|R (om 41 7<|ob 42 .mul (i 10) (t 41)<|om 43 8<|om 44 1<|ot 45 .quo 43 44<|ot 46 .add 42 45<|om 47 8<|om 48 1<|ot 49 .rem 47 48<|om 7 46<|om 8 49<|N) [41,42,43,44,45,46,47,48,49]) [])<|R (om 37 2<|oi 38 .sub 37 1<|om 2 38<|N) [37,38])) [2,36])<|q (q (R (om 50 8<|ob 51 .mul (i 2) (t 50)<|om 52 1<|ot 53 .gtr 51 52<|om 54 53<|.sc 54 false (om 55 8<|ob 56 .mul (i 2) (t 55)<|om 57 1<|ot 58 .eql 56 57<|om 59 58<|.sc 59 true (om 60 7<|oi 61 .rem 60 2<|oi 62 .eql 61 1<|N) (t 62) 63 N) (t 63) 64 N) [1,8,50,51,52,53,54])<|D (I 64 (R (om 65 7<|oi 66 .add 65 1<|om 7 66<|N) [64,65,66]) S) [64])<|q (R (om 67 7<|om 6 67<|N) [7,67])<|.ret
theorem ok64 : FT 64 68 ir64 [.tmp 6] := .o Tryz.func64
def ir65 : Ic := q (R (oN 4 [.int .i64 0,.int .i64 0]<|oz 5 0<|N) [5])<|q (q (R (om 6 0<|cl 7 58 [t 6]<|oi 8 .gtr 7 999999999999999<|N) [6,7])<|D (I 8 (q (R (oo 9 (.bld [.int .i64 0,.int .i64 0] [])<|oS 2 4 9<|oz 5 14<|N) [0,1,8,9])<|.ret) S) [8])<|q (R (om 10 0<|om 11 1<|oo 12 (.bld [.int .i64 0,.int .i64 0] [(0,1,t 10),(1,1,t 11)])<|oS 2 4 12<|oz 5 0<|N) [0,1,10,11,12])<|.ret
theorem ok65 : FT 65 13 ir65 [.cell 4 (some 2), .tmp 5] := .o Tryz.func65
end Go.Proofs
namespace Go.Proofs
open Go Av
def Yl (n : Int) : Int := ((10 ^ n.toNat : Nat) : Int)
def tenT : Tbl := (List.range 13).map fun (n : Nat) => (137, [.int .i64 (n : Int)], .d (.int .i64 ((10 ^ n : Nat) : Int)))
theorem JRY : Yp Tryz.prog X1 tenT = true := kR
theorem call137 (n : Int) (h0 : 0 ≤ n) (h1 : n ≤ 12) : CT 137 [.d (.int .i64 n)] [] (.d (.int .i64 (Yl n))) [] := by
 have hX := JBA JHq JRY;have : ext tenT X1 137 [.int .i64 n] = some (.d (.int .i64 (Yl n))) := by
  obtain ⟨k, rfl⟩ : ∃ k : Nat, n = k := ⟨n.toNat, oM⟩;have hk : k ≤ 12 := oM
  match k, hk with
  | 0, _ | 1, _ | 2, _ | 3, _ | 4, _ | 5, _ | 6, _ | 7, _ | 8, _ | 9, _ | 10, _ | 11, _ | 12, _ => rfl
 exact hX _ _ _ this
theorem JNv (n : Int) : 0 < Yl n := by
 unfold Yl;have : 0 < 10 ^ n.toNat := Nat.pow_pos dC;omega
theorem JDX (n : Int) : Yl n ≠ 0 := by have := JNv n; omega
def Ud (n : Int) : Int := if IntKind.i64.wrap (0 - n) > n then IntKind.i64.wrap (0 - n) else n
theorem Yx (n : Int) : PT 58 [.int .i64 n] (.d (.int .i64 (Ud n))) := by
 refine ok58.pc ?_;simp only [go_sem, ir58, Ud, simprocAttr]
def Jn (p : Int × Int) : Dat := .agg [.int .i64 p.1, .int .i64 p.2]
theorem JEX {xs : List (Int × Int)} {k : Nat} (h : k < xs.length) : nth (xs.map Jn) k = .agg [.int .i64 xs[k].1, .int .i64 xs[k].2] := by
 rw [U2 (sX h), List.getElem_map, Jn]
def JCf (p : Int × Int) : Int := if ((decide (Ud p.1 > 999999999999999) || decide (p.1 < -999999999999999)) || decide (p.2 < 0)) || decide (p.2 > 12) then 2 else 0
theorem JJO (p : Int × Int) : PT 21 [Jn p] (.d (.int .i64 (JCf p))) := by
 refine ok21.pc ?_;simp only [go_sem, ir21, Jn, simprocAttr];refine wc ((Yx p.1).call trivial) ?_;refine sq (decide (p.1 < -999999999999999)) ?_ ?_
 ·exact zz trivial
 refine zz ?_;refine sq (decide (p.2 < 0)) ?_ ?_
 ·exact zz trivial
 refine zz ?_;refine sq (decide (p.2 > 12)) ?_ ?_
 ·exact zz trivial
 refine zz ?_;apply ik <;> intro h
 ·rw [JCf, if_pos h]
 ·rw [JCf, if_neg (nF h)]
def Uv : List (Int × Int) → Int
 | [] => 0
 | p :: r => if JCf p ≠ 0 then JCf p else Uv r
theorem JCg (l : List (Int × Int)) (hl : l.length ≤ 68719476736) : PT 59 [.list 2 (l.map Jn)] (.d (.int .i64 (Uv l))) := by
 refine ok59.pc ?_;simp only [go_sem, ir59, simprocAttr];generalize hR : Uv l = R;simp only [Vc];refine JJ (fun r s => ∃ (k : Nat), k ≤ l.length ∧ r = l.length - k ∧ Uv (l.drop k) = R ∧
  s = ⟨[(6, .d (.list 2 (l.map Jn))), (7, .d (.int .i64 l.length)), (8, .d (.int .i64 k))], []⟩) ?_ ?_
 ·exact ⟨_, _, Wk.refl _, 0, Nat.zero_le _, rfl, hR, rfl⟩
 ·rintro r s ⟨k, hk, rfl, hinv, rfl⟩;by_cases hlt : k < l.length
  ·have hx := JEX hlt;have hd := dT hlt;have hc := (JJO l[k]).call trivial;rw [Jn] at hc;rw [Vq hlt, Uv] at hinv;refine zz8 ?_;refine ⟨oM, wn hc ?_⟩;refine zz ?_;apply ik <;> intro h
   ·rw [if_pos (sX h)] at hinv;rw [hinv]
   ·rw [if_neg (sX h)] at hinv;refine ⟨l.length - (k + 1), _, oM, Wk.less ?_, k + 1, oM, rfl, hinv, rfl⟩;exact Y6 trivial
  ·have hd := dF hlt;obtain rfl : k = l.length := oM;rw [List.drop_length, Uv] at hinv;subst hinv;exact JAl trivial
def JJP (n s : Int) : (Int × Int) × Int := if decide (Ud n > 999999999999999) then ((0, 0), 14) else ((n, s), 0)
theorem JCh (n s : Int) : PT 65 [.int .i64 n, .int .i64 s] (.tup [.d (Jn (JJP n s).1), .d (.int .i64 (JJP n s).2)]) := by
 refine ok65.pc ?_;simp only [go_sem, ir65, simprocAttr];refine wc ((Yx n).call trivial) ?_;apply ik <;> intro h
 ·simp only [JJP, h, Jn, ↓reduceIte]
 ·simp only [JJP, h, Jn, Vu, ↓reduceIte]
def Xu (p : Int × Int) : Int × Int := (IntKind.i64.wrap (p.1.tdiv (Yl p.2)), IntKind.i64.wrap (p.1.tmod (Yl p.2) * Yl (12 - p.2)))
theorem JJQ (p : Int × Int) (h0 : 0 ≤ p.2) (h1 : p.2 ≤ 12) : PT 61 [Jn p] (.tup [.d (.int .i64 (Xu p).1), .d (.int .i64 (Xu p).2)]) := by
 refine ok61.pc ?_;simp only [go_sem, ir61, Jn, simprocAttr];refine wn (call137 p.2 h0 h1) ?_;have hw : IntKind.i64.wrap (12 - p.2) = 12 - p.2 := wrap64 oM oM;have hne := JDX p.2;simp only [go_sem, hw, simprocAttr];refine ⟨hne, hne, JC rfl (call137 (12 - p.2) oM oM) trivial ?_⟩;simp only [go_sem, Xu, simprocAttr]
 try rfl
def JEY : List (Int × Int) → Int → Int → Int × Int
 | [], w, r => (w, r)
 | p :: l, w, r => JEY l (IntKind.i64.wrap (w + (Xu p).1)) (IntKind.i64.wrap (r + (Xu p).2))
def JNw (w r : Int) : Int × Int :=
 if decide (w > 0) && decide (r < 0) then (IntKind.i64.wrap (w - 1), IntKind.i64.wrap (r + Yl 12))
 else if decide (w < 0) && decide (r > 0) then (IntKind.i64.wrap (w + 1), IntKind.i64.wrap (r - Yl 12)) else (w, r)
def JRZ (w r s : Int) : (Int × Int) × Int :=
 if decide (Ud w > IntKind.i64.wrap (Int.tdiv 999999999999999 (Yl s))) then ((0, 0), 14) else JJP (IntKind.i64.wrap (IntKind.i64.wrap (w * Yl s) + IntKind.i64.wrap (r.tdiv (Yl (12 - s))))) s
def JH1 (l : List (Int × Int)) (s : Int) : (Int × Int) × Int :=
 JRZ (JNw (IntKind.i64.wrap ((JEY l 0 0).1 + IntKind.i64.wrap ((JEY l 0 0).2.tdiv (Yl 12)))) ((JEY l 0 0).2.tmod (Yl 12))).1
  (JNw (IntKind.i64.wrap ((JEY l 0 0).1 + IntKind.i64.wrap ((JEY l 0 0).2.tdiv (Yl 12)))) ((JEY l 0 0).2.tmod (Yl 12))).2 s
theorem JNx (l : List (Int × Int)) (s : Int) (hl : l.length ≤ 68719476736) (hp : ∀ p ∈ l, 0 ≤ p.2 ∧ p.2 ≤ 12) (h0 : 0 ≤ s) (h1 : s ≤ 12) :
  PT 60 [.list 2 (l.map Jn), .int .i64 s] (.tup [.d (Jn (JH1 l s).1), .d (.int .i64 (JH1 l s).2)]) := by
 refine ok60.pc ?_;have c12 := call137 12 dC dC;have cs := call137 s h0 h1;have hws : IntKind.i64.wrap (12 - s) = 12 - s := wrap64 oM oM;have cs2 := call137 (12 - s) oM oM;have n12 := JDX 12;have ns := JDX s;have ns2 := JDX (12 - s);generalize hT : JH1 l s = T;unfold JH1 at hT;simp only [go_sem, ir60, simprocAttr];refine wn c12 ?_;refine zz7 ?_;refine JJ (fun r st => ∃ (k : Nat) (w q : Int), k ≤ l.length ∧ r = l.length - k ∧ JEY (l.drop k) w q = JEY l 0 0 ∧
  st = ⟨[(1, .d (.int .i64 s)), (6, .d (.int .i64 (Yl 12))), (7, .d (.int .i64 w)), (8, .d (.int .i64 q)), (14, .d (.list 2 (l.map Jn))), (15, .d (.int .i64 l.length)), (16, .d (.int .i64 k)), (4, .ref 4 0)], [(4, .box [.d (.int .i64 0), .d (.int .i64 0)])]⟩) ?_ ?_
 ·refine ⟨_, _, Wk.less ?_, 0, 0, 0, Nat.zero_le _, rfl, rfl, rfl⟩;simp [go_sem]
 ·rintro r st ⟨k, w, q, hk, rfl, hinv, rfl⟩;by_cases hlt : k < l.length
  ·have hx := JEX hlt;have hd := dT hlt;obtain ⟨p0, p1⟩ := hp l[k] (Vk _);have hc := (JJQ l[k] p0 p1).call (by simp [JU]);rw [Jn] at hc;rw [Vq hlt, JEY] at hinv;refine zz8 ?_;refine ⟨oM, wn hc ?_⟩;refine zz ?_;refine ⟨l.length - (k + 1), _, oM, Wk.less ?_, k + 1, _, _, oM, rfl, hinv, rfl⟩;simp [go_sem, Jj k oM]
  ·have hd := dF hlt;obtain rfl : k = l.length := oM;rw [List.drop_length, JEY] at hinv;rw [← hinv] at hT;simp only at hT;refine JAl ?_;refine ⟨n12, n12, ?_⟩;generalize IntKind.i64.wrap (w + IntKind.i64.wrap (q.tdiv (Yl 12))) = w1 at *;generalize q.tmod (Yl 12) = r1 at *;refine sq (decide (r1 < 0)) ?_ ?_
   ·exact zz trivial
   refine zz ?_;unfold JNw at hT;have fin : True := trivial;apply ik <;> intro ha
   ·rw [if_pos ha] at hT;simp only at hT;generalize IntKind.i64.wrap (w1 - 1) = w2 at *;generalize IntKind.i64.wrap (r1 + Yl 12) = r2 at *;unfold JRZ at hT;refine wc ((Yx w2).call trivial) ?_;refine wc cs ?_;refine ⟨ns, fun hc => ?_, fun hc => ?_⟩
    ·rw [if_pos hc] at hT;rw [← hT];rfl
    rw [if_neg (nF hc)] at hT;refine wn cs ?_;refine zz57 ?_;refine wc cs2 ?_;refine ⟨ns2, wn ((JCh _ s).call (by simp [JU])) ?_⟩;rw [hT];exact JIy trivial
   ·rw [if_neg (nF ha)] at hT;refine sq (decide (r1 > 0)) ?_ ?_
    ·exact zz trivial
    refine zz ?_;apply ik <;> intro hb
    ·rw [if_pos hb] at hT;simp only at hT;generalize IntKind.i64.wrap (w1 + 1) = w2 at *;generalize IntKind.i64.wrap (r1 - Yl 12) = r2 at *;unfold JRZ at hT;refine wc ((Yx w2).call trivial) ?_;refine wc cs ?_;refine ⟨ns, fun hc => ?_, fun hc => ?_⟩
     ·rw [if_pos hc] at hT;rw [← hT];rfl
     rw [if_neg (nF hc)] at hT;refine wn cs ?_;refine zz57 ?_;refine wc cs2 ?_;refine ⟨ns2, wn ((JCh _ s).call (by simp [JU])) ?_⟩;rw [hT];exact JIy trivial
    ·rw [if_neg (nF hb)] at hT;simp only at hT;generalize w1 = w2 at *;generalize r1 = r2 at *;unfold JRZ at hT;refine wc ((Yx w2).call trivial) ?_;refine wc cs ?_;refine ⟨ns, fun hc => ?_, fun hc => ?_⟩
     ·rw [if_pos hc] at hT;rw [← hT];rfl
     rw [if_neg (nF hc)] at hT;refine wn cs ?_;refine zz57 ?_;refine wc cs2 ?_;refine ⟨ns2, wn ((JCh _ s).call (by simp [JU])) ?_⟩;rw [hT];exact JIy trivial
def addN (a b : Int × Int) : (Int × Int) × Int := if Uv [a, b] ≠ 0 then ((0, 0), Uv [a, b]) else JH1 [a, b] (if b.2 > a.2 then b.2 else a.2)
theorem JBz {l : List (Int × Int)} (h : Uv l = 0) : ∀ p ∈ l, JCf p = 0 := by
 induction l with
 | nil => intro p hp; cases hp
 | cons a r ih =>
  simp only [Uv] at h;split at h
  ·rename_i h1; exact absurd h h1
  ·rename_i h1;intro p hp;rcases VA.1 hp with rfl | hp
   ·simpa using h1
   ·exact ih h p hp
theorem Xl {p : Int × Int} (h : JCf p = 0) : 0 ≤ p.2 ∧ p.2 ≤ 12 ∧ -999999999999999 ≤ p.1 ∧ p.1 ≤ 999999999999999 := by
 unfold JCf at h;split at h
 ·cases h
 ·rename_i h1;simp only [Vx, decide_eq_true_eq, not_or, Int.not_lt, gt_iff_lt] at h1;obtain ⟨⟨⟨a, b⟩, c⟩, d⟩ := h1;refine ⟨c, d, b, ?_⟩;unfold Ud at a;split at a
  ·omega
  ·exact a
theorem JJR (a b : Int × Int) : PT 22 [Jn a, Jn b] (.tup [.d (Jn (addN a b).1), .d (.int .i64 (addN a b).2)]) := by
 refine ok22.pc ?_;have h59 := (JCg [a, b] sP).call trivial;simp only [Va, Vb, Jn] at h59;by_cases hf : Uv [a, b] = 0
 ·have hv := JBz hf;have ha := Xl (hv a sP);have hb := Xl (hv b sP);have hT : addN a b = JH1 [a, b] (if b.2 > a.2 then b.2 else a.2) := by rw [addN, if_neg (by simp [hf])]
  have h60 := (JNx [a, b] (if b.2 > a.2 then b.2 else a.2) sP (fun p hp => by
   rcases VA.1 hp with rfl | hp
   ·exact ⟨ha.1, ha.2.1⟩
   ·obtain rfl := List.mem_singleton.1 hp; exact ⟨hb.1, hb.2.1⟩) (by split <;> omega) (by split <;> omega)).call (by simp [JU])
  rw [hT];generalize JH1 [a, b] (if b.2 > a.2 then b.2 else a.2) = T at *;rw [hf] at h59;simp only [Va, Vb, Jn] at h60;simp only [go_sem, ir22, Jn, simprocAttr];refine ⟨sP, wn h59 ?_⟩;have q0 : ((0 : Int) != 0) = false := rfl;refine JFC ?_;refine ⟨sP, wn h60 ?_⟩;exact zz trivial
 ·have hT : addN a b = ((0, 0), Uv [a, b]) := by rw [addN, if_pos hf]
  rw [hT];have q0 : (Uv [a, b] != 0) = true := by simp [hf]
  generalize Uv [a, b] = F at *;simp only [go_sem, ir22, Jn, simprocAttr];refine ⟨sP, wn h59 ?_⟩;exact JFC trivial
def JCi (a b : Int × Int) : Int × Int := if Uv [a, b] ≠ 0 then (0, Uv [a, b]) else (orI [JA6 (Xu a).1 (Xu b).1, JA6 (Xu a).2 (Xu b).2], 0)
theorem JNy (a b : Int × Int) : PT 23 [Jn a, Jn b] (.tup [.d (.int .i64 (JCi a b).1), .d (.int .i64 (JCi a b).2)]) := by
 refine ok23.pc ?_;have h59 := (JCg [a, b] sP).call trivial;simp only [Va, Vb, Jn] at h59;by_cases hf : Uv [a, b] = 0
 ·have hv := JBz hf;have ha := Xl (hv a sP);have hb := Xl (hv b sP);have ca := (JJQ a ha.1 ha.2.1).call (by simp [JU]);have cb := (JJQ b hb.1 hb.2.1).call (by simp [JU]);rw [JCi, if_neg (by simp [hf])];rw [hf] at h59;simp only [Jn] at ca cb;simp only [go_sem, ir23, Jn, simprocAttr];refine ⟨sP, wn h59 ?_⟩;have q0 : ((0 : Int) != 0) = false := rfl;refine JFC ?_;refine wc ca ?_;refine wc cb ?_;refine wc ((JCY _ _).call trivial) ?_;refine wc ((JCY _ _).call trivial) ?_;refine ⟨by simp [Dat.cells], wn ((JI8 [JA6 (Xu a).1 (Xu b).1, JA6 (Xu a).2 (Xu b).2] sP).call trivial) ?_⟩;exact zz trivial
 ·rw [JCi, if_pos hf];have q0 : (Uv [a, b] != 0) = true := by simp [hf]
  generalize Uv [a, b] = F at *;simp only [go_sem, ir23, Jn, simprocAttr];refine ⟨sP, wn h59 ?_⟩;exact JFC trivial
def dv1 : Nat → Int → Int → Int × Int
 | 0, b, e => (b, e)
 | k + 1, b, e => if decide (e < 0) && decide (b ≤ 3999999999999996) then dv1 k (IntKind.i64.wrap (b * 10)) (IntKind.i64.wrap (e + 1)) else (b, e)
def dv2 : Nat → Int → Int → Int → Int → Int × Int
 | 0, _, q, r, _ => (q, r)
 | k + 1, b, q, r, e => if decide (e > 0) && decide (q ≤ 999999999999999) then dv2 k b (IntKind.i64.wrap (IntKind.i64.wrap (10 * q) + IntKind.i64.wrap ((IntKind.i64.wrap (r * 10)).tdiv b))) ((IntKind.i64.wrap (r * 10)).tmod b) (IntKind.i64.wrap (e - 1)) else (q, r)
def rndN (b q r : Int) : Int := if decide (IntKind.i64.wrap (2 * r) > b) || (IntKind.i64.wrap (2 * r) == b && q.tmod 2 == 1) then IntKind.i64.wrap (q + 1) else q
def dvN (a b e : Int) : Int :=
 if decide ((dv1 64 (Ud b) e).2 < 0) then 0 else
  rndN (dv1 64 (Ud b) e).1 (dv2 64 (dv1 64 (Ud b) e).1 (IntKind.i64.wrap ((Ud a).tdiv (dv1 64 (Ud b) e).1)) ((Ud a).tmod (dv1 64 (Ud b) e).1) (dv1 64 (Ud b) e).2).1
   (dv2 64 (dv1 64 (Ud b) e).1 (IntKind.i64.wrap ((Ud a).tdiv (dv1 64 (Ud b) e).1)) ((Ud a).tmod (dv1 64 (Ud b) e).1) (dv1 64 (Ud b) e).2).2
theorem JEZ {b : Int} (h : b ≠ 0) (h0 : -999999999999999 ≤ b) (h1 : b ≤ 999999999999999) : 0 < Ud b ∧ Ud b ≤ 999999999999999 := by
 unfold Ud;have hw : IntKind.i64.wrap (0 - b) = 0 - b := wrap64 oM oM;rw [hw];split <;> omega
theorem walk64 (a b e : Int) (hb : b ≠ 0) (hb0 : -999999999999999 ≤ b) (hb1 : b ≤ 999999999999999) (he0 : -60 ≤ e) (he1 : e ≤ 60) :
  PT 64 [.int .i64 a, .int .i64 b, .int .i64 e] (.d (.int .i64 (dvN a b e))) := by
 refine ok64.pc ?_;obtain ⟨p0, p1⟩ := JEZ hb hb0 hb1;generalize hT : dvN a b e = T;unfold dvN at hT;simp only [go_sem, ir64, simprocAttr];refine wc ((Yx a).call trivial) ?_;refine wc ((Yx b).call trivial) ?_;generalize Ud a = a1 at *;generalize Ud b = b1 at *;generalize hF0 : dv1 64 b1 e = F at *;refine JJ (fun r st => ∃ (k : Nat) (x y : Int), r = k ∧ 0 < x ∧ x ≤ 99999999999999999 ∧ -60 ≤ y ∧ y ≤ 60 ∧ (y < 0 → -y ≤ k) ∧ F = dv1 k x y ∧
  st = ⟨[(0, .d (.int .i64 a1)), (1, .d (.int .i64 x)), (2, .d (.int .i64 y))], []⟩) ?_ ?_
 ·refine ⟨_, _, Wk.less ?_, 64, b1, e, rfl, p0, oM, he0, he1, oM, hF0.symm, rfl⟩;simp [go_sem]
 ·rintro r st ⟨k, x, y, hr, hx0, hx1, hy0, hy1, hyk, hinv, rfl⟩;refine zz ?_;refine sq (decide (x ≤ 3999999999999996)) ?_ ?_
  ·exact zz trivial
  refine zz ?_;apply ik <;> intro hc
  ·cases k with
   | zero => simp at hc; omega
   | succ k =>
    rw [dv1, if_pos hc] at hinv;have hc' : y < 0 ∧ x ≤ 3999999999999996 := sX hc;have w1 : IntKind.i64.wrap (x * 10) = x * 10 := wrap64 oM oM;have w2 : IntKind.i64.wrap (y + 1) = y + 1 := wrap64 oM oM;rw [w1, w2] at hinv;refine ⟨k, _, oM, Wk.less ?_, k, x * 10, y + 1, rfl, oM, oM, oM, oM, oM, hinv, rfl⟩;simp [go_sem, w1, w2]
  ·have hF : F = (x, y) := by
    rw [hinv];cases k with
    | zero => rfl
    | succ k => rw [dv1, if_neg (nF hc)]
   rw [hF] at hT;simp only at hT
   try refine zz ?_
   apply ik <;> intro hd
   ·rw [if_pos hd] at hT;rw [hT]
   rw [if_neg (nF hd)] at hT;have hxne : x ≠ 0 := oM
   try refine zz ?_
   refine ⟨hxne, hxne, ?_⟩;generalize IntKind.i64.wrap (a1.tdiv x) = q0 at *;generalize a1.tmod x = r0 at *;generalize hG0 : dv2 64 x q0 r0 y = G at *;refine JJ (fun r st => ∃ (k : Nat) (q z y' : Int), r = k ∧ -60 ≤ y' ∧ y' ≤ 60 ∧ (y' > 0 → y' ≤ k) ∧ G = dv2 k x q z y' ∧
    st = ⟨[(1, .d (.int .i64 x)), (2, .d (.int .i64 y')), (7, .d (.int .i64 q)), (8, .d (.int .i64 z))], []⟩) ?_ ?_
   ·refine ⟨_, _, Wk.less ?_, 64, q0, r0, y, rfl, hy0, hy1, oM, hG0.symm, rfl⟩;simp [go_sem]
   ·rintro r st ⟨k, q, z, y', hr, hz0, hz1, hzk, hinv2, rfl⟩;refine zz ?_;refine sq (decide (q ≤ 999999999999999)) ?_ ?_
    ·exact zz trivial
    refine zz ?_;apply ik <;> intro hc
    ·cases k with
     | zero => simp at hc; omega
     | succ k =>
      rw [dv2, if_pos hc] at hinv2;have hc' : y' > 0 ∧ q ≤ 999999999999999 := sX hc;have w2 : IntKind.i64.wrap (y' - 1) = y' - 1 := wrap64 oM oM;rw [w2] at hinv2;refine ⟨hxne, hxne, k, _, oM, Wk.less ?_, k, _, _, y' - 1, rfl, oM, oM, oM, hinv2, rfl⟩;simp [go_sem, w2]
    ·have hF2 : G = (q, z) := by
      rw [hinv2];cases k with
      | zero => rfl
      | succ k => rw [dv2, if_neg (nF hc)]
     rw [hF2] at hT;simp only [rndN] at hT
     try refine zz ?_
     refine sq (IntKind.i64.wrap (2 * z) == x && q.tmod 2 == 1) ?_ ?_
     ·refine zz ?_;refine sq (q.tmod 2 == 1) ?_ ?_
      ·refine zz ?_
       try decide
      exact zz trivial
     refine zz ?_;apply ik <;> intro hg
     ·rw [if_pos hg] at hT;rw [hT]
     ·rw [if_neg (nF hg)] at hT;rw [hT]
def divN (a b : Int × Int) (s : Int) : (Int × Int) × Int :=
 if Uv [a, b] ≠ 0 then ((0, 0), Uv [a, b]) else if decide (s < 0) || decide (s > 12) then ((0, 0), 2) else if b.1 == 0 then ((0, 0), 15)
 else JJP (if !(decide (a.1 < 0) == decide (b.1 < 0)) then IntKind.i64.wrap (0 - dvN a.1 b.1 (IntKind.i64.wrap (IntKind.i64.wrap (s + b.2) - a.2))) else dvN a.1 b.1 (IntKind.i64.wrap (IntKind.i64.wrap (s + b.2) - a.2))) s
theorem walk24 (a b : Int × Int) (s : Int) : PT 24 [Jn a, Jn b, .int .i64 s] (.tup [.d (Jn (divN a b s).1), .d (.int .i64 (divN a b s).2)]) := by
 refine ok24.pc ?_;have h59 := (JCg [a, b] sP).call trivial;simp only [Va, Vb, Jn] at h59;generalize hT : divN a b s = T;unfold divN at hT;by_cases hf : Uv [a, b] = 0
 ·have hv := JBz hf;have ha := Xl (hv a sP);have hb := Xl (hv b sP);rw [if_neg (by simp [hf])] at hT;rw [hf] at h59;simp only [go_sem, ir24, Jn, simprocAttr];refine ⟨sP, wn h59 ?_⟩;have q0 : ((0 : Int) != 0) = false := rfl;refine JFC ?_;refine sq (decide (s > 12)) ?_ ?_
  ·exact zz trivial
  refine zz ?_;refine ⟨fun h1 => ?_, fun h1 => ⟨fun h2 => ?_, fun h2 => ?_⟩⟩
  ·rw [if_pos h1] at hT;rw [← hT]
  ·rw [if_neg (nF h1), if_pos h2] at hT;rw [← hT]
  rw [if_neg (nF h1), if_neg (nF h2)] at hT;have hs : 0 ≤ s ∧ s ≤ 12 := by simp at h1; omega
  have hbne : b.1 ≠ 0 := sX h2;have w1 : IntKind.i64.wrap (s + b.2) = s + b.2 := wrap64 oM oM;have w2 : IntKind.i64.wrap (s + b.2 - a.2) = s + b.2 - a.2 := wrap64 oM oM;have c64 := (walk64 a.1 b.1 (s + b.2 - a.2) hbne hb.2.2.1 hb.2.2.2 oM oM).call trivial;rw [w1, w2] at hT;simp only [go_sem, w1, w2, simprocAttr];refine wn c64 ?_;generalize dvN a.1 b.1 (s + b.2 - a.2) = D at *;refine zz ?_;apply ik <;> intro h3
  ·rw [if_pos h3] at hT;refine wn ((JCh _ s).call (by simp [JU])) ?_;rw [hT];exact JIy trivial
  ·rw [if_neg (nF h3)] at hT;refine wn ((JCh _ s).call (by simp [JU])) ?_;rw [hT];exact JIy trivial
 ·rw [if_pos hf] at hT;rw [← hT];have q0 : (Uv [a, b] != 0) = true := by simp [hf]
  generalize Uv [a, b] = F at *;simp only [go_sem, ir24, Jn, simprocAttr];refine ⟨sP, wn h59 ?_⟩;exact JFC trivial
def zeroV : Val := .mk 0 0 0 [] [] []
end Go.Proofs
namespace Go.Proofs
open Go Av
open Av.Y
def JNz : Ic := q (R (ox 2 0<|ox 3 1<|oN 4 [.int .i64 0,.int .i64 0]<|oz 5 0<|N) [0,1,5])<|q (q (R (oL 7 2 2<|oL 8 2 3<|oo 9 (.bls 2 [t 7,t 8])<|cl 10 59 [t 9]<|om 6 10<|N) [7,8,9,10])<|q (R (om 11 6<|oi 12 .neq 11 0<|N) [11])<|D (I 12 (q (R (oo 13 (.bld [.int .i64 0,.int .i64 0] [])<|om 14 6<|oS 2 4 13<|om 5 14<|N) [2,3,6,12,13,14])<|.ret) S) [6,12])<|q (R (of 15 3 0<|ol 16 15<|oo 17 (.neg .i64 (t 16))<|of 18 3 0<|os 18 17<|N) [15,16,17,18])<|q (R (oL 19 2 2<|oL 20 2 3<|cl 21 22 [t 19,t 20]<|oe 22 21 0<|oe 23 21 1<|oS 2 4 22<|om 5 23<|N) [2,3,19,20,21,22,23])<|.ret
theorem ok182 : FT 182 24 JNz [.cell 4 (some 2), .tmp 5] := .o Tryz.func182
def JN0 : Ic := q (R (ox 2 0<|ox 3 1<|oN 4 [.int .i64 0,.int .i64 0]<|oz 5 0<|N) [0,1,5])<|q (q (R (oL 8 2 2<|oL 9 2 3<|oo 10 (.bls 2 [t 8,t 9])<|cl 11 59 [t 10]<|om 6 11<|N) [8,9,10,11])<|q (R (om 12 6<|oi 13 .neq 12 0<|N) [12])<|D (I 13 (q (R (oo 14 (.bld [.int .i64 0,.int .i64 0] [])<|om 15 6<|oS 2 4 14<|om 5 15<|N) [2,3,6,13,14,15])<|.ret) S) [6,13])<|q (R (of 16 2 1<|ol 17 16<|of 18 3 1<|ol 19 18<|ot 20 .add 17 19<|om 7 20<|N) [16,17,18,19,20])<|q (q (D (.regd [(9,11)] (om 21 7<|oi 22 .gtr 21 12<|om 23 22<|.sc 23 false (of 24 3 0<|ol 25 24<|oi 26 .neq 25 0<|om 27 26<|.sc 27 true (of 28 2 0<|ol 29 28<|cl 30 58 [t 29]<|of 31 3 0<|ol 32 31<|cl 33 58 [t 32]<|ob 34 .quo (i 999999999999999) (t 33)<|ot 35 .gtr 30 34<|N) (t 35) 36 N) (t 36) 37 N)) [21,22,23])<|D (I 37 (q (R (oo 38 (.bld [.int .i64 0,.int .i64 0] [])<|oS 2 4 38<|oz 5 14<|N) [2,3,7,37,38])<|.ret) S) [37])<|q (R (of 39 2 0<|ol 40 39<|of 41 3 0<|ol 42 41<|ot 43 .mul 40 42<|om 44 7<|cl 45 65 [t 43,t 44]<|oe 46 45 0<|oe 47 45 1<|oS 2 4 46<|om 5 47<|N) [2,3,7,39,40,41,42,43,44,45,46,47])<|.ret
theorem ok183 : FT 183 48 JN0 [.cell 4 (some 2), .tmp 5] := .o Tryz.func183
end Go.Proofs
namespace Go.Proofs
open Go Av
def mC (env : Val) (x : Int) : List Dat := [.int .i64 env.kind, .int .i64 env.int, .int .i64 env.scale, .str env.text, .list 6 (env.list.map JB), .list 7 (env.fields.map Jh), .int .i64 x]
abbrev mO (env : Val) (x : Int) : Av.Obj := .box ((mC env x).map .d)
theorem JI (env : Val) (x y : Int) : closed (JD (get [(1000, mO env x)]) [(1000, mO env y)]) := Jd (by simp [UA, put, Jc, J4, JC9])
abbrev JT (f : Nat) (ds : List Dat) (env : Val) (x : Int) (v : Av) (y : Int) : Prop := KT f (.ref 1000 0 :: ds.map .d) [(1000, mO env x)] v [(1000, mO env y)]
theorem JT.to {f : Nat} {ds : List Dat} {env : Val} {x y : Int} {v : Av} (h : JT f ds env x v y) (hv : JU v) : CT f (.ref 1000 0 :: ds.map .d) [(1000, some (mO env x))] v [(1000, mO env y)] := Con.rw1 h hv 1000
def UI (x y : Int) : Int := if x == 0 then y else x
theorem J0 (env : Val) (x y : Int) : JT 126 [.int .i64 y] env x (.d (JB zeroV)) (UI x y) := by
 refine ok126.co (k := false) (JI _ _ _) trivial ?_;simp only [go_sem, ir126, mC, Va, Vb, simprocAttr];apply ik <;> intro h
 ·simp only [UI, h, ↓reduceIte];exact ⟨rfl, rfl⟩
 ·simp only [UI, h, Vu, ↓reduceIte];exact ⟨rfl, trivial⟩
def isN (v : Val) : Bool := (v.kind == 2) || (v.kind == 3)
theorem Yq (v : Val) : PT 176 [JB v] (.d (.bool (isN v))) := by
 refine ok176.pc ?_;rw [JA];simp only [go_sem, ir176, simprocAttr];refine sq (v.kind == 3) ?_ ?_
 ·exact zz trivial
 simp only [go_sem, isN, simprocAttr]
def ofN (v : Val) : Int × Int := if v.kind == 2 then (v.int, 0) else (v.int, v.scale)
theorem Xy (v : Val) : PT 177 [JB v] (.d (Jn (ofN v))) := by
 refine ok177.pc ?_;rw [JA];simp only [go_sem, ir177, Jn, simprocAttr];apply ik <;> intro h
 ·simp only [ofN, h, ↓reduceIte]
 ·simp only [ofN, h, Vu, ↓reduceIte]
def UV (b : Bool) : Val := if b then .mk 1 1 0 [] [] [] else .mk 1 0 0 [] [] []
theorem U5 (b : Bool) : PT 123 [.bool b] (.d (JB (UV b))) := by
 refine ok123.pc ?_;cases b
 ·refine zz78 ?_;rfl
 ·refine zz78 ?_;rfl
theorem JGa (n : Int) : PT 36 [.int .i64 n] (.d (JB (.mk 2 n 0 [] [] []))) := by
 refine ok36.pc ?_;simp only [go_sem, ir36, simprocAttr];rfl
theorem walk57 (n s : Int) : PT 57 [.int .i64 n, .int .i64 s] (.d (JB (.mk 3 n s [] [] []))) := by
 refine ok57.pc ?_;simp only [go_sem, ir57, simprocAttr];rfl
def ZZ (wh : Bool) (n : Int × Int) (er : Int) : Val := if er != 0 then zeroV else if wh then .mk 2 n.1 0 [] [] [] else .mk 3 n.1 n.2 [] [] []
def JEa (er x : Int) : Int := if er != 0 then UI x er else x
theorem JDY (wh : Bool) (n : Int × Int) (er : Int) (env : Val) (x : Int) : JT 181 [.bool wh, Jn n, .int .i64 er] env x (.d (JB (ZZ wh n er))) (JEa er x) := by
 refine ok181.co (k := false) (JI _ _ _) trivial ?_;have c126 := (J0 env x er).to trivial;have c36 := (JGa n.1).call trivial;have c57 := (walk57 n.1 n.2).call trivial;simp only [go_sem, ir181, mC, Jn, Va, Vb, simprocAttr];apply ik <;> intro h
 ·simp only [ZZ, JEa, h, ↓reduceIte];refine wn c126 ?_;generalize zeroV = z at *;rw [JA];refine zz1 ?_;exact zf
 ·simp only [ZZ, JEa, h, Vu, ↓reduceIte];cases wh
  ·simp only [go_sem, Vu, simprocAttr];refine wn c57 ?_;rw [JA];refine zz1 ?_;exact zf
  ·refine zz ?_;refine wn c36 ?_;rw [JA];refine zz1 ?_;exact zf
def JGb (a b : Int × Int) : (Int × Int) × Int := if Uv [a, b] ≠ 0 then ((0, 0), Uv [a, b]) else addN a (IntKind.i64.wrap (0 - b.1), b.2)
theorem JRa (a b : Int × Int) : PT 182 [Jn a, Jn b] (.tup [.d (Jn (JGb a b).1), .d (.int .i64 (JGb a b).2)]) := by
 refine ok182.pc ?_;have h59 := (JCg [a, b] sP).call trivial;simp only [Va, Vb, Jn] at h59;by_cases hf : Uv [a, b] = 0
 ·have h22 := (JJR a (IntKind.i64.wrap (0 - b.1), b.2)).call (by simp [JU]);have hT : JGb a b = addN a (IntKind.i64.wrap (0 - b.1), b.2) := by rw [JGb, if_neg (by simp [hf])]
  rw [hT];generalize addN a (IntKind.i64.wrap (0 - b.1), b.2) = T at *;rw [hf] at h59;have q0 : ((0 : Int) != 0) = false := rfl;simp only [Jn] at h22;simp only [go_sem, JNz, Jn, simprocAttr];refine ⟨sP, wn h59 ?_⟩;refine JFC ?_;refine wc h22 trivial
 ·have hT : JGb a b = ((0, 0), Uv [a, b]) := by rw [JGb, if_pos hf]
  rw [hT];have q0 : (Uv [a, b] != 0) = true := by simp [hf]
  generalize Uv [a, b] = F at *;simp only [go_sem, JNz, Jn, simprocAttr];refine ⟨sP, wn h59 ?_⟩;exact JFC trivial
def bigN (a b : Int × Int) : Bool := decide (IntKind.i64.wrap (a.2 + b.2) > 12) || ((b.1 != 0) && decide (Ud a.1 > IntKind.i64.wrap (Int.tdiv 999999999999999 (Ud b.1))))
def mulN (a b : Int × Int) : (Int × Int) × Int := if Uv [a, b] ≠ 0 then ((0, 0), Uv [a, b]) else if bigN a b then ((0, 0), 14) else JJP (IntKind.i64.wrap (a.1 * b.1)) (IntKind.i64.wrap (a.2 + b.2))
theorem JRb (a b : Int × Int) : PT 183 [Jn a, Jn b] (.tup [.d (Jn (mulN a b).1), .d (.int .i64 (mulN a b).2)]) := by
 refine ok183.pc ?_;have h59 := (JCg [a, b] sP).call trivial;simp only [Va, Vb, Jn] at h59;by_cases hf : Uv [a, b] = 0
 ·have hv := JBz hf;have hb := Xl (hv b sP);generalize hT : mulN a b = T;rw [mulN, if_neg (by simp [hf])] at hT;have h65 := (JCh (IntKind.i64.wrap (a.1 * b.1)) (IntKind.i64.wrap (a.2 + b.2))).call (by simp [JU]);rw [hf] at h59;have q0 : ((0 : Int) != 0) = false := rfl;simp only [go_sem, JN0, Jn, simprocAttr];refine ⟨sP, wn h59 ?_⟩;refine JFC ?_;refine ⟨(b.1 != 0) && decide (Ud a.1 > IntKind.i64.wrap (Int.tdiv 999999999999999 (Ud b.1))), [(2, .box [.d (.int .i64 a.1), .d (.int .i64 a.2)]), (3, .box [.d (.int .i64 b.1), .d (.int .i64 b.2)]), (4, .box [.d (.int .i64 0), .d (.int .i64 0)])],
   ([], []) :: ([3], []) :: ([], []) :: ([], []) :: ([([], []), ([2], []), ([], []), ([], []), ([3], []), ([], []), ([], []), ([], [])] ++ [([], [])]), rfl, fun h1 => ?_, fun _ => rfl, rfl, ?_⟩
  ·refine ⟨decide (Ud a.1 > IntKind.i64.wrap (Int.tdiv 999999999999999 (Ud b.1))), [(2, .box [.d (.int .i64 a.1), .d (.int .i64 a.2)]), (3, .box [.d (.int .i64 b.1), .d (.int .i64 b.2)]), (4, .box [.d (.int .i64 0), .d (.int .i64 0)])], [([], []), ([2], []), ([], []), ([], []), ([3], []), ([], []), ([], []), ([], [])], rfl, fun h2 => ?_, fun _ => rfl, rfl, rfl, rfl⟩;have hb0 : b.1 ≠ 0 := sX h2;have hp0 := (JEZ hb0 hb.2.2.1 hb.2.2.2).1;have hne : Ud b.1 ≠ 0 := oM;refine JC rfl ((Yx a.1).call trivial) trivial ?_;refine zz ?_;refine JC rfl ((Yx b.1).call trivial) trivial ?_;refine zz ?_;exact hne
  refine zz ?_;have hbig : bigN a b = (decide (IntKind.i64.wrap (a.2 + b.2) > 12) || ((b.1 != 0) && decide (Ud a.1 > IntKind.i64.wrap (Int.tdiv 999999999999999 (Ud b.1))))) := rfl;rw [← hbig];apply ik <;> intro h
  ·rw [if_pos h] at hT;rw [← hT]
  ·rw [if_neg (nF h)] at hT;rw [hT] at h65;refine wn h65 ?_;exact JIy trivial
 ·have hT : mulN a b = ((0, 0), Uv [a, b]) := by rw [mulN, if_pos hf]
  rw [hT];have q0 : (Uv [a, b] != 0) = true := by simp [hf]
  generalize Uv [a, b] = F at *;simp only [go_sem, JN0, Jn, simprocAttr];refine ⟨sP, wn h59 ?_⟩;exact JFC trivial
def opN (op sc : Int) (a b : Int × Int) : (Int × Int) × Int := if op == 12 then addN a b else if op == 13 then JGb a b else if op == 14 then mulN a b else divN a b sc
def isQ (op : Int) : Bool := !((op == 12) || (op == 13) || (op == 14))
def Zn (op sc : Int) (a b : Val) (x : Int) : Val × Int :=
 if x != 0 then (zeroV, x) else if !isN a || !isN b then (zeroV, UI x 18) else
  (ZZ (!isQ op && ((a.kind == 2) && (b.kind == 2))) (opN op sc (ofN a) (ofN b)).1 (opN op sc (ofN a) (ofN b)).2, JEa (opN op sc (ofN a) (ofN b)).2 x)
theorem JDZ (e : Exp) (a b env : Val) (x : Int) : JT 130 [JL e, JB a, JB b] env x (.d (JB (Zn e.op e.int a b x).1)) (Zn e.op e.int a b x).2 := by
 refine ok130.co (k := false) (JI _ _ _) trivial ?_;have c18 := (J0 env x 18).to trivial;have ca := (Yq a).call trivial;have cb := (Yq b).call trivial;have oa := (Xy a).call trivial;have ob := (Xy b).call trivial;have cN := fun (wh : Bool) (n : Int × Int) (er : Int) => (JDY wh n er env x).to trivial
 generalize hT : Zn e.op e.int a b x = T;unfold Zn at hT;rw [JA] at ca cb oa ob;rw [JE, JA a, JA b];simp only [Jn] at oa ob cN;simp only [go_sem, ir130, mC, Va, Vb, simprocAttr];apply ik <;> intro h0
 ·rw [if_pos h0] at hT;rw [← hT]
  try exact ⟨rfl, rfl⟩
 rw [if_neg (nF h0)] at hT;refine wn ca ?_;refine zz1 ?_;refine sq (!isN b) ?_ ?_
 ·refine zz ?_;refine wc cb trivial
 refine zz ?_;apply ik <;> intro h1
 ·rw [if_pos h1] at hT;rw [← hT];refine wn c18 ?_;generalize zeroV = z at *;rw [JA];refine zz1 ?_;exact zf
 rw [if_neg (nF h1)] at hT;refine sq (b.kind == 2) ?_ ?_
 ·exact zz trivial
 refine zz ?_;generalize (a.kind == 2 && b.kind == 2) = wh at *;have hqs : isQ e.op = !((e.op == 12) || (e.op == 13) || (e.op == 14)) := rfl;apply ik <;> intro h2
 ·rw [hqs, opN, if_pos h2, h2, Bool.true_or, Bool.true_or, Vr, Vs, Vt] at hT;have h22 := (JJR (ofN a) (ofN b)).call (by simp [JU]);simp only [Jn] at h22;rw [← hT];have cM := cN wh (addN (ofN a) (ofN b)).1 (addN (ofN a) (ofN b)).2;clear hT;generalize ZZ _ _ _ = z at *;generalize JEa _ _ = y at *;refine JC rfl oa trivial ?_;refine zz ?_;refine JC rfl ob trivial ?_;refine zz ?_;refine JC rfl h22 trivial ?_;refine zz ?_;refine ⟨rfl, wn cM ?_⟩;rw [JA];refine zz1 ?_;exact zf
 apply ik <;> intro h3
 ·rw [hqs, opN, if_neg (nF h2), if_pos h3, h3, Bool.or_true, Bool.true_or, Vr, Vs, Vt] at hT;have h22 := (JRa (ofN a) (ofN b)).call (by simp [JU]);simp only [Jn] at h22;rw [← hT];have cM := cN wh (JGb (ofN a) (ofN b)).1 (JGb (ofN a) (ofN b)).2;clear hT;generalize ZZ _ _ _ = z at *;generalize JEa _ _ = y at *;refine JC rfl oa trivial ?_;refine zz ?_;refine JC rfl ob trivial ?_;refine zz ?_;refine JC rfl h22 trivial ?_;refine zz ?_;refine ⟨rfl, wn cM ?_⟩;rw [JA];refine zz1 ?_;exact zf
 apply ik <;> intro h4
 ·rw [hqs, opN, if_neg (nF h2), if_neg (nF h3), if_pos h4, h4, Bool.or_true, Vr, Vs, Vt] at hT;have h22 := (JRb (ofN a) (ofN b)).call (by simp [JU]);simp only [Jn] at h22;rw [← hT];have cM := cN wh (mulN (ofN a) (ofN b)).1 (mulN (ofN a) (ofN b)).2;clear hT;generalize ZZ _ _ _ = z at *;generalize JEa _ _ = y at *;refine JC rfl oa trivial ?_;refine zz ?_;refine JC rfl ob trivial ?_;refine zz ?_;refine JC rfl h22 trivial ?_;refine zz ?_;refine ⟨rfl, wn cM ?_⟩;rw [JA];refine zz1 ?_;exact zf
 ·rw [hqs, opN, if_neg (nF h2), if_neg (nF h3), if_neg (nF h4), h2, h3, h4, Bool.false_or, Bool.false_or, Vs, Vr, Bool.false_and] at hT;have h22 := (walk24 (ofN a) (ofN b) e.int).call (by simp [JU]);simp only [Jn] at h22;rw [← hT];have cM := cN false (divN (ofN a) (ofN b) e.int).1 (divN (ofN a) (ofN b) e.int).2;clear hT;generalize ZZ _ _ _ = z at *;generalize JEa _ _ = y at *;refine JC rfl oa trivial ?_;refine zz ?_;refine JC rfl ob trivial ?_;refine zz ?_;refine JC rfl h22 trivial ?_;refine zz ?_;refine ⟨rfl, wn cM ?_⟩;rw [JA];refine zz1 ?_;exact zf
def XI : Dat := .map [(.int .i64 8, .fn (.func 172) [] []), (.int .i64 9, .fn (.func 173) [] []), (.int .i64 10, .fn (.func 174) [] []), (.int .i64 11, .fn (.func 175) [] [])]
theorem Jo : PT 121 [] (.d XI) := by
 refine ok121.pc ?_;simp only [go_sem, ir121, XI, simprocAttr];refine ⟨trivial, trivial, trivial, trivial, trivial, rfl⟩
theorem JRc (n : Int) : PT 172 [.int .i64 n] (.d (.bool (decide (n < 0)))) := by
 refine ok172.pc ?_;simp only [go_sem, ir172, simprocAttr]
theorem JRd (n : Int) : PT 173 [.int .i64 n] (.d (.bool (decide (n ≤ 0)))) := by
 refine ok173.pc ?_;simp only [go_sem, ir173, simprocAttr]
theorem JRe (n : Int) : PT 174 [.int .i64 n] (.d (.bool (decide (n > 0)))) := by
 refine ok174.pc ?_;simp only [go_sem, ir174, simprocAttr]
theorem JRf (n : Int) : PT 175 [.int .i64 n] (.d (.bool (decide (n ≥ 0)))) := by
 refine ok175.pc ?_;simp only [go_sem, ir175, simprocAttr]
def JG (v : Val) (y : Int) : Int := if (y == 0) && Uh v then UI y 19 else y
def JF (v : Val) (y : Int) : Val := if (y == 0) && Uh v then zeroV else v
theorem Jl (e : Exp) (env v : Val) (x y : Int) (h : JT 54 [JL e] env x (.d (JB v)) y) : JT 122 [JL e] env x (.d (JB (JF v y))) (JG v y) := by
 refine ok122.co (k := false) (JI _ _ _) trivial ?_;have c54 := h.to trivial;have c13 := (JAC v).call trivial;have c126 := (J0 env y 19).to trivial;unfold JF JG;rw [JE] at c54 ⊢;rw [JA v] at c54 c13;simp only [go_sem, ir122, mC, Va, Vb, simprocAttr];refine wn c54 ?_;refine zz1 ?_;refine sq (Uh v) ?_ ?_
 ·refine zz ?_;refine wc c13 trivial
 refine zz ?_;apply ik <;> intro h1
 ·rw [if_pos h1, if_pos h1];generalize zeroV = z at *;refine wn c126 ?_;rw [JA];refine zz1 ?_;exact zf
 ·rw [if_neg (nF h1), if_neg (nF h1)];rw [JA];refine zz1 ?_;exact zf
def JAm (a b : Val) (x : Int) : Int × Int :=
 if x != 0 then (0, x) else if isN a && isN b then ((JCi (ofN a) (ofN b)).1, if (JCi (ofN a) (ofN b)).2 != 0 then UI x (JCi (ofN a) (ofN b)).2 else x)
 else if (a.kind == 4) && (b.kind == 4) then (Z3 a.text b.text, x)
 else if (a.kind == b.kind) && (((a.kind == 6) || (a.kind == 7)) || (a.kind == 1)) then (JA6 a.int b.int, x) else (0, UI x 18)
theorem JDa (a b env : Val) (x : Int) : JT 124 [JB a, JB b] env x (.d (.int .i64 (JAm a b x).1)) (JAm a b x).2 := by
 refine ok124.co (k := false) (JI _ _ _) trivial ?_;have c18 := (J0 env x 18).to trivial;have ca := (Yq a).call trivial;have cb := (Yq b).call trivial;have oa := (Xy a).call trivial;have ob := (Xy b).call trivial;have cf := fun y => (J0 env x y).to trivial
 have h23 := (JNy (ofN a) (ofN b)).call (by simp [JU]);have c78 := (JGR a.text b.text).call trivial;have c63 := (JCY a.int b.int).call trivial;generalize hT : JAm a b x = T;unfold JAm at hT;rw [JA] at ca cb oa ob;rw [JA a, JA b];simp only [Jn] at oa ob h23;simp only [go_sem, ir124, mC, Va, Vb, simprocAttr];apply ik <;> intro h0
 ·rw [if_pos h0] at hT;rw [← hT]
  try exact ⟨rfl, rfl⟩
 rw [if_neg (nF h0)] at hT;refine wn ca ?_;refine zz1 ?_;refine sq (isN b) ?_ ?_
 ·refine zz ?_;refine wc cb trivial
 refine zz ?_;apply ik <;> intro h1
 ·rw [if_pos h1] at hT;generalize JCi (ofN a) (ofN b) = R at *;rw [← hT];refine JC rfl oa trivial ?_;refine zz ?_;refine JC rfl ob trivial ?_;refine zz ?_;refine JC rfl h23 trivial ?_;refine zz ?_;refine ⟨rfl, fun h2 => ?_, fun h2 => ?_⟩
  ·rw [if_pos h2];refine wn (cf R.2) ?_;refine zz1 ?_;exact zf
  ·rw [if_neg (nF h2)]
   try exact ⟨rfl, rfl⟩
 rw [if_neg (nF h1)] at hT
 try refine zz ?_
 refine sq (b.kind == 4) ?_ ?_
 ·exact zz trivial
 refine zz ?_;apply ik <;> intro h2
 ·rw [if_pos h2] at hT;rw [← hT];refine wn c78 ?_;refine zz1 ?_;exact zf
 rw [if_neg (nF h2)] at hT
 try refine zz ?_
 refine sq (((a.kind == 6) || (a.kind == 7)) || (a.kind == 1)) ?_ ?_
 ·refine zz ?_;refine sq (a.kind == 7) ?_ ?_
  ·exact zz trivial
  refine zz ?_;refine sq (a.kind == 1) ?_ ?_
  ·exact zz trivial
  exact zz trivial
 refine zz ?_;apply ik <;> intro h3
 ·rw [if_pos h3] at hT;rw [← hT];refine wn c63 ?_;refine zz1 ?_;exact zf
 rw [if_neg (nF h3)] at hT;rw [← hT];refine wn c18 ?_;refine zz1 ?_;exact zf
end Go.Proofs
namespace Go.Proofs
open Go Av
open Av.Y
def b54_0 : Ic := q (R (om 43 0<|of 44 3 4<|ol 45 44<|oo 46 (.ixa true 5 (t 45) (i 0))<|oL 47 5 46<|cl 48 122 [t 43,t 47]<|oN 7 v6<|oS 6 7 48<|N) [42,43,44,45,46,47,48])<|q (R (om 49 0<|of 50 3 4<|ol 51 50<|oo 52 (.ixa true 5 (t 51) (i 1))<|oL 53 5 52<|cl 54 122 [t 49,t 53]<|oN 8 v6<|oS 6 8 54<|N) [3,49,50,51,52,53,54])<|q (R (om 55 5<|om 56 0<|oL 57 6 7<|oL 58 6 8<|cl 59 124 [t 56,t 57,t 58]<|.call (some 60) (.dyn (t 55)) [t 59] (cl 61 123 [t 60]<|oS 6 4 61<|N)) [0,5,7,8,55,56,57,58,59,60,61])<|.ret
def b54_1 : Ic := q (R (of 66 3 3<|ol 67 66<|oo 68 (.ixa true 6 (t 67) (i 0))<|oL 69 6 68<|cl 70 55 [t 69]<|oS 6 4 70<|N) [0,3,63,64,66,67,68,69,70])<|.ret
def JN1 : Ic := q (R (om 95 0<|om 96 12<|cl 97 126 [t 95,t 96]<|oS 6 4 97<|N) [0,3,11,12,94,95,96,97])<|.ret
def b54_3 : Ic := q (R (om 101 12<|oi 102 .eql 101 0<|cl 103 123 [t 102]<|oS 6 4 103<|N) [11,12,100,101,102,103])<|.ret
def JN2 : Ic := q (R (of 75 3 2<|ol 76 75<|cl 77 80 [t 76]<|om 74 77<|oe 78 74 0<|oe 79 74 1<|om 9 78<|om 10 79<|N) [63,71,75,76,77,74,78,79,10])<|q (R (om 81 0<|oc 82 81<|of 83 82 0<|oL 84 6 83<|om 85 9<|cl 86 125 [t 84,t 85]<|om 80 86<|oe 87 80 0<|oe 88 80 1<|oN 11 v6<|oS 6 11 87<|om 12 88<|N) [9,81,82,83,84,85,86,80,87,88])<|q (q (R (om 89 12<|oi 90 .neq 89 0<|om 91 90<|.sc 91 true (om 92 12<|oi 93 .neq 92 19<|N) (t 93) 94 N) [89,90,91,92,93])<|D (I 94 JN1 S) [0,94])<|q (q (R (of 98 3 0<|ol 99 98<|oi 100 .eql 99 22<|N) [3,98,99])<|D (I 100 b54_3 S) [12,100])<|q (R (oL 104 6 11<|oS 6 4 104<|N) [11,104])<|.ret
def b54_5 : Ic := q (R (om 107 0<|oL 108 5 3<|cl 109 127 [t 107,t 108]<|oS 6 4 109<|N) [0,3,63,105,107,108,109])<|.ret
def b54_6 : Ic := q (R (om 112 0<|of 113 3 4<|ol 114 113<|oo 115 (.ixa true 5 (t 114) (i 0))<|oL 116 5 115<|cl 117 128 [t 112,t 116]<|og 118 117<|cl 119 123 [t 118]<|oS 6 4 119<|N) [0,3,63,110,112,113,114,115,116,117,118,119])<|.ret
def b54_7 : Ic := q (R (om 122 0<|of 123 3 4<|ol 124 123<|oo 125 (.ixa true 5 (t 124) (i 0))<|oL 126 5 125<|cl 127 128 [t 122,t 126]<|om 128 127<|.sc 128 true (om 129 0<|of 130 3 4<|ol 131 130<|oo 132 (.ixa true 5 (t 131) (i 1))<|oL 133 5 132<|cl 134 128 [t 129,t 133]<|N) (t 134) 135 (cl 136 123 [t 135]<|oS 6 4 136<|N)) [0,3,63,120,122,123,124,125,126,127,128,129,130,131,132,133,134,135,136])<|.ret
def b54_8 : Ic := q (R (om 139 0<|of 140 3 4<|ol 141 140<|oo 142 (.ixa true 5 (t 141) (i 0))<|oL 143 5 142<|cl 144 128 [t 139,t 143]<|om 145 144<|.sc 145 false (om 146 0<|of 147 3 4<|ol 148 147<|oo 149 (.ixa true 5 (t 148) (i 1))<|oL 150 5 149<|cl 151 128 [t 146,t 150]<|N) (t 151) 152 (cl 153 123 [t 152]<|oS 6 4 153<|N)) [0,3,63,137,139,140,141,142,143,144,145,146,147,148,149,150,151,152,153])<|.ret
def b54_9 : Ic := q (R (om 157 0<|of 158 3 4<|ol 159 158<|oo 160 (.ixa true 5 (t 159) (i 0))<|oL 161 5 160<|cl 162 122 [t 157,t 161]<|oN 13 v6<|oS 6 13 162<|N) [63,154,157,158,159,160,161,162])<|q (R (om 163 0<|of 164 3 4<|ol 165 164<|oo 166 (.ixa true 5 (t 165) (i 1))<|oL 167 5 166<|cl 168 122 [t 163,t 167]<|oN 14 v6<|oS 6 14 168<|N) [163,164,165,166,167,168])<|q (D (.regd [(3,5)] (om 169 0<|oL 170 6 13<|oL 171 6 14<|cl 172 129 [t 169,t 170,t 171]<|of 173 3 0<|ol 174 173<|oi 175 .eql 174 6<|ot 176 .beq 172 175<|cl 177 123 [t 176]<|oS 6 4 177<|N)) [0,3,13,14,169,170,171,172,173,174,175,176,177])<|.ret
def JN3 : Ic := q (R (om 180 0<|of 181 3 4<|ol 182 181<|oo 183 (.ixa true 5 (t 182) (i 0))<|oL 184 5 183<|cl 185 122 [t 180,t 184]<|oN 15 v6<|oS 6 15 185<|N) [63,178,180,181,182,183,184,185])<|q (.reg (ow 16 false<|N))<|q (.reg (ok 17 (.k (.nil 6))<|N))<|q (q (R (of 186 3 4<|ol 187 186<|oo 188 (.slc 5 (t 187) (some (i 1)) none none)<|oh 189 188<|oz 190 0<|N) [3,186,187])<|D (.block 1<|.loop (q (.reg (ot 191 .lss 190 189<|N))<|q (D (I 191 S (E 1)) [191])<|q (D (.block 2<|q (R (oa true 192 5 188 190<|oL 193 5 192<|oN 19 [.int .i64 0,.int .i64 0,.str [],.nil 6,.nil 5]<|oS 5 19 193<|N) [192,193])<|R (om 194 17<|om 195 0<|oL 196 5 19<|cl 197 122 [t 195,t 196]<|oo 198 (.bls 6 [t 197])<|oo 199 (.app 6 (t 194) (t 198))<|om 17 199<|N) [19,194,195,196,197,198,199]) [192,193,19,194,195,196,197,198,199])<|R (oi 200 .add 190 1<|om 190 200<|N) [200])) [188,189,190,191,192,193,19,194,195,196,197,198,199,200])<|q (q (.reg (oz 20 0<|N))<|D (.block 3<|.loop (q (q (R (om 201 20<|om 202 17<|oh 203 202<|ot 204 .lss 201 203<|om 205 204<|.sc 205 true (om 206 16<|og 207 206<|N) (t 207) 208 N) [201,202,203,204,205,206,207])<|D (I 208 S (E 3)) [16,208])<|q (D (.block 4<|R (om 211 0<|oL 212 6 15<|om 213 17<|om 214 20<|oa true 215 6 213 214<|oL 216 6 215<|cl 217 129 [t 211,t 212,t 216]<|om 16 217<|N) [211,212,213,214,215,216,217]) [211,212,213,214,215,216,217])<|R (om 209 20<|oi 210 .add 209 1<|om 20 210<|N) [209,210])) [0,15,17,20,201,202,203,204,205,206,207,208,211,212,213,214,215,216,217,209,210])<|q (R (om 218 16<|cl 219 123 [t 218]<|oS 6 4 219<|N) [16,218,219])<|.ret
def JJS : Ic := q (R (oi 223 .eql 63 14<|om 220 223<|N) [223])<|I 220 S (R (oi 224 .eql 63 15<|om 220 224<|N) [224])
def JN4 : Ic := q (R (om 225 0<|of 226 3 4<|ol 227 226<|oo 228 (.ixa true 5 (t 227) (i 0))<|oL 229 5 228<|cl 230 122 [t 225,t 229]<|oN 21 v6<|oS 6 21 230<|N) [63,220,225,226,227,228,229,230])<|q (R (om 231 0<|of 232 3 4<|ol 233 232<|oo 234 (.ixa true 5 (t 233) (i 1))<|oL 235 5 234<|cl 236 122 [t 231,t 235]<|oN 22 v6<|oS 6 22 236<|N) [231,232,233,234,235,236])<|q (R (om 237 0<|oL 238 5 3<|oL 239 6 21<|oL 240 6 22<|cl 241 130 [t 237,t 238,t 239,t 240]<|oS 6 4 241<|N) [0,3,21,22,237,238,239,240,241])<|.ret
def JN5 : Ic := q (R (om 244 0<|of 245 3 4<|ol 246 245<|oo 247 (.ixa true 5 (t 246) (i 0))<|oL 248 5 247<|cl 249 122 [t 244,t 248]<|oN 23 v6<|oS 6 23 249<|N) [63,242,244,245,246,247,248,249])<|q (R (om 250 0<|of 251 3 4<|ol 252 251<|oo 253 (.ixa true 5 (t 252) (i 1))<|oL 254 5 253<|cl 255 122 [t 250,t 254]<|oN 24 v6<|oS 6 24 255<|N) [3,250,251,252,253,254,255])<|q (R (om 256 0<|oL 257 6 23<|oL 258 6 24<|cl 259 131 [t 256,t 257,t 258]<|oS 6 4 259<|N) [0,23,24,256,257,258,259])<|.ret
def JN6 : Ic := q (R (om 262 0<|of 263 3 4<|ol 264 263<|oo 265 (.ixa true 5 (t 264) (i 0))<|oL 266 5 265<|cl 267 122 [t 262,t 266]<|oN 25 v6<|oS 6 25 267<|N) [63,260,262,263,264,265,266,267])<|q (R (om 268 0<|of 269 3 4<|ol 270 269<|oo 271 (.ixa true 5 (t 270) (i 1))<|oL 272 5 271<|cl 273 122 [t 268,t 272]<|oN 26 v6<|oS 6 26 273<|N) [268,269,270,271,272,273])<|q (R (om 274 0<|of 275 3 4<|ol 276 275<|oo 277 (.ixa true 5 (t 276) (i 2))<|oL 278 5 277<|cl 279 122 [t 274,t 278]<|oN 27 v6<|oS 6 27 279<|N) [3,274,275,276,277,278,279])<|q (R (om 280 0<|oL 281 6 25<|oL 282 6 26<|oL 283 6 27<|cl 284 132 [t 280,t 281,t 282,t 283]<|oS 6 4 284<|N) [0,25,26,27,280,281,282,283,284])<|.ret
def JN7 : Ic := q (R (oL 303 6 28<|oS 6 4 303<|N) [0,3,28,302,303])<|.ret
def JN8 : Ic := q (q (R (om 287 0<|of 288 3 4<|ol 289 288<|oo 290 (.ixa true 5 (t 289) (i 0))<|oL 291 5 290<|cl 292 54 [t 287,t 291]<|oN 28 v6<|oS 6 28 292<|N) [63,285,287,288,289,290,291,292])<|q (R (om 293 0<|oc 294 293<|of 295 294 6<|ol 296 295<|oi 297 .neq 296 0<|om 298 297<|.sc 298 false (oL 299 6 28<|cl 300 13 [t 299]<|og 301 300<|N) (t 301) 302 N) [293,294,295,296,297,298,299,300,301])<|D (I 302 JN7 S) [28,302])<|q (R (om 304 0<|of 305 3 4<|ol 306 305<|oo 307 (.ixa true 5 (t 306) (i 1))<|oL 308 5 307<|cl 309 54 [t 304,t 308]<|oS 6 4 309<|N) [0,3,304,305,306,307,308,309])<|.ret
def JN9 : Ic := q (R (om 318 0<|of 319 3 4<|ol 320 319<|oo 321 (.ixa true 5 (t 320) (i 1))<|oL 322 5 321<|cl 323 54 [t 318,t 322]<|oS 6 4 323<|N) [0,3,317,318,319,320,321,322,323])<|.ret
def JOA : Ic := q (q (R (om 312 0<|of 313 3 4<|ol 314 313<|oo 315 (.ixa true 5 (t 314) (i 0))<|oL 316 5 315<|cl 317 128 [t 312,t 316]<|N) [310,312,313,314,315,316])<|D (I 317 JN9 S) [317])<|q (R (om 324 0<|of 325 3 4<|ol 326 325<|oo 327 (.ixa true 5 (t 326) (i 2))<|oL 328 5 327<|cl 329 54 [t 324,t 328]<|oS 6 4 329<|N) [0,3,324,325,326,327,328,329])<|.ret
def JOB : Ic := q (R (oi 311 .eql 63 24<|om 310 311<|N) [63,285,311])<|D (I 310 JOA S) [310]
def JOC : Ic := q (R (oi 286 .eql 63 23<|om 285 286<|N) [260,286])<|I 285 JN8 JOB
def JOD : Ic := q (R (oi 261 .eql 63 21<|om 260 261<|N) [242,261])<|I 260 JN6 JOC
def JOE : Ic := q (R (oi 243 .eql 63 17<|om 242 243<|N) [220,243])<|I 242 JN5 JOD
def JJT : Ic := q (q (R (oi 221 .eql 63 12<|om 220 221<|N) [178,221])<|I 220 S (q (R (oi 222 .eql 63 13<|om 220 222<|N) [222])<|I 220 S JJS))<|I 220 JN4 JOE
def JGc : Ic := q (q (R (oi 155 .eql 63 6<|om 154 155<|N) [137,155])<|I 154 S (R (oi 156 .eql 63 7<|om 154 156<|N) [156]))<|I 154 b54_9 (q (R (oi 179 .eql 63 25<|om 178 179<|N) [154,179])<|I 178 JN3 JJT)
def JGd : Ic := q (R (oi 121 .eql 63 4<|om 120 121<|N) [110,121])<|I 120 b54_7 (q (R (oi 138 .eql 63 5<|om 137 138<|N) [120,138])<|I 137 b54_8 JGc)
def JGe : Ic := q (R (oi 106 .eql 63 26<|om 105 106<|N) [71,106])<|I 105 b54_5 (q (R (oi 111 .eql 63 3<|om 110 111<|N) [105,111])<|I 110 b54_6 JGd)
def JEb : Ic := q (q (R (oi 72 .eql 63 2<|om 71 72<|N) [64,72])<|I 71 S (R (oi 73 .eql 63 22<|om 71 73<|N) [73]))<|I 71 JN2 JGe
def JKh : Ic := q (R (ox 3 1<|oN 4 v6<|N) [1])<|q (q (R (om 29 0<|oc 30 29<|of 31 30 6<|ol 32 31<|oi 33 .neq 32 0<|N) [29,30,31,32])<|D (I 33 (q (R (oo 34 (.bld v6 [])<|oS 6 4 34<|N) [0,3,33,34])<|.ret) S) [33])<|q (q (D (.regd [(0,2)] (cl 36 121 []<|of 37 3 0<|ol 38 37<|oo 39 (.lkp .i .nilFn (t 36) (t 38) true)<|om 35 39<|oe 40 35 0<|oe 41 35 1<|om 5 40<|om 6 41<|N)) [36,37,38,39,35,40,41])<|q (R (om 42 6<|N) [6])<|D (I 42 b54_0 S) [5,42])<|q (q (R (of 62 3 0<|ol 63 62<|N) [62])<|D (.block 0<|q (R (oi 65 .eql 63 1<|om 64 65<|N) [65])<|I 64 b54_1 JEb) [63,65,64,66,67,68,69,70,72,71,73,75,76,77,74,78,79,9,10,81,82,83,84,85,86,80,87,88,11,12,89,90,91,92,93,94,95,96,97,98,99,100,101,102,103,104,106,105,107,108,109,111,110,112,113,114,115,116,117,118,119,121,120,122,123,124,125,126,127,128,129,130,131,132,133,134,135,136,138,137,139,140,141,142,143,144,145,146,147,148,149,150,151,152,153,155,154,156,157,158,159,160,161,162,13,163,164,165,166,167,168,14,169,170,171,172,173,174,175,176,177,179,178,180,181,182,183,184,185,15,16,17,186,187,188,189,190,191,192,193,19,194,195,196,197,198,199,200,20,201,202,203,204,205,206,207,208,211,212,213,214,215,216,217,209,210,218,219,221,220,222,223,224,225,226,227,228,229,230,21,231,232,233,234,235,236,22,237,238,239,240,241,243,242,244,245,246,247,248,249,23,250,251,252,253,254,255,24,256,257,258,259,261,260,262,263,264,265,266,267,25,268,269,270,271,272,273,26,274,275,276,277,278,279,27,280,281,282,283,284,286,285,287,288,289,290,291,292,28,293,294,295,296,297,298,299,300,301,302,303,304,305,306,307,308,309,311,310,312,313,314,315,316,317,318,319,320,321,322,323,324,325,326,327,328,329])<|q (D (.regd [(2,8)] (om 330 0<|of 331 3 0<|ol 332 331<|om 333 0<|of 334 3 4<|ol 335 334<|oo 336 (.ixa true 5 (t 335) (i 0))<|oL 337 5 336<|cl 338 122 [t 333,t 337]<|cl 339 133 [t 330,t 332,t 338]<|oS 6 4 339<|N)) [0,3,330,331,332,333,334,335,336,337,338,339])<|.ret
theorem UD : FT 54 340 JKh [.cell 4 (some 6)] := .o Tryz.func54
end Go.Proofs
