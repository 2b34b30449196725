/- Part A of a proof. -/
import Derived.KernelRfl
import Derived.CallsIn
import Derived.RangeFuncIn
import Derived.OrdersIn
import Derived.Below
import Derived.ChangeArms
import Derived.DataReads
import Derived.Test.YtiekiedlkehccaaGreatDoorRows
import Derived.Deep.AppendSrc
import Derived.Laws.CopyRow
import Derived.Laws.Rows
import Derived.Laws.StructEq
import Derived.Laws.Strings
import Derived.Laws.Tables
import Derived.Laws.Strings2
import Derived.Laws.AppendOwn
import Derived.Laws.MakeOwn
import Derived.Lib.ConvBytes
import Derived.Lib.OthersKept
import Derived.Laws.BytesString
import Derived.Laws.RangeString
import Derived.Laws.Runes
import Derived.RangeFuncRecord
set_option linter.unusedVariables false
set_option linter.unusedSimpArgs false
set_option linter.unusedSectionVars false
set_option maxRecDepth 10000
theorem oM {p : Prop} (h : p := by omega) : p := h
theorem sO {p : Prop} (h : p := by simp; omega) : p := h
theorem sP {p : Prop} (h : p := by simp) : p := h
theorem kR {p : Prop} (h : p := by kernel_rfl) : p := h
theorem sU {p : Prop} (h : p := by simp [upd]) : p := h
theorem dC {p : Prop} (h : p := by decide) : p := h
theorem sX {p q : Prop} (h : p) (e : p → q := by (intro h; simpa using h)) : q := e h
theorem dT {k n : Nat} (h : k < n) : decide ((k : Int) < (n : Int)) = true := by simp; omega
theorem dF {k n : Nat} (h : ¬ k < n) : decide ((k : Int) < (n : Int)) = false := by simp; omega
theorem nF {b : Bool} (h : b = false) : ¬ b = true := by rw [h]; exact Bool.false_ne_true
namespace Av
open Go
variable {w w' : World}
inductive Dat where
 | bool (b : Bool)
 | int (k : IntKind) (n : Int)
 | str (s : List UInt8)
 | nil (sz : Nat)
 | list (sz : Nat) (xs : List Dat)
 | agg (cs : List Dat)
 | fn (f : Fn) (first cap : List Dat)
 | ptr (cs : List Dat)
 | map (es : List (Dat × Dat))
 | nilFn | nilPtr | nilMap | nilIface
 | iface (t : Nat) (d : Dat)
 | opq
 | glo (g : Nat)
 deriving Inhabited
def Dat.cells : Dat → List Dat
 | .agg cs => cs
 | x => [x]
def flat (xs : List Dat) : List Dat := xs.flatMap Dat.cells
inductive Av where
 | d (x : Dat)
 | ref (i off : Nat)
 | ms (i ver : Nat)
 | sub (i ver off len : Nat)
 | el (i ver k off : Nat)
 | agg (cs : List Av)
 | tup (cs : List Av)
 | clo (f : Fn) (first cap : List Av)
 | mp (i : Nat)
 | any
 | und
 deriving Inhabited
structure Lp where
 tm : List (Nat × Av)
 N : Nat
 ps : Array Nat
 asg : Code
 body : Code
 s : LoopState
 j : Option Code
inductive Obj where
 | box (cs : List Av)
 | row (ver sz : Nat) (xs : List Dat)
 | mapo (es : List (Dat × Dat))
 | lp (l : Lp)
 | sit (s : List UInt8) (p : Nat)
 | fbox (ds : List Dat)
 | frz (ver sz : Nat) (xs : List Dat)
 | gone
 deriving Inhabited
def Obj.live : Obj → Bool
 | .box _ | .row .. | .mapo _ | .lp _ | .sit .. => true
 | _ => false
def get {α : Type} : List (Nat × α) → Nat → Option α
 | [], _ => none
 | (k, v) :: r, i => if k = i then some v else get r i
abbrev Heap := Nat → Option Obj
abbrev Tmps := Nat → Option Av
def Holds (w : World) (b o : Nat) (vs : List Value) : Prop := ∀ (i : Nat) v, vs[i]? = some v → w.cell? ⟨b, o + i, none⟩ = some v
inductive Rep (A : Nat → Prop) (w : World) : Dat → Value → Prop
 | bool (b) : Rep A w (.bool b) (.bool b)
 | int (k n) (h : k.min ≤ n ∧ n ≤ k.max) : Rep A w (.int k n) (.int k n)
 | str (s) (h : s.length ≤ 68719476736) : Rep A w (.str s) (.string ⟨s.toArray⟩)
 | nil (sz a) : Rep A w (.nil sz) (.slice a 0 0)
 | emp (sz a cap) : Rep A w (.list sz []) (.slice a 0 cap)
 | list (sz xs b o n cap vs) (hn : n = xs.length) (hA : A b) (hl : xs.length ≤ cap) (hc : xs.length ≤ 68719476736) (h1 : ∀ v ∈ vs, v.oneCell' = true) (hsz : ∀ x ∈ xs, x.cells.length = sz)
   (hh : Holds w b o vs) (hvl : (flat xs).length = vs.length) (hv : ∀ (i : Nat) c v, (flat xs)[i]? = some c → vs[i]? = some v → Rep A w c v) :
   Rep A w (.list sz xs) (.slice (some ⟨b, o, none⟩) n cap)
 | agg (cs arr) (hl : cs.length = arr.size) (h1 : ∀ v ∈ arr.toList, v.oneCell' = true) (hv : ∀ (i : Nat) c v, cs[i]? = some c → arr[i]? = some v → Rep A w c v) : Rep A w (.agg cs) (.agg arr)
 | fn (f fs cs a1 a2) (h1 : fs.length = a1.size) (h2 : cs.length = a2.size) (hf : ∀ (i : Nat) c v, fs[i]? = some c → a1[i]? = some v → Rep A w c v)
   (hv : ∀ (i : Nat) c v, cs[i]? = some c → a2[i]? = some v → Rep A w c v) : Rep A w (.fn f fs cs) (.func f a1 a2)
 | ptr (cs b o vs) (hA : A b) (h1 : ∀ v ∈ vs, v.oneCell' = true) (hh : Holds w b o vs) (hvl : cs.length = vs.length) (hv : ∀ (i : Nat) c v, cs[i]? = some c → vs[i]? = some v → Rep A w c v) :
   Rep A w (.ptr cs) (.pointer (some ⟨b, o, none⟩))
 | map (es r ents clk) (hA : A r) (hr : w.heap[r]? = some (.map ents clk)) (hl : es.length = ents.size)
   (hk : ∀ (i : Nat) (e : Dat × Dat) (m : MapEntry), es[i]? = some e → ents[i]? = some m → Rep A w e.1 m.key)
   (hv : ∀ (i : Nat) (e : Dat × Dat) (m : MapEntry), es[i]? = some e → ents[i]? = some m → Rep A w e.2 m.val) : Rep A w (.map es) (.map (some r))
 | nilFn : Rep A w .nilFn .nilFunc
 | nilPtr : Rep A w .nilPtr (.pointer none)
 | nilMap : Rep A w .nilMap (.map none)
 | nilIface : Rep A w .nilIface .nilIface
 | iface (t x v) (h : Rep A w x v) : Rep A w (.iface t x) (.iface t v)
 | opq (v) (h1 : v.oneCell' = true) : Rep A w .opq v
 | glo (g) : Rep A w (.glo g) (.pointer (some ⟨g, 0, none⟩))
def SameOn (A : Nat → Prop) (w w' : World) : Prop := ∀ b, A b → w'.heap[b]? = w.heap[b]?
theorem cell_of_heap {a : Addr} (h : w'.heap[a.block]? = w.heap[a.block]?) : w'.cell? a = w.cell? a := by
 simp only [World.cell?, h]
theorem Holds.same {b o : Nat} {vs : List Value} (h : Holds w b o vs) (hs : w'.heap[b]? = w.heap[b]?) : Holds w' b o vs :=
 fun i v hi => (cell_of_heap (a := ⟨b, o + i, none⟩) hs).trans (h i v hi)
theorem Rep.mono {A A' : Nat → Prop} {x : Dat} {v : Value} (h : Rep A w x v) (hs : SameOn A w w') (hA : ∀ b, A b → A' b) : Rep A' w' x v := by
 induction h with
 | bool b => exact .bool b
 | int k n h => exact .int k n h
 | str s h => exact .str s h
 | nil sz a => exact .nil sz a
 | emp sz a cap => exact .emp sz a cap
 | list sz xs b o n cap vs hn hAb hl hc h1 hsz hh hvl hv ih => exact .list sz xs b o n cap vs hn (hA _ hAb) hl hc h1 hsz (hh.same (hs _ hAb)) hvl ih
 | agg cs arr hl h1 hv ih => exact .agg cs arr hl h1 ih
 | fn f fs cs a1 a2 h1 h2 hf hv ihf ihv => exact .fn f fs cs a1 a2 h1 h2 ihf ihv
 | ptr cs b o vs hAb h1 hh hvl hv ih => exact .ptr cs b o vs (hA _ hAb) h1 (hh.same (hs _ hAb)) hvl ih
 | map es r ents clk hAb hr hl hk hv ihk ihv => exact .map es r ents clk (hA _ hAb) ((hs _ hAb).trans hr) hl ihk ihv
 | nilFn => exact .nilFn
 | nilPtr => exact .nilPtr
 | nilMap => exact .nilMap
 | nilIface => exact .nilIface
 | iface t x v h ih => exact .iface t x v ih
 | opq v h1 => exact .opq v h1
 | glo g => exact .glo g
abbrev Blocks := Nat → Option Nat
def RowVal (β : Blocks) (w : World) (i sz n : Nat) (u : Value) : Prop :=
 (β i = none ∧ n = 0 ∧ ∃ a, u = .slice a 0 0) ∨
 ∃ b C T fz cap, β i = some b ∧ w.heap[b]? = some (.cells C T fz) ∧ C.size = cap * sz ∧ n ≤ cap ∧ u = .slice (some ⟨b, 0, none⟩) n cap
def SubVal (β : Blocks) (w : World) (i sz off len : Nat) (u : Value) : Prop :=
 (β i = none ∧ off = 0 ∧ len = 0 ∧ ∃ a, u = .slice a 0 0) ∨
 ∃ b C T fz cap ad, β i = some b ∧ w.heap[b]? = some (.cells C T fz) ∧ C.size = cap * sz ∧ off + len ≤ cap ∧ (off < cap → ad = ⟨b, off * sz, none⟩) ∧
  u = .slice (some ad) len (cap - off)
inductive VRep (β : Blocks) (A : Nat → Prop) (w : World) (H : Heap) : Av → Value → Prop
 | d (x u) (h : Rep A w x u) : VRep β A w H (.d x) u
 | ref (i off b p u) (hu : u = .pointer (some ⟨b, p + off, none⟩)) (h0 : (H i).isSome) (h1 : ∀ cs, H i = some (.box cs) → β i = some b ∧ p = 0)
   (h2 : ∀ ds, H i = some (.fbox ds) → Rep A w (.ptr (ds.drop off)) u) : VRep β A w H (.ref i off) u
 | ms (i ver u) (hu : u.oneCell' = true) (h0 : (H i).isSome) (h1 : ∀ v' sz xs, H i = some (.row v' sz xs) → ver ≤ v' ∧ (v' = ver → RowVal β w i sz xs.length u))
   (h2 : ∀ sz xs, H i = some (.frz ver sz xs) → Rep A w (.list sz xs) u) : VRep β A w H (.ms i ver) u
 | sub (i ver off len u) (hu : u.oneCell' = true) (h0 : (H i).isSome) (h1 : ∀ v' sz xs, H i = some (.row v' sz xs) → ver ≤ v' ∧ (v' = ver → off + len ≤ xs.length ∧ SubVal β w i sz off len u))
   (h2 : ∀ sz xs, H i = some (.frz ver sz xs) → Rep A w (.list sz ((xs.drop off).take len)) u) : VRep β A w H (.sub i ver off len) u
 | el (i ver k off b p u) (hu : u = .pointer (some ⟨b, p + off, none⟩)) (h0 : (H i).isSome) (h1 : ∀ v' sz xs, H i = some (.row v' sz xs) → ver ≤ v' ∧ (v' = ver → k < xs.length ∧ β i = some b ∧ p = k * sz)) :
   VRep β A w H (.el i ver k off) u
 | agg (cs arr) (hl : cs.length = arr.size) (h1 : ∀ v ∈ arr.toList, v.oneCell' = true) (hv : ∀ (i : Nat) c v, cs[i]? = some c → arr[i]? = some v → VRep β A w H c v) : VRep β A w H (.agg cs) (.agg arr)
 | tup (cs arr) (hl : cs.length = arr.size) (hv : ∀ (i : Nat) c v, cs[i]? = some c → arr[i]? = some v → VRep β A w H c v) : VRep β A w H (.tup cs) (.tuple arr)
 | clo (f fs cs a1 a2) (h1 : fs.length = a1.size) (h2 : cs.length = a2.size) (hf : ∀ (i : Nat) c v, fs[i]? = some c → a1[i]? = some v → VRep β A w H c v)
   (hv : ∀ (i : Nat) c v, cs[i]? = some c → a2[i]? = some v → VRep β A w H c v) : VRep β A w H (.clo f fs cs) (.func f a1 a2)
 | mp (i u) (hu : u.oneCell' = true) (h0 : (H i).isSome) (h1 : ∀ es, H i = some (.mapo es) → ∃ b, β i = some b ∧ u = .map (some b))
   (h2 : ∀ l, H i = some (.lp l) → ∃ b, β i = some b ∧ u = .func (.yield b) #[] #[]) (h3 : ∀ s p, H i = some (.sit s p) → ∃ b, β i = some b ∧ u = .pointer (some ⟨b, 0, none⟩)) : VRep β A w H (.mp i) u
 | any (u) : VRep β A w H .any u
 | und : VRep β A w H .und undef
def ORep (β : Blocks) (A : Nat → Prop) (w : World) (H : Heap) (i : Nat) : Obj → Prop
 | .box cs => ∃ b C T, β i = some b ∧ w.heap[b]? = some (.cells C T (0, 0)) ∧ cs.length = C.size ∧ (∀ v ∈ C.toList, v.oneCell' = true) ∧ ∀ (j : Nat) c v, cs[j]? = some c → C[j]? = some v → VRep β A w H c v
 | .row _ sz xs => 0 < sz ∧ (∀ x ∈ xs, x.cells.length = sz) ∧ xs.length ≤ 68719476736 ∧
   ((β i = none ∧ xs = []) ∨ ∃ b C T cap, β i = some b ∧ w.heap[b]? = some (.cells C T (0, 0)) ∧ C.size = cap * sz ∧ xs.length ≤ cap ∧
    (∀ (j : Nat) v, j < (flat xs).length → C[j]? = some v → v.oneCell' = true) ∧ ∀ (j : Nat) c v, (flat xs)[j]? = some c → C[j]? = some v → Rep A w c v)
 | .mapo es => ∃ b ents clk, β i = some b ∧ w.heap[b]? = some (.map ents clk) ∧ es.length = ents.size ∧
   (∀ (j : Nat) (e : Dat × Dat) (m : MapEntry), es[j]? = some e → ents[j]? = some m → Rep A w e.1 m.key ∧ Rep A w e.2 m.val)
 | .lp l => ∃ b r, β i = some b ∧ w.heap[b]? = some (.loop r) ∧ r.state = l.s ∧ r.pending = l.j ∧ r.params = l.ps ∧ r.assign = l.asg ∧ r.body = l.body ∧ r.tmps.size = l.N ∧
   ∀ t v, get l.tm t = some v → ∃ u, r.tmps[t]? = some u ∧ VRep β A w H v u
 | .sit s p => ∃ b, β i = some b ∧ w.heap[b]? = some (.stringIter ⟨s.toArray⟩ p) ∧ s.length ≤ 68719476736
 | .fbox _ => True
 | .frz .. => True
 | .gone => True
class Glb where
 l : List (Nat × List Dat)
variable [Glb]
def globOf (g : Nat) : Option (List Dat) := get Glb.l g
def GRep (A : Nat → Prop) (w : World) (g : Nat) (cs : List Dat) : Prop :=
 A g ∧ ∃ C T fr, w.heap[g]? = some (.cells C T fr) ∧ cs.length = C.size ∧ (∀ v ∈ C.toList, v.oneCell' = true) ∧ ∀ (j : Nat) c v, cs[j]? = some c → C[j]? = some v → Rep A w c v
omit [Glb] in
theorem GRep.mono {A A' : Nat → Prop} {w w' : World} {g : Nat} {cs : List Dat} (h : GRep A w g cs) (hs : SameOn A w w') (hA : ∀ b, A b → A' b) : GRep A' w' g cs := by
 obtain ⟨h0, C, T, fr, h1, h2, h3, h4⟩ := h;exact ⟨hA _ h0, C, T, fr, (hs _ h0).trans h1, h2, h3, fun j c v hc hv => (h4 j c v hc hv).mono hs hA⟩
omit [Glb] in
theorem GRep.rep {A : Nat → Prop} {w : World} {g : Nat} {cs : List Dat} (h : GRep A w g cs) : Rep A w (.ptr cs) (.pointer (some ⟨g, 0, none⟩)) := by
 obtain ⟨h0, C, T, fr, h1, h2, h3, h4⟩ := h;refine .ptr cs g 0 C.toList h0 h3 ?_ (sX h2) fun j c v hc hv => h4 j c v hc (sX hv)
 intro i v hi;have : C[i]? = some v := sX hi;simp [World.cell?, h1, this]
structure Core (β : Blocks) (A : Nat → Prop) (w : World) (H : Heap) : Prop where
 objs : ∀ i o, H i = some o → ORep β A w H i o
 inj : ∀ i j o o' b, H i = some o → o.live → H j = some o' → o'.live → β i = some b → β j = some b → i = j
 sep : ∀ i o b, H i = some o → o.live → β i = some b → ¬ A b
 old : ∀ b, A b → b < w.heap.size
 glob : ∀ g cs, globOf g = some cs → GRep A w g cs
structure Stp (β : Blocks) (A : Nat → Prop) (w : World) (H : Heap) (β' : Blocks) (A' : Nat → Prop) (w' : World) (H' : Heap) : Prop where
 core : Core β' A' w' H'
 vals : ∀ c u, VRep β A w H c u → VRep β' A' w' H' c u
 os : w'.os = w.os
 tape : w'.tape = w.tape
 output : w'.output = w.output
 size : w.heap.size ≤ w'.heap.size
 same : ∀ b, b < w.heap.size → (∀ i o, H i = some o → o.live → β i ≠ some b) → w'.heap[b]? = w.heap[b]?
 loops : ∀ (b : Nat) r, w.heap[b]? = some (.loop r) → ∃ r', w'.heap[b]? = some (.loop r')
 data : ∀ b, A' b → A b ∨ w.heap.size ≤ b ∨ ∃ i o, H i = some o ∧ o.live ∧ β i = some b
 mine : ∀ i o b, H' i = some o → o.live → β' i = some b → w.heap.size ≤ b ∨ ∃ i' o', H i' = some o' ∧ o'.live ∧ β i' = some b
theorem VRep.of_base {β : Blocks} {A : Nat → Prop} {H : Heap} {β' : Blocks} {A' : Nat → Prop} {H' : Heap}
  (hd : ∀ x u, Rep A w x u → Rep A' w' x u)
  (hr : ∀ i off u, VRep β A w H (.ref i off) u → VRep β' A' w' H' (.ref i off) u)
  (hm : ∀ i ver u, VRep β A w H (.ms i ver) u → VRep β' A' w' H' (.ms i ver) u)
  (hs : ∀ i ver off len u, VRep β A w H (.sub i ver off len) u → VRep β' A' w' H' (.sub i ver off len) u)
  (he : ∀ i ver k off u, VRep β A w H (.el i ver k off) u → VRep β' A' w' H' (.el i ver k off) u)
  (hp : ∀ i u, VRep β A w H (.mp i) u → VRep β' A' w' H' (.mp i) u) :
  ∀ c u, VRep β A w H c u → VRep β' A' w' H' c u := by
 intro c u h
 induction h with
 | d x u h => exact .d x u (hd _ _ h)
 | ref i off b p u hu h0 h1 h2 => exact hr _ _ _ (.ref i off b p u hu h0 h1 h2)
 | ms i ver u hu h0 h1 h2 => exact hm _ _ _ (.ms i ver u hu h0 h1 h2)
 | sub i ver off len u hu h0 h1 h2 => exact hs _ _ _ _ _ (.sub i ver off len u hu h0 h1 h2)
 | el i ver k off b p u hu h0 h1 => exact he _ _ _ _ _ (.el i ver k off b p u hu h0 h1)
 | agg cs arr hl h1 hv ih => exact .agg cs arr hl h1 ih
 | tup cs arr hl hv ih => exact .tup cs arr hl ih
 | clo f fs cs a1 a2 h1 h2 hf hv ihf ihv => exact .clo f fs cs a1 a2 h1 h2 ihf ihv
 | mp i u hu h0 h1 h2 h3 => exact hp _ _ (.mp i u hu h0 h1 h2 h3)
 | any u => exact .any u
 | und => exact .und
end Av
namespace Av
open Go
open Go.Proofs.YtiekiedlkehccaaGreatDoor.Rows (uptoBulk uptoBulkAll)
variable {A : Nat → Prop} {fuel sz : Nat} {cs : List Value}
def CR (A : Nat → Prop) (w : World) (ds : List Dat) (cs : List Value) : Prop :=
 ds.length = cs.length ∧ (∀ v ∈ cs, v.oneCell' = true) ∧ ∀ (i : Nat) c v, ds[i]? = some c → cs[i]? = some v → Rep A w c v
theorem CR.nil {w : World} : CR A w [] [] := ⟨rfl, sP, sP⟩
theorem CR.one {w : World} {d : Dat} {v : Value} (h1 : v.oneCell' = true) (h : Rep A w d v) : CR A w [d] [v] := by
 refine ⟨rfl, by simpa using h1, ?_⟩;intro i c u hc hu;cases i with
 | zero => simp at hc hu; subst hc; subst hu; exact h
 | succ i => simp at hc
theorem CR.append {w : World} {d1 d2 : List Dat} {c1 c2 : List Value} (h1 : CR A w d1 c1) (h2 : CR A w d2 c2) : CR A w (d1 ++ d2) (c1 ++ c2) := by
 obtain ⟨a1, a2, a3⟩ := h1;obtain ⟨b1, b2, b3⟩ := h2;refine ⟨by simp [a1, b1], ?_, ?_⟩
 ·intro v hv;rcases List.mem_append.1 hv with h | h
  ·exact a2 v h
  ·exact b2 v h
 ·intro i c v hc hv;by_cases hi : i < d1.length
  ·rw [List.getElem?_append_left hi] at hc;rw [List.getElem?_append_left oM] at hv;exact a3 i c v hc hv
  ·rw [List.getElem?_append_right oM] at hc;rw [List.getElem?_append_right oM, ← a1] at hv;exact b3 _ c v hc hv
theorem bulk_one {H : Type} (d : DataW H) : 1 ≤ uptoBulk d := by
 cases d with
 | lit l => cases l <;> simp [uptoBulk]
 | _ => simp [uptoBulk]
theorem bulk_part {H : Type} {d : DataW H} {l : List (DataW H)} (h : d ∈ l) : uptoBulk d ≤ uptoBulkAll l := by
 induction l with
 | nil => cases h
 | cons x r ih =>
  simp only [uptoBulkAll];cases List.mem_cons.1 h with
  | inl e => subst e; omega
  | inr e => have := ih e; omega
theorem bulk_length {H : Type} (l : List (DataW H)) : l.length ≤ uptoBulkAll l := by
 induction l with
 | nil => simp [uptoBulkAll]
 | cons x r ih => have := bulk_one x; simp only [uptoBulkAll, List.length_cons]; omega
section
variable {H : Type} {enc : TypeId × Value → H} {P : Program} {w : World} {base : Nat} {spare : Nat → Bool} {held : Bool}
def old (w : World) (b : Nat) : Prop := b < w.heap.size
theorem cr_int {t : TypeId} {k : IntKind} {x : DataW H × List MemPlace} (ht : P.underlying t = some (.int k)) (h : DataW.trod enc P w base spare held fuel t cs = some x) :
  ∃ n, CR (old w) w [.int k n] cs := by
 obtain ⟨n, rfl, _, hw⟩ := DataW.trod_int ht h;refine ⟨n, .one rfl (.int k n ?_)⟩;simpa [Lit.wf, Bool.and_eq_true] using hw
theorem cr_str {t : TypeId} {x : DataW H × List MemPlace} (ht : P.underlying t = some .string) (h : DataW.trod enc P w base spare held fuel t cs = some x) (hb : uptoBulk x.1 ≤ 1048576) :
  ∃ s : List UInt8, s.length ≤ 1048576 ∧ CR (old w) w [.str s] cs := by
 obtain ⟨s, rfl, rfl, _⟩ := DataW.trod_string ht h;simp only [uptoBulk] at hb;have e : (Value.string s) = .string ⟨s.data.toList.toArray⟩ := sP;refine ⟨s.data.toList, oM, ?_⟩;rw [e];exact .one rfl (.str _ oM)
theorem cell_spot {a : Addr} {v : Value} (h : w.cell? a = some v) : a.spot = none ∧ a.block < w.heap.size := by
 unfold World.cell? at h;split at h
 ·rename_i hh;split at h
  ·cases h
  ·rename_i hs;refine ⟨by cases e : a.spot <;> simp_all, ?_⟩;exact (Array.getElem?_eq_some_iff.1 hh).1
 ·cases h
theorem add_none {a : Addr} (h : a.spot = none) (n : Nat) : a.add n = ⟨a.block, a.off + n, none⟩ := by
 unfold Addr.add;split
 ·rename_i e; subst e; cases a; simp_all
 ·rfl
theorem cr_rows {α : Type} {encA : α → Dat} (hsz : 0 < sz) (a : Addr) : ∀ (len : Nat) (E : Nat → List Value) (X : Nat → α),
  (∀ i, i < len → w.cells? base (a.add (i * sz)) sz = some (E i) ∧ CR (old w) w (encA (X i)).cells (E i)) →
  ∃ vs : List Value, (0 < len → a.spot = none ∧ a.block < w.heap.size) ∧ vs.length = len * sz ∧ (∀ (i : Nat) v, vs[i]? = some v → w.cell? (a.add i) = some v) ∧ CR (old w) w (flat ((List.range len).map fun i => encA (X i))) vs
 | 0, _, _, _ => ⟨[], sP, sP, sP, by simpa [flat] using CR.nil⟩
 | n + 1, E, X, h => by
  obtain ⟨vs, h1, h2, h3, h4⟩ := cr_rows (encA := encA) hsz a n E X fun i hi => h i oM
  obtain ⟨g1, g2⟩ := h n oM;obtain ⟨_, hlen, hcell⟩ := World.cells?_some g1;have hspot : a.spot = none ∧ a.block < w.heap.size := by
   by_cases h0 : 0 < n
   ·exact h1 h0
   ·obtain rfl : n = 0 := oM;have := hcell 0 hsz;rw [Nat.zero_mul] at this;have e1 : (a.add 0).add 0 = a := by simp [Addr.add]
    rw [e1] at this;cases e : (E 0)[0]? with
    | none => rw [List.getElem?_eq_none_iff] at e; omega
    | some v => rw [e] at this; exact cell_spot this
  refine ⟨vs ++ E n, fun _ => hspot, by rw [List.length_append, h2, hlen, Nat.succ_mul], ?_, ?_⟩
  ·intro i v hv;by_cases hi : i < vs.length
   ·rw [List.getElem?_append_left hi] at hv;exact h3 i v hv
   ·rw [List.getElem?_append_right oM] at hv;have hlt : i - vs.length < sz := by
     have := (List.getElem?_eq_some_iff.1 hv).1;omega
    have := hcell _ hlt;rw [hv] at this;rw [← this];congr 1;rw [add_none hspot.1, add_none hspot.1, add_none rfl];have hoff : a.off + i = a.off + n * sz + (i - vs.length) := oM;show (⟨a.block, a.off + i, none⟩ : Addr) = ⟨a.block, a.off + n * sz + (i - vs.length), none⟩;rw [hoff]
  ·rw [List.range_succ, List.map_append];have e : flat (List.map (fun i => encA (X i)) (List.range n) ++ List.map (fun i => encA (X i)) [n]) = flat (List.map (fun i => encA (X i)) (List.range n)) ++ (encA (X n)).cells := by
    simp [flat]
   rw [e];exact h4.append g2
theorem cr_slice {α : Type} {encA : α → Dat} {ok : α → Prop} {t e : TypeId} {x : DataW H × List MemPlace} (ht : P.underlying t = some (.slice e)) (hc : P.cellsOf e = sz) (hsz : 0 < sz) (henc : ∀ a, (encA a).cells.length = sz)
  (h : DataW.trod enc P w base spare held fuel t cs = some x) (hb : uptoBulk x.1 ≤ 1048576)
  (hel : ∀ n cs' y, n < fuel → DataW.trod enc P w base spare held n e cs' = some y → uptoBulk y.1 ≤ 1048576 → ∃ a : α, ok a ∧ CR (old w) w (encA a).cells cs') :
  ∃ xs : List α, xs.length ≤ 1048576 ∧ (∀ a ∈ xs, ok a) ∧ CR (old w) w [.list sz (xs.map encA)] cs := by
 rcases DataW.trod_slice ht h with ⟨rfl, _⟩ | ⟨a, len, cap, elems, rest, n, rfl, rfl, rfl, hbase, hl, hm, hlen, hget, _, _⟩
 ·exact ⟨[], sP, sP, .one rfl (.emp sz none 0)⟩
 ·rw [hc] at hget;simp only [uptoBulk] at hb;have hlen' : len ≤ 1048576 := by
   have := bulk_length (elems.map (·.1));rw [List.length_map, hlen] at this;omega
  have hex : ∀ i, i < len → ∃ p : List Value × α, w.cells? base (a.add (i * sz)) sz = some p.1 ∧ ok p.2 ∧ CR (old w) w (encA p.2).cells p.1 := by
   intro i hi;have hg := hget i hi;rw [List.getElem?_eq_getElem oM] at hg;obtain ⟨cs', g1, g2⟩ := Option.bind_eq_some_iff.1 hg;have hbi : uptoBulk (elems[i]'oM).1 ≤ 1048576 := by
    have := bulk_part (List.mem_map.2 ⟨elems[i]'oM, List.getElem_mem _, rfl⟩ : (elems[i]'oM).1 ∈ elems.map (·.1));omega
   obtain ⟨y, h1, h2⟩ := hel n cs' _ oM g2 hbi;exact ⟨(cs', y), g1, h1, h2⟩
  obtain ⟨p0, hp0⟩ : ∃ p : Nat → Option (List Value × α), ∀ i, i < len → ∃ q, p i = some q ∧ w.cells? base (a.add (i * sz)) sz = some q.1 ∧ ok q.2 ∧ CR (old w) w (encA q.2).cells q.1 := by
   classical
   refine ⟨fun i => if hi : i < len then some (Classical.choose (hex i hi)) else none, fun i hi => ?_⟩;exact ⟨Classical.choose (hex i hi), by simp [hi], Classical.choose_spec (hex i hi)⟩
  by_cases h0 : len = 0
  ·subst h0;exact ⟨[], sP, sP, .one rfl (.emp sz (some a) cap)⟩
  ·obtain ⟨q0, hq0, _⟩ := hp0 0 oM;have hq : ∀ i, i < len → w.cells? base (a.add (i * sz)) sz = some ((p0 i).getD q0).1 ∧ ok ((p0 i).getD q0).2 ∧ CR (old w) w (encA ((p0 i).getD q0).2).cells ((p0 i).getD q0).1 := by
    intro i hi;obtain ⟨q, e, hq⟩ := hp0 i hi;rw [e];exact hq
   obtain ⟨vs, g1, g2, g3, g4⟩ := cr_rows (encA := encA) hsz a len (fun i => ((p0 i).getD q0).1) (fun i => ((p0 i).getD q0).2) fun i hi => ⟨(hq i hi).1, (hq i hi).2.2⟩
   obtain ⟨hs, hblk⟩ := g1 oM;refine ⟨(List.range len).map fun i => ((p0 i).getD q0).2, by simpa using hlen', ?_, ?_⟩
   ·intro y hy;obtain ⟨i, hi, rfl⟩ := List.mem_map.1 hy;exact (hq i (List.mem_range.1 hi)).2.1
   ·rw [List.map_map];have ea : a = ⟨a.block, a.off, none⟩ := by cases a; simp_all
    rw [ea];refine .one rfl (.list sz _ a.block a.off len cap vs sP hblk (sX hl) sO g4.2.1 ?_ ?_ g4.1 g4.2.2)
    ·intro d hd;obtain ⟨i, _, rfl⟩ := List.mem_map.1 hd;exact henc _
    ·intro i v hv;have := g3 i v hv;rwa [add_none hs] at this
theorem bulk_sum {H : Type} : ∀ l : List (DataW H × List MemPlace), ((List.range l.length).map fun i => ((l[i]?).map fun e => uptoBulk e.1).getD 0).sum = uptoBulkAll (l.map (·.1))
 | [] => rfl
 | x :: r => by
  have ih := bulk_sum r;rw [List.length_cons, List.range_succ_eq_map, List.map_cons, List.sum_cons, List.map_map];simp only [List.map_cons, uptoBulkAll, ← ih];rfl
theorem sum_le : ∀ (l : List Nat) (f g : Nat → Nat), (∀ i ∈ l, f i ≤ g i) → (l.map f).sum ≤ (l.map g).sum
 | [], _, _, _ => Nat.le_refl _
 | x :: r, f, g, h => by
  have h1 := h x List.mem_cons_self;have h2 := sum_le r f g fun i hi => h i (List.mem_cons_of_mem _ hi)
  simp only [List.map_cons, List.sum_cons];omega
theorem cr_sliceM {α : Type} {encA : α → Dat} {ok : α → Prop} {m : α → Nat} {t e : TypeId} {x : DataW H × List MemPlace} (ht : P.underlying t = some (.slice e)) (hc : P.cellsOf e = sz) (hsz : 0 < sz) (henc : ∀ a, (encA a).cells.length = sz)
  (h : DataW.trod enc P w base spare held fuel t cs = some x) (hb : uptoBulk x.1 ≤ 1048576)
  (hel : ∀ n cs' y, n < fuel → DataW.trod enc P w base spare held n e cs' = some y → uptoBulk y.1 ≤ 1048576 → ∃ a : α, (ok a ∧ m a ≤ uptoBulk y.1) ∧ CR (old w) w (encA a).cells cs') :
  ∃ xs : List α, xs.length ≤ 1048576 ∧ (∀ a ∈ xs, ok a) ∧ (xs.map m).sum + 1 ≤ uptoBulk x.1 ∧ CR (old w) w [.list sz (xs.map encA)] cs := by
 rcases DataW.trod_slice ht h with ⟨rfl, _⟩ | ⟨a, len, cap, elems, rest, n, rfl, rfl, rfl, hbase, hl, hm, hlen, hget, _, _⟩
 ·exact ⟨[], sP, sP, by simpa using bulk_one _, .one rfl (.emp sz none 0)⟩
 ·rw [hc] at hget;simp only [uptoBulk] at hb;have hlen' : len ≤ 1048576 := by
   have := bulk_length (elems.map (·.1));rw [List.length_map, hlen] at this;omega
  have hex : ∀ i, i < len → ∃ p : List Value × α, w.cells? base (a.add (i * sz)) sz = some p.1 ∧ (ok p.2 ∧ m p.2 ≤ ((elems[i]?).map fun e => uptoBulk e.1).getD 0) ∧ CR (old w) w (encA p.2).cells p.1 := by
   intro i hi;have hg := hget i hi;rw [List.getElem?_eq_getElem oM] at hg;obtain ⟨cs', g1, g2⟩ := Option.bind_eq_some_iff.1 hg;have hbi : uptoBulk (elems[i]'oM).1 ≤ 1048576 := by
    have := bulk_part (List.mem_map.2 ⟨elems[i]'oM, List.getElem_mem _, rfl⟩ : (elems[i]'oM).1 ∈ elems.map (·.1));omega
   obtain ⟨y, h1, h2⟩ := hel n cs' _ oM g2 hbi;exact ⟨(cs', y), g1, ⟨h1.1, by rw [List.getElem?_eq_getElem oM]; exact h1.2⟩, h2⟩
  obtain ⟨p0, hp0⟩ : ∃ p : Nat → Option (List Value × α), ∀ i, i < len → ∃ q, p i = some q ∧ w.cells? base (a.add (i * sz)) sz = some q.1 ∧ (ok q.2 ∧ m q.2 ≤ ((elems[i]?).map fun e => uptoBulk e.1).getD 0) ∧ CR (old w) w (encA q.2).cells q.1 := by
   classical
   refine ⟨fun i => if hi : i < len then some (Classical.choose (hex i hi)) else none, fun i hi => ?_⟩;exact ⟨Classical.choose (hex i hi), by simp [hi], Classical.choose_spec (hex i hi)⟩
  by_cases h0 : len = 0
  ·subst h0;exact ⟨[], sP, sP, by simpa using bulk_one _, .one rfl (.emp sz (some a) cap)⟩
  ·obtain ⟨q0, hq0, _⟩ := hp0 0 oM;have hq : ∀ i, i < len → w.cells? base (a.add (i * sz)) sz = some ((p0 i).getD q0).1 ∧ (ok ((p0 i).getD q0).2 ∧ m ((p0 i).getD q0).2 ≤ ((elems[i]?).map fun e => uptoBulk e.1).getD 0) ∧ CR (old w) w (encA ((p0 i).getD q0).2).cells ((p0 i).getD q0).1 := by
    intro i hi;obtain ⟨q, e, hq⟩ := hp0 i hi;rw [e];exact hq
   obtain ⟨vs, g1, g2, g3, g4⟩ := cr_rows (encA := encA) hsz a len (fun i => ((p0 i).getD q0).1) (fun i => ((p0 i).getD q0).2) fun i hi => ⟨(hq i hi).1, (hq i hi).2.2⟩
   obtain ⟨hs, hblk⟩ := g1 oM;refine ⟨(List.range len).map fun i => ((p0 i).getD q0).2, by simpa using hlen', ?_, ?_, ?_⟩
   ·intro y hy;obtain ⟨i, hi, rfl⟩ := List.mem_map.1 hy;exact (hq i (List.mem_range.1 hi)).2.1.1
   ·rw [List.map_map];have h1 := sum_le (List.range len) (m ∘ fun i => ((p0 i).getD q0).2) (fun i => ((elems[i]?).map fun e : DataW H × List MemPlace => uptoBulk e.1).getD 0) fun i hi => (hq i (List.mem_range.1 hi)).2.1.2
    have h2 := bulk_sum elems;rw [hlen] at h2;simp only [uptoBulk];omega
   ·rw [List.map_map];have ea : a = ⟨a.block, a.off, none⟩ := by cases a; simp_all
    rw [ea];refine .one rfl (.list sz _ a.block a.off len cap vs sP hblk (sX hl) sO g4.2.1 ?_ ?_ g4.1 g4.2.2)
    ·intro d hd;obtain ⟨i, _, rfl⟩ := List.mem_map.1 hd;exact henc _
    ·intro i v hv;have := g3 i v hv;rwa [add_none hs] at this
end
end Av
namespace Av
open Go
variable [Glb]
variable {i : Nat}
def upd {α : Type} (f : Nat → α) (i : Nat) (x : α) : Nat → α := fun j => if j = i then x else f j
theorem upd_same {α : Type} (f : Nat → α) (i : Nat) (x : α) : upd f i x i = x := by simp [upd]
theorem upd_ne {α : Type} (f : Nat → α) {j : Nat} (x : α) (h : j ≠ i) : upd f i x j = f j := by simp [upd, h]
section
variable {β : Blocks} {A : Nat → Prop} {w : World} {H : Heap} {β' : Blocks} {A' : Nat → Prop} {w' : World} {H' : Heap} {β'' : Blocks} {A'' : Nat → Prop} {w'' : World} {H'' : Heap}
theorem Core.lt (hc : Core β A w H) {o : Obj} (h : H i = some o) (hl : o.live = true) {b : Nat} (hb : β i = some b) : b < w.heap.size := by
 have h1 := hc.objs i o h;cases o with
 | box cs => obtain ⟨b', C, T, e1, e2, _⟩ := h1; rw [e1] at hb; cases hb; exact (Array.getElem?_eq_some_iff.1 e2).1
 | row ver sz xs =>
  obtain ⟨_, _, _, ⟨e1, _⟩ | ⟨b', C, T, cap, e1, e2, _⟩⟩ := h1
  ·rw [e1] at hb; cases hb
  ·rw [e1] at hb; cases hb; exact (Array.getElem?_eq_some_iff.1 e2).1
 | mapo es => obtain ⟨b', C, T, e1, e2, _⟩ := h1; rw [e1] at hb; cases hb; exact (Array.getElem?_eq_some_iff.1 e2).1
 | lp l => obtain ⟨b', r, e1, e2, _⟩ := h1; rw [e1] at hb; cases hb; exact (Array.getElem?_eq_some_iff.1 e2).1
 | sit s p => obtain ⟨b', e1, e2, _⟩ := h1; rw [e1] at hb; cases hb; exact (Array.getElem?_eq_some_iff.1 e2).1
 | fbox ds => cases hl
 | frz ver sz xs => cases hl
 | gone => cases hl
theorem Stp.refl (hc : Core β A w H) : Stp β A w H β A w H where
 core := hc
 vals _ _ h := h
 os := rfl
 tape := rfl
 output := rfl
 size := Nat.le_refl _
 same _ _ _ := rfl
 loops _ r h := ⟨r, h⟩
 data _ h := .inl h
 mine i o _ h hl hb := .inr ⟨i, o, h, hl, hb⟩
theorem Stp.trans (h1 : Stp β A w H β' A' w' H') (h2 : Stp β' A' w' H' β'' A'' w'' H'') : Stp β A w H β'' A'' w'' H'' where
 core := h2.core
 vals c u h := h2.vals c u (h1.vals c u h)
 os := h2.os.trans h1.os
 tape := h2.tape.trans h1.tape
 output := h2.output.trans h1.output
 size := Nat.le_trans h1.size h2.size
 same b hb hn := by
  rw [h2.same b (Nat.lt_of_lt_of_le hb h1.size) ?_, h1.same b hb hn];intro i o hi ho hbi;rcases h1.mine i o b hi ho hbi with h | ⟨i', o', hi', ho', hb'⟩
  ·omega
  ·exact hn i' o' hi' ho' hb'
 loops b r h := by
  obtain ⟨r', h'⟩ := h1.loops b r h;exact h2.loops b r' h'
 data b hb := by
  rcases h2.data b hb with h | h | ⟨i, o, hi, ho, hbi⟩
  ·exact h1.data b h
  ·exact .inr (.inl (Nat.le_trans h1.size h))
  ·rcases h1.mine i o b hi ho hbi with h | h
   ·exact .inr (.inl h)
   ·exact .inr (.inr h)
 mine i o b hi ho hbi := by
  rcases h2.mine i o b hi ho hbi with h | ⟨i', o', hi', ho', hb'⟩
  ·exact .inl (Nat.le_trans h1.size h)
  ·exact h1.mine i' o' b hi' ho' hb'
theorem ORep.mono (hv : ∀ c u, VRep β A w H c u → VRep β' A' w' H' c u) (hs : SameOn A w w') (hA : ∀ b, A b → A' b) {o : Obj} (hβ : β' i = β i)
  (hb : ∀ b, β i = some b → o.live = true → w'.heap[b]? = w.heap[b]?) (h : ORep β A w H i o) : ORep β' A' w' H' i o := by
 cases o with
 | box cs =>
  obtain ⟨b, C, T, e1, e2, e3, e4, e5⟩ := h;exact ⟨b, C, T, by rw [hβ, e1], by rw [hb b e1 rfl, e2], e3, e4, fun j c v h1 h2 => hv _ _ (e5 j c v h1 h2)⟩
 | row ver sz xs =>
  obtain ⟨g1, g2, g3, ⟨e1, e2⟩ | ⟨b, C, T, cap, e1, e2, e3, e4, e5, e6⟩⟩ := h
  ·exact ⟨g1, g2, g3, .inl ⟨by rw [hβ, e1], e2⟩⟩
  ·exact ⟨g1, g2, g3, .inr ⟨b, C, T, cap, by rw [hβ, e1], by rw [hb b e1 rfl, e2], e3, e4, e5, fun j c v h1 h2 => (e6 j c v h1 h2).mono hs hA⟩⟩
 | mapo es =>
  obtain ⟨b, ents, clk, e1, e2, e3, e4⟩ := h;exact ⟨b, ents, clk, by rw [hβ, e1], by rw [hb b e1 rfl, e2], e3, fun j e m h1 h2 => ⟨(e4 j e m h1 h2).1.mono hs hA, (e4 j e m h1 h2).2.mono hs hA⟩⟩
 | lp l =>
  obtain ⟨b, r, e1, e2, e3, e4, e6, e7, e8, e9, e10⟩ := h;refine ⟨b, r, by rw [hβ, e1], by rw [hb b e1 rfl, e2], e3, e4, e6, e7, e8, e9, fun t v ht => ?_⟩;obtain ⟨u, q1, q2⟩ := e10 t v ht;exact ⟨u, q1, hv _ _ q2⟩
 | sit s p =>
  obtain ⟨b, e1, e2, e3⟩ := h;exact ⟨b, by rw [hβ, e1], by rw [hb b e1 rfl, e2], e3⟩
 | fbox ds => trivial
 | frz ver sz xs => trivial
 | gone => trivial
theorem Stp.one (hc : Core β A w H) (i₀ : Nat) (o' : Obj) (nb : Option Nat) (hos : w'.os = w.os) (htape : w'.tape = w.tape) (hout : w'.output = w.output)
  (hsize : w.heap.size ≤ w'.heap.size)
  (hsame : ∀ b, b < w.heap.size → (∀ o, H i₀ = some o → o.live = true → β i₀ ≠ some b) → w'.heap[b]? = w.heap[b]?)
  (hA : ∀ b, A b → A' b) (hA' : ∀ b, A' b → A b ∨ w.heap.size ≤ b ∨ ∃ o, H i₀ = some o ∧ o.live = true ∧ β i₀ = some b) (hold : ∀ b, A' b → b < w'.heap.size)
  (hnb : ∀ b, nb = some b → o'.live = true → (w.heap.size ≤ b ∨ ∃ o, H i₀ = some o ∧ o.live = true ∧ β i₀ = some b) ∧ ¬ A' b)
  (hvals : ∀ c u, (∃ off, c = .ref i₀ off) ∨ (∃ ver, c = .ms i₀ ver) ∨ (∃ ver off len, c = .sub i₀ ver off len) ∨ (∃ ver k off, c = .el i₀ ver k off) ∨ c = .mp i₀ →
   VRep β A w H c u → VRep (upd β i₀ nb) A' w' (upd H i₀ (some o')) c u)
  (hobj : (∀ c u, VRep β A w H c u → VRep (upd β i₀ nb) A' w' (upd H i₀ (some o')) c u) → ORep (upd β i₀ nb) A' w' (upd H i₀ (some o')) i₀ o')
  (hlp : ∀ l, H i₀ = some (.lp l) → ∀ b, β i₀ = some b → ∃ r', w'.heap[b]? = some (.loop r') := by intro l hl; simp_all) :
  Stp β A w H (upd β i₀ nb) A' w' (upd H i₀ (some o')) := by
 have hsA : SameOn A w w' := fun b hb => hsame b (hc.old b hb) fun o h1 h2 h3 => hc.sep i₀ o b h1 h2 h3 hb
 have hoth : ∀ j o b, j ≠ i₀ → H j = some o → o.live = true → β j = some b → w'.heap[b]? = w.heap[b]? := fun j o b hj h1 h2 h3 =>
  hsame b (hc.lt h1 h2 h3) fun o2 g1 g2 g3 => hj (hc.inj j i₀ o o2 b h1 h2 g1 g2 h3 g3)
 have hd : ∀ x u, Rep A w x u → Rep A' w' x u := fun x u h => h.mono hsA hA
 have hall : ∀ c u, VRep β A w H c u → VRep (upd β i₀ nb) A' w' (upd H i₀ (some o')) c u := by
  refine VRep.of_base hd ?_ ?_ ?_ ?_ ?_
  ·intro i off u h;by_cases hi : i = i₀
   ·subst hi; exact hvals _ _ (.inl ⟨off, rfl⟩) h
   ·cases h with
    | ref _ _ b p _ hu h0 h1 h2 => exact .ref _ _ b p _ hu (by rwa [upd_ne _ _ hi]) (by rw [upd_ne _ _ hi, upd_ne _ _ hi]; exact h1) (by rw [upd_ne _ _ hi]; exact fun ds hds => hd _ _ (h2 ds hds))
  ·intro i ver u h;by_cases hi : i = i₀
   ·subst hi; exact hvals _ _ (.inr (.inl ⟨ver, rfl⟩)) h
   ·cases h with
    | ms _ _ _ hu h0 h1 h2 =>
     refine .ms _ _ _ hu (by rwa [upd_ne _ _ hi]) ?_ (by rw [upd_ne _ _ hi]; exact fun sz xs hds => hd _ _ (h2 sz xs hds));rw [upd_ne _ _ hi];intro v' sz xs hr;obtain ⟨hle, hx⟩ := h1 v' sz xs hr;refine ⟨hle, fun hve => ?_⟩;rcases hx hve with ⟨e1, e2⟩ | ⟨b, C, T, fz, cap, e1, e2, e3⟩
     ·exact .inl ⟨by rw [upd_ne _ _ hi]; exact e1, e2⟩
     ·exact .inr ⟨b, C, T, fz, cap, by rw [upd_ne _ _ hi]; exact e1, by rw [hoth i _ b hi hr rfl e1]; exact e2, e3⟩
  ·intro i ver off len u h;by_cases hi : i = i₀
   ·subst hi; exact hvals _ _ (.inr (.inr (.inl ⟨ver, off, len, rfl⟩))) h
   ·cases h with
    | sub _ _ _ _ _ hu h0 h1 h2 =>
     refine .sub _ _ _ _ _ hu (by rwa [upd_ne _ _ hi]) ?_ (by rw [upd_ne _ _ hi]; exact fun sz xs hds => hd _ _ (h2 sz xs hds));rw [upd_ne _ _ hi];intro v' sz xs hr;obtain ⟨hle, hx⟩ := h1 v' sz xs hr;refine ⟨hle, fun hve => ?_⟩;obtain ⟨g, ⟨e1, e2⟩ | ⟨b, C, T, fz, cap, ad, e1, e2, e3⟩⟩ := hx hve
     ·exact ⟨g, .inl ⟨by rw [upd_ne _ _ hi]; exact e1, e2⟩⟩
     ·exact ⟨g, .inr ⟨b, C, T, fz, cap, ad, by rw [upd_ne _ _ hi]; exact e1, by rw [hoth i _ b hi hr rfl e1]; exact e2, e3⟩⟩
  ·intro i ver k off u h;by_cases hi : i = i₀
   ·subst hi; exact hvals _ _ (.inr (.inr (.inr (.inl ⟨ver, k, off, rfl⟩)))) h
   ·cases h with
    | el _ _ _ _ b p _ hu h0 h1 => exact .el _ _ _ _ b p _ hu (by rwa [upd_ne _ _ hi]) (by rw [upd_ne _ _ hi, upd_ne _ _ hi]; exact h1)
  ·intro i u h;by_cases hi : i = i₀
   ·subst hi; exact hvals _ _ (.inr (.inr (.inr (.inr rfl)))) h
   ·cases h with
    | mp _ _ hu h0 h1 h2 h3 => exact .mp _ _ hu (by rwa [upd_ne _ _ hi]) (by rw [upd_ne _ _ hi, upd_ne _ _ hi]; exact h1) (by rw [upd_ne _ _ hi, upd_ne _ _ hi]; exact h2) (by rw [upd_ne _ _ hi, upd_ne _ _ hi]; exact h3)
 have hmine : ∀ i o b, upd H i₀ (some o') i = some o → o.live = true → upd β i₀ nb i = some b → w.heap.size ≤ b ∨ ∃ i' o2, H i' = some o2 ∧ o2.live = true ∧ β i' = some b := by
  intro i o b h1 h2 h3;by_cases hi : i = i₀
  ·subst hi;rw [upd_same] at h1 h3;cases h1;rcases (hnb b h3 h2).1 with h | ⟨o, g1, g2, g3⟩
   ·exact .inl h
   ·exact .inr ⟨_, o, g1, g2, g3⟩
  ·rw [upd_ne _ _ hi] at h1 h3;exact .inr ⟨i, o, h1, h2, h3⟩
 refine ⟨⟨?_, ?_, ?_, hold, fun g cs hg => (hc.glob g cs hg).mono hsA hA⟩, hall, hos, htape, hout, hsize, ?_, ?_, ?_, hmine⟩
 ·intro i o h;by_cases hi : i = i₀
  ·subst hi; rw [upd_same] at h; cases h; exact hobj hall
  ·rw [upd_ne _ _ hi] at h;exact (hc.objs i o h).mono hall hsA hA (upd_ne _ _ hi) fun b hb hl => hoth i o b hi h hl hb
 ·intro i j o o2 b h1 l1 h2 l2 hb1 hb2;by_cases hi : i = i₀
  ·by_cases hj : j = i₀
   ·rw [hi, hj]
   ·exfalso;subst hi
    rw [upd_same] at h1 hb1;cases h1;rw [upd_ne _ _ hj] at h2 hb2;rcases (hnb b hb1 l1).1 with h | ⟨o3, g1, g2, g3⟩
    ·have := hc.lt h2 l2 hb2; omega
    ·exact hj (hc.inj j _ o2 o3 b h2 l2 g1 g2 hb2 g3)
  ·rw [upd_ne _ _ hi] at h1 hb1;by_cases hj : j = i₀
   ·exfalso;subst hj
    rw [upd_same] at h2 hb2;cases h2;rcases (hnb b hb2 l2).1 with h | ⟨o3, g1, g2, g3⟩
    ·have := hc.lt h1 l1 hb1; omega
    ·exact hi (hc.inj i _ o o3 b h1 l1 g1 g2 hb1 g3)
   ·rw [upd_ne _ _ hj] at h2 hb2;exact hc.inj i j o o2 b h1 l1 h2 l2 hb1 hb2
 ·intro i o b h1 h2 h3 hAb;by_cases hi : i = i₀
  ·subst hi;rw [upd_same] at h1 h3;cases h1;exact (hnb b h3 h2).2 hAb
  ·rw [upd_ne _ _ hi] at h1 h3;rcases hA' b hAb with h | h | ⟨o3, g1, g2, g3⟩
   ·exact hc.sep i o b h1 h2 h3 h
   ·have := hc.lt h1 h2 h3; omega
   ·exact hi (hc.inj i _ o o3 b h1 h2 g1 g2 h3 g3)
 ·intro b hb hn;exact hsame b hb fun o h1 h2 => hn _ o h1 h2
 ·intro b r hbr;by_cases hex : ∃ o, H i₀ = some o ∧ o.live = true ∧ β i₀ = some b
  ·obtain ⟨o, g1, g2, g3⟩ := hex;have hob := hc.objs _ _ g1;cases o with
   | box cs => obtain ⟨b', C, T, e1, e2, _⟩ := hob; rw [e1] at g3; cases g3; rw [e2] at hbr; cases hbr
   | row ver sz xs =>
    obtain ⟨_, _, _, ⟨e1, _⟩ | ⟨b', C, T, cap, e1, e2, _⟩⟩ := hob
    ·rw [e1] at g3; cases g3
    ·rw [e1] at g3; cases g3; rw [e2] at hbr; cases hbr
   | mapo es => obtain ⟨b', C, T, e1, e2, _⟩ := hob; rw [e1] at g3; cases g3; rw [e2] at hbr; cases hbr
   | lp l => exact hlp l g1 b g3
   | sit s p => obtain ⟨b', e1, e2, _⟩ := hob; rw [e1] at g3; cases g3; rw [e2] at hbr; cases hbr
   | fbox ds => cases g2
   | frz ver sz xs => cases g2
   | gone => cases g2
  ·exact ⟨r, by rw [hsame b (Array.getElem?_eq_some_iff.1 hbr).1 fun o h1 h2 h3 => hex ⟨o, h1, h2, h3⟩]; exact hbr⟩
 ·intro b hb;rcases hA' b hb with h | h | ⟨o, g1, g2, g3⟩
  ·exact .inl h
  ·exact .inr (.inl h)
  ·exact .inr (.inr ⟨_, o, g1, g2, g3⟩)
theorem Stp.new (hc : Core β A w H) (hos : w'.os = w.os) (htape : w'.tape = w.tape) (hout : w'.output = w.output)
  (hsize : w.heap.size ≤ w'.heap.size) (hsame : ∀ b, b < w.heap.size → w'.heap[b]? = w.heap[b]?)
  (hA : ∀ b, A b → A' b) (hA' : ∀ b, A' b → A b ∨ w.heap.size ≤ b) (hold : ∀ b, A' b → b < w'.heap.size) :
  Stp β A w H β A' w' H := by
 have hsA : SameOn A w w' := fun b hb => hsame b (hc.old b hb)
 have hoth : ∀ j o b, H j = some o → o.live = true → β j = some b → w'.heap[b]? = w.heap[b]? := fun j o b h1 h2 h3 => hsame b (hc.lt h1 h2 h3)
 have hd : ∀ x u, Rep A w x u → Rep A' w' x u := fun x u h => h.mono hsA hA
 have hall : ∀ c u, VRep β A w H c u → VRep β A' w' H c u := by
  refine VRep.of_base hd ?_ ?_ ?_ ?_ ?_
  ·intro i off u h;cases h with
   | ref _ _ b p _ hu h0 h1 h2 => exact .ref _ _ b p _ hu h0 h1 fun ds hds => hd _ _ (h2 ds hds)
  ·intro i ver u h;cases h with
   | ms _ _ _ hu h0 h1 h2 =>
    refine .ms _ _ _ hu h0 ?_ fun sz xs hds => hd _ _ (h2 sz xs hds)
    intro v' sz xs hr;obtain ⟨hle, hx⟩ := h1 v' sz xs hr;refine ⟨hle, fun hve => ?_⟩;rcases hx hve with ⟨e1, e2⟩ | ⟨b, C, T, fz, cap, e1, e2, e3⟩
    ·exact .inl ⟨e1, e2⟩
    ·exact .inr ⟨b, C, T, fz, cap, e1, by rw [hoth i _ b hr rfl e1]; exact e2, e3⟩
  ·intro i ver off len u h;cases h with
   | sub _ _ _ _ _ hu h0 h1 h2 =>
    refine .sub _ _ _ _ _ hu h0 ?_ fun sz xs hds => hd _ _ (h2 sz xs hds)
    intro v' sz xs hr;obtain ⟨hle, hx⟩ := h1 v' sz xs hr;refine ⟨hle, fun hve => ?_⟩;obtain ⟨g, ⟨e1, e2⟩ | ⟨b, C, T, fz, cap, ad, e1, e2, e3⟩⟩ := hx hve
    ·exact ⟨g, .inl ⟨e1, e2⟩⟩
    ·exact ⟨g, .inr ⟨b, C, T, fz, cap, ad, e1, by rw [hoth i _ b hr rfl e1]; exact e2, e3⟩⟩
  ·intro i ver k off u h;cases h with
   | el _ _ _ _ b p _ hu h0 h1 => exact .el _ _ _ _ b p _ hu h0 h1
  ·intro i u h;cases h with
   | mp _ _ hu h0 h1 h2 h3 => exact .mp _ _ hu h0 h1 h2 h3
 refine ⟨⟨fun i o h => (hc.objs i o h).mono hall hsA hA rfl fun b hb hl => hoth i o b h hl hb, hc.inj, ?_, hold, fun g cs hg => (hc.glob g cs hg).mono hsA hA⟩, hall, hos, htape, hout, hsize, fun b hb _ => hsame b hb, fun b r hbr => ⟨r, by rw [hsame b (Array.getElem?_eq_some_iff.1 hbr).1]; exact hbr⟩, ?_, fun i o b h1 h2 h3 => .inr ⟨i, o, h1, h2, h3⟩⟩
 ·intro i o b h1 h2 h3 hAb;rcases hA' b hAb with h | h
  ·exact hc.sep i o b h1 h2 h3 h
  ·have := hc.lt h1 h2 h3; omega
 ·intro b hb;rcases hA' b hb with h | h
  ·exact .inl h
  ·exact .inr (.inl h)
theorem Stp.draw (hc : Core β A w H) {w₁ : World} (hh : w₁.heap = w.heap) (ho : w₁.os = w.os) (ht : w₁.tape = w.tape) (hp : w₁.output = w.output) : Stp β A w H β A w₁ H :=
 Stp.new hc ho ht hp (by rw [hh]; exact Nat.le_refl _) (fun b _ => by rw [hh]) (fun _ h => h) (fun _ h => .inl h) (fun b h => by rw [hh]; exact hc.old b h)
end
end Av
namespace Av
open Go
class Rls where
 rl : Nat → Bool
instance rlsD : Rls := ⟨fun n => n == 1⟩
variable [Glb] [Rls]
inductive Opd where
 | t (n : Nat)
 | k (x : Dat)
 deriving Inhabited
inductive Ck where
 | i | b | s
 deriving Inhabited, DecidableEq
inductive Bk where
 | add | sub | mul | quo | rem
 | eql | neq | lss | leq | gtr | geq
 | cat | seq | sne | slt | sle | sgt | sge
 | beq | bne
 | nileq | nilne
 | teq (ks : List Ck) | tne (ks : List Ck)
 deriving Inhabited
inductive IOp where
 | mov (x : Opd)
 | new (zs : List Dat)
 | box (x : Opd)
 | bld (zs : List Dat) (ps : List (Nat × Nat × Opd))
 | bls (sz : Nat) (xs : List Opd)
 | ld (n : Option Nat) (a : Opd)
 | sto (n : Option Nat) (a v : Opd)
 | fa (a : Opd) (off : Nat)
 | fld (n : Option Nat) (x : Opd) (off : Nat)
 | ixa (ag : Bool) (sz : Nat) (a i : Opd)
 | ixr (len sz : Nat) (a i : Opd)
 | ixs (x i : Opd)
 | ixv (n : Option Nat) (len sz : Nat) (x i : Opd)
 | bin (b : Bk) (x y : Opd)
 | not (x : Opd)
 | neg (k : IntKind) (x : Opd)
 | cvi (k : IntKind) (x : Opd)
 | ifc (t : Nat) (x : Opd)
 | fnv (f : Fn) (first cap : List Opd)
 | mks (sz : Nat) (zs : List Dat) (len cap : Opd)
 | slc (sz : Nat) (x : Opd) (lo hi mx : Option Opd)
 | sls (x : Opd) (lo hi : Option Opd)
 | ext (x : Opd) (i : Nat)
 | len (x : Opd)
 | slen (x : Opd)
 | app (sz : Nat) (x y : Opd)
 | mn (x y : Opd)
 | mx (x y : Opd)
 | nck (x : Opd)
 | mkm
 | mpu (c : Ck) (m k v : Opd)
 | lkp (c : Ck) (z : Dat) (m k : Opd) (ok : Bool)
 | bit (op : BinOp) (x y : Opd)
 | s2b (x : Opd)
 | i2s (x : Opd)
 | b2s (x : Opd)
 | rgs (x : Opd)
 | nxs (x : Opd)
 | bad
 deriving Inhabited
def val (τ : Tmps) : Opd → Option Av
 | .t n => τ n
 | .k x => some (.d x)
def Av.cells : Av → Option (List Av)
 | .d (.agg ds) => some (ds.map .d)
 | .agg cs => some cs
 | .any | .und | .tup _ => none
 | v => some [v]
def allD : List Av → Option (List Dat)
 | [] => some []
 | .d x :: r => match allD r with
  | some ds => some (x :: ds)
  | none => none
 | _ :: _ => none
def mkAgg (cs : List Av) : Av := match allD cs with
 | some ds => .d (.agg ds)
 | none => .agg cs
def splice {α : Type} (cs : List α) (off : Nat) (new : List α) : List α := cs.take off ++ (new ++ cs.drop (off + new.length))
def nth (xs : List Dat) (k : Nat) : Dat := xs.getD k .opq
structure Res where
 c : Prop
 v : Av
 ups : List (Nat × Obj) := []
def listOf (H : Heap) : Av → Option (Nat × List Dat)
 | .d (.list sz xs) => some (sz, xs)
 | .d (.nil sz) => some (sz, [])
 | .ms i _ => match H i with
  | some (.row _ sz xs) => some (sz, xs)
  | some (.frz _ sz xs) => some (sz, xs)
  | _ => none
 | .sub i _ off len => match H i with
  | some (.row _ sz xs) => some (sz, (xs.drop off).take len)
  | some (.frz _ sz xs) => some (sz, (xs.drop off).take len)
  | _ => none
 | _ => none
def curr (H : Heap) : Av → Prop
 | .ms i ver => match H i with
  | some (.row v' _ _) => ver = v'
  | some (.frz v' _ _) => ver = v'
  | _ => False
 | .sub i ver _ _ => match H i with
  | some (.row v' _ _) => ver = v'
  | some (.frz v' _ _) => ver = v'
  | _ => False
 | _ => True
def binInt (k : IntKind) : Bk → Int → Int → Option (Prop × Dat)
 | .add, a, b => some (True, .int k (k.wrap (a + b)))
 | .sub, a, b => some (True, .int k (k.wrap (a - b)))
 | .mul, a, b => some (True, .int k (k.wrap (a * b)))
 | .quo, a, b => some (b ≠ 0, .int k (k.wrap (a.tdiv b)))
 | .rem, a, b => some (b ≠ 0, .int k (a.tmod b))
 | .eql, a, b => some (True, .bool (a == b))
 | .neq, a, b => some (True, .bool (a != b))
 | .lss, a, b => some (True, .bool (decide (a < b)))
 | .leq, a, b => some (True, .bool (decide (a ≤ b)))
 | .gtr, a, b => some (True, .bool (decide (a > b)))
 | .geq, a, b => some (True, .bool (decide (a ≥ b)))
 | _, _, _ => none
def strLt : List UInt8 → List UInt8 → Bool := Op.bytesLess
def binStr : Bk → List UInt8 → List UInt8 → Option (Prop × Dat)
 | .cat, a, b => some ((a ++ b).length ≤ 68719476736, .str (a ++ b))
 | .seq, a, b => some (True, .bool (a == b))
 | .sne, a, b => some (True, .bool (!(a == b)))
 | .slt, a, b => some (True, .bool (strLt a b))
 | .sle, a, b => some (True, .bool (strLt a b || a == b))
 | .sgt, a, b => some (True, .bool (!(strLt a b || a == b)))
 | .sge, a, b => some (True, .bool (!strLt a b))
 | _, _, _ => none
def isNil : Av → Option Bool
 | .d .nilIface | .d .nilPtr | .d .nilMap | .d .nilFn => some true
 | .d (.iface _ _) | .d (.ptr _) | .d (.glo _) | .d (.fn (.func _) _ _) | .clo (.func _) _ _ | .ref _ _ | .el _ _ _ _ => some false
 | _ => none
def isNilI : Av → Option Bool
 | .d .nilIface => some true
 | .d (.iface _ _) => some false
 | _ => none
def cellEq : Ck → Dat → Dat → Option Bool
 | .i, .int k a, .int k' b => if k = k' then some (a == b) else none
 | .b, .bool a, .bool b => some (a == b)
 | .s, .str a, .str b => some (a == b)
 | _, _, _ => none
def cellsEq : List Ck → List Dat → List Dat → Option Bool
 | [], [], [] => some true
 | k :: ks, x :: xs, y :: ys => match cellEq k x y, cellsEq ks xs ys with
  | some a, some b => some (a && b)
  | _, _ => none
 | _, _, _ => none
def binOpD (b : Bk) : Av → Av → Option (Prop × Dat)
 | .d (.int k a), .d (.int k' c) => if k = k' then binInt k b a c else none
 | .d (.str a), .d (.str c) => binStr b a c
 | .d (.bool a), .d (.bool c) => match b with
  | .beq => some (True, .bool (a == c))
  | .bne => some (True, .bool (!(a == c)))
  | _ => none
 | .d (.agg a), .d (.agg c) => match b with
  | .teq ks => match cellsEq ks a c with
   | some r => some (True, .bool r)
   | none => none
  | .tne ks => match cellsEq ks a c with
   | some r => some (True, .bool (!r))
   | none => none
  | _ => none
 | x, .d .nilIface => match b, isNilI x with
  | .nileq, some r => some (True, .bool r)
  | .nilne, some r => some (True, .bool (!r))
  | _, _ => none
 | _, _ => none
def vals (τ : Tmps) : List Opd → Option (List Av)
 | [] => some []
 | x :: r => match val τ x with
  | some v => match vals τ r with
   | some vs => some (v :: vs)
   | none => none
  | none => none
def fillP (τ : Tmps) : List Av → List (Nat × Nat × Opd) → Option (List Av)
 | cs, [] => some cs
 | cs, (off, n, x) :: r => match val τ x with
  | some v => match v.cells with
   | some vs => if vs.length = n ∧ off + n ≤ cs.length then fillP τ (splice cs off vs) r else none
   | none => none
  | none => none
def hputs : Heap → List (Nat × Obj) → Heap
 | H, [] => H
 | H, (i, o) :: r => hputs (upd H i (some o)) r
def datum1 (H : Heap) : Av → Option (Prop × Dat × List (Nat × Obj))
 | .d x => some (True, x, [])
 | .ms i ver => match H i with
  | some (.row v' sz xs) => some (ver = v', .list sz xs, [(i, .frz v' sz xs)])
  | some (.frz v' sz xs) => some (ver = v', .list sz xs, [])
  | _ => none
 | .sub i ver off len => match H i with
  | some (.row v' sz xs) => some (ver = v', .list sz ((xs.drop off).take len), [(i, .frz v' sz xs)])
  | some (.frz v' sz xs) => some (ver = v', .list sz ((xs.drop off).take len), [])
  | _ => none
 | .ref i off => match H i with
  | some (.box cs) => match allD cs with
   | some ds => some (True, .ptr (ds.drop off), [(i, .fbox ds)])
   | none => none
  | some (.fbox ds) => some (True, .ptr (ds.drop off), [])
  | _ => none
 | .mp i => match H i with
  | some (.mapo es) => some (True, .map es, [(i, .gone)])
  | _ => none
 | _ => none
def datums (H : Heap) : List Av → Option (Prop × List Dat × List (Nat × Obj))
 | [] => some (True, [], [])
 | c :: r => match datum1 H c with
  | some (p, x, u) => match datums (hputs H u) r with
   | some (q, xs, u') => some (p ∧ q, x :: xs, u ++ u')
   | none => none
  | none => none
def datum (H : Heap) : Av → Option (Prop × Dat × List (Nat × Obj))
 | .agg cs => match datums H cs with
  | some (p, xs, u) => some (p, .agg xs, u)
  | none => none
 | v => datum1 H v
def datumAll (H : Heap) : List Av → Option (Prop × List Dat × List (Nat × Obj))
 | [] => some (True, [], [])
 | c :: r => match datum H c with
  | some (p, x, u) => match datumAll (hputs H u) r with
   | some (q, xs, u') => some (p ∧ q, x :: xs, u ++ u')
   | none => none
  | none => none
def putEl (ag : Bool) (x : Dat) (off : Nat) (ds : List Dat) : Dat := if ag then .agg (splice x.cells off ds) else ds.headD .opq
def ofBound (τ : Tmps) (dflt : Int) : Option Opd → Option Int
 | none => some dflt
 | some x => match val τ x with
  | some (.d (.int _ n)) => some n
  | _ => none
def findM (c : Ck) : List (Dat × Dat) → Dat → Option (Option Dat)
 | [], _ => some none
 | (k, v) :: r, x => match cellEq c x k with
  | some true => some (some v)
  | some false => findM c r x
  | none => none
def putM (c : Ck) : List (Dat × Dat) → Dat → Dat → List (Dat × Dat)
 | [], x, v => [(x, v)]
 | (k, u) :: r, x, v => match cellEq c x k with
  | some true => (x, v) :: r
  | _ => (k, u) :: putM c r x v
def bitD (op : BinOp) (k : IntKind) (a : Int) (k' : IntKind) (c : Int) : Option (Prop × Int) := match op with
 | .and => if k = k' then some (True, k.wrap ((BitVec.ofInt k.bits a &&& BitVec.ofInt k.bits c).toNat)) else none
 | .or => if k = k' then some (True, k.wrap ((BitVec.ofInt k.bits a ||| BitVec.ofInt k.bits c).toNat)) else none
 | .xor => if k = k' then some (True, k.wrap ((BitVec.ofInt k.bits a ^^^ BitVec.ofInt k.bits c).toNat)) else none
 | .andNot => if k = k' then some (True, k.wrap ((BitVec.ofInt k.bits a &&& ~~~ BitVec.ofInt k.bits c).toNat)) else none
 | .shl => some (0 ≤ c, k.wrap (a * 2 ^ (min c.toNat k.bits)))
 | .shr => some (0 ≤ c, a.fdiv (2 ^ (min c.toNat k.bits)))
 | _ => none
def bytesOf : List Dat → Option (List UInt8)
 | [] => some []
 | .int .u8 n :: r => match bytesOf r with
  | some s => some (UInt8.ofNat n.toNat :: s)
  | none => none
 | _ :: _ => none
def step (τ : Tmps) (H : Heap) (dst : Nat) : IOp → Option Res
 | .mov x => (val τ x).map fun v => { c := True, v }
 | .new zs => match H dst with
  | none => some { c := True, v := .ref dst 0, ups := [(dst, .box (zs.map .d))] }
  | some _ => none
 | .box x => match H dst, val τ x with
  | none, some v => match v.cells with
   | some cs => some { c := True, v := .ref dst 0, ups := [(dst, .box cs)] }
   | none => none
  | _, _ => none
 | .bld zs ps => match fillP τ (zs.map .d) ps with
  | some cs => some { c := True, v := mkAgg cs }
  | none => none
 | .bls sz ps => match vals τ ps with
  | some vs => match datumAll H vs with
   | some (p, xs, ups) => match Rls.rl sz, ps, ups with
    | true, [_], [] => match H dst with
     | none => some { c := p ∧ ∀ x ∈ xs, x.cells.length = sz, v := .ms dst 0, ups := [(dst, .row 0 sz xs)] }
     | some _ => none
    | _, _, _ => some { c := p ∧ ∀ x ∈ xs, x.cells.length = sz, v := match xs with | [] => .d (.nil sz) | _ => .d (.list sz xs), ups }
   | none => none
  | none => none
 | .ld n a => match val τ a with
  | some (.ref i off) => match H i, n with
   | some (.box cs), none => match cs[off]? with
    | some v => some { c := True, v }
    | none => none
   | some (.box cs), some n => if off + n ≤ cs.length then some { c := True, v := mkAgg ((cs.drop off).take n) } else none
   | some (.fbox ds), none => some { c := off < ds.length, v := .d (ds.getD off .opq) }
   | some (.fbox ds), some n => some { c := off + n ≤ ds.length, v := .d (.agg ((ds.drop off).take n)) }
   | _, _ => none
  | some (.el i ver k off) => match H i, n with
   | some (.row v' _ xs), none => some { c := ver = v' ∧ off < (nth xs k).cells.length, v := .d ((nth xs k).cells.getD off .opq) }
   | some (.row v' _ xs), some n => some { c := ver = v' ∧ off + n ≤ (nth xs k).cells.length, v := .d (.agg (((nth xs k).cells.drop off).take n)) }
   | _, _ => none
  | some (.d (.ptr cs)) => match n with
   | none => some { c := 0 < cs.length, v := .d (cs.getD 0 .opq) }
   | some n => some { c := n ≤ cs.length, v := .d (.agg (cs.take n)) }
  | some (.d (.glo g)) => match globOf g, n with
   | some cs, none => some { c := 0 < cs.length, v := .d (cs.getD 0 .opq) }
   | some cs, some n => some { c := n ≤ cs.length, v := .d (.agg (cs.take n)) }
   | none, _ => none
  | _ => none
 | .sto n a v => match val τ a, val τ v with
  | some (.ref i off), some v => match H i, v.cells with
   | some (.box cs), some vs => if off + vs.length ≤ cs.length ∧ vs.length = n.getD 1 then some { c := True, v := .und, ups := [(i, .box (splice cs off vs))] } else none
   | _, _ => none
  | some (.el i ver k off), some (.d x) => match H i with
   | some (.row v' sz xs) => match n with
    | none => some { c := ver = v' ∧ x.cells.length = 1 ∧ off + 1 ≤ (nth xs k).cells.length, v := .und, ups := [(i, .row v' sz (xs.set k (putEl (sz ≠ 1) (nth xs k) off x.cells)))] }
    | some n => some { c := ver = v' ∧ x.cells.length = n ∧ off + n ≤ (nth xs k).cells.length, v := .und, ups := [(i, .row v' sz (xs.set k (putEl true (nth xs k) off x.cells)))] }
   | _ => none
  | _, _ => none
 | .fa a off => match val τ a with
  | some (.ref i o) => some { c := True, v := .ref i (o + off) }
  | some (.el i ver k o) => some { c := True, v := .el i ver k (o + off) }
  | some (.d (.ptr cs)) => some { c := True, v := .d (.ptr (cs.drop off)) }
  | some (.d (.glo g)) => match globOf g with
   | some cs => some { c := True, v := .d (.ptr (cs.drop off)) }
   | none => none
  | _ => none
 | .fld n x off => match val τ x, n with
  | some (.d (.agg cs)), none => match cs[off]? with
   | some v => some { c := True, v := .d v }
   | none => none
  | some (.d (.agg cs)), some n => some { c := off + n ≤ cs.length, v := .d (.agg ((cs.drop off).take n)) }
  | some (.agg cs), none => match cs[off]? with
   | some v => some { c := True, v }
   | none => none
  | some (.agg cs), some n => if off + n ≤ cs.length then some { c := True, v := mkAgg ((cs.drop off).take n) } else none
  | _, _ => none
 | .ixa _ sz a i => match val τ a, val τ i with
  | some (.d (.list sz' xs)), some (.d (.int _ n)) => some { c := sz' = sz ∧ 0 ≤ n ∧ n < xs.length, v := .d (.ptr (nth xs n.toNat).cells) }
  | some (.ms j ver), some (.d (.int _ n)) => match H j with
   | some (.row v' sz' xs) => some { c := ver = v' ∧ sz' = sz ∧ 0 ≤ n ∧ n < xs.length, v := .el j ver n.toNat 0 }
   | some (.frz v' sz' xs) => some { c := ver = v' ∧ sz' = sz ∧ 0 ≤ n ∧ n < xs.length, v := .d (.ptr (nth xs n.toNat).cells) }
   | _ => none
  | some (.sub j ver off len), some (.d (.int _ n)) => match H j with
   | some (.row v' sz' _) => some { c := ver = v' ∧ sz' = sz ∧ 0 ≤ n ∧ n < len, v := .el j ver (off + n.toNat) 0 }
   | _ => none
  | _, _ => none
 | .ixr len sz a i => match val τ a, val τ i with
  | some (.ref j off), some (.d (.int _ n)) => some { c := 0 ≤ n ∧ n < len, v := .ref j (off + n.toNat * sz) }
  | some (.d (.ptr cs)), some (.d (.int _ n)) => some { c := 0 ≤ n ∧ n < len, v := .d (.ptr (cs.drop (n.toNat * sz))) }
  | some (.d (.glo g)), some (.d (.int _ n)) => match globOf g with
   | some cs => some { c := 0 ≤ n ∧ n < len, v := .d (.ptr (cs.drop (n.toNat * sz))) }
   | none => none
  | _, _ => none
 | .ixs x i => match val τ x, val τ i with
  | some (.d (.str s)), some (.d (.int _ n)) => some { c := 0 ≤ n ∧ n < s.length, v := .d (.int .u8 (s.getD n.toNat 0).toNat) }
  | _, _ => none
 | .ixv n len sz x i => match val τ x, val τ i, n with
  | some (.d (.agg cs)), some (.d (.int _ k)), none => some { c := 0 ≤ k ∧ k < len ∧ k.toNat * sz < cs.length, v := .d (cs.getD (k.toNat * sz) .opq) }
  | some (.d (.agg cs)), some (.d (.int _ k)), some n => some { c := 0 ≤ k ∧ k < len ∧ k.toNat * sz + n ≤ cs.length, v := .d (.agg ((cs.drop (k.toNat * sz)).take n)) }
  | _, _, _ => none
 | .bin b x y => match val τ x, val τ y with
  | some u, some v => match binOpD b u v with
   | some (c, r) => some { c, v := .d r }
   | none => none
  | _, _ => none
 | .not x => match val τ x with
  | some (.d (.bool b)) => some { c := True, v := .d (.bool (!b)) }
  | _ => none
 | .neg k x => match val τ x with
  | some (.d (.int k' n)) => if k = k' then some { c := True, v := .d (.int k (k.wrap (0 - n))) } else none
  | _ => none
 | .cvi k x => match val τ x with
  | some (.d (.int _ n)) => some { c := True, v := .d (.int k (k.wrap n)) }
  | _ => none
 | .ifc t x => match val τ x with
  | some (.d v) => some { c := True, v := .d (.iface t v) }
  | some (.ref _ _) => some { c := True, v := .d (.iface t .opq) }
  | _ => none
 | .fnv f first cap => match vals τ first, vals τ cap with
  | some fs, some cs => match allD fs, allD cs with
   | some fs, some cs => some { c := True, v := .d (.fn f fs cs) }
   | _, _ => some { c := True, v := .clo f fs cs }
  | _, _ => none
 | .mks sz zs len cap => match H dst, val τ len, val τ cap with
  | none, some (.d (.int _ l)), some (.d (.int _ c)) => some { c := 0 ≤ l ∧ l ≤ c ∧ c ≤ 68719476736, v := .ms dst 0, ups := [(dst, .row 0 sz (List.replicate l.toNat (if zs.length = 1 then zs.headD .opq else .agg zs)))] }
  | _, _, _ => none
 | .slc n x lo hi mx => match val τ x with
  | some v => match listOf H v with
   | some (sz, xs) => match mx with
    | none => match ofBound τ 0 lo, ofBound τ xs.length hi with
     | some l, some h => match v with
      | .d _ => some { c := sz = n ∧ 0 ≤ l ∧ l ≤ h ∧ h ≤ xs.length, v := .d (.list sz ((xs.drop l.toNat).take (h - l).toNat)) }
      | .ms i ver => some { c := curr H v ∧ sz = n ∧ 0 ≤ l ∧ l ≤ h ∧ h ≤ xs.length, v := .sub i ver l.toNat (h - l).toNat }
      | .sub i ver off _ => some { c := curr H v ∧ sz = n ∧ 0 ≤ l ∧ l ≤ h ∧ h ≤ xs.length, v := .sub i ver (off + l.toNat) (h - l).toNat }
      | _ => none
     | _, _ => none
    | some (.k (.int _ 0)) => match lo, hi with
     | none, some (.k (.int _ 0)) => some { c := curr H v, v := .d (.nil sz) }
     | _, _ => none
    | _ => none
   | none => none
  | none => none
 | .sls x lo hi => match val τ x with
  | some (.d (.str s)) => match ofBound τ 0 lo, ofBound τ s.length hi with
   | some l, some h => some { c := 0 ≤ l ∧ l ≤ h ∧ h ≤ s.length, v := .d (.str ((s.drop l.toNat).take (h - l).toNat)) }
   | _, _ => none
  | _ => none
 | .ext x i => match val τ x with
  | some (.tup vs) => match vs[i]? with
   | some v => some { c := True, v }
   | none => none
  | _ => none
 | .slen x => match val τ x with
  | some (.d (.str s)) => some { c := True, v := .d (.int .i64 s.length) }
  | _ => none
 | .len x => match val τ x with
  | some v => match listOf H v with
   | some (_, xs) => some { c := curr H v, v := .d (.int .i64 xs.length) }
   | none => none
  | none => none
 | .app sz x y => match val τ x, val τ y with
  | some u, some v => match listOf H v with
   | some (sz', ys) => match u with
    | .d (.nil _) => match H dst with
     | none => some { c := curr H v ∧ sz' = sz ∧ 0 < sz ∧ ys.length ≤ 68719476736 ∧ ∀ y ∈ ys, y.cells.length = sz, v := .ms dst 0, ups := [(dst, .row 0 sz ys)] }
     | some _ => none
    | .ms i ver => match H i with
     | some (.row v' sz'' xs) => some { c := curr H v ∧ ver = v' ∧ sz' = sz ∧ sz'' = sz ∧ xs.length + ys.length ≤ 68719476736, v := .ms i (v' + 1), ups := [(i, .row (v' + 1) sz (xs ++ ys))] }
     | _ => none
    | .sub i ver 0 n => match H i with
     | some (.row v' sz'' xs) => some { c := curr H v ∧ ver = v' ∧ sz' = sz ∧ sz'' = sz ∧ n + ys.length ≤ 68719476736 ∧ 0 < n + ys.length, v := .ms i (v' + 1), ups := [(i, .row (v' + 1) sz (xs.take n ++ ys))] }
     | _ => none
    | _ => none
   | none => none
  | _, _ => none
 | .mn x y => match val τ x, val τ y with
  | some (.d (.int k a)), some (.d (.int k' b)) => if k = k' then some { c := True, v := .d (.int k (if b < a then b else a)) } else none
  | _, _ => none
 | .mx x y => match val τ x, val τ y with
  | some (.d (.int k a)), some (.d (.int k' b)) => if k = k' then some { c := True, v := .d (.int k (if b > a then b else a)) } else none
  | _, _ => none
 | .nck x => match val τ x with
  | some v => match isNil v with
   | some false => some { c := True, v }
   | _ => none
  | none => none
 | .mkm => match H dst with
  | none => some { c := True, v := .mp dst, ups := [(dst, .mapo [])] }
  | some _ => none
 | .mpu c m k v => match val τ m, val τ k, val τ v with
  | some (.mp i), some (.d k), some (.d v) => match H i with
   | some (.mapo es) => match findM c es k with
    | some _ => some { c := True, v := .und, ups := [(i, .mapo (putM c es k v))] }
    | none => none
   | _ => none
  | _, _, _ => none
 | .lkp c z m k ok => match val τ m, val τ k with
  | some m, some (.d k) => match (match m with
    | .mp i => match H i with
     | some (.mapo es) => some es
     | _ => none
    | .d (.map es) => some es
    | .d .nilMap => some []
    | _ => none) with
   | some es => match findM c es k with
    | some r => some { c := True, v := if ok then .tup [.d (r.getD z), .d (.bool r.isSome)] else .d (r.getD z) }
    | none => none
   | none => none
  | _, _ => none
 | .bit op x y => match val τ x, val τ y with
  | some (.d (.int k a)), some (.d (.int k' c)) => match bitD op k a k' c with
   | some (p, n) => some { c := p, v := .d (.int k n) }
   | none => none
  | _, _ => none
 | .i2s x => match val τ x with
  | some (.d (.int _ n)) => some { c := True, v := .d (.str (Utf8.encode n).data.toList) }
  | _ => none
 | .s2b x => match val τ x with
  | some (.d (.str s)) => some { c := True, v := .d (.list 1 (s.map fun b => .int .u8 b.toNat)) }
  | _ => none
 | .b2s x => match val τ x with
  | some v => match listOf H v with
   | some (_, xs) => match bytesOf xs with
    | some s => some { c := curr H v ∧ xs.length ≤ 68719476736, v := .d (.str s) }
    | none => none
   | none => none
  | none => none
 | .rgs x => match H dst, val τ x with
  | none, some (.d (.str s)) => some { c := True, v := .mp dst, ups := [(dst, .sit s 0)] }
  | _, _ => none
 | .nxs x => match val τ x with
  | some (.mp i) => match H i with
   | some (.sit s p) => if p < s.length then some { c := True, v := .tup [.d (.bool true), .d (.int .i64 p), .d (.int .i32 (Utf8.decode ⟨s.toArray⟩ p).1)], ups := [(i, .sit s (p + (Utf8.decode ⟨s.toArray⟩ p).2))] }
    else some { c := True, v := .tup [.d (.bool false)] }
   | _ => none
  | _ => none
 | .bad => none
end Av
namespace Av
open Go
variable [Glb] [Rls]
structure St where
 tm : List (Nat × Av)
 hp : List (Nat × Obj)
def put {α : Type} : List (Nat × α) → Nat → α → List (Nat × α)
 | [], i, v => [(i, v)]
 | (k, u) :: r, i, v => if k = i then (i, v) :: r else (k, u) :: put r i v
def puts {α : Type} : List (Nat × α) → List (Nat × α) → List (Nat × α)
 | l, [] => l
 | l, (i, v) :: r => puts (put l i v) r
def drops {α : Type} : List (Nat × α) → List Nat → List (Nat × α)
 | [], _ => []
 | (k, v) :: r, l => if l.contains k then drops r l else (k, v) :: drops r l
def keeps {α : Type} : List (Nat × α) → List Nat → List (Nat × α)
 | [], _ => []
 | (k, v) :: r, l => if l.contains k then (k, v) :: keeps r l else keeps r l
def St.app (st : St) (d : Option Nat) (v : Av) (ups : List (Nat × Obj)) : St :=
 ⟨match d with | some d => put st.tm d v | none => st.tm, puts st.hp ups⟩
def St.set (st : St) (d : Option Nat) (v : Av) (hp : List (Nat × Obj)) : St :=
 ⟨match d with | some d => put st.tm d v | none => st.tm, hp⟩
inductive Cal where
 | fn (f : Nat)
 | dyn (x : Opd)
 deriving Inhabited
inductive Ss where
 | nil
 | op (d : Option Nat) (o : IOp) (r : Ss)
 | call (d : Option Nat) (f : Cal) (args : List Opd) (r : Ss)
 | sc (c : Nat) (b : Bool) (body : Ss) (y : Opd) (d : Nat) (r : Ss)
 deriving Inhabited
inductive Ic where
 | skip
 | reg (s : Ss)
 | regd (un : List (Nat × Nat)) (s : Ss)
 | dn (a : Ic) (ts : List Nat)
 | seq (a b : Ic)
 | ite (c : Opd) (a b : Ic)
 | block (id : Nat) (b : Ic)
 | loop (b : Ic)
 | exit (id : Nat)
 | ret
 | bad
 | scp (a : Ic)
 | lab
 | rng (f : Opd) (N lid : Nat) (ps : Array Nat) (c1 c2 : Code) (asg body : Ic)
 deriving Inhabited
def VReps (β : Blocks) (A : Nat → Prop) (w : World) (H : Heap) (cs : List Av) (vs : Array Value) : Prop :=
 cs.length = vs.size ∧ ∀ (i : Nat) c v, cs[i]? = some c → vs[i]? = some v → VRep β A w H c v
def Has (P : Program) (f : Nat) : Prop := ∃ fn, P.funcs[f]? = some fn ∧ fn.body.isSome = true ∧ (fn.name == "runtime.NumGoroutine") = false
inductive Cee where
 | fn (n : Nat)
 | yld
 deriving Inhabited
instance (n : Nat) : OfNat Cee n := ⟨.fn n⟩
instance : Coe Nat Cee := ⟨.fn⟩
def CallRes (P : Program) (f : Cee) (vs : Array Value) (w : World) (R : Value → World → Prop) : Prop := match f with
 | .fn f => (Has P f ∧ Calls P f vs w fun e w' => ∃ u, e = .returned u ∧ R u w') ∨ ∃ u w', (callFunc f vs).run P w = .ok (.value u) w' ∧ R u w'
 | .yld => ∃ l rest, vs = #[.func (.yield l) #[] #[]] ++ rest ∧ ∃ fn tmps asg body, (Instr.yield l rest).run P w = .ok (.round l fn tmps asg body) w ∧
  RoundIn Fence.wide 0 P l fn tmps asg body w fun e w' => ∃ u, e = .returned u ∧ R u w'
def CallOK (P : Program) (f : Cee) (args : List Av) (T : List (Nat × Option Obj)) (v : Av) (ups : List (Nat × Obj)) : Prop :=
 ∀ β A w H vs, (∀ e ∈ T, H e.1 = e.2) → Core β A w H → VReps β A w H args vs →
  CallRes P f vs w fun u w' => ∃ β' A', Stp β A w H β' A' w' (hputs H ups) ∧ VRep β' A' w' (hputs H ups) v u
def targetV (τ : Tmps) (f : Cal) (vs : List Av) : Option (Cee × List Av) :=
 match f with
  | .fn f => some (.fn f, vs)
  | .dyn x => match val τ x with
   | some (.d (.fn (.func f) fs cs)) => some (.fn f, fs.map .d ++ vs ++ cs.map .d)
   | some (.clo (.func f) fs cs) => some (.fn f, fs ++ vs ++ cs)
   | some (.mp i) => some (.yld, .mp i :: vs)
   | _ => none
def target (τ : Tmps) (f : Cal) (args : List Opd) : Option (Cee × List Av) :=
 match vals τ args with
 | none => none
 | some vs => targetV τ f vs
def Ss.dsts : Ss → List Nat
 | .nil => []
 | .op d _ r => d.toList ++ r.dsts
 | .call d _ _ r => d.toList ++ r.dsts
 | .sc _ _ body _ d r => body.dsts ++ d :: r.dsts
def Ss.len : Ss → Nat
 | .nil => 0
 | .op _ _ r => r.len + 1
 | .call _ _ _ r => r.len + 1
 | .sc _ _ body _ _ r => body.len + (r.len + 1)
def tgets (H : Heap) : List (Nat × Option Obj) → Prop
 | [] => True
 | e :: r => H e.1 = e.2 ∧ tgets H r
def wps (P : Program) : Ss → (St → Prop) → St → Prop
 | .nil, K, st => K st
 | .op d o r, K, st => match step (get st.tm) (get st.hp) (d.getD 0) o with
  | some x => x.c ∧ wps P r K (st.app d x.v x.ups)
  | none => False
 | .call d f args r, K, st => match target (get st.tm) f args with
  | some (f, vs) => ∃ T v ups hp, CallOK P f vs T v ups ∧ tgets (get st.hp) T ∧ (∀ i, get hp i = hputs (get st.hp) ups i) ∧ wps P r K (st.set d v hp)
  | none => False
 | .sc c b body y d r, K, st => match get st.tm c with
  | some (.d (.bool x)) => ∃ (yv : Bool) (hp : List (Nat × Obj)), (x = b → wps P body (fun st' => val (get st'.tm) y = some (.d (.bool yv)) ∧ st'.hp = hp) st) ∧ (x ≠ b → hp = st.hp) ∧
    wps P r K ⟨put (drops st.tm body.dsts) d (.d (.bool (if b then x && yv else x || yv))), hp⟩
  | _ => False
def ids : Av → List Nat
 | .ref i _ | .ms i _ | .sub i _ _ _ | .el i _ _ _ | .mp i => [i]
 | _ => []
def idsOf (τ : Tmps) (x : Opd) : List Nat := match val τ x with
 | some v => ids v
 | none => []
def idsC : Av → List Nat
 | .agg cs => cs.flatMap ids
 | v => ids v
def rd (τ : Tmps) (dst : Nat) : IOp → List Nat
 | .bls _ xs => dst :: xs.flatMap fun x => match val τ x with
  | some v => idsC v
  | none => []
 | .new _ | .box _ | .mks .. | .mkm => [dst]
 | .ld _ a => idsOf τ a
 | .sto _ a _ => idsOf τ a
 | .ixa _ _ a _ => idsOf τ a
 | .slc _ x _ _ _ => idsOf τ x
 | .len x => idsOf τ x
 | .app _ x y => dst :: (idsOf τ x ++ idsOf τ y)
 | .mpu _ m _ _ => idsOf τ m
 | .rgs _ => [dst]
 | .nxs x => idsOf τ x
 | .b2s x => idsOf τ x
 | .lkp _ _ m _ _ => idsOf τ m
 | _ => []
abbrev Log := List (List Nat × List Nat)
def wpsL (P : Program) : Ss → (St → Log → Prop) → St → Log → Prop
 | .nil, K, st, lg => K st lg
 | .op d o r, K, st, lg => match step (get st.tm) (get st.hp) (d.getD 0) o with
  | some x => x.c ∧ wpsL P r K (st.app d x.v x.ups) (lg ++ [(rd (get st.tm) (d.getD 0) o, x.ups.map (·.1))])
  | none => False
 | .call d f args r, K, st, lg => match target (get st.tm) f args with
  | some (f, vs) => ∃ T v ups hp, CallOK P f vs T v ups ∧ tgets (get st.hp) T ∧ (∀ i, get hp i = hputs (get st.hp) ups i) ∧ wpsL P r K (st.set d v hp) (lg ++ [(T.map (·.1), ups.map (·.1))])
  | none => False
 | .sc c b body y d r, K, st, lg => match get st.tm c with
  | some (.d (.bool x)) => ∃ (yv : Bool) (hp : List (Nat × Obj)) (l : Log), l.length = body.len ∧ (x = b → wpsL P body (fun st' l' => val (get st'.tm) y = some (.d (.bool yv)) ∧ st'.hp = hp ∧ l' = l) st []) ∧
    (x ≠ b → hp = st.hp) ∧ wpsL P r K ⟨put (drops st.tm body.dsts) d (.d (.bool (if b then x && yv else x || yv))), hp⟩ (lg ++ (l ++ [([], [])]))
  | _ => False
def TRep (β : Blocks) (A : Nat → Prop) (w : World) (H : Heap) (τ : Tmps) (a : Act) : Prop :=
 ∀ t v, τ t = some v → ∃ u, a.tmps[t]? = some u ∧ VRep β A w H v u
def base (D : Nat → Prop) : Av → Prop
 | .d _ => True
 | .ref i _ | .ms i _ | .sub i _ _ _ | .el i _ _ _ | .mp i => D i
 | _ => False
def D0 (i : Nat) : Prop := 1000 ≤ i
def Wk (D : Nat → Prop) (st st' : St) : Prop := ∀ β A w a, Core β A w (get st.hp) → TRep β A w (get st.hp) (get st.tm) a →
 ∃ β' A', Core β' A' w (get st'.hp) ∧ TRep β' A' w (get st'.hp) (get st'.tm) a ∧
  (∀ i o b, get st'.hp i = some o → o.live = true → β' i = some b → ∃ i' o', get st.hp i' = some o' ∧ o'.live = true ∧ β i' = some b) ∧
  (∀ b, A' b → A b ∨ ∃ i o, get st.hp i = some o ∧ o.live = true ∧ β i = some b) ∧
  ∀ c u, base D c → VRep β A w (get st.hp) c u → VRep β' A' w (get st'.hp) c u
def nomeet (a b : List Nat) : Bool := a.all fun x => !b.contains x
def apartL (x y : List Nat × List Nat) : Bool := nomeet x.2 y.1 && nomeet x.2 y.2 && nomeet x.1 y.2
def apartAll (lg : Log) : List (Nat × Nat) → Bool
 | [] => true
 | (i, j) :: r => apartL (lg.getD i ([], [])) (lg.getD j ([], [])) && apartAll lg r
structure Ent where
 β : Blocks
 A : Nat → Prop
 w : World
 H : Heap
 D : Nat → Prop
 ro : Option Nat
structure Since (E : Ent) (β : Blocks) (A : Nat → Prop) (w : World) (H : Heap) : Prop where
 os : w.os = E.w.os
 tape : w.tape = E.w.tape
 output : w.output = E.w.output
 size : E.w.heap.size ≤ w.heap.size
 same : ∀ b, b < E.w.heap.size → (∀ i o, E.H i = some o → o.live → E.β i ≠ some b) → w.heap[b]? = E.w.heap[b]?
 loops : ∀ (b : Nat) r, E.w.heap[b]? = some (.loop r) → ∃ r', w.heap[b]? = some (.loop r')
 data : ∀ b, A b → E.A b ∨ E.w.heap.size ≤ b ∨ ∃ i o, E.H i = some o ∧ o.live ∧ E.β i = some b
 mine : ∀ i o b, H i = some o → o.live → β i = some b → E.w.heap.size ≤ b ∨ ∃ i' o', E.H i' = some o' ∧ o'.live ∧ E.β i' = some b
 vals : ∀ c u, base E.D c → VRep E.β E.A E.w E.H c u → VRep β A w H c u
theorem Since.trans {E : Ent} {β : Blocks} {A : Nat → Prop} {w : World} {H : Heap} {β' : Blocks} {A' : Nat → Prop} {w' : World} {H' : Heap}
  (h1 : Since E β A w H) (h2 : Stp β A w H β' A' w' H') : Since E β' A' w' H' where
 os := h2.os.trans h1.os
 tape := h2.tape.trans h1.tape
 output := h2.output.trans h1.output
 size := Nat.le_trans h1.size h2.size
 same b hb hn := by
  rw [h2.same b (Nat.lt_of_lt_of_le hb h1.size) ?_, h1.same b hb hn];intro i o hi ho hbi;rcases h1.mine i o b hi ho hbi with h | ⟨i', o', hi', ho', hb'⟩
  ·omega
  ·exact hn i' o' hi' ho' hb'
 loops b r h := by
  obtain ⟨r', h'⟩ := h1.loops b r h;exact h2.loops b r' h'
 data b hb := by
  rcases h2.data b hb with h | h | ⟨i, o, hi, ho, hbi⟩
  ·exact h1.data b h
  ·exact .inr (.inl (Nat.le_trans h1.size h))
  ·rcases h1.mine i o b hi ho hbi with h | h
   ·exact .inr (.inl h)
   ·exact .inr (.inr h)
 mine i o b hi ho hbi := by
  rcases h2.mine i o b hi ho hbi with h | ⟨i', o', hi', ho', hb'⟩
  ·exact .inl (Nat.le_trans h1.size h)
  ·exact h1.mine i' o' b hi' ho' hb'
 vals c u hb h := h2.vals c u (h1.vals c u hb h)
def Marks (E : Ent) (a : Act) (w : World) (β : Blocks) (A : Nat → Prop) (H : Heap) : Prop :=
 ∃ ms : List Nat, ms.Nodup ∧ a.defers = ms.map (fun r => { target := .collected r, args := #[] }) ∧
  ∀ r ∈ ms, E.w.heap.size ≤ r ∧ w.heap[r]? = some (.deferred (some [])) ∧ ¬ A r ∧ ∀ i o, H i = some o → o.live = true → β i ≠ some r
structure Sat (E : Ent) (N : Nat) (st : St) (a : Act) (w : World) (β : Blocks) (A : Nat → Prop) : Prop where
 core : Core β A w (get st.hp)
 tmps : TRep β A w (get st.hp) (get st.tm) a
 size : a.tmps.size = N
 since : Since E β A w (get st.hp)
 marks : Marks E a w β A (get st.hp)
 round : ∀ l, E.ro = some l → ∃ r, w.heap[l]? = some (.loop r)
end Av
namespace Av
open Go
variable [Glb] [Rls]
def szT (P : Program) (t : TypeId) : Option Nat := (P.info? t).map (·.size)
def agT (P : Program) (t : TypeId) : Option Bool := match P.underlying t with
 | some (.struct _) | some (.array _ _) => some true
 | some _ => some false
 | none => none
def shT (P : Program) (t : TypeId) : Option (Option Nat) := match agT P t, szT P t with
 | some true, some n => some (some n)
 | some false, some 1 => some none
 | _, _ => none
def elT (P : Program) (t : TypeId) : Option TypeId := match P.underlying t with
 | some (.slice e) => some e
 | _ => none
def cellTs (P : Program) : Nat → TypeId → Option (List TypeId)
 | 0, _ => none
 | n + 1, t => match P.underlying t with
  | some (.struct fs) => fs.toList.foldr (fun f r => match cellTs P n f.type, r with
   | some a, some b => some (a ++ b)
   | _, _ => none) (some [])
  | some (.array k e) => (cellTs P n e).map fun l => (List.replicate k l).flatten
  | some _ => some [t]
  | none => none
def zeroCell (P : Program) (t : TypeId) : Option Dat := match P.underlying t with
 | some (.int k) => some (.int k 0)
 | some .bool => some (.bool false)
 | some .string => some (.str [])
 | some (.slice e) => (szT P e).map .nil
 | some (.pointer _) => some .nilPtr
 | some (.map _ _) => some .nilMap
 | some (.func _ _ _) => some .nilFn
 | some (.interface _) => some .nilIface
 | _ => none
def sameC : Dat → Value → Bool
 | .int k n, .int k' m => k == k' && n == m && decide (k.min ≤ n ∧ n ≤ k.max)
 | .bool a, .bool b => a == b
 | .str l, .string s => l == s.data.toList && decide (l.length ≤ 68719476736)
 | .nil _, .slice _ 0 0 => true
 | .nilPtr, .pointer none => true
 | .nilMap, .map none => true
 | .nilFn, .nilFunc => true
 | .nilIface, .nilIface => true
 | .fn (.func f) [] [], .func (.func g) a b => f == g && a.size == 0 && b.size == 0
 | _, _ => false
def sameCs : List Dat → List Value → Bool
 | [], [] => true
 | x :: xs, v :: vs => sameC x v && sameCs xs vs
 | _, _ => false
def allSome {α : Type} : List (Option α) → Option (List α)
 | [] => some []
 | some x :: r => (allSome r).map (x :: ·)
 | none :: _ => none
def zsT (P : Program) (t : TypeId) : Option (List Dat) := match P.info? t with
 | some i => match i.zero, cellTs P 12 t with
  | some z, some ts => match allSome (ts.map (zeroCell P)) with
   | some ds => if sameCs ds z.cells.toList && ds.length == i.size then some ds else none
   | none => none
  | _, _ => none
 | none => none
def constC (P : Program) (t : TypeId) : Value → Option Dat
 | .bool b => some (.bool b)
 | .int k n => if k.min ≤ n ∧ n ≤ k.max then some (.int k n) else none
 | .string s => if s.data.toList.length ≤ 68719476736 then some (.str s.data.toList) else none
 | .slice _ 0 0 => match elT P t with
  | some e => (szT P e).map .nil
  | none => none
 | .pointer none => some .nilPtr
 | .map none => some .nilMap
 | .nilFunc => some .nilFn
 | .nilIface => some .nilIface
 | .func (.func f) a b => if a.size = 0 ∧ b.size = 0 then some (.fn (.func f) [] []) else none
 | _ => none
def constD (P : Program) (t : TypeId) : Value → Option Dat
 | .agg cs => match cellTs P 12 t with
  | some ts => if ts.length = cs.size then (allSome ((ts.zip cs.toList).map fun (t, v) => constC P t v)).map .agg else none
  | none => none
 | v => constC P t v
def opd (P : Program) (t : TypeId) : Operand → Option Opd
 | .tmp n => some (.t n)
 | .const v => (constD P t v).map .k
 | .func f => some (.k (.fn (.func f) [] []))
 | .global g => some (.k (.glo g))
def opdO (P : Program) (t : TypeId) : Option Operand → Option (Option Opd)
 | none => some none
 | some x => (opd P t x).map some
def ckT (P : Program) (t : TypeId) : Option Ck := match P.underlying t with
 | some (.int _) => some .i
 | some .bool => some .b
 | some .string => some .s
 | _ => none
def flatFields (P : Program) : Nat → List Field → Option (List Ck)
 | _, [] => some []
 | i, f :: r => if f.name ≠ "_" ∧ f.offset = i then match ckT P f.type, flatFields P (i + 1) r with
  | some c, some cs => some (c :: cs)
  | _, _ => none else none
def trBin (P : Program) (op : BinOp) (t : TypeId) (y : Operand) : Option Bk :=
 match P.underlying t with
 | some (.int _) => match op with
  | .add => some .add | .sub => some .sub | .mul => some .mul | .quo => some .quo | .rem => some .rem
  | .eql => some .eql | .neq => some .neq | .lss => some .lss | .leq => some .leq | .gtr => some .gtr | .geq => some .geq
  | _ => none
 | some .string => match op with
  | .add => some .cat | .eql => some .seq | .neq => some .sne | .lss => some .slt | .leq => some .sle | .gtr => some .sgt | .geq => some .sge
  | _ => none
 | some .bool => match op with
  | .eql => some .beq | .neq => some .bne
  | _ => none
 | some (.interface _) => match op, y with
  | .eql, .const .nilIface => some .nileq
  | .neq, .const .nilIface => some .nilne
  | _, _ => none
 | some (.struct fs) => match flatFields P 0 fs.toList with
  | some ks => if P.stoodInHeld t = false ∧ P.eqGuardType P.depth t = false then match op with
   | .eql => some (.teq ks) | .neq => some (.tne ks)
   | _ => none else none
  | none => none
 | _ => none
def intT (P : Program) : TypeId := P.rt.int
def trOpA (P : Program) (o : Oper) : Option IOp :=
 match o.op with
 | .move x | .assign x => (opd P o.type x).map .mov
 | .alloc e => (zsT P e).map .new
 | .box e x => (opd P e x).map .box
 | .build t parts => match P.underlying t, zsT P t with
  | some (.struct fs), some zs => match fs.toList.mapM (fun f => (P.info? f.type).map fun i => (f.offset, i.size)) with
   | some places => (allSome (parts.toList.map fun (i, x) => match places.toArray[i]?, fs[i]? with
    | some p, some f => (opd P f.type x).map fun x => (p.1, p.2, x)
    | _, _ => none)).map (.bld zs)
   | none => none
  | some (.array _ e), some zs => match szT P e with
   | some n => (allSome (parts.toList.map fun (i, x) => (opd P e x).map fun x => (i * n, n, x))).map (.bld zs)
   | none => none
  | _, _ => none
 | .buildSlice t n parts => match elT P t with
  | some e => match szT P e, P.info? e with
   | some sz, some i => if 0 < sz ∧ n * sz ≤ 16777216 ∧ parts.toList.map (·.1) = List.range n ∧ i.zero.isSome then
     (allSome (parts.toList.map fun (_, x) => opd P e x)).map (.bls sz) else none
   | _, _ => none
  | none => none
 | .load t a => match shT P t, opd P t a with
  | some n, some a => some (.ld n a)
  | _, _ => none
 | .store t a v => match shT P t, opd P t a, opd P t v with
  | some n, some a, some v => some (.sto n a v)
  | _, _, _ => none
 | .nilCheck x => (opd P 0 x).map .nck
 | .binOp op t x y t' => match trBin P op t y, opd P t x, opd P t y with
  | some b, some x, some y => if t' = t then some (.bin b x y) else none
  | _, _, _ => none
 | .unOp op t x => match op, P.underlying t, opd P t x with
  | .not, _, some x => some (.not x)
  | .neg, some (.int k), some x => some (.neg k x)
  | _, _, _ => none
 | .convert s t x => match P.underlying s, P.underlying t, opd P s x with
  | some (.int _), some (.int k), some x => some (.cvi k x)
  | _, _, _ => none
 | .makeInterface t x => match P.underlying t, opd P t x with
  | some (.interface _), _ => none
  | some _, some x => some (.ifc t x)
  | _, _ => none
 | .makeFunc fn first cap => match allSome (first.toList.map (opd P 0)), allSome (cap.toList.map (opd P 0)) with
  | some fs, some cs => some (.fnv fn fs cs)
  | _, _ => none
 | .makeSlice t l c => match elT P t with
  | some e => match szT P e, zsT P e, P.info? e, agT P e, opd P (intT P) l, opd P (intT P) c with
   | some sz, some zs, some i, some ag, some l, some c => if 0 < sz ∧ zs.length = sz ∧ i.bytes ≤ 1024 ∧ (ag = true → sz ≠ 1) then some (.mks sz zs l c) else none
   | _, _, _, _, _, _ => none
  | none => none
 | .slice t x lo hi mx => match P.underlying t, opd P t x, opdO P (intT P) lo, opdO P (intT P) hi, opdO P (intT P) mx with
  | some .string, some x, some lo, some hi, some none => some (.sls x lo hi)
  | some (.slice e), some x, some lo, some hi, some mx => (szT P e).map fun sz => .slc sz x lo hi mx
  | _, _, _, _, _ => none
 | .fieldAddr t x f => match P.underlying t, opd P t x with
  | some (.struct fs), some x => match fs[f]? with
   | some fd => match szT P fd.type with
    | some n => if n ≠ 0 then some (.fa x fd.offset) else none
    | none => none
   | none => none
  | _, _ => none
 | .field t x f => match P.underlying t, opd P t x with
  | some (.struct fs), some x => match fs[f]? with
   | some fd => (shT P fd.type).map fun n => .fld n x fd.offset
   | none => none
  | _, _ => none
 | .indexAddr t x i => match P.underlying t, opd P t x, opd P (intT P) i with
  | some (.slice e), some x, some i => match szT P e, agT P e with
   | some sz, some ag => if 0 < sz then some (.ixa ag sz x i) else none
   | _, _ => none
  | some (.array len e), some x, some i => match szT P e with
   | some sz => if 0 < sz then some (.ixr len sz x i) else none
   | none => none
  | _, _, _ => none
 | .index t x i => match P.underlying t, opd P t x, opd P (intT P) i with
  | some .string, some x, some i => some (.ixs x i)
  | some (.array len e), some x, some i => match shT P e, szT P e with
   | some n, some sz => some (.ixv n len sz x i)
   | _, _ => none
  | _, _, _ => none
 | .extract x i => (opd P 0 x).map fun x => .ext x i
 | .call { callee := .builtin .len, args, argTypes } => match args.toList, argTypes.toList with
  | [x], [t] => match P.underlying t, opd P t x with
   | some .string, some x => some (.slen x)
   | some (.slice _), some x => some (.len x)
   | _, _ => none
  | _, _ => none
 | .call { callee := .builtin .append, args, argTypes } => match args.toList, argTypes.toList with
  | [x, y], [t, t'] => match elT P t, elT P t', opd P t x, opd P t' y with
   | some e, some _, some x, some y => match szT P e, zsT P e, P.info? e, agT P e with
    | some sz, some zs, some i, some ag => if 0 < sz ∧ zs.length = sz ∧ i.bytes ≤ 1024 ∧ (ag = true → sz ≠ 1) then some (.app sz x y) else none
    | _, _, _, _ => none
   | _, _, _, _ => none
  | _, _ => none
 | .call { callee := .builtin .min, args, argTypes } => match args.toList, argTypes.toList with
  | [x, y], t :: _ => match P.underlying t, opd P t x, opd P t y with
   | some (.int _), some x, some y => some (.mn x y)
   | _, _, _ => none
  | _, _ => none
 | .call { callee := .builtin .max, args, argTypes } => match args.toList, argTypes.toList with
  | [x, y], t :: _ => match P.underlying t, opd P t x, opd P t y with
   | some (.int _), some x, some y => some (.mx x y)
   | _, _, _ => none
  | _, _ => none
 | _ => none
def zeroD (P : Program) (t : TypeId) : Option Dat := match P.info? t, zsT P t with
 | some i, some zs => match i.zero with
  | some (.agg arr) => if sameCs zs arr.toList then some (.agg zs) else none
  | some z => match zs with
   | [x] => if sameC x z then some x else none
   | _ => none
  | none => none
 | _, _ => none
def isBit : BinOp → Bool
 | .and | .or | .xor | .andNot | .shl | .shr => true
 | _ => false
def trOpB (P : Program) (o : Oper) : Option IOp :=
 match o.op with
 | .binOp op t x y _ => if isBit op then match opd P t x, opd P t y with
   | some x, some y => some (.bit op x y)
   | _, _ => none else none
 | .convert s t x => match P.underlying s, P.underlying t, opd P s x with
  | some .string, some (.slice e), some x => match P.underlying e with
   | some (.int .u8) => if szT P e = some 1 then some (.s2b x) else none
   | _ => none
  | some (.slice e), some .string, some x => match P.underlying e with
   | some (.int .u8) => if szT P e = some 1 then some (.b2s x) else none
   | _ => none
  | some (.int _), some .string, some x => some (.i2s x)
  | _, _, _ => none
 | .makeMap _ none => some .mkm
 | .mapUpdate t m k v => match P.underlying t with
  | some (.map kt et) => match ckT P kt, opd P t m, opd P kt k, opd P et v with
   | some c, some m, some k, some v => some (.mpu c m k v)
   | _, _, _, _ => none
  | _ => none
 | .insert t m k v => match P.underlying t with
  | some (.map kt et) => match ckT P kt, opd P t m, opd P kt k, opd P et v with
   | some c, some m, some k, some v => some (.mpu c m k v)
   | _, _, _, _ => none
  | _ => none
 | .lookup t x i ok => match P.underlying t with
  | some (.map kt et) => match ckT P kt, opd P t x, opd P kt i, zeroD P et with
   | some c, some x, some i, some z => some (.lkp c z x i ok)
   | _, _, _, _ => none
  | _ => none
 | .range t x => match P.underlying t, opd P t x with
  | some .string, some x => some (.rgs x)
  | _, _ => none
 | .next it true => (opd P 0 it).map .nxs
 | _ => none
def trOp (P : Program) (o : Oper) : Option IOp :=
 match o.op with
 | .defer _ | .pick _ _ _ => none
 | _ => match trOpA P o with
  | some i => some i
  | none => match trOpB P o with
   | some i => some i
   | none => some .bad
end Av
namespace Av
open Go
variable [Glb] [Rls]
variable {x : Dat} {u v : Value}
section
variable {P : Program} {β : Blocks} {A : Nat → Prop} {w : World} {H : Heap} {τ : Tmps} {a : Act}
theorem Rep.one_of (h : Rep A w x u) (hx : ∀ cs, x ≠ .agg cs) : u.oneCell' = true := by
 cases h <;> first | rfl | assumption | exact absurd rfl (hx _)
theorem cells_of_one (h : u.oneCell' = true) : u.cells = #[u] := by
 cases u <;> first | rfl | cases h
theorem Rep.cells_ok (h : Rep A w x u) : x.cells.length = u.cells.size ∧ (∀ v ∈ u.cells.toList, v.oneCell' = true) ∧
  ∀ (i : Nat) c v, x.cells[i]? = some c → u.cells[i]? = some v → Rep A w c v := by
 by_cases hx : ∃ cs, x = .agg cs
 ·obtain ⟨cs, rfl⟩ := hx;cases h with
  | agg _ arr hl h1 hv => exact ⟨hl, h1, hv⟩
 ·have hx' : ∀ cs, x ≠ .agg cs := fun cs e => hx ⟨cs, e⟩
  have h1 := h.one_of hx';have hc : x.cells = [x] := by cases x <;> first | rfl | exact absurd rfl (hx' _)
  rw [cells_of_one h1, hc];refine ⟨rfl, by simpa using h1, ?_⟩;intro i c v e1 e2;cases i with
  | zero => simp at e1 e2; rw [← e1, ← e2]; exact h
  | succ i => simp at e1
theorem VRep.one_of {c : Av} (h : VRep β A w H c u) (h1 : ∀ ds, c ≠ .d (.agg ds)) (h2 : ∀ cs, c ≠ .agg cs) (h3 : ∀ cs, c ≠ .tup cs) (h4 : c ≠ .any) (h5 : c ≠ .und) : u.oneCell' = true := by
 cases h with
 | d x u hr => exact hr.one_of fun cs e => h1 cs (by rw [e])
 | agg => exact absurd rfl (h2 _)
 | tup => exact absurd rfl (h3 _)
 | any => exact absurd rfl h4
 | und => exact absurd rfl h5
 | clo => rfl
 | ref i off b p u hu => rw [hu]; rfl
 | el i ver k off b p u hu => rw [hu]; rfl
 | _ => assumption
theorem VRep.cells_ok {c : Av} {cs : List Av} (h : VRep β A w H c u) (hc : c.cells = some cs) : cs.length = u.cells.size ∧ (∀ v ∈ u.cells.toList, v.oneCell' = true) ∧
  ∀ (i : Nat) c v, cs[i]? = some c → u.cells[i]? = some v → VRep β A w H c v := by
 have single : ∀ (_ : u.oneCell' = true) (_ : c.cells = some [c]), cs.length = u.cells.size ∧ (∀ v ∈ u.cells.toList, v.oneCell' = true) ∧
  ∀ (i : Nat) c v, cs[i]? = some c → u.cells[i]? = some v → VRep β A w H c v := by
  intro h1 h2;rw [hc] at h2;cases h2;rw [cells_of_one h1];refine ⟨rfl, by simpa using h1, ?_⟩;intro i c' v e1 e2;cases i with
  | zero => simp at e1 e2; rw [← e1, ← e2]; exact h
  | succ i => simp at e1
 cases h with
 | d x u hr =>
  by_cases hx : ∃ ds, x = .agg ds
  ·obtain ⟨ds, rfl⟩ := hx;cases hc;obtain ⟨h1, h2, h3⟩ := hr.cells_ok;refine ⟨by simpa [Dat.cells] using h1, h2, ?_⟩;intro i c v e1 e2;rw [List.getElem?_map] at e1;cases e : ds[i]? with
   | none => simp [e] at e1
   | some y => simp [e] at e1; rw [← e1]; exact .d _ _ (h3 i y v e e2)
  ·have hx' : ∀ cs, x ≠ .agg cs := fun cs e => hx ⟨cs, e⟩
   exact single (hr.one_of hx') (by cases x <;> first | rfl | exact absurd rfl (hx' _))
 | ref i off b p u hu h0 h1 h2 => exact single (by rw [hu]; rfl) rfl
 | ms i ver u hu h0 h1 h2 => exact single hu rfl
 | sub i ver off len u hu h0 h1 h2 => exact single hu rfl
 | el i ver k off b p u hu h0 h1 => exact single (by rw [hu]; rfl) rfl
 | mp i u hu h0 h1 h2 h3 => exact single hu rfl
 | clo f fs cs a1 a2 h1 h2 hf hv => exact single rfl rfl
 | agg cs arr hl h1 hv => cases hc; exact ⟨hl, h1, hv⟩
 | tup cs arr hl hv => cases hc
 | any u => cases hc
 | und => cases hc
theorem allD_ok : ∀ {cs : List Av} {ds : List Dat}, allD cs = some ds → cs = ds.map .d
 | [], ds, h => by simp [allD] at h; subst h; rfl
 | c :: r, ds, h => by
  cases c with
  | d x =>
   simp only [allD] at h;cases e : allD r with
   | none => simp [e] at h
   | some ds' => simp [e] at h; subst h; simp [allD_ok e]
  | _ => simp [allD] at h
theorem VRep.of_d (h : VRep β A w H (.d x) u) : Rep A w x u := by cases h; assumption
theorem mkAgg_ok {cs : List Av} {arr : Array Value} (hl : cs.length = arr.size) (h1 : ∀ v ∈ arr.toList, v.oneCell' = true)
  (hv : ∀ (i : Nat) c v, cs[i]? = some c → arr[i]? = some v → VRep β A w H c v) : VRep β A w H (mkAgg cs) (.agg arr) := by
 unfold mkAgg;cases e : allD cs with
 | none => exact .agg cs arr hl h1 hv
 | some ds =>
  have := allD_ok e;subst this;refine .d _ _ (.agg ds arr (sX hl) h1 fun i c v e1 e2 => (hv i (.d c) v ?_ e2).of_d);rw [List.getElem?_map, e1]; rfl
theorem sameC_ok (h : sameC x v = true) : Rep A w x v := by
 unfold sameC at h;split at h
 ·simp at h; obtain ⟨⟨rfl, rfl⟩, h⟩ := h; exact .int _ _ h
 ·simp at h; subst h; exact .bool _
 ·rename_i l s;simp at h;obtain ⟨rfl, h⟩ := h;have : Rep A w (.str s.data.toList) (.string ⟨s.data.toList.toArray⟩) := .str _ (sX h);simpa using this
 ·exact .nil _ _
 ·exact .nilPtr
 ·exact .nilMap
 ·exact .nilFn
 ·exact .nilIface
 ·rename_i f g a b;simp at h;obtain ⟨⟨rfl, ha⟩, hb⟩ := h;exact .fn _ _ _ _ _ (by simp [ha]) (by simp [hb]) sP sP
 ·cases h
theorem sameC_one (h : sameC x v = true) : v.oneCell' = true := by
 unfold sameC at h;split at h <;> first | rfl | cases h
theorem sameCs_ok : ∀ {xs : List Dat} {vs : List Value}, sameCs xs vs = true → xs.length = vs.length ∧ (∀ v ∈ vs, v.oneCell' = true) ∧
  ∀ (i : Nat) c v, xs[i]? = some c → vs[i]? = some v → Rep A w c v
 | [], [], _ => ⟨rfl, sP, sP⟩
 | x :: xs, v :: vs, h => by
  simp only [sameCs, Bool.and_eq_true] at h;obtain ⟨h1, h2, h3⟩ := sameCs_ok h.2;refine ⟨by simp [h1], ?_, ?_⟩
  ·intro u hu;rcases List.mem_cons.1 hu with rfl | hu
   ·exact sameC_one h.1
   ·exact h2 _ hu
  ·intro i c u e1 e2;cases i with
   | zero => simp at e1 e2; rw [← e1, ← e2]; exact sameC_ok h.1
   | succ i => exact h3 i c u (sX e1) (sX e2)
 | [], _ :: _, h => by simp [sameCs] at h
 | _ :: _, [], h => by simp [sameCs] at h
theorem constC_ok {t : TypeId} (h : constC P t v = some x) : Rep A w x v ∧ v.oneCell' = true := by
 unfold constC at h;split at h
 ·cases h; exact ⟨.bool _, rfl⟩
 ·split at h
  ·cases h; rename_i hk; exact ⟨.int _ _ hk, rfl⟩
  ·cases h
 ·rename_i s;split at h
  ·rename_i hl;cases h;have : Rep A w (.str s.data.toList) (.string ⟨s.data.toList.toArray⟩) := .str _ hl;exact ⟨by simpa using this, rfl⟩
  ·cases h
 ·split at h
  ·cases e : szT P (by assumption) with
   | none => simp [e] at h
   | some n => simp [e] at h; subst h; exact ⟨.nil _ _, rfl⟩
  ·cases h
 ·cases h; exact ⟨.nilPtr, rfl⟩
 ·cases h; exact ⟨.nilMap, rfl⟩
 ·cases h; exact ⟨.nilFn, rfl⟩
 ·cases h; exact ⟨.nilIface, rfl⟩
 ·split at h
  ·rename_i hab;cases h;exact ⟨.fn _ _ _ _ _ (by simp [hab.1]) (by simp [hab.2]) sP sP, rfl⟩
  ·cases h
 ·cases h
theorem allSome_ok {α : Type} : ∀ {l : List (Option α)} {r : List α}, allSome l = some r → l = r.map some
 | [], r, h => by simp [allSome] at h; subst h; rfl
 | some x :: l, r, h => by
  simp only [allSome] at h;cases e : allSome l with
  | none => simp [e] at h
  | some r' => simp [e] at h; subst h; simp [allSome_ok e]
 | none :: l, r, h => by simp [allSome] at h
theorem constD_ok {t : TypeId} (h : constD P t v = some x) : Rep A w x v := by
 unfold constD at h;split at h
 ·rename_i cs;split at h
  ·rename_i ts _;split at h
   ·rename_i hl;cases e : allSome ((ts.zip cs.toList).map fun (t, v) => constC P t v) with
    | none => simp [e] at h
    | some ds =>
     simp [e] at h;subst h;have h2 := allSome_ok e;have hlen : ds.length = cs.size := by
      have := congrArg List.length h2;simp at this;omega
     have hat : ∀ (i : Nat) c v, ds[i]? = some c → cs[i]? = some v → ∃ t, constC P t v = some c := by
      intro i c v e1 e2;have := congrArg (fun l => l[i]?) h2;simp only [List.getElem?_map, e1, Option.map_some] at this;have hts : i < ts.length := by
       have := (List.getElem?_eq_some_iff.1 e1).1;omega
      have hz : (ts.zip cs.toList)[i]? = some (ts[i], v) := by
       rw [List.getElem?_zip_eq_some];exact ⟨by simp [hts], by simpa using e2⟩
      rw [hz] at this;exact ⟨ts[i], by simpa using this⟩
     refine .agg ds cs hlen ?_ ?_
     ·intro v hv;obtain ⟨i, hi, rfl⟩ := List.getElem_of_mem hv;have hi' : i < cs.size := sX hi;obtain ⟨t, ht⟩ := hat i (ds[i]'oM) cs[i] sP sP;have := (constC_ok (A := A) (w := w) ht).2;simpa using this
     ·intro i c v e1 e2;obtain ⟨t, ht⟩ := hat i c v e1 e2;exact (constC_ok ht).1
   ·cases h
  ·cases h
 ·exact (constC_ok h).1
theorem opd_ok {t : TypeId} {x : Operand} {y : Opd} {v : Av} (h : opd P t x = some y) (hv : val τ y = some v) (ht : TRep β A w H τ a) : VRep β A w H v (a.eval x) := by
 cases x with
 | tmp n =>
  cases h;obtain ⟨u, h1, h2⟩ := ht n v hv;simpa [Act.eval, Array.getD_eq_getD_getElem?, h1] using h2
 | const c =>
  simp only [opd] at h;cases e : constD P t c with
  | none => simp [e] at h
  | some d => simp [e] at h; subst h; cases hv; exact .d _ _ (constD_ok e)
 | global g =>
  cases h;cases hv;exact .d _ _ (.glo g)
 | func f =>
  cases h;cases hv;exact .d _ _ (.fn _ _ _ _ _ rfl rfl sP sP)
end
end Av
namespace Av
open Go
variable [Glb] [Rls]
variable {u v : Value} {x y : Operand} {op : BinOp} {k : IntKind} {m n : Int} {b : Bk} {C : Prop} {d : Dat}
theorem allSome_get {α β : Type} {f : α → Option β} : ∀ {l : List α} {r : List β}, allSome (l.map f) = some r → l.length = r.length ∧ ∀ (i : Nat) x, l[i]? = some x → ∃ y, r[i]? = some y ∧ f x = some y
 | [], r, h => by simp [allSome] at h; subst h; exact ⟨rfl, sP⟩
 | x :: l, r, h => by
  have h2 := allSome_ok h;cases r with
  | nil => simp at h2
  | cons y r =>
   simp only [List.map_cons, List.cons.injEq] at h2;refine ⟨by have := congrArg List.length h2.2; simpa using this, ?_⟩;intro i z hz;cases i with
   | zero => simp at hz; subst hz; exact ⟨y, rfl, h2.1⟩
   | succ i =>
    have e := congrArg (fun l => l[i]?) h2.2;simp only [List.getElem?_map] at e;simp at hz;rw [hz] at e;cases hr : r[i]? with
    | none => simp [hr] at e
    | some y' => simp [hr] at e; exact ⟨y', by simpa using hr, e⟩
def Runs (P : Program) (ρ : Operand → Value) (o : Oper) (w : World) (β : Blocks) (A : Nat → Prop) (H : Heap) (v : Av) (ups : List (Nat × Obj)) : Prop :=
 ∃ u β' A' w', ((execOp ρ o).run P w = .ok (.value u) w' ∨ ((execOp ρ o).run P w = .ok .skip w' ∧ u = undef)) ∧
  Stp β A w H β' A' w' (hputs H ups) ∧ VRep β' A' w' (hputs H ups) v u
section
variable {P : Program} {β : Blocks} {A : Nat → Prop} {w : World} {H : Heap} {τ : Tmps} {a : Act} {o : Oper}
theorem Runs.pure {ρ : Operand → Value} {v : Av} (hc : Core β A w H) (hr : (execOp ρ o).run P w = .ok (.value u) w) (hv : VRep β A w H v u) : Runs P ρ o w β A H v [] :=
 ⟨u, β, A, w, .inl hr, Stp.refl hc, hv⟩
theorem runs_move {y : Opd} {r : Res} (hc : Core β A w H) (ht : TRep β A w H τ a) (ho : o.op = .move x ∨ o.op = .assign x) (hx : opd P o.type x = some y)
  (hs : step τ H (o.dst.getD 0) (.mov y) = some r) : Runs P a.eval o w β A H r.v r.ups := by
 simp only [step] at hs;cases e : val τ y with
 | none => simp [e] at hs
 | some v =>
  simp [e] at hs;subst hs;exact Runs.pure hc (by rcases ho with ho | ho <;> simp [execOp, ho]) (opd_ok hx e ht)
theorem isAgg_run {t : TypeId} {b : Bool} (h : agT P t = some b) (w : World) : (isAgg t).run P w = .ok b w := by
 unfold agT at h;unfold isAgg;cases e : P.underlying t with
 | none => simp [e] at h
 | some d =>
  rw [Sem.run_bind, run_underlying e];cases d <;> simp_all
theorem sizeOf_run {t : TypeId} {n : Nat} (h : szT P t = some n) (w : World) : (Go.sizeOf t).run P w = .ok n w := by
 unfold szT at h;cases e : P.info? t with
 | none => simp [e] at h
 | some i => simp [e] at h; simp [Go.sizeOf, typeInfo, e, h]
theorem zeroValue_run {t : TypeId} {i : TypeInfo} {z : Value} (h : P.info? t = some i) (hz : i.zero = some z) (w : World) : (zeroValue t).run P w = .ok z w := by
 simp [zeroValue, typeInfo, h, hz]
theorem zsT_ok {t : TypeId} {zs : List Dat} (h : zsT P t = some zs) : ∃ i z, P.info? t = some i ∧ i.zero = some z ∧ zs.length = i.size ∧ zs.length = z.cells.size ∧ (∀ v ∈ z.cells.toList, v.oneCell' = true) ∧
  ∀ (A : Nat → Prop) (w : World) (j : Nat) c v, zs[j]? = some c → z.cells[j]? = some v → Rep A w c v := by
 unfold zsT at h;cases e1 : P.info? t with
 | none => simp [e1] at h
 | some i =>
  simp only [e1] at h;cases e2 : i.zero with
  | none => simp [e2] at h
  | some z =>
   cases e3 : cellTs P 12 t with
   | none => simp [e2, e3] at h
   | some ts =>
    simp only [e2, e3] at h;cases e4 : allSome (ts.map (zeroCell P)) with
    | none => simp [e4] at h
    | some ds =>
     simp only [e4] at h;split at h
     ·rename_i hb;cases h;simp only [Bool.and_eq_true, beq_iff_eq] at hb;obtain ⟨h1, h2, _⟩ := sameCs_ok (A := fun _ => True) (w := default) hb.1;refine ⟨i, z, rfl, e2, hb.2, by simpa using h1, h2, fun A w j c v hc hv => (sameCs_ok hb.1).2.2 j c v hc (sX hv)⟩
     ·cases h
theorem wrap_wf (k : IntKind) (n : Int) : k.min ≤ k.wrap n ∧ k.wrap n ≤ k.max := by
 cases k <;> simp [IntKind.wrap, IntKind.min, IntKind.max, IntKind.signed, IntKind.bits] <;> (try split) <;> omega
theorem tmod_le_self (x y : Int) (hx : 0 ≤ x) : x.tmod y ≤ x := by
 obtain ⟨n, rfl⟩ := Int.eq_ofNat_of_zero_le hx;cases y with
 | ofNat m => exact Int.ofNat_le.2 (Nat.mod_le _ _)
 | negSucc m => exact Int.ofNat_le.2 (Nat.mod_le _ _)
theorem tmod_wf (k : IntKind) (x y : Int) (h : k.min ≤ x ∧ x ≤ k.max) : k.min ≤ x.tmod y ∧ x.tmod y ≤ k.max := by
 have h0 : k.min ≤ 0 ∧ 0 ≤ k.max := by cases k <;> decide
 rcases Int.le_total 0 x with hx | hx
 ·have h1 := Int.tmod_nonneg y hx;have h2 := tmod_le_self x y hx;omega
 ·have e : x.tmod y = - ((-x).tmod y) := by rw [Int.neg_tmod]; omega
  have h1 := Int.tmod_nonneg y (a := -x) oM;have h2 := tmod_le_self (-x) y oM;omega
theorem eqGuard_none {t : TypeId} (h1 : ∀ p, u ≠ .agg p) (h2 : u = .nilIface → v ≠ .nilIface ∨ ∃ c, y = .const c) (w : World) :
  (eqGuard op t x y u v).run P w = .ok () w := by
 cases op <;> first
  | rfl
  | (cases u <;> first
    | rfl
    | exact absurd rfl (h1 _)
    | (cases v <;> first
      | rfl
      | (rcases h2 rfl with h | ⟨c, rfl⟩
         ·exact absurd rfl h
         ·cases x <;> rfl)))
theorem intDiv_quo (h : n ≠ 0) (w : World) : (Op.intDiv .quo k m n).run P w = .ok (.int k (k.wrap (m.tdiv n))) w := by
 unfold Op.intDiv; rw [if_neg h]; rfl
theorem intDiv_rem (h : n ≠ 0) (w : World) : (Op.intDiv .rem k m n).run P w = .ok (.int k (m.tmod n)) w := by
 unfold Op.intDiv; rw [if_neg h]; rfl
theorem bin_int {t : TypeId} (hb : trBin P op t y = some b) (h : binInt k b m n = some (C, d)) (hC : C)
  (hm : k.min ≤ m ∧ m ≤ k.max) (w : World) :
  ∃ u, (binOp op t (.int k m) (.int k n)).run P w = .ok u w ∧ Rep A w d u := by
 unfold trBin at hb;split at hb
 ·split at hb <;> cases hb <;> simp only [binInt, Option.some.injEq, Prod.mk.injEq] at h <;> obtain ⟨rfl, rfl⟩ := h <;>
   first
   | (refine ⟨_, ?_, .bool _⟩; simp [binOp, Op.intCmp]; done)
   | (refine ⟨_, ?_, .int _ _ (wrap_wf _ _)⟩; simp [binOp, Op.intArith]; done)
   | (refine ⟨_, ?_, .int _ _ (wrap_wf _ _)⟩; simpa [binOp] using intDiv_quo hC w)
   | (refine ⟨_, ?_, .int _ _ (tmod_wf _ _ _ hm)⟩; simpa [binOp] using intDiv_rem hC w)
 ·split at hb <;> cases hb <;> simp [binInt] at h
 ·split at hb <;> cases hb <;> simp [binInt] at h
 ·split at hb <;> cases hb <;> simp [binInt] at h
 ·split at hb
  ·split at hb
   ·split at hb <;> cases hb <;> simp [binInt] at h
   ·cases hb
  ·cases hb
 ·cases hb
theorem bin_str {t : TypeId} {m n : List UInt8} (hb : trBin P op t y = some b) (h : binStr b m n = some (C, d)) (hC : C) (w : World) :
  ∃ u, (binOp op t (.string ⟨m.toArray⟩) (.string ⟨n.toArray⟩)).run P w = .ok u w ∧ Rep A w d u := by
 unfold trBin at hb;split at hb
 ·split at hb <;> cases hb <;> simp [binStr] at h
 ·split at hb <;> cases hb <;> simp only [binStr, Option.some.injEq, Prod.mk.injEq] at h <;> obtain ⟨rfl, rfl⟩ := h <;>
   first
   | (refine ⟨_, ?_, .bool _⟩; simp [binOp, Op.stringOp, strLt, ByteArray.toList_mk]; done)
   | (have e : (⟨(m ++ n).toArray⟩ : ByteArray) = ⟨m.toArray⟩ ++ ⟨n.toArray⟩ := by
       apply ByteArray.ext; simp
      refine ⟨.string (⟨m.toArray⟩ ++ ⟨n.toArray⟩), ?_, e ▸ .str _ hC⟩;have hz : ¬ ((((⟨m.toArray⟩ : ByteArray).size + (⟨n.toArray⟩ : ByteArray).size : Nat) : Int) > IntKind.i64.max) := by
       simp only [ByteArray.size, List.size_toArray, IntKind.max, IntKind.signed, IntKind.bits];rw [List.length_append] at hC;simp;omega
      simp only [binOp, Op.stringOp];rw [if_neg hz]
      rfl)
 ·split at hb <;> cases hb <;> simp [binStr] at h
 ·split at hb <;> cases hb <;> simp [binStr] at h
 ·split at hb
  ·split at hb
   ·split at hb <;> cases hb <;> simp [binStr] at h
   ·cases hb
  ·cases hb
 ·cases hb
theorem cellEq_run {c : Ck} {x y : Dat} {r : Bool} {t : TypeId} (hk : ckT P t = some c) (h : cellEq c x y = some r) (hx : Rep A w x u) (hy : Rep A w y v) (d : Nat) (w' : World) :
  (Op.equalIn (d + 1) t u v).run P w' = .ok r w' := by
 unfold cellEq at h;split at h
 ·split at h
  ·rename_i e;subst e;cases h;cases hx; cases hy;unfold ckT at hk;split at hk <;> cases hk
   exact run_equalIn_int w' d t _ _ _ _ (by assumption)
  ·cases h
 ·cases h;cases hx; cases hy;unfold ckT at hk;split at hk <;> cases hk
  exact run_equalIn_bool' w' d t _ _ (by assumption)
 ·cases h;cases hx; cases hy;unfold ckT at hk;split at hk <;> cases hk
  rw [run_equalIn_string w' d t _ _ (by assumption)];simp [ByteArray.toList_mk]
 ·cases h
theorem ckT_scalar {t : TypeId} {c : Ck} (h : ckT P t = some c) : agT P t = some false := by
 unfold ckT at h;unfold agT;split at h <;> simp_all
theorem eqFields_run (d : Nat) (xs ys : Array Value) (w' : World) : ∀ (fs : List Field) (k : Nat) (ks : List Ck) (a c : List Dat) (r : Bool), flatFields P k fs = some ks → cellsEq ks a c = some r →
  (∀ (i : Nat) x, a[i]? = some x → ∃ u, xs[k + i]? = some u ∧ Rep A w x u) → (∀ (i : Nat) x, c[i]? = some x → ∃ u, ys[k + i]? = some u ∧ Rep A w x u) →
  (Op.eqFields (d + 1) xs ys fs).run P w' = .ok r w'
 | [], k, ks, a, c, r, hf, hc, hx, hy => by
  simp only [flatFields, Option.some.injEq] at hf;subst hf;cases a <;> cases c <;> simp [cellsEq] at hc
  subst hc;simp [Op.eqFields]
 | f :: fs, k, ks, a, c, r, hf, hc, hx, hy => by
  simp only [flatFields] at hf;split at hf
  ·rename_i hn;obtain ⟨hn, ho⟩ := hn;cases e1 : ckT P f.type with
   | none => simp [e1] at hf
   | some kk =>
    cases e2 : flatFields P (k + 1) fs with
    | none => simp [e1, e2] at hf
    | some ks' =>
     simp only [e1, e2, Option.some.injEq] at hf;subst hf;cases a with
     | nil => simp [cellsEq] at hc
     | cons x a =>
      cases c with
      | nil => simp [cellsEq] at hc
      | cons y c =>
       simp only [cellsEq] at hc;cases e3 : cellEq kk x y with
       | none => simp [e3] at hc
       | some p =>
        cases e4 : cellsEq ks' a c with
        | none => simp [e3, e4] at hc
        | some q =>
         simp only [e3, e4, Option.some.injEq] at hc;subst hc;obtain ⟨u, hu, hru⟩ := hx 0 x rfl;obtain ⟨v, hv, hrv⟩ := hy 0 y rfl;simp only [Nat.add_zero] at hu hv;have ih := eqFields_run d xs ys w' fs (k + 1) ks' a c q e2 e4
          (fun i z hz => by have := hx (i + 1) z (sX hz); rwa [show k + (i + 1) = k + 1 + i by omega] at this)
          (fun i z hz => by have := hy (i + 1) z (sX hz); rwa [show k + (i + 1) = k + 1 + i by omega] at this)
         have hp : ∀ (zs : Array Value) z, zs[k]? = some z → (part f.type zs f.offset).run P w' = .ok z w' := by
          intro zs z hz;simp [part, Sem.run_bind, isAgg_run (ckT_scalar e1), ho, hz]
         simp only [Op.eqFields, ne_eq, hn, not_false_eq_true, if_true, Sem.run_bind, hp xs u hu, hp ys v hv, Result.andThen_ok, cellEq_run e1 e3 hru hrv d w'];cases p
         ·simp
         ·simp [ih]
  ·cases hf
theorem bin_struct {t : TypeId} {m n : List Dat} {xs ys : Array Value} (hb : trBin P op t y = some b) (h : binOpD b (.d (.agg m)) (.d (.agg n)) = some (C, d))
  (hx : Rep A w (.agg m) (.agg xs)) (hy : Rep A w (.agg n) (.agg ys)) (x : Operand) :
  (eqGuard op t x y (.agg xs) (.agg ys)).run P w = .ok () w ∧ ∃ u, (binOp op t (.agg xs) (.agg ys)).run P w = .ok u w ∧ Rep A w d u := by
 unfold trBin at hb;split at hb
 ·split at hb <;> cases hb <;> simp [binOpD] at h
 ·split at hb <;> cases hb <;> simp [binOpD] at h
 ·split at hb <;> cases hb <;> simp [binOpD] at h
 ·split at hb <;> cases hb <;> simp [binOpD] at h
 ·rename_i fs hfs;cases e : flatFields P 0 fs.toList with
  | none => simp [e] at hb
  | some ks =>
   simp only [e] at hb;split at hb
   ·rename_i hg;have hel : ∀ {zs : List Dat} {arr : Array Value}, Rep A w (.agg zs) (.agg arr) → ∀ (i : Nat) z, zs[i]? = some z → ∃ u, arr[0 + i]? = some u ∧ Rep A w z u := by
     intro zs arr hr i z hz;cases hr with
     | agg _ _ hl h1 hv =>
      have hi := (List.getElem?_eq_some_iff.1 hz).1;refine ⟨arr[i]'oM, by simp [show i < arr.size by omega], hv i z _ hz (by simp [show i < arr.size by omega])⟩
    have hfo : P.fieldsOf t = fs := by unfold Program.fieldsOf; rw [hfs]
    have main : ∀ r, cellsEq ks m n = some r → (Op.equalIn 10000 t (.agg xs) (.agg ys)).run P w = .ok r w := by
     intro r hr;rw [run_equalIn_struct w 9999 t xs ys (by rw [hfo, hfs]) hg.1, hfo];exact eqFields_run 9998 xs ys w fs.toList 0 ks m n r e hr (hel hx) (hel hy)
    refine ⟨run_eqGuard_agg w op t x y xs ys hg.2, ?_⟩;split at hb <;> cases hb
    ·simp only [binOpD] at h;cases e2 : cellsEq ks m n with
     | none => simp [e2] at h
     | some r =>
      simp only [e2, Option.some.injEq, Prod.mk.injEq] at h;rw [run_eql_struct, main r e2];exact ⟨_, rfl, h.2 ▸ .bool _⟩
    ·simp only [binOpD] at h;cases e2 : cellsEq ks m n with
     | none => simp [e2] at h
     | some r =>
      simp only [e2, Option.some.injEq, Prod.mk.injEq] at h;rw [run_neq_struct, main r e2];exact ⟨_, rfl, h.2 ▸ .bool _⟩
   ·cases hb
 ·cases hb
theorem isNil_ok {v : Av} (h : isNil v = some false) (hv : VRep β A w H v u) : (∃ t x, u = .iface t x) ∨ (∃ a, u = .pointer (some a)) ∨ ∃ f x y, u = .func (.func f) x y := by
 unfold isNil at h;split at h
 ·cases h
 ·cases h
 ·cases h
 ·cases h
 ·cases h; cases hv.of_d; simp
 ·cases h; cases hv.of_d; simp
 ·cases h; cases hv.of_d; simp
 ·cases h; cases hv.of_d; simp
 ·cases h; cases hv; simp
 ·cases h; cases hv with | ref _ _ b p _ hu => rw [hu]; simp
 ·cases h; cases hv with | el _ _ _ _ b p _ hu => rw [hu]; simp
 ·cases h
theorem equalIn_nilI (d : Nat) {t : TypeId} {ms : Array (String × TypeId)} (h : P.underlying t = some (.interface ms)) (w' : World) :
  (Op.equalIn (d + 1) t .nilIface .nilIface).run P w' = .ok true w' := by
 simp [Op.equalIn, run_underlying h]
theorem equalIn_someI (d : Nat) {t t' : TypeId} {x : Value} {ms : Array (String × TypeId)} (h : P.underlying t = some (.interface ms)) (w' : World) :
  (Op.equalIn (d + 1) t (.iface t' x) .nilIface).run P w' = .ok false w' := by
 simp [Op.equalIn, run_underlying h]
theorem bin_nil {t : TypeId} {m : Av} (hb : trBin P op t y = some b) (h : binOpD b m (.d .nilIface) = some (C, d))
  (hx : VRep β A w H m u) (hy : Rep A w .nilIface v) :
  (eqGuard op t x y u v).run P w = .ok () w ∧ ∃ z, (binOp op t u v).run P w = .ok z w ∧ Rep A w d z := by
 cases hy;have hr : ∃ r, isNilI m = some r ∧ ((b = .nileq ∧ d = .bool r) ∨ (b = .nilne ∧ d = .bool (!r))) := by
  unfold binOpD at h;split at h <;> try (simp at *; done)
  split at h
  ·rename_i r hr; cases h; exact ⟨r, hr, .inl ⟨rfl, rfl⟩⟩
  ·rename_i r hr; cases h; exact ⟨r, hr, .inr ⟨rfl, rfl⟩⟩
  ·cases h
 obtain ⟨r, hr, hbd⟩ := hr;have hty : ∃ ms, P.underlying t = some (.interface ms) ∧ y = .const .nilIface ∧ ((op = .eql ∧ b = .nileq) ∨ (op = .neq ∧ b = .nilne)) := by
  unfold trBin at hb;split at hb
  ·split at hb <;> cases hb <;> rcases hbd with ⟨h, _⟩ | ⟨h, _⟩ <;> cases h
  ·split at hb <;> cases hb <;> rcases hbd with ⟨h, _⟩ | ⟨h, _⟩ <;> cases h
  ·split at hb <;> cases hb <;> rcases hbd with ⟨h, _⟩ | ⟨h, _⟩ <;> cases h
  ·rename_i ms hms;split at hb
   ·cases hb; exact ⟨ms, hms, rfl, .inl ⟨rfl, rfl⟩⟩
   ·cases hb; exact ⟨ms, hms, rfl, .inr ⟨rfl, rfl⟩⟩
   ·cases hb
  ·split at hb
   ·split at hb
    ·split at hb <;> cases hb <;> rcases hbd with ⟨h, _⟩ | ⟨h, _⟩ <;> cases h
    ·cases hb
   ·cases hb
  ·cases hb
 obtain ⟨ms, hms, rfl, hop⟩ := hty;have hu : (r = true ∧ u = .nilIface) ∨ (r = false ∧ ∃ t x, u = .iface t x) := by
  unfold isNilI at hr;split at hr
  ·cases hr; cases hx.of_d; exact .inl ⟨rfl, rfl⟩
  ·cases hr; cases hx.of_d; exact .inr ⟨rfl, _, _, rfl⟩
  ·cases hr
 have heq : (Op.equal t u .nilIface).run P w = .ok r w := by
  rcases hu with ⟨rfl, rfl⟩ | ⟨rfl, t', x', rfl⟩
  ·exact equalIn_nilI 9999 hms w
  ·exact equalIn_someI 9999 hms w
 refine ⟨eqGuard_none (by rcases hu with ⟨_, rfl⟩ | ⟨_, _, _, rfl⟩ <;> simp) (fun _ => .inr ⟨_, rfl⟩) w, ?_⟩;rcases hop with ⟨rfl, rfl⟩ | ⟨rfl, rfl⟩
 ·rcases hbd with ⟨_, rfl⟩ | ⟨h, _⟩
  ·refine ⟨.bool r, ?_, .bool _⟩;rcases hu with ⟨rfl, rfl⟩ | ⟨rfl, t', x', rfl⟩ <;> simp [binOp, heq]
  ·cases h
 ·rcases hbd with ⟨h, _⟩ | ⟨_, rfl⟩
  ·cases h
  ·refine ⟨.bool (!r), ?_, .bool _⟩;rcases hu with ⟨rfl, rfl⟩ | ⟨rfl, t', x', rfl⟩ <;> simp [binOp, heq]
theorem bin_bool {t : TypeId} {m n : Bool} (hb : trBin P op t y = some b) (h : binOpD b (.d (.bool m)) (.d (.bool n)) = some (C, d)) (w : World) :
  ∃ u, (binOp op t (.bool m) (.bool n)).run P w = .ok u w ∧ Rep A w d u := by
 unfold trBin at hb;split at hb
 ·split at hb <;> cases hb <;> simp [binOpD] at h
 ·split at hb <;> cases hb <;> simp [binOpD] at h
 ·rename_i hty;split at hb <;> cases hb <;> simp only [binOpD, Option.some.injEq, Prod.mk.injEq] at h <;> obtain ⟨_, rfl⟩ := h
  ·exact ⟨.bool (m == n), by simp [binOp, Op.equal, Op.maxDepth, run_equalIn_bool' w 9999 t m n hty], .bool _⟩
  ·exact ⟨.bool (!(m == n)), by simp [binOp, Op.equal, Op.maxDepth, run_equalIn_bool' w 9999 t m n hty], .bool _⟩
 ·split at hb <;> cases hb <;> simp [binOpD] at h
 ·split at hb
  ·split at hb
   ·split at hb <;> cases hb <;> simp [binOpD] at h
   ·cases hb
  ·cases hb
 ·cases hb
theorem runs_bin {t t' : TypeId} {x' y' : Opd} {r : Res} (hc : Core β A w H) (ht : TRep β A w H τ a) (ho : o.op = .binOp op t x y t') (hb : trBin P op t y = some b)
  (hx : opd P t x = some x') (hy : opd P t y = some y') (hs : step τ H (o.dst.getD 0) (.bin b x' y') = some r) (hC : r.c) : Runs P a.eval o w β A H r.v r.ups := by
 simp only [step] at hs;cases ex : val τ x' with
 | none => simp [ex] at hs
 | some m =>
  cases ey : val τ y' with
  | none => simp [ex, ey] at hs
  | some n =>
   simp only [ex, ey] at hs;cases e : binOpD b m n with
   | none => simp [e] at hs
   | some p =>
    obtain ⟨C, d⟩ := p;simp only [e, Option.some.injEq] at hs;subst hs;have vx := opd_ok hx ex ht;have vy := opd_ok hy ey ht;have fin : ((eqGuard op t x y (a.eval x) (a.eval y)).run P w = .ok () w ∧ ∃ z, (binOp op t (a.eval x) (a.eval y)).run P w = .ok z w ∧ Rep A w d z) →
      Runs P a.eval o w β A H (.d d) [] := fun ⟨hg, z, hr, hz⟩ => Runs.pure hc (by simp [execOp, ho, Sem.run_bind, hg, hr]) (.d _ _ hz)
    apply fin;generalize a.eval x = u at *;generalize a.eval y = v at *;unfold binOpD at e;split at e
    ·split at e
     ·rename_i hk;subst hk;have hm := vx.of_d;have hn := vy.of_d;cases hm with
      | int _ _ hm =>
       cases hn;exact ⟨eqGuard_none sP sP w, bin_int hb e hC hm w⟩
     ·cases e
    ·have hm := vx.of_d;have hn := vy.of_d;cases hm;cases hn;exact ⟨eqGuard_none sP sP w, bin_str hb e hC w⟩
    ·rename_i p q;have hm := vx.of_d;have hn := vy.of_d;have : binOpD b (.d (.bool p)) (.d (.bool q)) = some (C, d) := e;cases hm;cases hn;exact ⟨eqGuard_none sP sP w, bin_bool hb this w⟩
    ·rename_i p q;have : binOpD b (.d (.agg p)) (.d (.agg q)) = some (C, d) := e;have hm := vx.of_d;have hn := vy.of_d;cases hm with
     | agg _ xs h1 h2 h3 =>
      cases hn with
      | agg _ ys g1 g2 g3 => exact bin_struct hb this (.agg _ _ h1 h2 h3) (.agg _ _ g1 g2 g3) x
    ·have : binOpD b m (.d .nilIface) = some (C, d) := by
      unfold binOpD;split <;> first | (simp at *; done) | exact e
     exact bin_nil hb this vx vy.of_d
    ·cases e
end
end Av
namespace Av
open Go
variable [Glb] [Rls]
variable {sz k : Nat} {xs : List Dat} {x : Operand} {x' : Opd} {r : Res} {args : Array Operand}
theorem flat_cons (x : Dat) (xs : List Dat) : flat (x :: xs) = x.cells ++ flat xs := rfl
theorem flat_append (xs ys : List Dat) : flat (xs ++ ys) = flat xs ++ flat ys := by simp [flat]
theorem flat_length : ∀ {xs : List Dat}, (∀ x ∈ xs, x.cells.length = sz) → (flat xs).length = xs.length * sz
 | [], _ => by simp [flat]
 | x :: xs, h => by
  rw [flat_cons, List.length_append, flat_length fun y hy => h y (List.mem_cons_of_mem _ hy), h x List.mem_cons_self, List.length_cons, Nat.succ_mul, Nat.add_comm]
theorem flat_drop : ∀ {xs : List Dat} (n : Nat), (∀ x ∈ xs, x.cells.length = sz) → flat (xs.drop n) = (flat xs).drop (n * sz)
 | xs, 0, _ => by simp
 | [], n + 1, _ => by simp [flat]
 | x :: xs, n + 1, h => by
  rw [List.drop_succ_cons, flat_drop n fun y hy => h y (List.mem_cons_of_mem _ hy), flat_cons, Nat.succ_mul, Nat.add_comm, ← List.drop_drop];congr 1;rw [← h x List.mem_cons_self, List.drop_left]
theorem flat_take : ∀ {xs : List Dat} (n : Nat), (∀ x ∈ xs, x.cells.length = sz) → flat (xs.take n) = (flat xs).take (n * sz)
 | xs, 0, _ => by simp [flat]
 | [], n + 1, _ => by simp [flat]
 | x :: xs, n + 1, h => by
  rw [List.take_succ_cons, flat_cons, flat_take n fun y hy => h y (List.mem_cons_of_mem _ hy), flat_cons, Nat.succ_mul, Nat.add_comm (n * sz)];have := h x List.mem_cons_self;rw [← this, List.take_length_add_append]
theorem nth_eq (h : k < xs.length) : nth xs k = xs[k] := by simp [nth, h]
theorem nth_mem (h : k < xs.length) : nth xs k ∈ xs := by rw [nth_eq h]; exact List.getElem_mem h
theorem flat_nth (h : ∀ x ∈ xs, x.cells.length = sz) {j : Nat} (hk : k < xs.length) (hj : j < sz) : (flat xs)[k * sz + j]? = (nth xs k).cells[j]? := by
 have e1 := flat_drop k h;rw [List.drop_eq_getElem_cons hk, flat_cons, ← nth_eq hk] at e1;have e2 := congrArg (fun l => l[j]?) e1;simp only [List.getElem?_drop] at e2;rw [← e2, List.getElem?_append_left (by rw [h _ (nth_mem hk)]; exact hj)]
theorem mem_drop_take {α : Type} {x : α} {xs : List α} {i n : Nat} (h : x ∈ (xs.drop i).take n) : x ∈ xs := List.mem_of_mem_drop (List.mem_of_mem_take h)
structure SlVal (A : Nat → Prop) (w : World) (sz : Nat) (xs : List Dat) (u : Value) (vs : List Value) : Prop where
 ex : ∃ ad cap, u = .slice ad xs.length cap ∧ xs.length ≤ cap ∧ (xs ≠ [] → ∃ b o, ad = some ⟨b, o, none⟩ ∧ Holds w b o vs)
 len : (flat xs).length = vs.length
 one : ∀ v ∈ vs, v.oneCell' = true
 rep : ∀ (i : Nat) c v, (flat xs)[i]? = some c → vs[i]? = some v → Rep A w c v
 bnd : xs.length ≤ 68719476736
 sz : ∀ x ∈ xs, x.cells.length = sz
section
variable {P : Program} {β : Blocks} {A : Nat → Prop} {w : World} {H : Heap} {τ : Tmps} {a : Act} {o : Oper}
theorem holds_of_block {b : Nat} {C : Array Value} {T : TypeId} {fz : Nat × Nat} (h : w.heap[b]? = some (.cells C T fz)) (off n : Nat) : Holds w b off ((C.toList.drop off).take n) := by
 intro i v hi;rw [List.getElem?_take] at hi;split at hi
 ·rw [List.getElem?_drop] at hi;simp only [World.cell?, h];simpa using hi
 ·cases hi
theorem listOf_ok {v : Av} {u : Value} (hc : Core β A w H) (hl : listOf H v = some (sz, xs)) (hcur : curr H v) (hv : VRep β A w H v u) : ∃ vs, SlVal A w sz xs u vs := by
 have frz : ∀ {sz : Nat} {xs : List Dat} {u : Value}, Rep A w (.list sz xs) u → ∃ vs, SlVal A w sz xs u vs := by
  intro sz xs u hr;cases hr with
  | emp _ a cap => exact ⟨[], ⟨a, cap, rfl, sP, sP⟩, rfl, sP, by simp [flat], sP, sP⟩
  | list _ _ b o n cap vs hn hA hl hb h1 hsz hh hvl hv => exact ⟨vs, ⟨some ⟨b, o, none⟩, cap, by rw [hn], hl, fun _ => ⟨b, o, rfl, hh⟩⟩, hvl, h1, hv, hb, hsz⟩
 unfold listOf at hl;split at hl
 ·cases hl; exact frz hv.of_d
 ·cases hl;cases hv.of_d with
  | nil _ a => exact ⟨[], ⟨a, 0, rfl, sP, sP⟩, rfl, sP, by simp [flat], sP, sP⟩
 ·rename_i i ver;split at hl
  ·rename_i ver' sz' xs' hrow;cases hl;simp only [curr, hrow] at hcur;subst hcur;obtain ⟨hs0, hsz, hb, hblk⟩ := hc.objs i _ hrow;cases hv with
   | ms _ _ _ hu h0 h1 h2 =>
    rcases (h1 _ _ _ hrow).2 rfl with ⟨e1, e2, ad, e3⟩ | ⟨b, C, T, fz, cap, e1, e2, e3, e4, e5⟩
    ·have hx : xs = [] := List.eq_nil_of_length_eq_zero e2;subst hx;exact ⟨[], ⟨ad, 0, by simp [e3], sP, sP⟩, rfl, sP, by simp [flat], sP, sP⟩
    ·rcases hblk with ⟨g1, _⟩ | ⟨b', C', T', cap', g1, g2, g3, g4, g5, g6⟩
     ·rw [g1] at e1; cases e1
     ·rw [g1] at e1; cases e1;rw [g2] at e2;cases e2;have hfl := flat_length hsz;have hle : (flat xs).length ≤ C.size := by rw [hfl, g3]; exact Nat.mul_le_mul_right _ g4
      have hlen : (flat xs).length = (C.toList.take (flat xs).length).length := sO;refine ⟨(C.toList.drop 0).take (flat xs).length, ⟨_, cap, e5, e4, fun _ => ⟨_, 0, rfl, holds_of_block g2 0 _⟩⟩, by simpa using hlen, ?_, ?_, hb, hsz⟩
      ·intro v hv';obtain ⟨j, hj⟩ := List.getElem?_of_mem hv';rw [List.drop_zero, List.getElem?_take] at hj;split at hj
       ·rename_i hlt; exact g5 j v hlt (sX hj)
       ·cases hj
      ·intro j c v hjc hjv;rw [List.drop_zero, List.getElem?_take] at hjv;split at hjv
       ·exact g6 j c v hjc (sX hjv)
       ·cases hjv
  ·rename_i ver' sz' xs' hf;cases hl;simp only [curr, hf] at hcur;subst hcur;cases hv with
   | ms _ _ _ hu h0 h1 h2 => exact frz (h2 _ _ hf)
  ·cases hl
 ·rename_i i ver off len;split at hl
  ·rename_i ver' sz' xs' hrow;cases hl;simp only [curr, hrow] at hcur;subst hcur;obtain ⟨hs0, hsz, hb, hblk⟩ := hc.objs i _ hrow;have hsz' : ∀ x ∈ (xs'.drop off).take len, x.cells.length = sz := fun x hx => hsz x (mem_drop_take hx)
   cases hv with
   | sub _ _ _ _ _ hu h0 h1 h2 =>
    obtain ⟨hol, hsub⟩ := (h1 _ _ _ hrow).2 rfl;have hlen' : ((xs'.drop off).take len).length = len := sO;rcases hsub with ⟨e1, e2, e3, ad, e4⟩ | ⟨b, C, T, fz, cap, ad, e1, e2, e3, e4, e5, e6⟩
    ·subst e2 e3;simp only [List.drop_zero, List.take_zero];exact ⟨[], ⟨ad, 0, by simp [e4], sP, sP⟩, rfl, sP, by simp [flat], sP, sP⟩
    ·rcases hblk with ⟨g1, _⟩ | ⟨b', C', T', cap', g1, g2, g3, g4, g5, g6⟩
     ·rw [g1] at e1; cases e1
     ·rw [g1] at e1; cases e1;rw [g2] at e2;cases e2;have hfe : flat ((xs'.drop off).take len) = ((flat xs').drop (off * sz)).take (len * sz) := by
       rw [flat_take len fun x hx => hsz x (List.mem_of_mem_drop hx), flat_drop off hsz]
      have hfl := flat_length hsz;have hfl' := flat_length hsz';rw [hlen'] at hfl';have hcs : (off + len) * sz ≤ C.size := by rw [g3]; exact Nat.mul_le_mul_right _ oM
      have hxs : (off + len) * sz ≤ (flat xs').length := by rw [hfl]; exact Nat.mul_le_mul_right _ hol
      rw [Nat.add_mul] at hcs hxs;refine ⟨(C.toList.drop (off * sz)).take (len * sz), ⟨some ad, cap - off, by rw [hlen', e6], by rw [hlen']; omega, ?_⟩, ?_, ?_, ?_, by rw [hlen']; omega, hsz'⟩
      ·intro hne;have hpos : 0 < len := by
        rcases Nat.eq_zero_or_pos len with h | h
        ·subst h; simp at hne
        ·exact h
       exact ⟨_, off * sz, by rw [e5 oM], holds_of_block g2 _ _⟩
      ·rw [hfl']; simp; omega
      ·intro v hv';obtain ⟨j, hj⟩ := List.getElem?_of_mem hv';rw [List.getElem?_take] at hj;split at hj
       ·rename_i hlt;rw [List.getElem?_drop] at hj;exact g5 (off * sz + j) v oM (sX hj)
       ·cases hj
      ·intro j c v hjc hjv;rw [hfe, List.getElem?_take] at hjc;rw [List.getElem?_take] at hjv;split at hjc
       ·rename_i hlt;rw [if_pos hlt, List.getElem?_drop] at hjv;rw [List.getElem?_drop] at hjc;exact g6 _ c v hjc (sX hjv)
       ·cases hjc
  ·rename_i ver' sz' xs' hf;cases hl;simp only [curr, hf] at hcur;subst hcur;cases hv with
   | sub _ _ _ _ _ hu h0 h1 h2 => exact frz (h2 _ _ hf)
  ·cases hl
 ·cases hl
theorem vals_ok {t : TypeId} : ∀ {xs : List Operand} {ys : List Opd} {vs : List Av}, allSome (xs.map (opd P t)) = some ys → vals τ ys = some vs → TRep β A w H τ a →
  vs.length = xs.length ∧ ∀ (i : Nat) c x, vs[i]? = some c → xs[i]? = some x → VRep β A w H c (a.eval x)
 | [], ys, vs, h1, h2, _ => by simp [allSome] at h1; subst h1; simp [vals] at h2; subst h2; simp
 | x :: xs, ys, vs, h1, h2, ht => by
  cases e : opd P t x with
  | none => simp [e, allSome] at h1
  | some y =>
   simp only [List.map_cons, e, allSome] at h1;cases e2 : allSome (xs.map (opd P t)) with
   | none => simp [e2] at h1
   | some ys' =>
    simp only [e2, Option.map_some, Option.some.injEq] at h1;subst h1;simp only [vals] at h2;cases e3 : val τ y with
    | none => simp [e3] at h2
    | some v =>
     cases e4 : vals τ ys' with
     | none => simp [e3, e4] at h2
     | some vs' =>
      simp only [e3, e4, Option.some.injEq] at h2;subst h2;obtain ⟨g1, g2⟩ := vals_ok e2 e4 ht;refine ⟨by simp [g1], ?_⟩;intro i c z hc hz;cases i with
      | zero => simp at hc hz; subst hc hz; exact opd_ok e e3 ht
      | succ i => exact g2 i c z (sX hc) (sX hz)
theorem runs_not {t : TypeId} (hc : Core β A w H) (ht : TRep β A w H τ a) (ho : o.op = .unOp .not t x) (hx : opd P t x = some x')
  (hs : step τ H (o.dst.getD 0) (.not x') = some r) : Runs P a.eval o w β A H r.v r.ups := by
 simp only [step] at hs;split at hs
 ·rename_i b e;cases hs;have hv := (opd_ok hx e ht).of_d;generalize hu : a.eval x = u at *;cases hv;exact Runs.pure hc (by simp [execOp, ho, hu, Op.unary]) (.d _ _ (.bool _))
 ·cases hs
theorem runs_neg {t : TypeId} {k : IntKind} (hc : Core β A w H) (ht : TRep β A w H τ a) (ho : o.op = .unOp .neg t x) (hx : opd P t x = some x')
  (hs : step τ H (o.dst.getD 0) (.neg k x') = some r) : Runs P a.eval o w β A H r.v r.ups := by
 simp only [step] at hs;split at hs
 ·rename_i k' n e;split at hs
  ·rename_i hk;subst hk;cases hs;have hv := (opd_ok hx e ht).of_d;generalize hu : a.eval x = u at *;cases hv;exact Runs.pure hc (by simp [execOp, ho, hu, Op.unary, Op.intArith]) (.d _ _ (.int _ _ (wrap_wf _ _)))
  ·cases hs
 ·cases hs
theorem runs_cvi {s t : TypeId} {k k' : IntKind} (hc : Core β A w H) (ht : TRep β A w H τ a) (ho : o.op = .convert s t x) (h1 : P.underlying s = some (.int k')) (h2 : P.underlying t = some (.int k))
  (hx : opd P s x = some x') (hs : step τ H (o.dst.getD 0) (.cvi k x') = some r) : Runs P a.eval o w β A H r.v r.ups := by
 simp only [step] at hs;split at hs
 ·rename_i kk n e;cases hs;have hv := (opd_ok hx e ht).of_d;generalize hu : a.eval x = u at *;cases hv;exact Runs.pure hc (by simp [execOp, ho, hu, convert, Sem.run_bind, run_underlying h1, run_underlying h2, Conv.intToInt]) (.d _ _ (.int _ _ (wrap_wf _ _)))
 ·cases hs
theorem runs_ifc {t : TypeId} {d : TypeDesc} (hc : Core β A w H) (ht : TRep β A w H τ a) (ho : o.op = .makeInterface t x) (h1 : P.underlying t = some d) (h2 : ∀ ms, d ≠ .interface ms)
  (hx : opd P t x = some x') (hs : step τ H (o.dst.getD 0) (.ifc t x') = some r) : Runs P a.eval o w β A H r.v r.ups := by
 simp only [step] at hs;split at hs
 ·rename_i v e;cases hs;have hv := (opd_ok hx e ht).of_d;refine Runs.pure hc (u := .iface t (a.eval x)) ?_ (.d _ _ (.iface _ _ _ hv));simp only [execOp, ho, Instr.makeInterface, Sem.run_bind, run_underlying h1, Result.andThen_ok];cases d <;> first | rfl | exact absurd rfl (h2 _)
 ·rename_i i off e;cases hs;have hv : (a.eval x).oneCell' = true := by
   cases (opd_ok hx e ht) with | ref _ _ b p _ hu => rw [hu]; rfl
  refine Runs.pure hc (u := .iface t (a.eval x)) ?_ (.d _ _ (.iface _ _ _ (.opq _ hv)));simp only [execOp, ho, Instr.makeInterface, Sem.run_bind, run_underlying h1, Result.andThen_ok];cases d <;> first | rfl | exact absurd rfl (h2 _)
 ·cases hs
theorem runs_fnv {fn : Fn} {first cap : Array Operand} {fs cs : List Opd} (hc : Core β A w H) (ht : TRep β A w H τ a) (ho : o.op = .makeFunc fn first cap)
  (h1 : allSome (first.toList.map (opd P 0)) = some fs) (h2 : allSome (cap.toList.map (opd P 0)) = some cs)
  (hs : step τ H (o.dst.getD 0) (.fnv fn fs cs) = some r) : Runs P a.eval o w β A H r.v r.ups := by
 simp only [step] at hs;cases e1 : vals τ fs with
 | none => simp [e1] at hs
 | some v1 =>
  cases e2 : vals τ cs with
  | none => simp [e1, e2] at hs
  | some v2 =>
   simp only [e1, e2] at hs;obtain ⟨l1, p1⟩ := vals_ok h1 e1 ht;obtain ⟨l2, p2⟩ := vals_ok h2 e2 ht;have q1 : ∀ (i : Nat) c v, v1[i]? = some c → (first.map a.eval)[i]? = some v → VRep β A w H c v := by
    intro i c v hc hv;rw [Array.getElem?_map] at hv;cases e : first[i]? with
    | none => simp [e] at hv
    | some x => simp [e] at hv; subst hv; exact p1 i c x hc (sX e)
   have q2 : ∀ (i : Nat) c v, v2[i]? = some c → (cap.map a.eval)[i]? = some v → VRep β A w H c v := by
    intro i c v hc hv;rw [Array.getElem?_map] at hv;cases e : cap[i]? with
    | none => simp [e] at hv
    | some x => simp [e] at hv; subst hv; exact p2 i c x hc (sX e)
   have run : (execOp a.eval o).run P w = .ok (.value (.func fn (first.map a.eval) (cap.map a.eval))) w := by simp [execOp, ho, Instr.makeFunc]
   have gen : VRep β A w H (.clo fn v1 v2) (.func fn (first.map a.eval) (cap.map a.eval)) := .clo _ _ _ _ _ (sX l1) (sX l2) q1 q2;split at hs
   ·rename_i d1 d2 a1 a2;cases hs;have b1 := allD_ok a1;have b2 := allD_ok a2;subst b1 b2;refine Runs.pure hc run (.d _ _ (.fn _ _ _ _ _ (sX l1) (sX l2) ?_ ?_))
    ·intro i c v hc hv; exact (q1 i (.d c) v (by simp [hc]) hv).of_d
    ·intro i c v hc hv; exact (q2 i (.d c) v (by simp [hc]) hv).of_d
   ·cases hs; exact Runs.pure hc run gen
theorem runs_ext {i : Nat} (hc : Core β A w H) (ht : TRep β A w H τ a) (ho : o.op = .extract x i) (hx : opd P 0 x = some x')
  (hs : step τ H (o.dst.getD 0) (.ext x' i) = some r) : Runs P a.eval o w β A H r.v r.ups := by
 simp only [step] at hs;split at hs
 ·rename_i vs e;have hv := opd_ok hx e ht;generalize hu : a.eval x = u at *;split at hs
  ·rename_i v hv';cases hs;cases hv with
   | tup _ arr hl h1 =>
    have hi := (List.getElem?_eq_some_iff.1 hv').1;have hai : arr[i]? = some arr[i] := by simp [show i < arr.size by omega]
    exact Runs.pure hc (by simp [execOp, ho, hu, Instr.extract, hai]) (h1 i v _ hv' hai)
  ·cases hs
 ·cases hs
theorem call_builtin {b : Builtin} {argTypes : Array TypeId} (ho : o.op = .call { callee := .builtin b, args, argTypes }) (w : World) :
  ∃ cs, (execOp a.eval o).run P w = (builtin b argTypes o.type cs (args.map a.eval)).run P w :=
 ⟨_, by unfold execOp; simp only [ho, resolve, Sem.run_bind, Sem.run_pure, Result.andThen_ok, invoke]; rfl⟩
theorem runs_slen {argTypes : Array TypeId} {t : TypeId} (hc : Core β A w H) (ht : TRep β A w H τ a)
  (ho : o.op = .call { callee := .builtin .len, args, argTypes }) (ha : args.toList = [x]) (hat : argTypes.toList = [t]) (hu : P.underlying t = some .string)
  (hx : opd P t x = some x') (hs : step τ H (o.dst.getD 0) (.slen x') = some r) : Runs P a.eval o w β A H r.v r.ups := by
 obtain rfl : args = #[x] := by apply Array.ext'; simpa using ha
 obtain rfl : argTypes = #[t] := by apply Array.ext'; simpa using hat
 obtain ⟨cs, run⟩ := call_builtin (P := P) (a := a) ho w;simp only [step] at hs;split at hs
 ·rename_i s e;cases hs;have hv := (opd_ok hx e ht).of_d;generalize hue : a.eval x = u at *;cases hv with
  | str _ hl =>
   refine Runs.pure hc (u := .int .i64 s.length) ?_ (.d _ _ (.int _ _ ?_))
   ·rw [run];simp only [builtin, List.map_toArray, List.map_cons, List.map_nil, hue, Sem.run_bind, Builtin.len_, run_underlying hu, List.getElem?_toArray, List.getElem?_cons_zero, Result.andThen_ok, Sem.run_pure, goInt, ByteArray.size, List.size_toArray]
   ·simp [IntKind.min, IntKind.max, IntKind.signed, IntKind.bits]; omega
 ·cases hs
theorem runs_len {argTypes : Array TypeId} {t e : TypeId} (hc : Core β A w H) (ht : TRep β A w H τ a)
  (ho : o.op = .call { callee := .builtin .len, args, argTypes }) (ha : args.toList = [x]) (hat : argTypes.toList = [t]) (hu : P.underlying t = some (.slice e))
  (hx : opd P t x = some x') (hs : step τ H (o.dst.getD 0) (.len x') = some r) (hC : r.c) : Runs P a.eval o w β A H r.v r.ups := by
 obtain rfl : args = #[x] := by apply Array.ext'; simpa using ha
 obtain rfl : argTypes = #[t] := by apply Array.ext'; simpa using hat
 obtain ⟨cs, run⟩ := call_builtin (P := P) (a := a) ho w;simp only [step] at hs;split at hs
 ·rename_i v e;cases e2 : listOf H v with
  | none => simp [e2] at hs
  | some p =>
   obtain ⟨sz, xs⟩ := p;simp only [e2, Option.some.injEq] at hs;subst hs;obtain ⟨vs, sv⟩ := listOf_ok hc e2 hC (opd_ok hx e ht);obtain ⟨ad, cap, hue, _⟩ := sv.ex;refine Runs.pure hc (u := .int .i64 xs.length) ?_ (.d _ _ (.int _ _ ?_))
   ·rw [run];simp only [builtin, List.map_toArray, List.map_cons, List.map_nil, hue, Sem.run_bind, Builtin.len_, run_underlying hu, List.getElem?_toArray, List.getElem?_cons_zero, Result.andThen_ok, Sem.run_pure, goInt]
   ·have := sv.bnd; simp [IntKind.min, IntKind.max, IntKind.signed, IntKind.bits]; omega
 ·cases hs
theorem runs_mnmx {argTypes : Array TypeId} {y : Operand} {t : TypeId} {y' : Opd} {bu : Builtin} (hc : Core β A w H) (ht : TRep β A w H τ a)
  (ho : o.op = .call { callee := .builtin bu, args, argTypes }) (ha : args.toList = [x, y])
  (hx : opd P t x = some x') (hy : opd P t y = some y') (hs : (bu = .min ∧ step τ H (o.dst.getD 0) (.mn x' y') = some r) ∨ (bu = .max ∧ step τ H (o.dst.getD 0) (.mx x' y') = some r)) :
  Runs P a.eval o w β A H r.v r.ups := by
 obtain rfl : args = #[x, y] := by apply Array.ext'; simpa using ha
 obtain ⟨cs, run⟩ := call_builtin (P := P) (a := a) ho w;rcases hs with ⟨rfl, hs⟩ | ⟨rfl, hs⟩
 all_goals
  simp only [step] at hs;split at hs
  ·rename_i k m k' n e1 e2;split at hs
   ·rename_i hk;subst hk;cases hs;have h1 := (opd_ok hx e1 ht).of_d;have h2 := (opd_ok hy e2 ht).of_d;generalize hu1 : a.eval x = u1 at *;generalize hu2 : a.eval y = u2 at *;cases h1 with
    | int _ _ w1 =>
     cases h2 with
     | int _ _ w2 =>
      refine Runs.pure hc ?_ (.d _ _ (.int _ _ (by split <;> assumption)));rw [run];simp [builtin, hu1, hu2, Builtin.min_, Builtin.max_, Builtin.min2, Builtin.max2]
   ·cases hs
  ·cases hs
end
end Av
namespace Av
open Go
variable [Glb] [Rls]
variable {x i : Operand} {x' i' : Opd} {r : Res} {cs : List Dat} {u : Value} {n : Option Nat} {sz : Nat}
section
variable {P : Program} {β : Blocks} {A : Nat → Prop} {w : World} {H : Heap} {τ : Tmps} {a : Act} {o : Oper}
theorem runs_nck (hc : Core β A w H) (ht : TRep β A w H τ a) (ho : o.op = .nilCheck x) (hx : opd P 0 x = some x')
  (hs : step τ H (o.dst.getD 0) (.nck x') = some r) : Runs P a.eval o w β A H r.v r.ups := by
 simp only [step] at hs;cases e : val τ x' with
 | none => simp [e] at hs
 | some v =>
  simp only [e] at hs;split at hs
  ·rename_i hn;cases hs;have hv := opd_ok hx e ht;refine Runs.pure hc (u := a.eval x) ?_ hv;rcases isNil_ok hn hv with ⟨t, y, hu⟩ | ⟨ad, hu⟩ | ⟨f, y, z, hu⟩ <;> simp [execOp, ho, hu]
  ·cases hs
theorem Rep.ptr_drop (h : Rep A w (.ptr cs) u) (n : Nat) : ∃ b p, u = .pointer (some ⟨b, p, none⟩) ∧ Rep A w (.ptr (cs.drop n)) (.pointer (some ⟨b, p + n, none⟩)) := by
 cases h with
 | ptr _ b p vs hA h1 hh hvl hv =>
  refine ⟨b, p, rfl, .ptr _ b (p + n) (vs.drop n) hA (fun v hv' => h1 v (List.mem_of_mem_drop hv')) ?_ (by simp [hvl]) ?_⟩
  ·intro i v hi;rw [List.getElem?_drop] at hi;have := hh _ v hi;rwa [← Nat.add_assoc] at this
  ·intro i c v h2 h3;rw [List.getElem?_drop] at h2 h3;exact hv _ c v h2 h3
theorem runs_fa {t : TypeId} {f : Nat} {fs : Array Field} {fd : Field} {n : Nat} (hc : Core β A w H) (ht : TRep β A w H τ a) (ho : o.op = .fieldAddr t x f)
  (hu : P.underlying t = some (.struct fs)) (hf : fs[f]? = some fd) (hn : szT P fd.type = some n) (hn0 : n ≠ 0) (hx : opd P t x = some x')
  (hs : step τ H (o.dst.getD 0) (.fa x' fd.offset) = some r) : Runs P a.eval o w β A H r.v r.ups := by
 have run : ∀ b p, a.eval x = .pointer (some ⟨b, p, none⟩) → (execOp a.eval o).run P w = .ok (.value (.pointer (some ⟨b, p + fd.offset, none⟩))) w := by
  intro b p hp;simp [execOp, ho, Instr.fieldAt, Sem.run_bind, run_underlying hu, hf, hp, Instr.sureAddr, fieldPlace, sizeOf_run hn, hn0, Addr.add_lit]
 simp only [step] at hs;split at hs
 ·rename_i i off e;cases hs;have hv := opd_ok hx e ht;generalize hue : a.eval x = u at *;cases hv with
  | ref _ _ b p _ hu2 h0 h1 h2 =>
   refine Runs.pure hc (run b _ hu2) (.ref _ _ b p _ (by rw [Nat.add_assoc]) h0 h1 ?_);intro ds hds;obtain ⟨b', p', e1, e2⟩ := (h2 ds hds).ptr_drop fd.offset;rw [hu2] at e1;cases e1;rwa [List.drop_drop] at e2
 ·rename_i i ver k off e;cases hs;have hv := opd_ok hx e ht;generalize hue : a.eval x = u at *;cases hv with
  | el _ _ _ _ b p _ hu2 h0 h1 => exact Runs.pure hc (run b _ hu2) (.el _ _ _ _ b p _ (by rw [Nat.add_assoc]) h0 h1)
 ·rename_i cs e;cases hs;have hv := (opd_ok hx e ht).of_d;obtain ⟨b, p, e1, e2⟩ := hv.ptr_drop fd.offset;exact Runs.pure hc (run b p e1) (.d _ _ e2)
 ·rename_i g e;have hv := (opd_ok hx e ht).of_d;split at hs
  ·rename_i cs hg;cases hs;obtain ⟨b, p, e1, e2⟩ := (hc.glob g cs hg).rep.ptr_drop fd.offset;generalize hue : a.eval x = u at *;cases hv;exact Runs.pure hc (run b p e1) (.d _ _ e2)
  ·cases hs
 ·cases hs
theorem shT_cases {t : TypeId} (h : shT P t = some n) : (n = none ∧ agT P t = some false ∧ szT P t = some 1) ∨ ∃ k, n = some k ∧ agT P t = some true ∧ szT P t = some k := by
 unfold shT at h;split at h
 ·cases h; exact .inr ⟨_, rfl, by assumption, by assumption⟩
 ·cases h; exact .inl ⟨rfl, by assumption, by assumption⟩
 ·cases h
theorem part_run {t : TypeId} (h : shT P t = some n) (cs : Array Value) (off : Nat) (w : World) :
  (n = none → ∀ v, cs[off]? = some v → (part t cs off).run P w = .ok v w) ∧ (∀ k, n = some k → (part t cs off).run P w = .ok (.agg (cs.extract off (off + k))) w) := by
 rcases shT_cases h with ⟨rfl, h1, h2⟩ | ⟨k, rfl, h1, h2⟩
 ·refine ⟨fun _ v hv => by simp [part, Sem.run_bind, isAgg_run h1, hv], sP⟩
 ·refine ⟨sP, fun k' e => ?_⟩;cases e;simp [part, Sem.run_bind, isAgg_run h1, sizeOf_run h2]
theorem VRep.seg {cs : List Av} {arr : Array Value} (hl : cs.length = arr.size) (h1 : ∀ v ∈ arr.toList, v.oneCell' = true) (hv : ∀ (i : Nat) c v, cs[i]? = some c → arr[i]? = some v → VRep β A w H c v)
  {off n : Nat} (hle : off + n ≤ cs.length) : VRep β A w H (mkAgg ((cs.drop off).take n)) (.agg (arr.extract off (off + n))) := by
 have hsz : (arr.extract off (off + n)).size = n := sO;refine mkAgg_ok (by rw [hsz]; simp; omega) ?_ ?_
 ·intro v hv';have hv2 : v ∈ List.take n (List.drop off arr.toList) := by simpa using hv'
  exact h1 v (List.mem_of_mem_drop (List.mem_of_mem_take hv2))
 ·intro i c v hc hv';rw [List.getElem?_take] at hc;split at hc
  ·rw [List.getElem?_drop] at hc;rw [Array.getElem?_extract] at hv';split at hv'
   ·exact hv _ c v hc hv'
   ·cases hv'
  ·cases hc
theorem Rep.seg {arr : Array Value} (h : Rep A w (.agg cs) (.agg arr)) {off n : Nat} (hle : off + n ≤ cs.length) : Rep A w (.agg ((cs.drop off).take n)) (.agg (arr.extract off (off + n))) := by
 cases h with
 | agg _ _ hl h1 hv =>
  have hsz : (arr.extract off (off + n)).size = n := sO;refine .agg _ _ (by rw [hsz]; simp; omega) ?_ ?_
  ·intro v hv';have hv2 : v ∈ List.take n (List.drop off arr.toList) := by simpa using hv'
   exact h1 v (List.mem_of_mem_drop (List.mem_of_mem_take hv2))
  ·intro i c v hc hv';rw [List.getElem?_take] at hc;split at hc
   ·rw [List.getElem?_drop] at hc;rw [Array.getElem?_extract] at hv';split at hv'
    ·exact hv _ c v hc hv'
    ·cases hv'
   ·cases hc
theorem Rep.agg_inv (h : Rep A w (.agg cs) u) : ∃ arr, u = .agg arr := by cases h; exact ⟨_, rfl⟩
theorem runs_fld {t : TypeId} {f : Nat} {fs : Array Field} {fd : Field} (hc : Core β A w H) (ht : TRep β A w H τ a) (ho : o.op = .field t x f)
  (hu : P.underlying t = some (.struct fs)) (hf : fs[f]? = some fd) (hn : shT P fd.type = some n) (hx : opd P t x = some x')
  (hs : step τ H (o.dst.getD 0) (.fld n x' fd.offset) = some r) (hC : r.c) : Runs P a.eval o w β A H r.v r.ups := by
 have run : ∀ arr v, a.eval x = .agg arr → (part fd.type arr fd.offset).run P w = .ok v w → (execOp a.eval o).run P w = .ok (.value v) w := by
  intro arr v hp hv;simp [execOp, ho, Instr.field, Sem.run_bind, run_underlying hu, hf, hp, asAgg, hv]
 simp only [step] at hs;split at hs
 ·rename_i cs e;have hv := (opd_ok hx e ht).of_d;obtain ⟨arr, hue⟩ := hv.agg_inv;rw [hue] at hv;split at hs
  ·rename_i c hc';cases hs;cases hv with
   | agg _ _ hl h1 h2 =>
    have hi := (List.getElem?_eq_some_iff.1 hc').1;have hai : arr[fd.offset]? = some arr[fd.offset] := by simp [show fd.offset < arr.size by omega]
    exact Runs.pure hc (run arr _ hue ((part_run hn arr _ w).1 rfl _ hai)) (.d _ _ (h2 _ c _ hc' hai))
  ·cases hs
 ·rename_i cs n' e;cases hs;have hv := (opd_ok hx e ht).of_d;obtain ⟨arr, hue⟩ := hv.agg_inv;rw [hue] at hv;exact Runs.pure hc (run arr _ hue ((part_run hn arr _ w).2 _ rfl)) (.d _ _ (hv.seg hC))
 ·rename_i cs e;have hv := opd_ok hx e ht;generalize hue : a.eval x = u at *;split at hs
  ·rename_i c hc';cases hs;cases hv with
   | agg _ arr hl h1 h2 =>
    have hi := (List.getElem?_eq_some_iff.1 hc').1;have hai : arr[fd.offset]? = some arr[fd.offset] := by simp [show fd.offset < arr.size by omega]
    exact Runs.pure hc (run arr _ rfl ((part_run hn arr _ w).1 rfl _ hai)) (h2 _ c _ hc' hai)
  ·cases hs
 ·rename_i cs n' e;have hv := opd_ok hx e ht;generalize hue : a.eval x = u at *;split at hs
  ·rename_i hle;cases hs;cases hv with
   | agg _ arr hl h1 h2 => exact Runs.pure hc (run arr _ rfl ((part_run hn arr _ w).2 _ rfl)) (VRep.seg hl h1 h2 hle)
  ·cases hs
 ·cases hs
theorem runs_ixs {t : TypeId} (hc : Core β A w H) (ht : TRep β A w H τ a) (ho : o.op = .index t x i) (hu : P.underlying t = some .string) (hx : opd P t x = some x') {ti : TypeId} (hi : opd P ti i = some i')
  (hs : step τ H (o.dst.getD 0) (.ixs x' i') = some r) (hC : r.c) : Runs P a.eval o w β A H r.v r.ups := by
 simp only [step] at hs;split at hs
 ·rename_i s k n e1 e2;cases hs;obtain ⟨hC1, hC2⟩ := hC;have h1 := (opd_ok hx e1 ht).of_d;have h2 := (opd_ok hi e2 ht).of_d;generalize hu1 : a.eval x = u1 at *;generalize hu2 : a.eval i = u2 at *;cases h1 with
  | str _ hl =>
   cases h2 with
   | int _ _ hk =>
    have hlt : n.toNat < s.length := oM;have hg : (⟨s.toArray⟩ : ByteArray)[n.toNat]? = some (s[n.toNat]) := by
     rw [getElem?_pos (⟨s.toArray⟩ : ByteArray) n.toNat (by simpa [ByteArray.size] using hlt)];rfl
    refine Runs.pure hc (u := .int .u8 (s[n.toNat]).toNat) ?_ (.d _ _ ?_)
    ·simp [execOp, ho, hu1, hu2, Instr.index, Sem.run_bind, run_underlying hu, asIntOf, hC1, hg]
    ·have : (s.getD n.toNat 0) = s[n.toNat] := by simp [hlt]
     rw [this];refine .int _ _ ?_;have := (s[n.toNat]).toNat_lt;simp [IntKind.min, IntKind.max, IntKind.signed, IntKind.bits];omega
 ·cases hs
theorem runs_ixv {t e : TypeId} {len : Nat} (hc : Core β A w H) (ht : TRep β A w H τ a) (ho : o.op = .index t x i) (hu : P.underlying t = some (.array len e))
  (hn : shT P e = some n) (hsz : szT P e = some sz) (hx : opd P t x = some x') {ti : TypeId} (hi : opd P ti i = some i')
  (hs : step τ H (o.dst.getD 0) (.ixv n len sz x' i') = some r) (hC : r.c) : Runs P a.eval o w β A H r.v r.ups := by
 have run : ∀ arr k m v, a.eval x = .agg arr → a.eval i = .int k m → 0 ≤ m → m < len → (part e arr (m.toNat * sz)).run P w = .ok v w → (execOp a.eval o).run P w = .ok (.value v) w := by
  intro arr k m v hp hq h0 h1 hv;simp [execOp, ho, Instr.index, Sem.run_bind, run_underlying hu, hp, hq, asIntOf, h0, h1, sizeOf_run hsz, hv]
 simp only [step] at hs;split at hs
 ·rename_i cs k m e1 e2;cases hs;obtain ⟨h0, h1, h2⟩ := hC;have hv := (opd_ok hx e1 ht).of_d;have hw := (opd_ok hi e2 ht).of_d;obtain ⟨arr, hue⟩ := hv.agg_inv;rw [hue] at hv;generalize hu2 : a.eval i = u2 at *;cases hw;cases hv with
  | agg _ _ hl g1 g2 =>
   have hai : arr[m.toNat * sz]? = some (arr[m.toNat * sz]'oM) := by simp [show m.toNat * sz < arr.size by omega]
   have hci : cs[m.toNat * sz]? = some (cs.getD (m.toNat * sz) .opq) := by simp [h2]
   exact Runs.pure hc (run arr _ _ _ hue rfl h0 h1 ((part_run hn arr _ w).1 rfl _ hai)) (.d _ _ (g2 _ _ _ hci hai))
 ·rename_i cs k m n' e1 e2;cases hs;obtain ⟨h0, h1, h2⟩ := hC;have hv := (opd_ok hx e1 ht).of_d;have hw := (opd_ok hi e2 ht).of_d;obtain ⟨arr, hue⟩ := hv.agg_inv;rw [hue] at hv;generalize hu2 : a.eval i = u2 at *;cases hw;exact Runs.pure hc (run arr _ _ _ hue rfl h0 h1 ((part_run hn arr _ w).2 _ rfl)) (.d _ _ (hv.seg h2))
 ·cases hs
theorem fold_set (off : Nat) : ∀ (vs : List Value) (j : Nat) (cells : Array Value), off + j + vs.length ≤ cells.size →
  ((vs.zipIdx j).foldl (fun cs (p : Value × Nat) => cs.setIfInBounds (off + p.2) p.1) cells).toList = splice cells.toList (off + j) vs
 | [], j, cells, h => by simp [splice]
 | v :: vs, j, cells, h => by
  simp only [List.zipIdx_cons, List.foldl_cons];rw [fold_set off vs (j + 1) (cells.setIfInBounds (off + j) v) (by simp at h ⊢; omega)];simp only [List.length_cons] at h;apply List.ext_getElem?;intro i;simp only [splice, Array.toList_setIfInBounds, List.length_cons, List.getElem?_append, List.length_take, List.length_set, Array.length_toList, List.getElem?_take, List.getElem?_drop, List.getElem?_set, List.getElem?_cons];by_cases h1 : i < off + j
  ·simp [h1, show i < off + (j + 1) by omega, show min (off + (j + 1)) cells.size = off + (j + 1) by omega, show min (off + j) cells.size = off + j by omega, show ¬ off + j = i by omega]
  ·by_cases h2 : i = off + j
   ·subst h2;simp [show min (off + (j + 1)) cells.size = off + (j + 1) by omega, show min (off + j) cells.size = off + j by omega, show off + j < off + (j + 1) by omega, show off + j < cells.size by omega]
   ·have h3 : ¬ i < off + (j + 1) := oM;simp only [show min (off + (j + 1)) cells.size = off + (j + 1) by omega, show min (off + j) cells.size = off + j by omega, if_neg h1, if_neg h3, show ¬ i - (off + j) = 0 by omega, if_false];simp only [show i - (off + j) - 1 = i - (off + (j + 1)) by omega, show i - (off + j) < vs.length + 1 ↔ i - (off + (j + 1)) < vs.length by omega];split
    ·rfl
    ·simp only [show off + (j + 1) + vs.length + (i - (off + (j + 1)) - vs.length) = off + j + (vs.length + 1) + (i - (off + j) - (vs.length + 1)) by omega];rw [if_neg oM]
theorem splice_get {α : Type} (cs new : List α) (off i : Nat) (h : off + new.length ≤ cs.length) : (splice cs off new)[i]? = if off ≤ i ∧ i < off + new.length then new[i - off]? else cs[i]? := by
 simp only [splice, List.getElem?_append, List.length_take, List.getElem?_take, List.getElem?_drop, show min off cs.length = off by omega];by_cases h1 : i < off
 ·simp [h1, show ¬ off ≤ i by omega]
 ·by_cases h2 : i < off + new.length
  ·simp [h1, h2, show off ≤ i by omega, show i - off < new.length by omega]
  ·simp only [if_neg h1, show ¬ (i - off < new.length) by omega, show ¬ (off ≤ i ∧ i < off + new.length) by omega, if_false];congr 1;omega
theorem splice_length {α : Type} (cs new : List α) (off : Nat) (h : off + new.length ≤ cs.length) : (splice cs off new).length = cs.length := by
 simp [splice]; omega
theorem fill_ok {place : Nat → Option (Nat × Nat)} : ∀ (parts : List (Nat × Operand)) (ps : List (Nat × Nat × Opd)) (cs : List Av) (cells : Array Value) (out : List Av),
  parts.length = ps.length → (∀ (j : Nat) i x q, parts[j]? = some (i, x) → ps[j]? = some q → place i = some (q.1, q.2.1) ∧ ∃ t, opd P t x = some q.2.2) →
  TRep β A w H τ a → cs.length = cells.size → (∀ v ∈ cells.toList, v.oneCell' = true) → (∀ (i : Nat) c v, cs[i]? = some c → cells[i]? = some v → VRep β A w H c v) → fillP τ cs ps = some out →
  ∃ cells', Instr.fill place cells (parts.map fun (i, x) => (i, a.eval x)) = some cells' ∧ out.length = cells'.size ∧ (∀ v ∈ cells'.toList, v.oneCell' = true) ∧
   ∀ (i : Nat) c v, out[i]? = some c → cells'[i]? = some v → VRep β A w H c v
 | [], [], cs, cells, out, _, _, _, h1, h2, h3, h4 => by
  simp only [fillP, Option.some.injEq] at h4;subst h4;exact ⟨cells, rfl, h1, h2, h3⟩
 | [], q :: ps, cs, cells, out, hl, _, _, _, _, _, _ => by simp at hl
 | (i, x) :: parts, [], cs, cells, out, hl, _, _, _, _, _, _ => by simp at hl
 | (i, x) :: parts, (off, n, y) :: ps, cs, cells, out, hl, hp, ht, h1, h2, h3, h4 => by
  obtain ⟨hpl, t, hy⟩ := hp 0 i x (off, n, y) rfl rfl;simp only [fillP] at h4;cases e1 : val τ y with
  | none => simp [e1] at h4
  | some v =>
   cases e2 : v.cells with
   | none => simp [e1, e2] at h4
   | some vs =>
    simp only [e1, e2] at h4;split at h4
    ·rename_i hn;obtain ⟨c1, c2, c3⟩ := (opd_ok hy e1 ht).cells_ok e2;generalize hu : a.eval x = u at *;have hsz : u.cells.size = n := oM;have hfold := fold_set off u.cells.toList 0 cells sO;simp only [Nat.add_zero] at hfold;have hcells' : ∃ cells1 : Array Value, u.cells.zipIdx.foldl (fun cs (c, j) => cs.setIfInBounds (off + j) c) cells = cells1 ∧ cells1.toList = splice cells.toList off u.cells.toList := by
      refine ⟨_, rfl, ?_⟩;rw [← hfold, ← Array.foldl_toList, Array.toList_zipIdx]
     obtain ⟨cells1, hcf, hcl⟩ := hcells';have hlen1 : cells1.size = cells.size := by
      rw [← Array.length_toList, hcl, splice_length _ _ _ sO, Array.length_toList]
     have hget : ∀ j, cells1[j]? = if off ≤ j ∧ j < off + n then u.cells[j - off]? else cells[j]? := by
      intro j;rw [← Array.getElem?_toList, hcl, splice_get _ _ _ _ sO];simp [hsz]
     obtain ⟨cells', g1, g2, g3, g4⟩ := fill_ok parts ps (splice cs off vs) cells1 out (sX hl) (fun j i' x' q h5 h6 => hp (j + 1) i' x' q (sX h5) (sX h6)) ht
      (by rw [splice_length _ _ _ oM, hlen1, h1])
      (by
       intro z hz;obtain ⟨j, hj⟩ := List.getElem?_of_mem hz;rw [Array.getElem?_toList, hget] at hj;split at hj
       ·exact c2 z (List.mem_of_getElem? (by rw [Array.getElem?_toList]; exact hj))
       ·exact h2 z (List.mem_of_getElem? (by rw [Array.getElem?_toList]; exact hj)))
      (by
       intro j c z hjc hjz;rw [splice_get _ _ _ _ oM, hn.1] at hjc;rw [hget] at hjz;split at hjc
       ·rename_i hin;rw [if_pos hin] at hjz;exact c3 _ c z hjc hjz
       ·rename_i hin;rw [if_neg hin] at hjz;exact h3 _ c z hjc hjz) h4
     refine ⟨cells', ?_, g2, g3, g4⟩;simp only [List.map_cons, hu, Instr.fill, hpl];rw [if_neg sO];rw [hcf];exact g1
    ·cases h4
theorem runs_bld {t : TypeId} {parts : Array (Nat × Operand)} {zs : List Dat} {ps : List (Nat × Nat × Opd)} (hc : Core β A w H) (ht : TRep β A w H τ a) (ho : o.op = .build t parts)
  (hz : zsT P t = some zs) {place : Nat → Option (Nat × Nat)}
  (hpl : parts.toList.length = ps.length ∧ ∀ (j : Nat) i x q, parts.toList[j]? = some (i, x) → ps[j]? = some q → place i = some (q.1, q.2.1) ∧ ∃ t, opd P t x = some q.2.2)
  (hb : ∀ i z vs, P.info? t = some i → i.zero = some z → P.built t vs = Instr.fill place z.cells vs)
  (hs : step τ H (o.dst.getD 0) (.bld zs ps) = some r) : Runs P a.eval o w β A H r.v r.ups := by
 simp only [step] at hs;split at hs
 ·rename_i cs e;cases hs;obtain ⟨i, z, h1, h2, h3, h4, h5, h6⟩ := zsT_ok hz;obtain ⟨cells', g1, g2, g3, g4⟩ := fill_ok (place := place) parts.toList ps (zs.map .d) z.cells cs hpl.1 hpl.2 ht (sX h4) h5
   (by
    intro j c v hc' hv;rw [List.getElem?_map] at hc';cases e : zs[j]? with
    | none => simp [e] at hc'
    | some y => simp [e] at hc'; subst hc'; exact .d _ _ (h6 A w j y v e hv)) e
  have hrun := run_build (P := P) w t (parts.map fun (i, x) => (i, a.eval x)) cells' (by rw [hb i z _ h1 h2]; simpa using g1);exact Runs.pure hc (by simp [execOp, ho, hrun]) (mkAgg_ok g2 g3 g4)
 ·cases hs
theorem listElem_ptr {xs : List Dat} (h : Rep A w (.list sz xs) u) {k : Nat} (hk : k < xs.length) : ∃ b p cap, u = .slice (some ⟨b, p, none⟩) xs.length cap ∧
  Rep A w (.ptr (nth xs k).cells) (.pointer (some ⟨b, p + k * sz, none⟩)) := by
 cases h with
 | emp => simp at hk
 | list _ _ b p n cap vs hn hA hl hb h1 hsz hh hvl hv =>
  subst hn;have hfl := flat_length hsz;have hc : (nth xs k).cells.length = sz := hsz _ (nth_mem hk);have hle : k * sz + sz ≤ vs.length := by
   rw [← hvl, hfl, ← Nat.succ_mul];exact Nat.mul_le_mul_right _ hk
  refine ⟨b, p, cap, rfl, .ptr _ b _ ((vs.drop (k * sz)).take sz) hA (fun v hv' => h1 v (List.mem_of_mem_drop (List.mem_of_mem_take hv'))) ?_ sO ?_⟩
  ·intro i v hi;rw [List.getElem?_take] at hi;split at hi
   ·rw [List.getElem?_drop] at hi;have := hh _ v hi;rwa [← Nat.add_assoc] at this
   ·cases hi
  ·intro i c v h2 h3;rw [List.getElem?_take] at h3;split at h3
   ·rename_i hlt;rw [List.getElem?_drop] at h3;exact hv (k * sz + i) c v (by rw [flat_nth hsz hk hlt]; exact h2) h3
   ·cases h3
theorem runs_ixa {t e : TypeId} {ag : Bool} (hc : Core β A w H) (ht : TRep β A w H τ a) (ho : o.op = .indexAddr t x i) (hu : P.underlying t = some (.slice e))
  (hsz : szT P e = some sz) (hx : opd P t x = some x') {ti : TypeId} (hi : opd P ti i = some i')
  (hs : step τ H (o.dst.getD 0) (.ixa ag sz x' i') = some r) (hC : r.c) : Runs P a.eval o w β A H r.v r.ups := by
 have run : ∀ b p len cap k m, a.eval x = .slice (some ⟨b, p, none⟩) len cap → a.eval i = .int k m → 0 ≤ m → m < len → (execOp a.eval o).run P w = .ok (.value (.pointer (some ⟨b, p + m.toNat * sz, none⟩))) w := by
  intro b p len cap k m hp hq h0 h1;simp [execOp, ho, Instr.indexAt, Sem.run_bind, run_underlying hu, hp, hq, asIntOf, h0, h1, sizeOf_run hsz, Addr.add_lit]
 simp only [step] at hs;split at hs
 ·rename_i sz' xs k m e1 e2;cases hs;obtain ⟨rfl, h0, h1⟩ := hC;have hv := (opd_ok hx e1 ht).of_d;have hw := (opd_ok hi e2 ht).of_d;obtain ⟨b, p, cap, g1, g2⟩ := listElem_ptr hv (k := m.toNat) oM;generalize hu2 : a.eval i = u2 at *;cases hw;exact Runs.pure hc (run b p _ cap _ _ g1 rfl h0 h1) (.d _ _ g2)
 ·rename_i j ver k m e1 e2;have hv := opd_ok hx e1 ht;have hw := (opd_ok hi e2 ht).of_d;split at hs
  ·rename_i v' sz' xs hrow;cases hs;obtain ⟨rfl, rfl, h0, h1⟩ := hC;generalize hu1 : a.eval x = u1 at *;generalize hu2 : a.eval i = u2 at *;cases hw;cases hv with
   | ms _ _ _ hu3 h3 h4 h5 =>
    rcases (h4 _ _ _ hrow).2 rfl with ⟨g1, g2, _⟩ | ⟨b, C, T, fz, cap, g1, g2, g3, g4, g5⟩
    ·omega
    ·refine Runs.pure hc (run b 0 _ cap _ _ g5 rfl h0 h1) (.el _ _ _ _ b (m.toNat * sz') _ sP h3 ?_);intro v2 sz2 xs2 hr2;rw [hrow] at hr2;cases hr2;exact ⟨Nat.le_refl _, fun _ => ⟨oM, g1, rfl⟩⟩
  ·rename_i v' sz' xs hf;cases hs;obtain ⟨rfl, rfl, h0, h1⟩ := hC;generalize hu1 : a.eval x = u1 at *;generalize hu2 : a.eval i = u2 at *;cases hw;cases hv with
   | ms _ _ _ hu3 h3 h4 h5 =>
    obtain ⟨b, p, cap, g1, g2⟩ := listElem_ptr (h5 _ _ hf) (k := m.toNat) oM;exact Runs.pure hc (run b p _ cap _ _ g1 rfl h0 h1) (.d _ _ g2)
  ·cases hs
 ·rename_i j ver off len k m e1 e2;have hv := opd_ok hx e1 ht;have hw := (opd_ok hi e2 ht).of_d;split at hs
  ·rename_i v' sz' xs hrow;cases hs;obtain ⟨rfl, rfl, h0, h1⟩ := hC;generalize hu1 : a.eval x = u1 at *;generalize hu2 : a.eval i = u2 at *;cases hw;cases hv with
   | sub _ _ _ _ _ hu3 h3 h4 h5 =>
    obtain ⟨hol, hsub⟩ := (h4 _ _ _ hrow).2 rfl;rcases hsub with ⟨g1, g2, g3, _⟩ | ⟨b, C, T, fz, cap, ad, g1, g2, g3, g4, g5, g6⟩
    ·omega
    ·rw [g5 oM] at g6;refine Runs.pure hc (run b _ _ _ _ _ g6 rfl h0 h1) (.el _ _ _ _ b ((off + m.toNat) * sz') _ (by simp [Nat.add_mul]) h3 ?_);intro v2 sz2 xs2 hr2;rw [hrow] at hr2;cases hr2;exact ⟨Nat.le_refl _, fun _ => ⟨oM, g1, rfl⟩⟩
  ·cases hs
 ·cases hs
theorem runs_ixr {t e : TypeId} {len : Nat} (hc : Core β A w H) (ht : TRep β A w H τ a) (ho : o.op = .indexAddr t x i) (hu : P.underlying t = some (.array len e))
  (hsz : szT P e = some sz) (hx : opd P t x = some x') {ti : TypeId} (hi : opd P ti i = some i')
  (hs : step τ H (o.dst.getD 0) (.ixr len sz x' i') = some r) (hC : r.c) : Runs P a.eval o w β A H r.v r.ups := by
 simp only [step] at hs;split at hs
 ·rename_i j off k m e1 e2;cases hs;obtain ⟨h0, h1⟩ := hC;have hv := opd_ok hx e1 ht;have hw := (opd_ok hi e2 ht).of_d;generalize hu1 : a.eval x = u1 at *;generalize hu2 : a.eval i = u2 at *;cases hw;cases hv with
  | ref _ _ b p _ hu3 h3 h4 h5 =>
   refine Runs.pure hc (u := .pointer (some ⟨b, p + (off + m.toNat * sz), none⟩)) ?_ (.ref _ _ b p _ rfl h3 h4 ?_)
   ·simp [execOp, ho, Instr.indexAt, Sem.run_bind, run_underlying hu, hu1, hu2, hu3, asIntOf, Instr.sureAddr, h0, h1, sizeOf_run hsz, Addr.add_lit, Nat.add_assoc]
   ·intro ds hds;obtain ⟨b', p', q1, q2⟩ := (h5 ds hds).ptr_drop (m.toNat * sz);rw [hu3] at q1;cases q1;rw [List.drop_drop, Nat.add_assoc] at q2;exact q2
 ·rename_i cs k m e1 e2;cases hs;obtain ⟨h0, h1⟩ := hC;have hv := (opd_ok hx e1 ht).of_d;have hw := (opd_ok hi e2 ht).of_d;generalize hu1 : a.eval x = u1 at *;generalize hu2 : a.eval i = u2 at *;cases hw;obtain ⟨b, p, q1, q2⟩ := hv.ptr_drop (m.toNat * sz);refine Runs.pure hc (u := .pointer (some ⟨b, p + m.toNat * sz, none⟩)) ?_ (.d _ _ q2);simp [execOp, ho, Instr.indexAt, Sem.run_bind, run_underlying hu, hu1, hu2, q1, asIntOf, Instr.sureAddr, h0, h1, sizeOf_run hsz, Addr.add_lit, Nat.add_assoc]
 ·rename_i g k m e1 e2;split at hs
  ·rename_i cs hg;cases hs;obtain ⟨h0, h1⟩ := hC;have hv := (opd_ok hx e1 ht).of_d;have hw := (opd_ok hi e2 ht).of_d;generalize hu1 : a.eval x = u1 at *;generalize hu2 : a.eval i = u2 at *;cases hw;cases hv;obtain ⟨b, p, q1, q2⟩ := (hc.glob g cs hg).rep.ptr_drop (m.toNat * sz);cases q1;refine Runs.pure hc (u := .pointer (some ⟨g, 0 + m.toNat * sz, none⟩)) ?_ (.d _ _ q2);simp [execOp, ho, Instr.indexAt, Sem.run_bind, run_underlying hu, hu1, hu2, asIntOf, Instr.sureAddr, h0, h1, sizeOf_run hsz, Addr.add_lit, Nat.add_assoc]
  ·cases hs
 ·cases hs
end
end Av
namespace Av
open Go
variable [Glb] [Rls]
variable {lo hi : Option Operand}
section
variable {P : Program} {β : Blocks} {A : Nat → Prop} {w : World} {H : Heap} {τ : Tmps} {a : Act} {o : Oper}
theorem hputs_append : ∀ (H : Heap) (u u' : List (Nat × Obj)), hputs H (u ++ u') = hputs (hputs H u) u'
 | _, [], _ => rfl
 | H, (i, o) :: r, u' => hputs_append (upd H i (some o)) r u'
theorem ofBound_ok {t : TypeId} {dflt l : Int} {x : Option Operand} {x' : Option Opd} (hx : opdO P t x = some x') (h : ofBound τ dflt x' = some l) (ht : TRep β A w H τ a) :
  (x = none ∧ l = dflt) ∨ ∃ y k, x = some y ∧ a.eval y = .int k l := by
 cases x with
 | none => simp [opdO] at hx; subst hx; simp [ofBound] at h; exact .inl ⟨rfl, h.symm⟩
 | some y =>
  simp only [opdO] at hx;cases e : opd P t y with
  | none => simp [e] at hx
  | some y' =>
   simp [e] at hx;subst hx;simp only [ofBound] at h;split at h
   ·rename_i k n e2;cases h;have hv := (opd_ok e e2 ht).of_d;refine .inr ⟨y, k, rfl, ?_⟩;generalize a.eval y = u at *;cases hv;rfl
   ·cases h
theorem bound_run {v : Value} {k : IntKind} {n : Int} {y : Nat} (code : BoundsCode) (hv : v = .int k n) (h0 : 0 ≤ n) (h1 : n ≤ y) (w : World) : (Instr.sliceBound v y code).run P w = .ok n.toNat w := by
 simp [Instr.sliceBound, hv, asIntOf, h0, h1]
theorem bounds_run {isSlice : Bool} {len cap : Nat} {l h : Int} (hl : (lo = none ∧ l = 0) ∨ ∃ y k, lo = some y ∧ a.eval y = .int k l)
  (hh : (hi = none ∧ h = len) ∨ ∃ y k, hi = some y ∧ a.eval y = .int k h) (h0 : 0 ≤ l) (h1 : l ≤ h) (h2 : h ≤ cap) (w : World) :
  (Instr.sliceBounds isSlice len cap (lo.map a.eval) (hi.map a.eval) none).run P w = .ok (l.toNat, h.toNat, cap) w := by
 have hc : h ≤ (cap : Int) := h2;have hl2 : l ≤ (h.toNat : Int) := oM;rcases hl with ⟨rfl, rfl⟩ | ⟨y, k, rfl, hy⟩ <;> rcases hh with ⟨rfl, rfl⟩ | ⟨z, k', rfl, hz⟩
 ·simp [Instr.sliceBounds]
 ·simp [Instr.sliceBounds, bound_run (P := P) _ hz oM hc]
 ·simp [Instr.sliceBounds, bound_run (P := P) _ hy h0 (show l ≤ ((len : Nat) : Int) by simpa using h1)]
 ·simp [Instr.sliceBounds, Sem.run_bind, bound_run (P := P) _ hz oM hc, bound_run (P := P) _ hy h0 hl2]
theorem runs_sls {t : TypeId} {x : Operand} {x' : Opd} {lo' hi' : Option Opd} {ti : TypeId} {r : Res} (hc : Core β A w H) (ht : TRep β A w H τ a) (ho : o.op = .slice t x lo hi none) (hu : P.underlying t = some .string)
  (hx : opd P t x = some x') (hlo : opdO P ti lo = some lo') (hhi : opdO P ti hi = some hi') (hs : step τ H (o.dst.getD 0) (.sls x' lo' hi') = some r) (hC : r.c) : Runs P a.eval o w β A H r.v r.ups := by
 simp only [step] at hs;split at hs
 ·rename_i s e;split at hs
  ·rename_i l h e1 e2;cases hs;obtain ⟨h0, h1, h2⟩ := hC;have hv := (opd_ok hx e ht).of_d;have b1 := ofBound_ok hlo e1 ht;have b2 := ofBound_ok hhi e2 ht;generalize hue : a.eval x = u at *;cases hv with
   | str _ hl =>
    have hb := bounds_run (P := P) (isSlice := false) (len := s.length) (cap := s.length) b1 b2 h0 h1 h2 w;have hd : ((s.drop l.toNat).take (h - l).toNat).length ≤ 68719476736 := sO;refine Runs.pure hc (u := .string ⟨((s.drop l.toNat).take (h - l).toNat).toArray⟩) ?_ (.d _ _ (.str _ hd));have hsz : (⟨s.toArray⟩ : ByteArray).size = s.length := by simp [ByteArray.size]
    simp only [execOp, ho, Instr.sliceAt, Instr.slice, Sem.run_bind, run_underlying hu, hue, Result.andThen_ok, Option.map_none, Option.isSome_none, Bool.false_eq_true, if_false, hsz, hb];have hh : (h - l).toNat = h.toNat - l.toNat := oM;simp [ByteArray.extract_mk, hh]
  ·cases hs
 ·cases hs
theorem Rep.slice {sz : Nat} {xs : List Dat} {u : Value} (h : Rep A w (.list sz xs) u) {l n : Nat} (hln : l + n ≤ xs.length) :
  ∃ ad cap, u = .slice ad xs.length cap ∧ xs.length ≤ cap ∧ ∀ u', (∃ ad', u' = .slice ad' n (cap - l) ∧ (l < cap → ad' = ad.map (·.add (l * sz)))) → Rep A w (.list sz ((xs.drop l).take n)) u' := by
 cases h with
 | emp _ ad cap =>
  refine ⟨ad, cap, rfl, sP, ?_⟩;rintro u' ⟨ad', rfl, _⟩;have hn : n = 0 := by simp at hln; omega
  subst hn;simpa using Rep.emp sz ad' (cap - l)
 | list _ _ b p m cap vs hm hA hl hb h1 hsz hh hvl hv =>
  subst hm;refine ⟨_, cap, rfl, hl, ?_⟩;rintro u' ⟨ad', rfl, hap⟩;by_cases hn : n = 0
  ·subst hn;simpa using Rep.emp sz ad' (cap - l)
  ·have : ad' = some ⟨b, p + l * sz, none⟩ := by rw [hap oM]; simp [Addr.add_lit]
   subst this;have hlen : ((xs.drop l).take n).length = n := sO;have hsz' : ∀ x ∈ (xs.drop l).take n, x.cells.length = sz := fun x hx => hsz x (mem_drop_take hx)
   have hfe : flat ((xs.drop l).take n) = ((flat xs).drop (l * sz)).take (n * sz) := by
    rw [flat_take n fun x hx => hsz x (List.mem_of_mem_drop hx), flat_drop l hsz]
   have hfl' := flat_length hsz';rw [hlen] at hfl';have hfl := flat_length hsz;have hxs : (l + n) * sz ≤ (flat xs).length := by rw [hfl]; exact Nat.mul_le_mul_right _ hln
   rw [Nat.add_mul] at hxs;refine .list sz _ b (p + l * sz) n (cap - l) ((vs.drop (l * sz)).take (n * sz)) hlen.symm hA oM oM (fun v hv' => h1 v (mem_drop_take' hv')) hsz' ?_ ?_ ?_
   ·intro i v hi;rw [List.getElem?_take] at hi;split at hi
    ·rw [List.getElem?_drop] at hi;have := hh _ v hi;rwa [← Nat.add_assoc] at this
    ·cases hi
   ·rw [hfl']; simp; omega
   ·intro i c v h2 h3;rw [hfe, List.getElem?_take] at h2;rw [List.getElem?_take] at h3;split at h2
    ·rename_i hlt;rw [if_pos hlt, List.getElem?_drop] at h3;rw [List.getElem?_drop] at h2;exact hv _ c v h2 h3
    ·cases h2
where
 mem_drop_take' {α : Type} {x : α} {xs : List α} {i n : Nat} (h : x ∈ (xs.drop i).take n) : x ∈ xs := List.mem_of_mem_drop (List.mem_of_mem_take h)
theorem runs_slc {t e : TypeId} {x : Operand} {mx : Option Operand} {x' : Opd} {lo' hi' mx' : Option Opd} {ti : TypeId} {n : Nat} {r : Res} (hc : Core β A w H) (ht : TRep β A w H τ a) (ho : o.op = .slice t x lo hi mx) (hu : P.underlying t = some (.slice e))
  (hn : szT P e = some n) (hx : opd P t x = some x') (hlo : opdO P ti lo = some lo') (hhi : opdO P ti hi = some hi') (hmx : opdO P ti mx = some mx')
  (hs : step τ H (o.dst.getD 0) (.slc n x' lo' hi' mx') = some r) (hC : r.c) : Runs P a.eval o w β A H r.v r.ups := by
 simp only [step] at hs;cases ev : val τ x' with
 | none => simp [ev] at hs
 | some v =>
  simp only [ev] at hs;have hv := opd_ok hx ev ht;cases el : listOf H v with
  | none => simp [el] at hs
  | some p =>
   obtain ⟨sz, xs⟩ := p;simp only [el] at hs;have run : ∀ (ad : Option Addr) (cap : Nat) (l h : Int), a.eval x = .slice ad xs.length cap → xs.length ≤ cap → mx = none → ((lo = none ∧ l = 0) ∨ ∃ y k, lo = some y ∧ a.eval y = .int k l) → ((hi = none ∧ h = xs.length) ∨ ∃ y k, hi = some y ∧ a.eval y = .int k h) →
     0 ≤ l → l ≤ h → h ≤ (xs.length : Int) →
     (execOp a.eval o).run P w = .ok (.value (.slice (if cap = l.toNat then ad else ad.map (·.add (l.toNat * n))) (h - l).toNat (cap - l.toNat))) w := by
    intro ad cap l h hue hle hm b1 b2 h0 h1 h2;subst hm;have hb := bounds_run (P := P) (isSlice := true) (len := xs.length) (cap := cap) b1 b2 h0 h1 oM w;simp only [execOp, ho, Instr.sliceAt, Instr.slice, Sem.run_bind, run_underlying hu, hue, Result.andThen_ok, Option.map_none, hb, sizeOf_run hn];have hh : (h - l).toNat = h.toNat - l.toNat := oM;simp [hh]
   split at hs
   ·
    have hmx0 : mx = none := by
     cases mx with
     | none => rfl
     | some m => simp only [opdO] at hmx; cases em : opd P ti m <;> simp [em] at hmx
    split at hs
    ·rename_i l h e1 e2;have b1 := ofBound_ok hlo e1 ht;have b2 := ofBound_ok hhi e2 ht;split at hs
     ·rename_i d;cases hs;obtain ⟨rfl, h0, h1, h2⟩ := hC;have hrep : Rep A w (.list sz xs) (a.eval x) := by
       have hd := hv.of_d;generalize a.eval x = u at *;cases d with
       | list => cases el; exact hd
       | nil =>
        cases el;cases hd with
        | nil _ ad => exact .emp _ ad 0
       | _ => simp [listOf] at el
      obtain ⟨ad, cap, g1, g2, g3⟩ := hrep.slice (l := l.toNat) (n := (h - l).toNat) oM;refine Runs.pure hc (run ad cap l h g1 g2 hmx0 b1 b2 h0 h1 h2) (.d _ _ (g3 _ ⟨_, rfl, fun hlt => ?_⟩));rw [if_neg oM]
     ·rename_i i ver;cases hs;obtain ⟨hcur, rfl, h0, h1, h2⟩ := hC;simp only [listOf] at el;split at el
      ·rename_i v' sz' xs' hrow;cases el;simp only [curr, hrow] at hcur;subst hcur;generalize hue : a.eval x = u at *;cases hv with
       | ms _ _ _ hu3 h3 h4 h5 =>
        rcases (h4 _ _ _ hrow).2 rfl with ⟨q1, q2, ad, q3⟩ | ⟨b, C, T, fz, cap, q1, q2, q3, q4, q5⟩
        ·refine Runs.pure hc (run ad 0 l h (by rw [q3, q2]) oM hmx0 b1 b2 h0 h1 h2) (.sub _ _ _ _ _ rfl h3 ?_ (by rw [hrow]; simp));intro v2 sz2 xs2 hr2;rw [hrow] at hr2;cases hr2;have : l = 0 := oM;have : h = 0 := oM;subst l h;exact ⟨Nat.le_refl _, fun _ => ⟨sP, .inl ⟨q1, rfl, rfl, ad, sP⟩⟩⟩
        ·refine Runs.pure hc (run _ cap l h q5 q4 hmx0 b1 b2 h0 h1 h2) (.sub _ _ _ _ _ rfl h3 ?_ (by rw [hrow]; simp));intro v2 sz2 xs2 hr2;rw [hrow] at hr2;cases hr2;refine ⟨Nat.le_refl _, fun _ => ⟨oM, .inr ⟨b, C, T, fz, cap, if cap = l.toNat then ⟨b, 0, none⟩ else ⟨b, l.toNat * sz, none⟩, q1, q2, q3, oM, fun hlt => by rw [if_neg oM], ?_⟩⟩⟩;split <;> simp [Addr.add_lit]
      ·rename_i v' sz' xs' hf;cases el;simp only [curr, hf] at hcur;subst hcur;generalize hue : a.eval x = u at *;cases hv with
       | ms _ _ _ hu3 h3 h4 h5 =>
        obtain ⟨ad, cap, g1, g2, g3⟩ := (h5 _ _ hf).slice (l := l.toNat) (n := (h - l).toNat) oM;refine Runs.pure hc (run ad cap l h g1 g2 hmx0 b1 b2 h0 h1 h2) (.sub _ _ _ _ _ rfl h3 (by rw [hf]; simp) ?_);intro sz2 xs2 hr2;rw [hf] at hr2;cases hr2;exact g3 _ ⟨_, rfl, fun hlt => by rw [if_neg oM]⟩
      ·cases el
     ·rename_i i ver off len;cases hs;obtain ⟨hcur, rfl, h0, h1, h2⟩ := hC;simp only [listOf] at el;split at el
      ·rename_i v' sz' xs' hrow;cases el;simp only [curr, hrow] at hcur;subst hcur;generalize hue : a.eval x = u at *;cases hv with
       | sub _ _ _ _ _ hu3 h3 h4 h5 =>
        obtain ⟨hol, hsub⟩ := (h4 _ _ _ hrow).2 rfl;have hlen' : ((xs'.drop off).take len).length = len := sO;rw [hlen'] at run h2 b2;rcases hsub with ⟨q1, q2, q3, ad, q4⟩ | ⟨b, C, T, fz, cap, ad, q1, q2, q3, q4, q5, q6⟩
        ·refine Runs.pure hc (run ad 0 l h (by rw [q4, q3]) oM hmx0 b1 b2 h0 h1 h2) (.sub _ _ _ _ _ rfl h3 ?_ (by rw [hrow]; simp));intro v2 sz2 xs2 hr2;rw [hrow] at hr2;cases hr2;have : l = 0 := oM;have : h = 0 := oM;subst l h;exact ⟨Nat.le_refl _, fun _ => ⟨by simp [q2], .inl ⟨q1, by simp [q2], rfl, ad, sP⟩⟩⟩
        ·refine Runs.pure hc (run _ (cap - off) l h q6 oM hmx0 b1 b2 h0 h1 h2) (.sub _ _ _ _ _ rfl h3 ?_ (by rw [hrow]; simp));intro v2 sz2 xs2 hr2;rw [hrow] at hr2;cases hr2;refine ⟨Nat.le_refl _, fun _ => ⟨oM, .inr ⟨b, C, T, fz, cap, if cap - off = l.toNat then ad else ad.add (l.toNat * sz), q1, q2, q3, oM, fun hlt => by rw [if_neg oM, q5 oM, Addr.add_lit, Nat.add_mul], ?_⟩⟩⟩;rw [show cap - off - l.toNat = cap - (off + l.toNat) by omega];split <;> simp
      ·rename_i v' sz' xs' hf;cases el;simp only [curr, hf] at hcur;subst hcur;generalize hue : a.eval x = u at *;cases hv with
       | sub _ _ _ _ _ hu3 h3 h4 h5 =>
        obtain ⟨ad, cap, g1, g2, g3⟩ := (h5 _ _ hf).slice (l := l.toNat) (n := (h - l).toNat) oM;refine Runs.pure hc (run ad cap l h g1 g2 hmx0 b1 b2 h0 h1 h2) (.sub _ _ _ _ _ rfl h3 (by rw [hf]; simp) ?_);intro sz2 xs2 hr2;rw [hf] at hr2;cases hr2;have := g3 (.slice (if cap = l.toNat then ad else ad.map (·.add (l.toNat * sz))) (h - l).toNat (cap - l.toNat)) ⟨_, rfl, fun hlt => by rw [if_neg oM]⟩;rw [List.drop_take, List.drop_drop, List.take_take] at this;rw [show min (h - l).toNat (len - l.toNat) = (h - l).toNat by simp at h2; omega] at this;exact this
      ·cases el
     ·cases hs
    ·cases hs
   ·rename_i k;split at hs
    ·cases hs;have hlo0 : lo = none := by
      cases lo with
      | none => rfl
      | some m => simp only [opdO] at hlo; cases em : opd P ti m <;> simp [em] at hlo
     have h0 : ∀ {z : Option Operand} {k : IntKind}, opdO P ti z = some (some (.k (.int k 0))) → ∃ y k', z = some y ∧ a.eval y = .int k' 0 := by
      intro z k hz;cases z with
      | none => simp [opdO] at hz
      | some y =>
       simp only [opdO] at hz;cases em : opd P ti y with
       | none => simp [em] at hz
       | some y' =>
        simp [em] at hz;subst hz;have := (opd_ok (τ := τ) (v := .d (.int k 0)) em rfl ht).of_d;refine ⟨y, k, rfl, ?_⟩;generalize a.eval y = u at *;cases this;rfl
     obtain ⟨y1, k1, rfl, hy1⟩ := h0 hhi;obtain ⟨y2, k2, rfl, hy2⟩ := h0 hmx;subst hlo0;obtain ⟨vs, sv⟩ := listOf_ok hc el hC hv;obtain ⟨ad, cap, g1, g2, _⟩ := sv.ex;refine Runs.pure hc (u := .slice ad 0 0) ?_ (.d _ _ (.nil _ _));simp [execOp, ho, Instr.sliceAt, Instr.slice, Instr.sliceBounds, Instr.sliceBound, Sem.run_bind, run_underlying hu, g1, hy1, hy2, asIntOf, sizeOf_run hn]
    ·cases hs
   ·cases hs
end
end Av
namespace Av
open Go
variable [Glb] [Rls]
variable {d : Nat} {r : Res} {x : Operand} {x' : Opd} {n : Option Nat}
section
variable {P : Program} {β : Blocks} {A : Nat → Prop} {w : World} {H : Heap} {τ : Tmps} {a : Act} {o : Oper}
theorem alloc_old (w : World) (x : Go.Obj) {b : Nat} (h : b < w.heap.size) : (w.alloc x).heap[b]? = w.heap[b]? := by
 show (w.heap.push x)[b]? = _;rw [Array.getElem?_push, if_neg oM]
theorem alloc_at (w : World) (x : Go.Obj) : (w.alloc x).heap[w.heap.size]? = some x := by
 show (w.heap.push x)[w.heap.size]? = _;simp
theorem Stp.alloc (hc : Core β A w H) {i : Nat} (hn : H i = none) (x : Go.Obj) (o' : Obj)
  (hobj : (∀ c u, VRep β A w H c u → VRep (upd β i (some w.heap.size)) A (w.alloc x) (upd H i (some o')) c u) → ORep (upd β i (some w.heap.size)) A (w.alloc x) (upd H i (some o')) i o') :
  Stp β A w H (upd β i (some w.heap.size)) A (w.alloc x) (upd H i (some o')) :=
 Stp.one hc i o' (some w.heap.size) rfl rfl rfl sP (fun b hb _ => alloc_old w x hb) (fun _ h => h) (fun _ h => .inl h) (fun b h => by have := hc.old b h; simp; omega)
  (fun b hb _ => by cases hb; exact ⟨.inl (Nat.le_refl _), fun h => by have := hc.old _ h; omega⟩)
  (fun c u hcase hv => by
   exfalso;rcases hcase with ⟨off, rfl⟩ | ⟨ver, rfl⟩ | ⟨ver, off, len, rfl⟩ | ⟨ver, k, off, rfl⟩ | rfl <;> cases hv <;> simp_all)
  hobj
theorem Stp.allocD (hc : Core β A w H) (x : Go.Obj) : Stp β A w H β (fun b => A b ∨ b = w.heap.size) (w.alloc x) H :=
 Stp.new hc rfl rfl rfl sP (fun b hb => alloc_old w x hb) (fun _ h => .inl h) (fun b h => by rcases h with h | h; exact .inl h; exact .inr oM)
  (fun b h => by rcases h with h | h; (have := hc.old b h; simp; omega); (simp; omega))
theorem runs_new {e : TypeId} {zs : List Dat} (hc : Core β A w H) (ho : o.op = .alloc e) (hz : zsT P e = some zs) (hs : step τ H d (.new zs) = some r) : Runs P a.eval o w β A H r.v r.ups := by
 simp only [step] at hs;split at hs
 ·rename_i hn;cases hs;obtain ⟨i, z, h1, h2, h3, h4, h5, h6⟩ := zsT_ok hz;refine ⟨.pointer (some ⟨w.heap.size, 0, none⟩), _, A, w.alloc (.cells z.cells e), .inl ?_, Stp.alloc hc hn _ _ fun hv => ?_, ?_⟩
  ·simp [execOp, ho, Instr.alloc, Sem.run_bind, zeroValue_run h1 h2, newVar, newRow]
  ·refine ⟨w.heap.size, z.cells, e, upd_same _ _ _, alloc_at _ _, by simpa using h4, h5, ?_⟩;intro j c v hc' hv';rw [List.getElem?_map] at hc';cases e1 : zs[j]? with
   | none => simp [e1] at hc'
   | some y => simp [e1] at hc'; subst hc'; exact .d _ _ (h6 _ _ j y v e1 hv')
  ·refine .ref _ _ w.heap.size 0 _ rfl (by simp [hputs, upd]) (fun cs _ => ⟨upd_same _ _ _, rfl⟩) (by simp [hputs, upd])
 ·cases hs
theorem runs_box {e : TypeId} (hc : Core β A w H) (ht : TRep β A w H τ a) (ho : o.op = .box e x) (hx : opd P e x = some x') (hs : step τ H d (.box x') = some r) :
  Runs P a.eval o w β A H r.v r.ups := by
 simp only [step] at hs;split at hs
 ·rename_i v hn ev;split at hs
  ·rename_i cs ec;cases hs;obtain ⟨h1, h2, h3⟩ := (opd_ok hx ev ht).cells_ok ec;refine ⟨.pointer (some ⟨w.heap.size, 0, none⟩), _, A, w.alloc (.cells (a.eval x).cells e), .inl ?_, Stp.alloc hc hn _ _ fun hv => ?_, ?_⟩
   ·simp [execOp, ho, Instr.box, newVar, newRow]
   ·exact ⟨w.heap.size, _, e, upd_same _ _ _, alloc_at _ _, h1, h2, fun j c u hc' hu => hv _ _ (h3 j c u hc' hu)⟩
   ·refine .ref _ _ w.heap.size 0 _ rfl (by simp [hputs, upd]) (fun cs _ => ⟨upd_same _ _ _, rfl⟩) (by simp [hputs, upd])
  ·cases hs
 ·cases hs
theorem loadVar_run {t : TypeId} (h : shT P t = some n) {b p : Nat} (w : World) :
  (n = none → ∀ v, w.cell? ⟨b, p, none⟩ = some v → (loadVar t ⟨b, p, none⟩).run P w = .ok v w) ∧
  (∀ k vs, n = some k → vs.length = k → Holds w b p vs → (loadVar t ⟨b, p, none⟩).run P w = .ok (.agg vs.toArray) w) := by
 rcases shT_cases h with ⟨rfl, h1, h2⟩ | ⟨k, rfl, h1, h2⟩
 ·refine ⟨fun _ v hv => by simp [loadVar, Sem.run_bind, isAgg_run h1, hv], sP⟩
 ·refine ⟨sP, fun k' vs e hl hh => ?_⟩;cases e;subst hl;have := run_loadCells_list (P := P) w ⟨b, p, none⟩ vs (fun j v hj => by rw [Addr.add_lit]; exact hh j v hj);simp [loadVar, Sem.run_bind, isAgg_run h1, sizeOf_run h2, this]
theorem Rep.load {cs : List Dat} {u : Value} {t : TypeId} (h : Rep A w (.ptr cs) u) (hn : shT P t = some n) :
  ∃ b p, u = .pointer (some ⟨b, p, none⟩) ∧ (n = none → 0 < cs.length → ∃ v, (loadVar t ⟨b, p, none⟩).run P w = .ok v w ∧ Rep A w (cs.getD 0 .opq) v) ∧
   (∀ k, n = some k → k ≤ cs.length → ∃ v, (loadVar t ⟨b, p, none⟩).run P w = .ok v w ∧ Rep A w (.agg (cs.take k)) v) := by
 cases h with
 | ptr _ b p vs hA h1 hh hvl hv =>
  refine ⟨b, p, rfl, ?_, ?_⟩
  ·intro hnn h0;have hv0 : vs[0]? = some (vs[0]'oM) := sP;have hc0 : cs[0]? = some (cs.getD 0 .opq) := by simp [h0]
   exact ⟨_, (loadVar_run hn w).1 hnn _ (hh 0 _ hv0), hv 0 _ _ hc0 hv0⟩
  ·intro k hk hle;refine ⟨_, (loadVar_run hn w).2 k (vs.take k) hk sO ?_, .agg _ _ sO ?_ ?_⟩
   ·intro i v hi;rw [List.getElem?_take] at hi;split at hi
    ·exact hh i v hi
    ·cases hi
   ·intro v hv'; exact h1 v (List.mem_of_mem_take (by simpa using hv'))
   ·intro i c v hc' hv';rw [List.getElem?_take] at hc';simp only [List.getElem?_toArray, List.getElem?_take] at hv';split at hc'
    ·rename_i hlt; rw [if_pos hlt] at hv'; exact hv i c v hc' hv'
    ·cases hc'
theorem ld_ok {t : TypeId} (hc : Core β A w H) (ht : TRep β A w H τ a) (ho : o.op = .load t x) (hn : shT P t = some n) (hx : opd P t x = some x')
  (hs : step τ H d (.ld n x') = some r) (hC : r.c) : ∃ u, (execOp a.eval o).run P w = .ok (.value u) w ∧ VRep β A w H r.v u ∧ r.ups = [] := by
 have run : ∀ b p v, a.eval x = .pointer (some ⟨b, p, none⟩) → (loadVar t ⟨b, p, none⟩).run P w = .ok v w → (execOp a.eval o).run P w = .ok (.value v) w := by
  intro b p v hp hv;simp [execOp, ho, Instr.loadAt, hp, Instr.sureAddr, hv]
 have fromBox : ∀ {i off : Nat} {cs : List Av} {u : Value}, H i = some (.box cs) → VRep β A w H (.ref i off) u → ∃ b C, u = .pointer (some ⟨b, off, none⟩) ∧ cs.length = C.size ∧ (∀ v ∈ C.toList, v.oneCell' = true) ∧
   (∀ (j : Nat) c v, cs[j]? = some c → C[j]? = some v → VRep β A w H c v) ∧ ∃ T, w.heap[b]? = some (.cells C T (0, 0)) := by
  intro i off cs u hi hv;obtain ⟨b, C, T, e1, e2, e3, e4, e5⟩ := hc.objs i _ hi;cases hv with
  | ref _ _ b' p _ hu h0 h1 h2 =>
   obtain ⟨g1, rfl⟩ := h1 _ hi;rw [g1] at e1;cases e1;exact ⟨_, C, by rw [hu]; simp, e3, e4, e5, T, e2⟩
 simp only [step] at hs;split at hs
 ·rename_i i off ev;have hv := opd_ok hx ev ht;split at hs
  ·
   rename_i cs hi;split at hs
   ·rename_i c hcs;cases hs;obtain ⟨b, C, g1, g2, g3, g4, T, g5⟩ := fromBox hi hv;have hlt := (List.getElem?_eq_some_iff.1 hcs).1;have hC1 : C[off]? = some (C[off]'oM) := by simp [show off < C.size by omega]
    have hcell : w.cell? ⟨b, off, none⟩ = some (C[off]'oM) := by simp [World.cell?, g5, hC1]
    exact ⟨_, (run b off _ g1 ((loadVar_run hn w).1 rfl _ hcell)), (g4 off c _ hcs hC1), rfl⟩
   ·cases hs
  ·rename_i cs k hi;split at hs
   ·rename_i hle;cases hs;obtain ⟨b, C, g1, g2, g3, g4, T, g5⟩ := fromBox hi hv;have hh := holds_of_block g5 off k;have hlen : ((C.toList.drop off).take k).length = k := sO;have hv2 := VRep.seg (β := β) (A := A) (w := w) (H := H) g2 g3 g4 hle;refine ⟨_, (run b off _ g1 ((loadVar_run hn w).2 k _ rfl hlen hh)), ?_, rfl⟩;have : ((C.toList.drop off).take k).toArray = C.extract off (off + k) := by apply Array.ext'; simp
    rw [this];exact hv2
   ·cases hs
  ·rename_i ds hi;cases hs;cases hv with
   | ref _ _ b p _ hu h0 h1 h2 =>
    obtain ⟨b', p', q1, q2, _⟩ := (h2 _ hi).load hn;obtain ⟨v, q3, q4⟩ := q2 rfl sO;refine ⟨_, (run b' p' _ q1 q3), (.d _ _ ?_), rfl⟩;simpa [List.getD_eq_getElem?_getD] using q4
  ·rename_i ds k hi;cases hs;cases hv with
   | ref _ _ b p _ hu h0 h1 h2 =>
    obtain ⟨b', p', q1, _, q2⟩ := (h2 _ hi).load hn;obtain ⟨v, q3, q4⟩ := q2 k rfl sO;exact ⟨_, (run b' p' _ q1 q3), (.d _ _ q4), rfl⟩
  ·cases hs
 ·rename_i i ver k off ev;have hv := opd_ok hx ev ht;have fromRow : ∀ {v' sz : Nat} {xs : List Dat}, H i = some (.row v' sz xs) → ver = v' → ∃ b, a.eval x = .pointer (some ⟨b, k * sz + off, none⟩) ∧
    (∀ j c, (nth xs k).cells[j]? = some c → ∃ v, w.cell? ⟨b, k * sz + j, none⟩ = some v ∧ v.oneCell' = true ∧ Rep A w c v) := by
   intro v' sz xs hrow hver;subst hver;obtain ⟨hs0, hsz, hb, hblk⟩ := hc.objs i _ hrow;cases hv with
   | el _ _ _ _ b p _ hu h0 h1 =>
    obtain ⟨hk, g1, rfl⟩ := (h1 _ _ _ hrow).2 rfl;rcases hblk with ⟨q1, _⟩ | ⟨b', C, T, cap, q1, q2, q3, q4, q5, q6⟩
    ·rw [q1] at g1; cases g1
    ·rw [q1] at g1;cases g1;refine ⟨_, hu, fun j c hj => ?_⟩;have hj' : j < sz := by
      have := (List.getElem?_eq_some_iff.1 hj).1;rwa [hsz _ (nth_mem hk)] at this
     have hf := flat_nth hsz hk hj';have hfl := flat_length hsz;have hlt : k * sz + j < (flat xs).length := by
      have : (k + 1) * sz ≤ xs.length * sz := Nat.mul_le_mul_right _ hk;rw [Nat.succ_mul] at this;omega
     have hcsz : (flat xs).length ≤ C.size := by rw [hfl, q3]; exact Nat.mul_le_mul_right _ q4
     have hCj : C[k * sz + j]? = some (C[k * sz + j]'oM) := by simp [show k * sz + j < C.size by omega]
     exact ⟨_, by simp [World.cell?, q2, hCj], q5 _ _ hlt hCj, q6 _ c _ (by rw [hf]; exact hj) hCj⟩
  split at hs
  ·rename_i v' sz xs hrow;cases hs;obtain ⟨rfl, hlt⟩ := hC;obtain ⟨b, g1, g2⟩ := fromRow hrow rfl;obtain ⟨v, q1, q2, q3⟩ := g2 off ((nth xs k).cells.getD off .opq) (by simp [hlt]);exact ⟨_, (run b _ _ g1 ((loadVar_run hn w).1 rfl _ q1)), (.d _ _ q3), rfl⟩
  ·rename_i v' sz xs n hrow;cases hs;obtain ⟨rfl, hle⟩ := hC;obtain ⟨b, g1, g2⟩ := fromRow hrow rfl;have hvs : ∃ vs : List Value, vs.length = n ∧ (∀ v ∈ vs, v.oneCell' = true) ∧ Holds w b (k * sz + off) vs ∧ ∀ (j : Nat) c v, (((nth xs k).cells.drop off).take n)[j]? = some c → vs[j]? = some v → Rep A w c v := by
    refine ⟨(List.range n).map fun j => (w.cell? ⟨b, k * sz + (off + j), none⟩).getD undef, sP, ?_, ?_, ?_⟩
    ·intro v hv';obtain ⟨j, hj, rfl⟩ := List.mem_map.1 hv';have hj' : off + j < (nth xs k).cells.length := by simp at hj; omega
     obtain ⟨v, q1, q2, q3⟩ := g2 (off + j) _ (List.getElem?_eq_getElem hj');rw [q1]; exact q2
    ·intro j v hj;simp only [List.getElem?_map] at hj;cases e : (List.range n)[j]? with
     | none => simp [e] at hj
     | some j' =>
      simp only [e, Option.map_some, Option.some.injEq] at hj;obtain ⟨hjn, rfl⟩ := List.getElem?_eq_some_iff.1 e;simp at hjn hj;have hj' : off + j < (nth xs k).cells.length := oM;obtain ⟨v', q1, q2, q3⟩ := g2 (off + j) _ (List.getElem?_eq_getElem hj');rw [q1] at hj;simp at hj;rw [← hj, Nat.add_assoc];exact q1
    ·intro j c v hjc hjv;simp only [List.getElem?_map] at hjv;cases e : (List.range n)[j]? with
     | none => simp [e] at hjv
     | some j' =>
      simp only [e, Option.map_some, Option.some.injEq] at hjv;obtain ⟨hjn, rfl⟩ := List.getElem?_eq_some_iff.1 e;simp at hjn hjv;rw [List.getElem?_take, if_pos hjn, List.getElem?_drop] at hjc;obtain ⟨v', q1, q2, q3⟩ := g2 (off + j) c hjc;rw [q1] at hjv;simp at hjv;rw [← hjv];exact q3
   obtain ⟨vs, q1, q2, q3, q4⟩ := hvs;refine ⟨_, (run b _ _ g1 ((loadVar_run hn w).2 n vs rfl q1 q3)), (.d _ _ (.agg _ _ sO (sX q2) ?_)), rfl⟩;intro j c v hjc hjv;exact q4 j c v hjc (sX hjv)
  ·cases hs
 ·rename_i cs ev;have hv := (opd_ok hx ev ht).of_d;obtain ⟨b, p, q1, q2, q3⟩ := hv.load hn;split at hs
  ·cases hs;obtain ⟨v, g1, g2⟩ := q2 rfl hC;exact ⟨_, (run b p _ q1 g1), (.d _ _ g2), rfl⟩
  ·rename_i k;cases hs;obtain ⟨v, g1, g2⟩ := q3 k rfl hC;exact ⟨_, (run b p _ q1 g1), (.d _ _ g2), rfl⟩
 ·rename_i g ev;have hv := (opd_ok hx ev ht).of_d;split at hs
  ·rename_i cs hg;cases hs;obtain ⟨b, p, q1, q2, q3⟩ := (hc.glob g cs hg).rep.load hn;obtain ⟨v, g1, g2⟩ := q2 rfl hC;generalize hue : a.eval x = u at *;cases hv;exact ⟨_, (run b p _ q1 g1), (.d _ _ g2), rfl⟩
  ·rename_i cs k hg;cases hs;obtain ⟨b, p, q1, q2, q3⟩ := (hc.glob g cs hg).rep.load hn;obtain ⟨v, g1, g2⟩ := q3 k rfl hC;generalize hue : a.eval x = u at *;cases hv;exact ⟨_, (run b p _ q1 g1), (.d _ _ g2), rfl⟩
  ·cases hs
 ·cases hs
theorem runs_ld {t : TypeId} (hc : Core β A w H) (ht : TRep β A w H τ a) (ho : o.op = .load t x) (hn : shT P t = some n) (hx : opd P t x = some x')
  (hs : step τ H d (.ld n x') = some r) (hC : r.c) : Runs P a.eval o w β A H r.v r.ups := by
 obtain ⟨u, h1, h2, h3⟩ := ld_ok hc ht ho hn hx hs hC;rw [h3];exact Runs.pure hc h1 h2
end
end Av
namespace Av
open Go
variable [Glb] [Rls]
variable {b : Nat} {C : Array Value}
section
variable {P : Program} {β : Blocks} {A : Nat → Prop} {w : World} {H : Heap} {τ : Tmps} {a : Act} {o : Oper}
theorem upd_self {α : Type} (f : Nat → α) (i : Nat) (x : α) (h : f i = x) : upd f i x = f := by
 funext j; unfold upd; split
 ·rename_i e; rw [e, h]
 ·rfl
theorem Stp.boxSet (hc : Core β A w H) {i : Nat} {cs cs' : List Av} {C' : Array Value} {T : TypeId} (hi : H i = some (.box cs)) (hb : β i = some b) (hh : w.heap[b]? = some (.cells C T (0, 0)))
  (hl : cs'.length = C'.size) (h1 : ∀ v ∈ C'.toList, v.oneCell' = true)
  (hv : (∀ c u, VRep β A w H c u → VRep β A (w.setRow b C') (upd H i (some (.box cs'))) c u) → ∀ (j : Nat) c v, cs'[j]? = some c → C'[j]? = some v → VRep β A (w.setRow b C') (upd H i (some (.box cs'))) c v) :
  Stp β A w H β A (w.setRow b C') (upd H i (some (.box cs'))) := by
 have hβ : upd β i (some b) = β := upd_self _ _ _ hb;have := Stp.one (β := β) (A := A) (A' := A) (w' := w.setRow b C') hc i (.box cs') (some b) rfl rfl rfl sP (fun k hk hne => setRow_other w b k C' (fun e => hne _ hi rfl (by rw [hb, e]))) (fun _ h => h) (fun _ h => .inl h)
  (fun k h => by simpa using hc.old k h) (fun k hk _ => by cases hk; exact ⟨.inr ⟨_, hi, rfl, hb⟩, hc.sep i _ b hi rfl hb⟩)
  (fun c u hcase hvr => by
   rw [hβ];rcases hcase with ⟨off, rfl⟩ | ⟨ver, rfl⟩ | ⟨ver, off, len, rfl⟩ | ⟨ver, k, off, rfl⟩ | rfl
   ·cases hvr with
    | ref _ _ b' p _ hu h0 g1 g2 => exact .ref _ _ b' p _ hu sU (fun cs2 _ => g1 _ hi) sU
   ·cases hvr with
    | ms _ _ _ hu h0 g1 g2 => exact .ms _ _ _ hu sU sU sU
   ·cases hvr with
    | sub _ _ _ _ _ hu h0 g1 g2 => exact .sub _ _ _ _ _ hu sU sU sU
   ·cases hvr with
    | el _ _ _ _ b' p _ hu h0 g1 => exact .el _ _ _ _ b' p _ hu sU sU
   ·cases hvr with
    | mp _ _ hu h0 g1 g2 g3 => exact .mp _ _ hu sU sU sU sU)
  (fun hall => ⟨b, C', T, by rw [hβ]; exact hb, setRow_heap w b C C' T (0, 0) hh, hl, h1, by rw [hβ] at hall ⊢; exact hv hall⟩)
 rwa [hβ] at this
theorem Stp.rowSet (hc : Core β A w H) {i ver ver' sz cap : Nat} {xs xs' : List Dat} {C' : Array Value} {T : TypeId} (hi : H i = some (.row ver sz xs)) (hb : β i = some b) (hh : w.heap[b]? = some (.cells C T (0, 0)))
  (hcap : C.size = cap * sz) (hsz' : C'.size = C.size) (hver : ver ≤ ver') (hlen : ver' = ver → xs'.length = xs.length) (hs : ∀ x ∈ xs', x.cells.length = sz) (hbnd : xs'.length ≤ 68719476736) (hle : xs'.length ≤ cap)
  (h1 : ∀ (j : Nat) v, j < (flat xs').length → C'[j]? = some v → v.oneCell' = true)
  (hv : ∀ (j : Nat) c v, (flat xs')[j]? = some c → C'[j]? = some v → Rep A w c v) :
  Stp β A w H β A (w.setRow b C') (upd H i (some (.row ver' sz xs'))) := by
 have hβ : upd β i (some b) = β := upd_self _ _ _ hb;obtain ⟨hs0, hsz, _, _⟩ := hc.objs i _ hi;have hnA : ¬ A b := hc.sep i _ b hi rfl hb;have hsame : SameOn A w (w.setRow b C') := fun k hk => setRow_other w b k C' (fun e => hnA (e ▸ hk))
 have := Stp.one (β := β) (A := A) (A' := A) (w' := w.setRow b C') hc i (.row ver' sz xs') (some b) rfl rfl rfl sP (fun k hk hne => setRow_other w b k C' (fun e => hne _ hi rfl (by rw [hb, e]))) (fun _ h => h) (fun _ h => .inl h)
  (fun k h => by simpa using hc.old k h) (fun k hk _ => by cases hk; exact ⟨.inr ⟨_, hi, rfl, hb⟩, hnA⟩)
  (fun c u hcase hvr => by
   rw [hβ];rcases hcase with ⟨off, rfl⟩ | ⟨ver2, rfl⟩ | ⟨ver2, off, len, rfl⟩ | ⟨ver2, k, off, rfl⟩ | rfl
   ·cases hvr with
    | ref _ _ b' p _ hu h0 g1 g2 => exact .ref _ _ b' p _ hu sU sU sU
   ·cases hvr with
    | ms _ _ _ hu h0 g1 g2 =>
     obtain ⟨q1, q2⟩ := g1 _ _ _ hi;refine .ms _ _ _ hu sU ?_ sU;intro v3 sz3 xs3 h3;simp only [upd, if_true, Option.some.injEq, Obj.row.injEq] at h3;obtain ⟨rfl, rfl, rfl⟩ := h3;refine ⟨oM, fun e => ?_⟩;have e1 : ver = ver2 := oM;have e2 : xs'.length = xs.length := hlen oM;rw [e2];rcases q2 e1 with ⟨r1, _⟩ | ⟨b', C2, T2, fz2, cap2, r1, r2, r3, r4, r5⟩
     ·rw [hb] at r1; cases r1
     ·rw [hb] at r1;cases r1;rw [hh] at r2;cases r2;exact .inr ⟨b, C', T, (0, 0), cap2, hb, setRow_heap w b C C' T (0, 0) hh, by rw [hsz', r3], r4, r5⟩
   ·cases hvr with
    | sub _ _ _ _ _ hu h0 g1 g2 =>
     obtain ⟨q1, q2⟩ := g1 _ _ _ hi;refine .sub _ _ _ _ _ hu sU ?_ sU;intro v3 sz3 xs3 h3;simp only [upd, if_true, Option.some.injEq, Obj.row.injEq] at h3;obtain ⟨rfl, rfl, rfl⟩ := h3;refine ⟨oM, fun e => ?_⟩;have e1 : ver = ver2 := oM;have e2 : xs'.length = xs.length := hlen oM;obtain ⟨q3, q4⟩ := q2 e1;refine ⟨oM, ?_⟩;rcases q4 with ⟨r1, _⟩ | ⟨b', C2, T2, fz2, cap2, ad, r1, r2, r3, r4⟩
     ·rw [hb] at r1; cases r1
     ·rw [hb] at r1;cases r1;rw [hh] at r2;cases r2;exact .inr ⟨b, C', T, (0, 0), cap2, ad, hb, setRow_heap w b C C' T (0, 0) hh, by rw [hsz', r3], r4⟩
   ·cases hvr with
    | el _ _ _ _ b' p _ hu h0 g1 =>
     obtain ⟨q1, q2⟩ := g1 _ _ _ hi;refine .el _ _ _ _ b' p _ hu sU ?_;intro v3 sz3 xs3 h3;simp only [upd, if_true, Option.some.injEq, Obj.row.injEq] at h3;obtain ⟨rfl, rfl, rfl⟩ := h3;refine ⟨oM, fun e => ?_⟩;have e1 : ver = ver2 := oM;have e2 : xs'.length = xs.length := hlen oM;obtain ⟨q3, q4, q5⟩ := q2 e1;exact ⟨oM, q4, q5⟩
   ·cases hvr with
    | mp _ _ hu h0 g1 g2 g3 => exact .mp _ _ hu sU sU sU sU)
  (fun hall => ⟨hs0, hs, hbnd, .inr ⟨b, C', T, cap, by rw [hβ]; exact hb, setRow_heap w b C C' T (0, 0) hh, by rw [hsz', hcap], hle, h1, fun j c v h2 h3 => (hv j c v h2 h3).mono hsame fun _ h => h⟩⟩)
 rwa [hβ] at this
theorem storeVar_run {t : TypeId} {n : Option Nat} (hn : shT P t = some n) {p : Nat} {u : Value} {T : TypeId} (hh : w.heap[b]? = some (.cells C T (0, 0)))
  (hu : u.cells.size = n.getD 1) (hle : p + u.cells.size ≤ C.size) (h1 : ∀ v ∈ u.cells.toList, v.oneCell' = true) :
  (storeVar t ⟨b, p, none⟩ u).run P w = .ok () (w.setRow b (splice C.toList p u.cells.toList).toArray) := by
 have hsz : szT P t = some (n.getD 1) := by
  rcases shT_cases hn with ⟨rfl, _, h2⟩ | ⟨k, rfl, _, h2⟩ <;> exact h2
 have := run_storeCells_at P b p T u.cells.toList 0 C w hh (sX hle) h1;simp only [Nat.add_zero] at this;simp only [storeVar, Sem.run_bind, sizeOf_run hsz, Result.andThen_ok, hu, ne_eq, not_true_eq_false, if_false];rw [show (splice C.toList p u.cells.toList) = C.toList.take p ++ u.cells.toList ++ C.toList.drop (p + u.cells.toList.length) by simp [splice]];simpa using this
theorem runs_sto {t : TypeId} {x y : Operand} {x' y' : Opd} {n : Option Nat} {d : Nat} {r : Res} (hc : Core β A w H) (ht : TRep β A w H τ a) (ho : o.op = .store t x y) (hn : shT P t = some n) (hx : opd P t x = some x') (hy : opd P t y = some y')
  (hs : step τ H d (.sto n x' y') = some r) (hC : r.c) : Runs P a.eval o w β A H r.v r.ups := by
 have run : ∀ b p C T, a.eval x = .pointer (some ⟨b, p, none⟩) → w.heap[b]? = some (.cells C T (0, 0)) → (a.eval y).cells.size = n.getD 1 → p + (a.eval y).cells.size ≤ C.size → (∀ v ∈ (a.eval y).cells.toList, v.oneCell' = true) →
   (execOp a.eval o).run P w = .ok .skip (w.setRow b (splice C.toList p (a.eval y).cells.toList).toArray) := by
  intro b p C T h1 h2 h3 h4 h5;simp [execOp, ho, Instr.storeAt, h1, Instr.sureAddr, storeVar_run hn h2 h3 h4 h5]
 simp only [step] at hs;split at hs
 ·rename_i i off v e1 e2;have hv := opd_ok hx e1 ht;split at hs
  ·rename_i cs vs hi ec;split at hs
   ·rename_i hle;cases hs;obtain ⟨c1, c2, c3⟩ := (opd_ok hy e2 ht).cells_ok ec;obtain ⟨b, C, T, g1, g2, g3, g4, g5⟩ := hc.objs i _ hi;cases hv with
    | ref _ _ b' p _ hu h0 q1 q2 =>
     obtain ⟨r1, rfl⟩ := q1 _ hi;rw [r1] at g1;cases g1;rw [Nat.zero_add] at hu;have hsz : (splice C.toList off (a.eval y).cells.toList).length = C.size := by rw [splice_length _ _ _ sO, Array.length_toList]
     refine ⟨undef, β, A, _, .inr ⟨run _ off C T hu g2 oM oM c2, rfl⟩, Stp.boxSet hc hi r1 g2 ?_ ?_ ?_, .und⟩
     ·rw [splice_length _ _ _ oM, List.size_toArray, hsz, g3]
     ·intro z hz;obtain ⟨j, hj⟩ := List.getElem?_of_mem hz;simp only [] at hj;rw [splice_get _ _ _ _ sO] at hj;split at hj
      ·exact c2 z (List.mem_of_getElem? hj)
      ·exact g4 z (List.mem_of_getElem? hj)
     ·intro hall j c z hjc hjz;rw [splice_get _ _ _ _ oM] at hjc;rw [List.getElem?_toArray, splice_get _ _ _ _ sO] at hjz;have hlen : vs.length = (a.eval y).cells.toList.length := sX c1;rw [hlen] at hjc;split at hjc
      ·rename_i hin;rw [if_pos hin] at hjz;exact hall _ _ (c3 _ c z hjc (sX hjz))
      ·rename_i hin;rw [if_neg hin] at hjz;exact hall _ _ (g5 _ c z hjc (sX hjz))
   ·cases hs
  ·cases hs
 ·rename_i i ver k off v e1 e2;have hv := opd_ok hx e1 ht;have hw := (opd_ok hy e2 ht).of_d;obtain ⟨c1, c2, c3⟩ := hw.cells_ok;split at hs
  ·rename_i v' sz xs hrow;have main : ∀ x'' : Dat, ver = v' → v.cells.length = n.getD 1 → off + v.cells.length ≤ (nth xs k).cells.length → x''.cells = splice (nth xs k).cells off v.cells →
     Runs P a.eval o w β A H .und [(i, .row v' sz (xs.set k x''))] := by
    intro x'' hver hvl hle hx'';subst hver;obtain ⟨hs0, hsz, hb, hblk⟩ := hc.objs i _ hrow;cases hv with
    | el _ _ _ _ b p _ hu h0 q1 =>
     obtain ⟨hk, r1, rfl⟩ := (q1 _ _ _ hrow).2 rfl;rcases hblk with ⟨s1, _⟩ | ⟨b', C, T, cap, s1, s2, s3, s4, s5, s6⟩
     ·rw [s1] at r1; cases r1
     ·rw [s1] at r1;cases r1;have hnl := hsz _ (nth_mem hk);have hkk : (k + 1) * sz ≤ C.size := by rw [s3]; exact Nat.mul_le_mul_right _ oM
      rw [Nat.succ_mul] at hkk;have hple : k * sz + off + (a.eval y).cells.size ≤ C.size := oM;have hlenS : (splice C.toList (k * sz + off) (a.eval y).cells.toList).length = C.size := by rw [splice_length _ _ _ sO, Array.length_toList]
      have hszx : x''.cells.length = sz := by rw [hx'', splice_length _ _ _ hle, hnl]
      have hall' : ∀ z ∈ xs.set k x'', z.cells.length = sz := by
       intro z hz;rcases List.mem_or_eq_of_mem_set hz with h | h
       ·exact hsz z h
       ·rw [h]; exact hszx
      have hfl := flat_length hsz;have hfl' := flat_length hall';rw [List.length_set] at hfl';have hflat : ∀ j, (flat (xs.set k x''))[j]? = if k * sz + off ≤ j ∧ j < k * sz + off + v.cells.length then v.cells[j - (k * sz + off)]? else (flat xs)[j]? := by
       intro j;by_cases hj : j < (flat xs).length
       ·
        have hdm := Nat.div_add_mod j sz;have hm := Nat.mod_lt j hs0;generalize hq : j / sz = q at *;generalize hr : j % sz = r at *;have hjq : j = q * sz + r := by rw [Nat.mul_comm]; omega
        have hqx : q < xs.length := by
         rcases Nat.lt_or_ge q xs.length with h | h
         ·exact h
         ·exfalso;have : xs.length * sz ≤ q * sz := Nat.mul_le_mul_right _ h
          omega
        have e1 := flat_nth hall' (k := q) (j := r) (sX hqx) hm;have e2 := flat_nth hsz hqx hm;rw [hjq, e1, e2];by_cases hqk : q = k
        ·subst hqk;have : nth (xs.set q x'') q = x'' := by simp [nth, hqx]
         rw [this, hx'', splice_get _ _ _ _ hle];by_cases hin : off ≤ r ∧ r < off + v.cells.length
         ·rw [if_pos hin, if_pos oM];congr 1;omega
         ·rw [if_neg hin, if_neg oM]
        ·have : nth (xs.set k x'') q = nth xs q := by simp [nth, Ne.symm hqk]
         rw [this, if_neg];intro hin;rcases Nat.lt_or_ge q k with h | h
         ·have : (q + 1) * sz ≤ k * sz := Nat.mul_le_mul_right _ h;rw [Nat.succ_mul] at this;omega
         ·have : (k + 1) * sz ≤ q * sz := Nat.mul_le_mul_right _ oM;rw [Nat.succ_mul] at this;omega
       ·rw [List.getElem?_eq_none oM, List.getElem?_eq_none (by omega : (flat xs).length ≤ j)];split
        ·rename_i hin;exfalso;have : (k + 1) * sz ≤ xs.length * sz := Nat.mul_le_mul_right _ hk;rw [Nat.succ_mul] at this;omega
        ·rfl
      refine ⟨undef, β, A, _, .inr ⟨run _ _ C T hu s2 oM hple c2, rfl⟩, Stp.rowSet hc hrow s1 s2 s3 (sX hlenS) (Nat.le_refl _) sP hall' (sX hb) (sX s4) ?_ ?_, .und⟩
      ·intro j z hj hjz;rw [List.getElem?_toArray, splice_get _ _ _ _ sO] at hjz;split at hjz
       ·exact c2 z (List.mem_of_getElem? hjz)
       ·exact s5 j z oM (sX hjz)
      ·intro j c z hjc hjz;rw [hflat] at hjc;rw [List.getElem?_toArray, splice_get _ _ _ _ sO] at hjz;have hlen : v.cells.length = (a.eval y).cells.toList.length := sX c1;rw [hlen] at hjc;split at hjc
       ·rename_i hin;rw [if_pos hin] at hjz;exact c3 _ c z hjc (sX hjz)
       ·rename_i hin;rw [if_neg hin] at hjz;exact s6 _ c z hjc (sX hjz)
   split at hs
   ·cases hs;obtain ⟨hver, hvl, hle⟩ := hC;refine main _ hver (sX hvl) oM ?_;unfold putEl;split
    ·rfl
    ·rename_i hsz1;have hsz1 : sz = 1 := sX hsz1;subst hsz1;have hnl : (nth xs k).cells.length = 1 := by
      obtain ⟨hs0, hsz, _, _⟩ := hc.objs i _ hrow;cases hv with
      | el _ _ _ _ b p _ hu h0 q1 => exact hsz _ (nth_mem ((q1 _ _ _ hrow).2 hver.symm).1)
     have hoff : off = 0 := oM;subst hoff;obtain ⟨c, hcc⟩ : ∃ c, v.cells = [c] := by
      cases hvc : v.cells with
      | nil => simp [hvc] at hvl
      | cons c r => simp [hvc] at hvl; exact ⟨c, by simp [hvl]⟩
     obtain ⟨c', hcc'⟩ : ∃ c, (nth xs k).cells = [c] := by
      cases hvc : (nth xs k).cells with
      | nil => simp [hvc] at hnl
      | cons c r => simp [hvc] at hnl; exact ⟨c, by simp [hnl]⟩
     rw [hcc, hcc'];simp only [List.headD_cons, splice, List.take_zero, List.nil_append, List.length_cons, List.length_nil, List.drop_succ_cons, List.drop_nil, List.append_nil];have hone : ∀ ds, c ≠ .agg ds := by
      intro ds e;subst e;have hmem : (0 : Nat) < (a.eval y).cells.size := by rw [← c1, hcc]; simp
      have h2 := c3 0 (.agg ds) ((a.eval y).cells[0]) (by rw [hcc]; rfl) sP;obtain ⟨arr, he⟩ := h2.agg_inv;have h3 := c2 ((a.eval y).cells[0]) sP;rw [he] at h3;cases h3
     cases c <;> first | rfl | exact absurd rfl (hone _)
   ·rename_i n';cases hs;obtain ⟨hver, hvl, hle⟩ := hC;exact main _ hver (sX hvl) oM rfl
  ·cases hs
 ·cases hs
end
end Av
namespace Av
open Go
variable [Glb] [Rls]
variable {i sz : Nat} {cs : List Av} {ds : List Dat}
section
variable {P : Program} {β : Blocks} {A : Nat → Prop} {w : World} {H : Heap} {τ : Tmps} {a : Act} {o : Oper}
theorem row_rep {ver b cap : Nat} {xs : List Dat} {C : Array Value} {T : TypeId} {fz : Nat × Nat} (hc : Core β A w H) (hi : H i = some (.row ver sz xs)) (hb : β i = some b) (hh : w.heap[b]? = some (.cells C T fz)) (hcs : C.size = cap * sz) (hle : xs.length ≤ cap) :
  Rep (fun k => A k ∨ β i = some k) w (.list sz xs) (.slice (some ⟨b, 0, none⟩) xs.length cap) := by
 obtain ⟨hs0, hsz, hbd, hblk⟩ := hc.objs i _ hi;rcases hblk with ⟨g1, _⟩ | ⟨b', C', T', cap', g1, g2, g3, g4, g5, g6⟩
 ·rw [g1] at hb; cases hb
 ·rw [g1] at hb;cases hb;rw [g2] at hh;cases hh;have hfl := flat_length hsz;have hcl : (flat xs).length ≤ C.size := by rw [hfl, hcs]; exact Nat.mul_le_mul_right _ hle
  refine .list sz xs _ 0 _ cap ((C.toList.drop 0).take (flat xs).length) rfl (.inr g1) hle hbd ?_ hsz (holds_of_block g2 0 _) sO ?_
  ·intro v hv;obtain ⟨j, hj⟩ := List.getElem?_of_mem hv;rw [List.drop_zero, List.getElem?_take] at hj;split at hj
   ·rename_i hlt; exact g5 j v hlt (sX hj)
   ·cases hj
  ·intro j c v hjc hjv;rw [List.drop_zero, List.getElem?_take] at hjv;split at hjv
   ·exact (g6 j c v hjc (sX hjv)).mono (fun _ _ => rfl) fun _ h => .inl h
   ·cases hjv
theorem Stp.freeze (hc : Core β A w H) {ver : Nat} {xs : List Dat} (hi : H i = some (.row ver sz xs)) :
  Stp β A w H β (fun k => A k ∨ β i = some k) w (upd H i (some (.frz ver sz xs))) := by
 have hβ : upd β i (β i) = β := upd_self _ _ _ rfl;obtain ⟨hs0, hsz, hbd, hblk⟩ := hc.objs i _ hi;have := Stp.one (β := β) (A := A) (A' := fun k => A k ∨ β i = some k) (w' := w) hc i (.frz ver sz xs) (β i) rfl rfl rfl (Nat.le_refl _) (fun _ _ _ => rfl) (fun _ h => .inl h)
  (fun k h => by rcases h with h | h; exact .inl h; exact .inr (.inr ⟨_, hi, rfl, h⟩))
  (fun k h => by rcases h with h | h; exact hc.old k h; exact hc.lt hi rfl h) (fun k _ hl => by cases hl)
  (fun c u hcase hvr => by
   rw [hβ];rcases hcase with ⟨off, rfl⟩ | ⟨ver2, rfl⟩ | ⟨ver2, off, len, rfl⟩ | ⟨ver2, k, off, rfl⟩ | rfl
   ·cases hvr with
    | ref _ _ b' p _ hu h0 g1 g2 => exact .ref _ _ b' p _ hu sU sU sU
   ·cases hvr with
    | ms _ _ _ hu h0 g1 g2 =>
     obtain ⟨q1, q2⟩ := g1 _ _ _ hi;refine .ms _ _ _ hu sU sU ?_;intro sz3 xs3 h3;simp only [upd, if_true, Option.some.injEq, Obj.frz.injEq] at h3;obtain ⟨rfl, rfl, rfl⟩ := h3;rcases q2 rfl with ⟨r1, r2, ad, r3⟩ | ⟨b, C, T, fz, cap, r1, r2, r3, r4, r5⟩
     ·have hx : xs = [] := List.eq_nil_of_length_eq_zero r2;subst hx;rw [r3];exact .emp _ _ _
     ·rw [r5];exact row_rep hc hi r1 r2 r3 r4
   ·cases hvr with
    | sub _ _ _ _ _ hu h0 g1 g2 =>
     obtain ⟨q1, q2⟩ := g1 _ _ _ hi;refine .sub _ _ _ _ _ hu sU sU ?_;intro sz3 xs3 h3;simp only [upd, if_true, Option.some.injEq, Obj.frz.injEq] at h3;obtain ⟨rfl, rfl, rfl⟩ := h3;obtain ⟨q3, q4⟩ := q2 rfl;rcases q4 with ⟨r1, r2, r3, ad, r4⟩ | ⟨b, C, T, fz, cap, ad, r1, r2, r3, r4, r5, r6⟩
     ·subst r2 r3;rw [r4];simpa using Rep.emp (A := fun k => A k ∨ β i = some k) (w := w) sz ad 0
     ·have hxc : xs.length ≤ cap := by
       rcases hblk with ⟨s1, _⟩ | ⟨b', C', T', cap', s1, s2, s3, s4, _⟩
       ·rw [s1] at r1; cases r1
       ·rw [s1] at r1;cases r1;rw [s2] at r2;cases r2;rw [s3] at r3;have := Nat.eq_of_mul_eq_mul_right hs0 r3;omega
      obtain ⟨ad', cap', s1, s2, s3⟩ := (row_rep hc hi r1 r2 r3 hxc).slice (l := off) (n := len) q3;cases s1;rw [r6];exact s3 _ ⟨_, rfl, fun hlt => by rw [r5 hlt]; simp [Addr.add_lit]⟩
   ·cases hvr with
    | el _ _ _ _ b' p _ hu h0 g1 => exact .el _ _ _ _ b' p _ hu sU sU
   ·cases hvr with
    | mp _ _ hu h0 g1 g2 g3 => exact .mp _ _ hu sU sU sU sU)
  (fun _ => trivial)
 rwa [hβ] at this
theorem allD_get (h : allD cs = some ds) : cs.length = ds.length ∧ ∀ (j : Nat) x, ds[j]? = some x → cs[j]? = some (.d x) := by
 have := allD_ok h;subst this;refine ⟨sP, fun j x hj => by rw [List.getElem?_map, hj]; rfl⟩
theorem box_rep {b off : Nat} (hc : Core β A w H) (hi : H i = some (.box cs)) (hb : β i = some b) (hd : allD cs = some ds) :
  Rep (fun k => A k ∨ β i = some k) w (.ptr (ds.drop off)) (.pointer (some ⟨b, off, none⟩)) := by
 obtain ⟨b', C, T, e1, e2, e3, e4, e5⟩ := hc.objs i _ hi;rw [hb] at e1;cases e1;obtain ⟨g1, g2⟩ := allD_get hd;have hlen : ds.length = C.size := by rw [← g1]; exact e3
 refine .ptr _ b off ((C.toList.drop off).take C.size) (.inr hb) ?_ (holds_of_block e2 off _) sO ?_
 ·intro v hv;exact e4 v (List.mem_of_mem_drop (List.mem_of_mem_take hv))
 ·intro j c v hjc hjv;rw [List.getElem?_take] at hjv;split at hjv
  ·rw [List.getElem?_drop] at hjc hjv;exact ((e5 (off + j) _ v (g2 _ c hjc) (sX hjv)).of_d).mono (fun _ _ => rfl) fun _ h => .inl h
  ·cases hjv
theorem Stp.freezeBox (hc : Core β A w H) (hi : H i = some (.box cs)) (hd : allD cs = some ds) :
  Stp β A w H β (fun k => A k ∨ β i = some k) w (upd H i (some (.fbox ds))) := by
 have hβ : upd β i (β i) = β := upd_self _ _ _ rfl;have := Stp.one (β := β) (A := A) (A' := fun k => A k ∨ β i = some k) (w' := w) hc i (.fbox ds) (β i) rfl rfl rfl (Nat.le_refl _) (fun _ _ _ => rfl) (fun _ h => .inl h)
  (fun k h => by rcases h with h | h; exact .inl h; exact .inr (.inr ⟨_, hi, rfl, h⟩))
  (fun k h => by rcases h with h | h; exact hc.old k h; exact hc.lt hi rfl h) (fun k _ hl => by cases hl)
  (fun c u hcase hvr => by
   rw [hβ];rcases hcase with ⟨off, rfl⟩ | ⟨ver2, rfl⟩ | ⟨ver2, off, len, rfl⟩ | ⟨ver2, k, off, rfl⟩ | rfl
   ·cases hvr with
    | ref _ _ b' p _ hu h0 g1 g2 =>
     obtain ⟨q1, q2⟩ := g1 _ hi;refine .ref _ _ b' p _ hu sU sU ?_;intro ds' h3;simp only [upd, if_true, Option.some.injEq, Obj.fbox.injEq] at h3;subst h3;rw [hu, q2, Nat.zero_add];exact box_rep hc hi q1 hd
   ·cases hvr with
    | ms _ _ _ hu h0 g1 g2 => exact .ms _ _ _ hu sU sU sU
   ·cases hvr with
    | sub _ _ _ _ _ hu h0 g1 g2 => exact .sub _ _ _ _ _ hu sU sU sU
   ·cases hvr with
    | el _ _ _ _ b' p _ hu h0 g1 => exact .el _ _ _ _ b' p _ hu sU sU
   ·cases hvr with
    | mp _ _ hu h0 g1 g2 g3 => exact .mp _ _ hu sU sU sU sU)
  (fun _ => trivial)
 rwa [hβ] at this
theorem Stp.freezeMap (hc : Core β A w H) {es : List (Dat × Dat)} (hi : H i = some (.mapo es)) :
  Stp β A w H β (fun k => A k ∨ β i = some k) w (upd H i (some .gone)) := by
 have hβ : upd β i (β i) = β := upd_self _ _ _ rfl;have := Stp.one (β := β) (A := A) (A' := fun k => A k ∨ β i = some k) (w' := w) hc i .gone (β i) rfl rfl rfl (Nat.le_refl _) (fun _ _ _ => rfl) (fun _ h => .inl h)
  (fun k h => by rcases h with h | h; exact .inl h; exact .inr (.inr ⟨_, hi, rfl, h⟩))
  (fun k h => by rcases h with h | h; exact hc.old k h; exact hc.lt hi rfl h) (fun k _ hl => by cases hl)
  (fun c u hcase hvr => by
   rw [hβ];rcases hcase with ⟨off, rfl⟩ | ⟨ver2, rfl⟩ | ⟨ver2, off, len, rfl⟩ | ⟨ver2, k, off, rfl⟩ | rfl
   ·cases hvr with
    | ref _ _ b' p _ hu h0 g1 g2 => exact .ref _ _ b' p _ hu sU sU sU
   ·cases hvr with
    | ms _ _ _ hu h0 g1 g2 => exact .ms _ _ _ hu sU sU sU
   ·cases hvr with
    | sub _ _ _ _ _ hu h0 g1 g2 => exact .sub _ _ _ _ _ hu sU sU sU
   ·cases hvr with
    | el _ _ _ _ b' p _ hu h0 g1 => exact .el _ _ _ _ b' p _ hu sU sU
   ·cases hvr with
    | mp _ _ hu h0 g1 g2 g3 => exact .mp _ _ hu sU sU sU sU)
  (fun _ => trivial)
 rwa [hβ] at this
theorem datum1_ok {v : Av} {u : Value} {p : Prop} {x : Dat} {ups : List (Nat × Obj)} (hc : Core β A w H) (h : datum1 H v = some (p, x, ups)) (hp : p) (hv : VRep β A w H v u) :
  ∃ A', Stp β A w H β A' w (hputs H ups) ∧ Rep A' w x u ∧ ∀ k, A k → A' k := by
 unfold datum1 at h;split at h
 ·cases h; exact ⟨A, Stp.refl hc, hv.of_d, fun _ h => h⟩
 ·rename_i i ver;split at h
  ·rename_i v' sz xs hrow;cases h;subst hp;have st := Stp.freeze hc hrow;refine ⟨_, st, ?_, fun _ h => .inl h⟩;cases st.vals _ _ hv with
   | ms _ _ _ hu h0 g1 g2 => exact g2 _ _ sU
  ·rename_i v' sz xs hf;cases h;subst hp;cases hv with
   | ms _ _ _ hu h0 g1 g2 => exact ⟨A, Stp.refl hc, g2 _ _ hf, fun _ h => h⟩
  ·cases h
 ·rename_i i ver off len;split at h
  ·rename_i v' sz xs hrow;cases h;subst hp;have st := Stp.freeze hc hrow;refine ⟨_, st, ?_, fun _ h => .inl h⟩;cases st.vals _ _ hv with
   | sub _ _ _ _ _ hu h0 g1 g2 => exact g2 _ _ sU
  ·rename_i v' sz xs hf;cases h;subst hp;cases hv with
   | sub _ _ _ _ _ hu h0 g1 g2 => exact ⟨A, Stp.refl hc, g2 _ _ hf, fun _ h => h⟩
  ·cases h
 ·rename_i i off;split at h
  ·rename_i cs hbx;split at h
   ·rename_i ds hd;cases h;have st := Stp.freezeBox hc hbx hd;refine ⟨_, st, ?_, fun _ h => .inl h⟩;cases st.vals _ _ hv with
    | ref _ _ b p _ hu h0 g1 g2 => exact g2 _ sU
   ·cases h
  ·rename_i ds hf;cases h;cases hv with
   | ref _ _ b p _ hu h0 g1 g2 => exact ⟨A, Stp.refl hc, g2 _ hf, fun _ h => h⟩
  ·cases h
 ·rename_i i;split at h
  ·rename_i es hm;cases h;refine ⟨_, Stp.freezeMap hc hm, ?_, fun _ h => .inl h⟩;obtain ⟨b, ents, clk, e1, e2, e3, e4⟩ := hc.objs i _ hm;cases hv with
   | mp _ _ hu h0 g1 g2 g3 =>
    obtain ⟨b', q1, q2⟩ := g1 _ hm;rw [e1] at q1;cases q1;rw [q2];exact .map es b ents clk (.inr e1) e2 e3 (fun j e m h1 h2 => (e4 j e m h1 h2).1.mono (fun _ _ => rfl) fun _ h => .inl h) (fun j e m h1 h2 => (e4 j e m h1 h2).2.mono (fun _ _ => rfl) fun _ h => .inl h)
  ·cases h
 ·cases h
theorem datums_ok : ∀ {cs : List Av} {us : List Value} {A : Nat → Prop} {H : Heap} {p : Prop} {xs : List Dat} {ups : List (Nat × Obj)}, Core β A w H → datums H cs = some (p, xs, ups) → p → cs.length = us.length →
  (∀ (i : Nat) c v, cs[i]? = some c → us[i]? = some v → VRep β A w H c v) →
  ∃ A', Stp β A w H β A' w (hputs H ups) ∧ xs.length = us.length ∧ (∀ (i : Nat) x v, xs[i]? = some x → us[i]? = some v → Rep A' w x v) ∧ ∀ k, A k → A' k
 | [], us, A, H, p, xs, ups, hc, h, hp, hl, hv => by
  simp only [datums, Option.some.injEq, Prod.mk.injEq] at h;obtain ⟨_, rfl, rfl⟩ := h;exact ⟨A, Stp.refl hc, hl, sP, fun _ h => h⟩
 | c :: cs, [], A, H, p, xs, ups, hc, h, hp, hl, hv => by simp at hl
 | c :: cs, u :: us, A, H, p, xs, ups, hc, h, hp, hl, hv => by
  simp only [datums] at h;cases e1 : datum1 H c with
  | none => simp [e1] at h
  | some q =>
   obtain ⟨p1, x, u1⟩ := q;simp only [e1] at h;cases e2 : datums (hputs H u1) cs with
   | none => simp [e2] at h
   | some q2 =>
    obtain ⟨p2, xs', u2⟩ := q2;simp only [e2, Option.some.injEq, Prod.mk.injEq] at h;obtain ⟨rfl, rfl, rfl⟩ := h;obtain ⟨A1, s1, r1, m1⟩ := datum1_ok hc e1 hp.1 (hv 0 c u rfl rfl);obtain ⟨A2, s2, l2, r2, m2⟩ := datums_ok s1.core e2 hp.2 (us := us) (sX hl) (fun i c' v' h1 h2 => s1.vals _ _ (hv (i + 1) c' v' (sX h1) (sX h2)));refine ⟨A2, by rw [hputs_append]; exact s1.trans s2, by simp [l2], ?_, fun k h => m2 k (m1 k h)⟩;intro i z v h1 h2;cases i with
    | zero => simp at h1 h2; rw [← h1, ← h2]; exact r1.mono (fun _ _ => rfl) m2
    | succ i => exact r2 i z v (sX h1) (sX h2)
theorem datum_ok {v : Av} {u : Value} {p : Prop} {x : Dat} {ups : List (Nat × Obj)} (hc : Core β A w H) (h : datum H v = some (p, x, ups)) (hp : p) (hv : VRep β A w H v u) :
  ∃ A', Stp β A w H β A' w (hputs H ups) ∧ Rep A' w x u ∧ ∀ k, A k → A' k := by
 unfold datum at h;split at h
 ·rename_i cs;cases e : datums H cs with
  | none => simp [e] at h
  | some q =>
   obtain ⟨p1, xs, u1⟩ := q;simp only [e, Option.some.injEq, Prod.mk.injEq] at h;obtain ⟨rfl, rfl, rfl⟩ := h;cases hv with
   | agg _ arr hl h1 hv =>
    obtain ⟨A', s, l, r, m⟩ := datums_ok hc e hp (us := arr.toList) (sX hl) (fun i c v g1 g2 => hv i c v g1 (sX g2));exact ⟨A', s, .agg _ _ (sX l) h1 (fun i c v g1 g2 => r i c v g1 (sX g2)), m⟩
 ·exact datum1_ok hc h hp hv
theorem datumAll_ok : ∀ {cs : List Av} {us : List Value} {A : Nat → Prop} {H : Heap} {p : Prop} {xs : List Dat} {ups : List (Nat × Obj)}, Core β A w H → datumAll H cs = some (p, xs, ups) → p → cs.length = us.length →
  (∀ (i : Nat) c v, cs[i]? = some c → us[i]? = some v → VRep β A w H c v) →
  ∃ A', Stp β A w H β A' w (hputs H ups) ∧ xs.length = us.length ∧ (∀ (i : Nat) x v, xs[i]? = some x → us[i]? = some v → Rep A' w x v) ∧ ∀ k, A k → A' k
 | [], us, A, H, p, xs, ups, hc, h, hp, hl, hv => by
  simp only [datumAll, Option.some.injEq, Prod.mk.injEq] at h;obtain ⟨_, rfl, rfl⟩ := h;exact ⟨A, Stp.refl hc, hl, sP, fun _ h => h⟩
 | c :: cs, [], A, H, p, xs, ups, hc, h, hp, hl, hv => by simp at hl
 | c :: cs, u :: us, A, H, p, xs, ups, hc, h, hp, hl, hv => by
  simp only [datumAll] at h;cases e1 : datum H c with
  | none => simp [e1] at h
  | some q =>
   obtain ⟨p1, x, u1⟩ := q;simp only [e1] at h;cases e2 : datumAll (hputs H u1) cs with
   | none => simp [e2] at h
   | some q2 =>
    obtain ⟨p2, xs', u2⟩ := q2;simp only [e2, Option.some.injEq, Prod.mk.injEq] at h;obtain ⟨rfl, rfl, rfl⟩ := h;obtain ⟨A1, s1, r1, m1⟩ := datum_ok hc e1 hp.1 (hv 0 c u rfl rfl);obtain ⟨A2, s2, l2, r2, m2⟩ := datumAll_ok s1.core e2 hp.2 (us := us) (sX hl) (fun i c' v' h1 h2 => s1.vals _ _ (hv (i + 1) c' v' (sX h1) (sX h2)));refine ⟨A2, by rw [hputs_append]; exact s1.trans s2, by simp [l2], ?_, fun k h => m2 k (m1 k h)⟩;intro i z v h1 h2;cases i with
    | zero => simp at h1 h2; rw [← h1, ← h2]; exact r1.mono (fun _ _ => rfl) m2
    | succ i => exact r2 i z v (sX h1) (sX h2)
theorem fillAll_ok (sz : Nat) : ∀ (us : List Value) (k : Nat) (cells : Array Value), (∀ u ∈ us, u.cells.size = sz) → (k + us.length) * sz ≤ cells.size →
  ∃ cells', Instr.fill (fun i => some (i * sz, sz)) cells (((List.range' k us.length).zip us)) = some cells' ∧ cells'.size = cells.size ∧
   cells'.toList = splice cells.toList (k * sz) (us.flatMap fun u => u.cells.toList)
 | [], k, cells, _, h => ⟨cells, rfl, rfl, by simp [splice]⟩
 | u :: us, k, cells, hu, h => by
  have hsz := hu u List.mem_cons_self;simp only [List.length_cons] at h;have hks : k * sz + sz ≤ cells.size := by
   have : (k + 1) * sz ≤ (k + (us.length + 1)) * sz := Nat.mul_le_mul_right _ oM;rw [Nat.succ_mul] at this;omega
  have hfold := fold_set (k * sz) u.cells.toList 0 cells sO;simp only [Nat.add_zero] at hfold;obtain ⟨cells1, hcf, hcl⟩ : ∃ cells1 : Array Value, u.cells.zipIdx.foldl (fun cs (c, j) => cs.setIfInBounds (k * sz + j) c) cells = cells1 ∧ cells1.toList = splice cells.toList (k * sz) u.cells.toList := by
   refine ⟨_, rfl, ?_⟩;rw [← hfold, ← Array.foldl_toList, Array.toList_zipIdx]
  have hlen1 : cells1.size = cells.size := by rw [← Array.length_toList, hcl, splice_length _ _ _ sO, Array.length_toList]
  obtain ⟨cells', g1, g2, g3⟩ := fillAll_ok sz us (k + 1) cells1 (fun z hz => hu z (List.mem_cons_of_mem _ hz)) (by rw [hlen1, Nat.add_right_comm]; exact h);refine ⟨cells', ?_, by rw [g2, hlen1], ?_⟩
  ·simp only [List.length_cons, List.range'_succ, List.zip_cons_cons, Instr.fill];rw [if_neg sO, hcf];exact g1
  ·rw [g3, hcl];have hfm : (us.flatMap fun u => u.cells.toList).length = us.length * sz := by
    clear g1 g3 g2 h hcf
    induction us with
    | nil => simp
    | cons z us ih => simp only [List.flatMap_cons, List.length_append, Array.length_toList, hu z sP, List.length_cons, Nat.succ_mul]; rw [ih (fun y hy => hu y (by simp at hy ⊢; rcases hy with h | h; exact .inl h; exact .inr (.inr h)))]; omega
   have hbig : (k + 1) * sz + us.length * sz ≤ cells.size := by
    rw [← Nat.add_mul];have : k + (us.length + 1) = k + 1 + us.length := oM;rw [this] at h;exact h
   rw [Nat.succ_mul] at hbig ⊢;apply List.ext_getElem?;intro j;rw [splice_get _ _ _ _ (by rw [splice_length _ _ _ sO, hfm]; simp; omega), splice_get _ _ _ _ sO, splice_get _ _ _ _ (by simp [hfm]; omega)];simp only [List.flatMap_cons, List.length_append, Array.length_toList, hfm, hsz, List.getElem?_append];by_cases h1 : k * sz ≤ j ∧ j < k * sz + sz
   ·rw [if_neg oM, if_pos h1, if_pos oM, if_pos oM]
   ·by_cases h2 : k * sz + sz ≤ j ∧ j < k * sz + sz + us.length * sz
    ·rw [if_pos h2, if_pos oM, if_neg oM];congr 1;omega
    ·rw [if_neg h2, if_neg h1, if_neg oM]
theorem runs_bls {t e : TypeId} {n : Nat} {parts : Array (Nat × Operand)} {i : TypeInfo} {ps : List Opd} {d : Nat} {r : Res} (hc : Core β A w H) (ht : TRep β A w H τ a) (ho : o.op = .buildSlice t n parts) (he : elT P t = some e) (hsz : szT P e = some sz)
  (hi : P.info? e = some i) (h0 : 0 < sz) (hn : n * sz ≤ 16777216) (hidx : parts.toList.map (·.1) = List.range n) (hz : i.zero.isSome) (hps : allSome (parts.toList.map fun (_, x) => opd P e x) = some ps)
  (hs : step τ H d (.bls sz ps) = some r) (hC : r.c) : Runs P a.eval o w β A H r.v r.ups := by
 have hu : P.underlying t = some (.slice e) := by
  unfold elT at he;split at he
  ·cases he; assumption
  ·cases he
 simp only [step] at hs;cases ev : vals τ ps with
 | none => simp [ev] at hs
 | some vs =>
  simp only [ev] at hs;cases ed : datumAll H vs with
  | none => simp [ed] at hs
  | some q =>
   obtain ⟨p, xs, ups⟩ := q;have hcase : r = { c := p ∧ ∀ x ∈ xs, x.cells.length = sz, v := match xs with | [] => .d (.nil sz) | _ => .d (.list sz xs), ups := ups } ∨
     (ups = [] ∧ H d = none ∧ r = { c := p ∧ ∀ x ∈ xs, x.cells.length = sz, v := .ms d 0, ups := [(d, .row 0 sz xs)] }) := by
    simp only [ed] at hs;split at hs
    ·split at hs
     ·rename_i hd;simp only [Option.some.injEq] at hs;exact .inr ⟨rfl, hd, hs.symm⟩
     ·cases hs
    ·simp only [Option.some.injEq] at hs;exact .inl (by rw [← hs]; cases xs <;> rfl)
   obtain ⟨hp, hsx⟩ : p ∧ ∀ x ∈ xs, x.cells.length = sz := by
    rcases hcase with h | ⟨_, _, h⟩
    ·rw [h] at hC; exact hC
    ·rw [h] at hC; exact hC
   have hvo := vals_ok (P := P) (t := e) (xs := parts.toList.map (·.2)) (by rw [List.map_map]; exact hps) ev ht;have hnl : parts.toList.length = n := by have := congrArg List.length hidx; simpa using this
   obtain ⟨A1, s1, l1, r1, m1⟩ := datumAll_ok hc ed hp (us := parts.toList.map fun p => a.eval p.2) (by have := hvo.1; simpa using this)
    (fun j c v g1 g2 => by
     rw [List.getElem?_map] at g2;cases e3 : parts.toList[j]? with
     | none => simp [e3] at g2
     | some q => simp only [e3, Option.map_some, Option.some.injEq] at g2; rw [← g2]; exact hvo.2 j c q.2 g1 (by rw [List.getElem?_map, e3]; rfl))
   have hxl : xs.length = n := by rw [l1]; simpa using hnl
   have hcell : ∀ u ∈ parts.toList.map fun p => a.eval p.2, u.cells.size = sz := by
    intro u hu';obtain ⟨j, hj⟩ := List.getElem?_of_mem hu';have hjl : j < xs.length := by rw [l1]; exact (List.getElem?_eq_some_iff.1 hj).1
    have hr := r1 j xs[j] u sP hj;rw [← hr.cells_ok.1];exact hsx _ (List.getElem_mem hjl)
   obtain ⟨z, hzz⟩ := Option.isSome_iff_exists.1 hz;have hzl : (List.range n) = List.range' 0 (parts.toList.map fun p => a.eval p.2).length := by rw [List.length_map, hnl, List.range_eq_range']
   obtain ⟨zc, hzc1, hzc2⟩ : ∃ zc : Array Value, ((if n * sz = 0 then (pure #[] : Sem (Array Value)) else do pure (← zeroValue e).cells).run P w = .ok zc w) ∧ ((Array.range (n * sz)).map (zc[· % zc.size]!)).size = n * sz := by
    by_cases h : n * sz = 0
    ·exact ⟨#[], by simp [h], sP⟩
    ·exact ⟨z.cells, by simp [h, zeroValue_run hi hzz], sP⟩
   obtain ⟨cells', f1, f2, f3⟩ := fillAll_ok sz (parts.toList.map fun p => a.eval p.2) 0 ((Array.range (n * sz)).map (zc[· % zc.size]!)) hcell (by rw [hzc2, List.length_map, hnl, Nat.zero_add]; exact Nat.le_refl _);have hparts : (parts.map fun (q : Nat × Operand) => (q.1, a.eval q.2)).toList = (List.range' 0 (parts.toList.map fun p => a.eval p.2).length).zip (parts.toList.map fun p => a.eval p.2) := by
    rw [← hzl, ← hidx, Array.toList_map];apply List.ext_getElem?;intro j;simp only [List.getElem?_map, List.zip];cases e4 : parts.toList[j]? with
    | none =>
     simp only [Option.map_none]
     symm
     rw [List.getElem?_eq_none_iff];simp;have := List.getElem?_eq_none_iff.1 e4;simpa using this
    | some q =>
     simp only [Option.map_some]
     symm
     rw [List.getElem?_zipWith_eq_some];exact ⟨q.1, a.eval q.2, by simp [e4], by simp [e4], rfl⟩
   have hfm : (parts.toList.map fun p => a.eval p.2).flatMap (fun u => u.cells.toList) = cells'.toList := by
    rw [f3];have hlen : ((parts.toList.map fun p => a.eval p.2).flatMap fun u => u.cells.toList).length = n * sz := by
     have : ∀ (us : List Value), (∀ u ∈ us, u.cells.size = sz) → (us.flatMap fun u => u.cells.toList).length = us.length * sz := by
      intro us hus
      induction us with
      | nil => simp
      | cons z us ih => simp only [List.flatMap_cons, List.length_append, Array.length_toList, hus z sP, List.length_cons, Nat.succ_mul]; rw [ih (fun y hy => hus y (List.mem_cons_of_mem _ hy))]; omega
     rw [this _ hcell, List.length_map, hnl]
    simp only [splice, Nat.zero_mul, List.take_zero, List.nil_append, Nat.zero_add, hlen];rw [List.drop_eq_nil_of_le sP, List.append_nil]
   have hcs : cells'.size = n * sz := by rw [f2, hzc2]
   have hrun : (execOp a.eval o).run P w = .ok (.value (.slice (some ⟨w.heap.size, 0, none⟩) n n)) (w.alloc (.cells cells' e)) := by
    have hpm : (parts.map fun (i, x) => (i, a.eval x)) = parts.map fun (q : Nat × Operand) => (q.1, a.eval q.2) := rfl
    simp only [execOp, ho, Instr.buildSlice, Sem.run_bind, run_underlying hu, Result.andThen_ok, sizeOf_run hsz];rw [if_neg oM];by_cases h : n * sz = 0
    ·rw [if_pos h] at hzc1 ⊢;simp only [Sem.run_pure, Result.ok.injEq, and_true] at hzc1;subst hzc1;simp only [Sem.run_bind, Sem.run_pure, Result.andThen_ok];rw [hpm, hparts, f1];simp [newRow]
    ·rw [if_neg h] at hzc1 ⊢;simp only [Sem.run_bind, zeroValue_run hi hzz, Result.andThen_ok, Sem.run_pure, Result.ok.injEq, and_true] at hzc1;subst hzc1;simp only [Sem.run_bind, zeroValue_run hi hzz, Sem.run_pure, Result.andThen_ok];rw [hpm, hparts, f1];simp [newRow]
   have hcells : ∀ (xs : List Dat) (us : List Value), xs.length = us.length → (∀ (j : Nat) x v, xs[j]? = some x → us[j]? = some v → Rep A1 w x v) →
     (∀ v ∈ us.flatMap (fun u => u.cells.toList), v.oneCell' = true) ∧ ∀ (j : Nat) c v, (flat xs)[j]? = some c → (us.flatMap fun u => u.cells.toList)[j]? = some v → Rep A1 w c v := by
    intro xs
    induction xs with
    | nil => intro us hl _; cases us with | nil => simp [flat] | cons _ _ => simp at hl
    | cons x xs ih =>
     intro us hl hr;cases us with
     | nil => simp at hl
     | cons u us =>
      obtain ⟨c1, c2, c3⟩ := (hr 0 x u rfl rfl).cells_ok;obtain ⟨i1, i2⟩ := ih us (sX hl) (fun j y v g1 g2 => hr (j + 1) y v (sX g1) (sX g2));refine ⟨?_, ?_⟩
      ·intro v hv;rw [List.flatMap_cons] at hv;rcases List.mem_append.1 hv with h | h
       ·exact c2 v (sX h)
       ·exact i1 v (sX h)
      ·intro j c v g1 g2;rw [flat_cons] at g1;rw [List.flatMap_cons] at g2;by_cases hj : j < x.cells.length
       ·rw [List.getElem?_append_left hj] at g1;rw [List.getElem?_append_left sO] at g2;exact c3 j c v g1 (sX g2)
       ·rw [List.getElem?_append_right oM] at g1;rw [List.getElem?_append_right sO] at g2;refine i2 _ c v g1 ?_;rw [← g2];congr 1;simp; omega
   obtain ⟨q1, q2⟩ := hcells xs _ l1 r1;rw [hfm] at q1 q2;rcases hcase with rfl | ⟨rfl, hd, rfl⟩
   rotate_left
   ·have hxl1 : xs.length ≤ 68719476736 := by rw [hxl]; have : n * 1 ≤ n * sz := Nat.mul_le_mul_left _ h0; omega
    refine ⟨_, _, A1, _, .inl hrun, s1.trans (Stp.alloc (i := d) (H := hputs H []) s1.core hd (.cells cells' e) (.row 0 sz xs) ?_), ?_⟩
    ·intro _;refine ⟨h0, hsx, hxl1, .inr ⟨w.heap.size, cells', e, n, upd_same _ _ _, alloc_at w (.cells cells' e), hcs, oM, ?_, ?_⟩⟩
     ·intro j v _ hj;exact q1 v (List.mem_of_getElem? (i := j) (sX hj))
     ·intro j c v g1 g2;exact (q2 j c v g1 (sX g2)).mono (fun b hb => by rw [alloc_old w _ (s1.core.old b hb)]) fun b hb => hb
    ·refine .ms _ _ _ rfl (by simp [hputs, upd]) ?_ (by simp [hputs, upd]);intro v3 sz3 xs3 h3;simp only [hputs, upd, if_true, Option.some.injEq, Obj.row.injEq] at h3;obtain ⟨rfl, rfl, rfl⟩ := h3;refine ⟨Nat.le_refl _, fun _ => .inr ⟨w.heap.size, cells', e, (0, 0), n, upd_same _ _ _, alloc_at w (.cells cells' e), hcs, oM, by rw [hxl]⟩⟩
   refine ⟨_, β, _, _, .inl hrun, s1.trans (Stp.allocD s1.core _), ?_⟩;have hlist : Rep (fun b => A1 b ∨ b = w.heap.size) (w.alloc (.cells cells' e)) (.list sz xs) (.slice (some ⟨w.heap.size, 0, none⟩) n n) := by
    have hflx : (flat xs).length = n * sz := by rw [flat_length hsx, hxl]
    have hh := holds_of_block (w := w.alloc (.cells cells' e)) (alloc_at w (.cells cells' e)) 0 (n * sz);have hall : (cells'.toList.drop 0).take (n * sz) = cells'.toList := by rw [List.drop_zero, List.take_of_length_le (by simp [hcs])]
    rw [hall] at hh;refine .list sz xs _ 0 n n cells'.toList hxl.symm (.inr rfl) oM (by rw [hxl]; have : n * 1 ≤ n * sz := Nat.mul_le_mul_left _ h0; omega) q1 hsx hh (by rw [hflx, Array.length_toList, hcs]) ?_;intro j c v g1 g2;exact (q2 j c v g1 g2).mono (fun b hb => by rw [alloc_old w _ (s1.core.old b hb)]) fun b hb => .inl hb
   cases xs with
   | nil =>
    simp only [List.length_nil] at hxl;subst hxl;exact .d _ _ (.nil _ _)
   | cons x xs => exact .d _ _ hlist
end
end Av
namespace Av
open Go
variable [Glb] [Rls]
variable {b sz : Nat} {C : Array Value} {fz : Nat × Nat}
section
variable {P : Program} {β : Blocks} {A : Nat → Prop} {w : World} {H : Heap} {τ : Tmps} {a : Act} {o : Oper}
theorem setRow_setRow (w : World) (b : Nat) (X Y : Array Value) : (w.setRow b X).setRow b Y = w.setRow b Y := by
 unfold World.setRow;congr 1;apply Array.ext_getElem?;intro i;simp only [Array.getElem?_modify];split
 ·cases w.heap[i]? with
  | none => rfl
  | some x => cases x <;> rfl
 ·rfl
theorem setRow_same {T : TypeId} (hh : w.heap[b]? = some (.cells C T fz)) : w.setRow b C = w := by
 unfold World.setRow;refine (congrArg (fun h => ({ w with heap := h } : World)) (?_ : _ = w.heap)).trans rfl;apply Array.ext_getElem?;intro i;simp only [Array.getElem?_modify];split
 ·rename_i e; subst e; rw [hh]; rfl
 ·rfl
theorem setCell_setRow {o : Nat} {v : Value} {T : TypeId} (hh : w.heap[b]? = some (.cells C T fz)) : w.setCell ⟨b, o, none⟩ v = w.setRow b (C.setIfInBounds o v) := by
 unfold World.setRow World.setCell;congr 1;apply Array.ext_getElem?;intro i;simp only [Array.getElem?_modify];split
 ·rename_i e; subst e; rw [hh]; rfl
 ·rfl
theorem setCells_setRow {T : TypeId} : ∀ (vs : List Value) (o : Nat) (w : World) (C : Array Value), w.heap[b]? = some (.cells C T fz) → o + vs.length ≤ C.size →
  w.setCells b o vs = w.setRow b (splice C.toList o vs).toArray
 | [], o, w, C, hh, _ => by
  have : (splice C.toList o []).toArray = C := by simp [splice]
  rw [this, setRow_same hh];rfl
 | v :: vs, o, w, C, hh, hl => by
  simp only [List.length_cons] at hl;rw [World.setCells, setCell_setRow hh, setCells_setRow vs (o + 1) _ _ (setRow_heap w b C _ T fz hh) sO, setRow_setRow];congr 2;apply List.ext_getElem?;intro j;rw [splice_get _ _ _ _ sO, splice_get _ _ _ _ sO];simp only [List.length_cons, Array.getElem?_toList, Array.getElem?_setIfInBounds];by_cases h1 : o + 1 ≤ j ∧ j < o + 1 + vs.length
  ·rw [if_pos h1, if_pos oM, List.getElem?_cons, if_neg oM];congr 1
  ·by_cases h2 : o = j
   ·subst h2;rw [if_neg h1, if_pos rfl, if_pos oM, if_pos oM];simp
   ·rw [if_neg h1, if_neg h2, if_neg oM]
theorem old_vals {β' : Blocks} {A' : Nat → Prop} {w' : World} {j ver' : Nat} {xs' : List Dat} (hj : H j = none ∨ ∃ ver sz0 xs, H j = some (.row ver sz0 xs) ∧ ver < ver') (c : Av) (u : Value)
  (hcase : (∃ off, c = .ref j off) ∨ (∃ ver, c = .ms j ver) ∨ (∃ ver off len, c = .sub j ver off len) ∨ (∃ ver k off, c = .el j ver k off) ∨ c = .mp j) (hvr : VRep β A w H c u) :
  VRep β' A' w' (upd H j (some (.row ver' sz xs'))) c u := by
 rcases hj with hj | ⟨ver, sz0, xs, hj, hlt⟩
 ·exfalso;rcases hcase with ⟨off, rfl⟩ | ⟨ver, rfl⟩ | ⟨ver, off, len, rfl⟩ | ⟨ver, k, off, rfl⟩ | rfl <;> cases hvr <;> simp_all
 ·rcases hcase with ⟨off, rfl⟩ | ⟨ver2, rfl⟩ | ⟨ver2, off, len, rfl⟩ | ⟨ver2, k, off, rfl⟩ | rfl
  ·cases hvr with
   | ref _ _ b' p _ hu h0 g1 g2 => exact .ref _ _ b' p _ hu sU sU sU
  ·cases hvr with
   | ms _ _ _ hu h0 g1 g2 =>
    obtain ⟨q1, q2⟩ := g1 _ _ _ hj;refine .ms _ _ _ hu sU ?_ sU;intro v3 sz3 xs3 h3;simp only [upd, if_true, Option.some.injEq, Obj.row.injEq] at h3;obtain ⟨rfl, rfl, rfl⟩ := h3;exact ⟨oM, fun e => by omega⟩
  ·cases hvr with
   | sub _ _ _ _ _ hu h0 g1 g2 =>
    obtain ⟨q1, q2⟩ := g1 _ _ _ hj;refine .sub _ _ _ _ _ hu sU ?_ sU;intro v3 sz3 xs3 h3;simp only [upd, if_true, Option.some.injEq, Obj.row.injEq] at h3;obtain ⟨rfl, rfl, rfl⟩ := h3;exact ⟨oM, fun e => by omega⟩
  ·cases hvr with
   | el _ _ _ _ b' p _ hu h0 g1 =>
    obtain ⟨q1, q2⟩ := g1 _ _ _ hj;refine .el _ _ _ _ b' p _ hu sU ?_;intro v3 sz3 xs3 h3;simp only [upd, if_true, Option.some.injEq, Obj.row.injEq] at h3;obtain ⟨rfl, rfl, rfl⟩ := h3;exact ⟨oM, fun e => by omega⟩
  ·cases hvr with
   | mp _ _ hu h0 g1 g2 g3 => exact .mp _ _ hu sU sU sU sU
theorem Stp.rowNew (hc : Core β A w H) {j ver' cap : Nat} {xs' : List Dat} {e : TypeId} (hj : H j = none ∨ ∃ ver sz0 xs, H j = some (.row ver sz0 xs) ∧ ver < ver') {w1 : World} (hw : w1.heap = w.heap)
  (hos : w1.os = w.os) (htp : w1.tape = w.tape) (hout : w1.output = w.output) (hs0 : 0 < sz) (hs : ∀ x ∈ xs', x.cells.length = sz) (hbnd : xs'.length ≤ 68719476736) (hle : xs'.length ≤ cap) (hcap : C.size = cap * sz)
  (h1 : ∀ (j : Nat) v, j < (flat xs').length → C[j]? = some v → v.oneCell' = true)
  (hv : ∀ (j : Nat) c v, (flat xs')[j]? = some c → C[j]? = some v → Rep A w c v) :
  Stp β A w H (upd β j (some w.heap.size)) A (w1.alloc (.cells C e)) (upd H j (some (.row ver' sz xs'))) := by
 have hold : ∀ b, b < w.heap.size → (w1.alloc (.cells C e)).heap[b]? = w.heap[b]? := fun b hb => by rw [alloc_old w1 _ (by rw [hw]; exact hb), hw]
 have hat : (w1.alloc (.cells C e)).heap[w.heap.size]? = some (.cells C e (0, 0)) := by have := alloc_at w1 (.cells C e); rwa [hw] at this
 have hsz : (w1.alloc (.cells C e)).heap.size = w.heap.size + 1 := by simp [World.alloc, hw]
 refine Stp.one hc j _ _ hos htp hout (by rw [hsz]; omega) (fun b hb _ => hold b hb) (fun _ h => h) (fun _ h => .inl h) (fun b h => by have := hc.old b h; rw [hsz]; omega)
  (fun b hb _ => by cases hb; exact ⟨.inl (Nat.le_refl _), fun h => by have := hc.old _ h; omega⟩) ?_ ?_
 ·intro c u hcase hvr;exact old_vals hj c u hcase hvr
 ·intro _;refine ⟨hs0, hs, hbnd, .inr ⟨w.heap.size, C, e, cap, upd_same _ _ _, hat, hcap, hle, h1, fun k c v g1 g2 => (hv k c v g1 g2).mono (fun b hb => hold b (hc.old b hb)) fun _ h => h⟩⟩
theorem SlVal.src {xs : List Dat} {u : Value} {vs : List Value} {t e : TypeId} (h : SlVal A w sz xs u vs) (ht : P.underlying t = some (.slice e)) : Src P sz t u xs.length vs w := by
 obtain ⟨ad, cap, rfl, hle, hh⟩ := h.ex;have hl : vs.length = xs.length * sz := by rw [← h.len, flat_length h.sz]
 cases xs with
 | nil =>
  have : vs = [] := sX hl;subst this;cases ad with
  | none => exact Src.ofNil w ht cap
  | some ad => exact Src.ofSlice w ht ad 0 cap [] sP sP sP
 | cons x xs =>
  obtain ⟨b, o, rfl, h2⟩ := hh sP;exact Src.ofSlice w ht ⟨b, o, none⟩ _ cap vs hl (fun j u hj => by rw [Addr.add_lit]; exact h2 j u hj) h.one
theorem run_append_zero (t tx ty e : TypeId) (i : TypeInfo) (ht : P.underlying t = some (.slice e)) (hi : P.info? e = some i) (base : Option Addr) (x : Value) (hs : Src P i.size tx x 0 [] w) :
  (Builtin.append_ #[t, tx] ty #[.slice base 0 0, x]).run P w = .ok (.slice base 0 0) w := by
 rcases hs.kind with ⟨e', hk⟩ | hk <;> cases base <;>
  simp [Builtin.append_, run_underlying ht, run_underlying hk, Go.sizeOf, typeInfo, hi, hs.len, hs.cells, storeCells]
theorem runs_app {args : Array Operand} {argTypes : Array TypeId} {x y : Operand} {t t' e e' : TypeId} {x' y' : Opd} {d : Nat} {r : Res} {zs : List Dat} {i : TypeInfo} (hc : Core β A w H) (ht : TRep β A w H τ a)
  (ho : o.op = .call { callee := .builtin .append, args, argTypes }) (ha : args.toList = [x, y]) (hat : argTypes.toList = [t, t']) (hu : P.underlying t = some (.slice e)) (hu' : P.underlying t' = some (.slice e'))
  (hx : opd P t x = some x') (hy : opd P t' y = some y') (hsz : szT P e = some sz) (hz : zsT P e = some zs) (hi : P.info? e = some i) (h0 : 0 < sz) (hby : i.bytes ≤ 1024)
  (hs : step τ H d (.app sz x' y') = some r) (hC : r.c) : Runs P a.eval o w β A H r.v r.ups := by
 obtain rfl : args = #[x, y] := by apply Array.ext'; simpa using ha
 obtain rfl : argTypes = #[t, t'] := by apply Array.ext'; simpa using hat
 obtain ⟨cs, run⟩ := call_builtin (P := P) (a := a) ho w;obtain ⟨i2, z, z1, z2, z3, z4, z5, z6⟩ := zsT_ok hz;rw [hi] at z1;cases z1;have his : i.size = sz := by simpa [szT, hi] using hsz
 have grow : ∀ (base : Option Addr) (n cap : Nat) (xs0 ys : List Dat) (olds news : List Value) (j ver' : Nat), a.eval x = .slice base n cap → SlVal A w sz ys (a.eval y) news → n = xs0.length → (∀ x ∈ xs0, x.cells.length = sz) →
   olds.length = n * sz → (∀ v ∈ olds, v.oneCell' = true) → (∀ (j : Nat) c v, (flat xs0)[j]? = some c → olds[j]? = some v → Rep A w c v) →
   (Builtin.firstCells sz n (.slice base n cap)).run P w.drew = .ok olds.toArray w.drew → cap < n + ys.length → n + ys.length ≤ 68719476736 →
   (H j = none ∨ ∃ ver sz0 xs, H j = some (.row ver sz0 xs) ∧ ver < ver') → Runs P a.eval o w β A H (.ms j ver') [(j, .row ver' sz (xs0 ++ ys))] := by
  intro base n cap xs0 ys olds news j ver' hux hy' hn hs0 hol ho1 horep hold hcap hbnd hj;have hg := run_append_grow_src (P := P) w t t' o.type e i z hu hi z2 base n cap olds (by rw [his]; exact hold) (a.eval y) ys.length news (by rw [his]; exact hy'.src hu') hcap oM
   (growslice_fits hcap (by have := Nat.mul_le_mul hbnd hby; omega))
  have hge := grownCap_ge w (n + ys.length) cap e;have hnl : news.length = ys.length * sz := by rw [← hy'.len, flat_length hy'.sz]
  have hsall : ∀ q ∈ xs0 ++ ys, q.cells.length = sz := by
   intro q hq;rcases List.mem_append.1 hq with h | h
   ·exact hs0 q h
   ·exact hy'.sz q h
  have hfl : (flat (xs0 ++ ys)).length = n * sz + ys.length * sz := by rw [flat_length hsall, List.length_append, Nat.add_mul, hn]
  have hC2 : ((olds ++ news).toArray ++ Builtin.zeroCells z.cells (grownCap w (n + ys.length) cap e - (n + ys.length))).size = grownCap w (n + ys.length) cap e * sz := by
   have : z.cells.size = sz := by rw [← z4, z3, his]
   simp only [Array.size_append, List.size_toArray, List.length_append, size_zeroCells, hol, hnl, this];rw [← Nat.add_mul, ← Nat.add_mul];congr 1;omega
  have hget : ∀ (k : Nat) v, k < (flat (xs0 ++ ys)).length → ((olds ++ news).toArray ++ Builtin.zeroCells z.cells (grownCap w (n + ys.length) cap e - (n + ys.length)))[k]? = some v → (olds ++ news)[k]? = some v := by
   intro k v hk hv;rw [Array.getElem?_append_left (by simp [hol, hnl]; omega)] at hv;simpa using hv
  refine ⟨_, _, A, _, .inl (by
    rw [run];simp only [builtin, List.map_toArray, List.map_cons, List.map_nil, hux, Sem.run_bind];rw [hg]
    rfl), Stp.rowNew hc hj (w1 := w.drew) rfl rfl rfl rfl h0 hsall sO sO hC2 ?_ ?_, ?_⟩
  ·intro k v hk hv;rcases List.mem_append.1 (List.mem_of_getElem? (hget k v hk hv)) with h | h
   ·exact ho1 v h
   ·exact hy'.one v h
  ·intro k c v hkc hkv;have hk : k < (flat (xs0 ++ ys)).length := (List.getElem?_eq_some_iff.1 hkc).1;have hv := hget k v hk hkv;have hf0 : (flat xs0).length = n * sz := by rw [flat_length hs0, hn]
   rw [flat_append] at hkc;by_cases hlt : k < n * sz
   ·rw [List.getElem?_append_left oM] at hkc hv;exact horep k c v hkc hv
   ·rw [List.getElem?_append_right oM] at hkc hv;rw [hf0] at hkc;rw [hol] at hv;exact hy'.rep _ c v hkc hv
  ·refine .ms _ _ _ rfl (by simp [hputs, upd]) ?_ (by simp [hputs, upd]);intro v3 sz3 xs3 h3;simp only [hputs, upd, if_true, Option.some.injEq, Obj.row.injEq] at h3;obtain ⟨rfl, rfl, rfl⟩ := h3;refine ⟨Nat.le_refl _, fun _ => .inr ⟨w.heap.size, _, e, (0, 0), grownCap w (n + ys.length) cap e, upd_same _ _ _, ?_, hC2, sO, by simp [hn]⟩⟩;have := alloc_at w.drew (.cells ((olds ++ news).toArray ++ Builtin.zeroCells z.cells (grownCap w (n + ys.length) cap e - (n + ys.length))) e);simpa using this
 have room : ∀ (b n cap ver v' : Nat) (xs xs0 ys : List Dat) (j : Nat) (C : Array Value) (T : TypeId) (news : List Value), H j = some (.row ver sz xs) → β j = some b → w.heap[b]? = some (.cells C T (0, 0)) → C.size = cap * sz →
   a.eval x = .slice (some ⟨b, 0, none⟩) n cap → SlVal A w sz ys (a.eval y) news → n = xs0.length → (∀ x ∈ xs0, x.cells.length = sz) → (∀ (j : Nat) v, j < (flat xs0).length → C[j]? = some v → v.oneCell' = true) →
   (∀ (j : Nat) c v, (flat xs0)[j]? = some c → C[j]? = some v → Rep A w c v) → n + ys.length ≤ cap → n + ys.length ≤ 68719476736 → Runs P a.eval o w β A H (.ms j (ver + 1)) [(j, .row (ver + 1) sz (xs0 ++ ys))] := by
  intro b n cap ver v' xs xs0 ys j C T news hrow hb hh hcs hux hy' hn hs0 ho1 horep hroom hbnd;have hnl : news.length = ys.length * sz := by rw [← hy'.len, flat_length hy'.sz]
  have hin : n * sz + news.length ≤ C.size := by
   rw [hnl, ← Nat.add_mul, hcs];exact Nat.mul_le_mul_right _ hroom
  have hg := run_append_room_src (P := P) w t t' o.type e i hu hi b 0 n cap (a.eval y) ys.length news (by rw [his]; exact hy'.src hu') hroom
   (by intro k hk; simp only [World.cell?, hh]; rw [his]; simp; omega)
   (by intro k hk; simp [World.frozen?, hh])
  rw [Nat.zero_add, his, setCells_setRow news (n * sz) w C hh hin] at hg;have hsall : ∀ q ∈ xs0 ++ ys, q.cells.length = sz := by
   intro q hq;rcases List.mem_append.1 hq with h | h
   ·exact hs0 q h
   ·exact hy'.sz q h
  have hf0 : (flat xs0).length = n * sz := by rw [flat_length hs0, hn]
  have hspl : (splice C.toList (n * sz) news).length = C.size := by rw [splice_length _ _ _ (sX hin), Array.length_toList]
  refine ⟨_, β, A, _, .inl (by
    rw [run];simp only [builtin, List.map_toArray, List.map_cons, List.map_nil, hux, Sem.run_bind];rw [hg]
    rfl), Stp.rowSet hc hrow hb hh hcs (by rw [List.size_toArray, hspl]) (Nat.le_succ _) (fun h => by omega) hsall sO sO ?_ ?_, ?_⟩
  ·intro k v hk hv;rw [List.getElem?_toArray, splice_get _ _ _ _ (sX hin)] at hv;rw [flat_append, List.length_append, hf0, flat_length hy'.sz, ← hnl] at hk;split at hv
   ·exact hy'.one v (List.mem_of_getElem? hv)
   ·exact ho1 k v oM (sX hv)
  ·intro k c v hkc hkv;have hk : k < (flat (xs0 ++ ys)).length := (List.getElem?_eq_some_iff.1 hkc).1;rw [List.getElem?_toArray, splice_get _ _ _ _ (sX hin)] at hkv;rw [flat_append, List.length_append, hf0, flat_length hy'.sz, ← hnl] at hk;rw [flat_append] at hkc;split at hkv
   ·rw [List.getElem?_append_right oM, hf0] at hkc;exact hy'.rep _ c v hkc hkv
   ·rw [List.getElem?_append_left oM] at hkc;exact horep k c v hkc (sX hkv)
  ·refine .ms _ _ _ rfl (by simp [hputs, upd]) ?_ (by simp [hputs, upd]);intro v3 sz3 xs3 h3;simp only [hputs, upd, if_true, Option.some.injEq, Obj.row.injEq] at h3;obtain ⟨rfl, rfl, rfl⟩ := h3;exact ⟨Nat.le_refl _, fun _ => .inr ⟨b, _, T, (0, 0), cap, hb, setRow_heap w b C _ T (0, 0) hh, by rw [List.size_toArray, hspl, hcs], sO, by simp [hn]⟩⟩
 have zero : ∀ (ad : Option Addr) (j ver' : Nat) (news : List Value), a.eval x = .slice ad 0 0 → SlVal A w sz [] (a.eval y) news → (H j = none ∨ ∃ ver sz0 xs, H j = some (.row ver sz0 xs) ∧ ver < ver') →
   Runs P a.eval o w β A H (.ms j ver') [(j, .row ver' sz [])] := by
  intro ad j ver' news hux sv hj;have hnn : news = [] := by have := sv.len; simpa [flat] using this.symm
  subst hnn;refine ⟨_, upd β j none, A, w, .inl (by
   rw [run];simp only [builtin, List.map_toArray, List.map_cons, List.map_nil, hux, Sem.run_bind];rw [run_append_zero t t' o.type e i hu hi ad (a.eval y) (by rw [his]; exact sv.src hu')]
   rfl), ?_, ?_⟩
  ·exact Stp.one hc j (.row ver' sz []) none rfl rfl rfl (Nat.le_refl _) (fun _ _ _ => rfl) (fun _ h => h) (fun _ h => .inl h) (fun b h => hc.old b h) sP (fun c u hcase hvr => old_vals hj c u hcase hvr)
    (fun _ => ⟨h0, sP, sP, .inl ⟨upd_same _ _ _, rfl⟩⟩)
  ·refine .ms _ _ _ rfl (by simp [hputs, upd]) ?_ (by simp [hputs, upd]);intro v3 sz3 xs3 h3;simp only [hputs, upd, if_true, Option.some.injEq, Obj.row.injEq] at h3;obtain ⟨rfl, rfl, rfl⟩ := h3;exact ⟨Nat.le_refl _, fun _ => .inl ⟨upd_same _ _ _, rfl, ad, rfl⟩⟩
 have cells0 : ∀ (ad : Option Addr) (cap : Nat), (Builtin.firstCells sz 0 (.slice ad 0 cap)).run P w.drew = .ok #[] w.drew := by
  intro ad cap;cases ad with
  | none => exact run_firstCells_none _ _ _ _ _
  | some ad => exact run_firstCells_some w.drew sz 0 ad 0 cap [] sP sP
 simp only [step] at hs;split at hs
 case h_2 => cases hs
 rename_i u v e1 e2;have hxv := opd_ok hx e1 ht;cases el : listOf H v with
 | none => simp [el] at hs
 | some q =>
  obtain ⟨sz', ys⟩ := q;simp only [el] at hs;split at hs
  ·
   rename_i sz0;split at hs
   ·rename_i hd;cases hs;obtain ⟨hcur, rfl, hp, hb, hall⟩ := hC;obtain ⟨news, sv⟩ := listOf_ok hc el hcur (opd_ok hy e2 ht);have hr := hxv.of_d;generalize hue : a.eval x = ux at *;cases hr with
    | nil _ ad =>
     by_cases hys : ys = []
     ·subst hys;exact zero ad d 0 news rfl sv (.inl hd)
     ·have hpos : 0 < ys.length := List.length_pos_iff.2 hys;have := grow ad 0 0 [] ys [] news d 0 rfl sv rfl sP sP sP sP (cells0 ad 0) oM oM (.inl hd);simpa using this
   ·cases hs
  ·
   rename_i j ver;split at hs
   ·rename_i v' sz'' xs hrow;cases hs;obtain ⟨hcur, rfl, rfl, rfl, hb⟩ := hC;obtain ⟨news, sv⟩ := listOf_ok hc el hcur (opd_ok hy e2 ht);obtain ⟨_, hszs, _, hblk⟩ := hc.objs j _ hrow;cases hxv with
    | ms _ _ _ hu1 _ q1 q2 =>
     rcases (q1 _ _ _ hrow).2 rfl with ⟨r1, r2, ad, r3⟩ | ⟨b, C, T, fz, cap, r1, r2, r3, r4, r5⟩
     ·have hx0 : xs = [] := List.eq_nil_of_length_eq_zero r2;subst hx0;by_cases hys : ys = []
      ·subst hys;exact zero ad j (ver + 1) news r3 sv (.inr ⟨_, _, _, hrow, Nat.lt_succ_self _⟩)
      ·have hpos : 0 < ys.length := List.length_pos_iff.2 hys;exact grow ad 0 0 [] ys [] news j (ver + 1) r3 sv rfl sP sP sP sP (cells0 ad 0) oM oM (.inr ⟨_, _, _, hrow, Nat.lt_succ_self _⟩)
     ·rcases hblk with ⟨s1, _⟩ | ⟨b', C', T', cap', s1, s2, s3, s4, s5, s6⟩
      ·rw [s1] at r1; cases r1
      ·rw [s1] at r1;cases r1;rw [s2] at r2;cases r2;have hcc : cap' = cap := Nat.eq_of_mul_eq_mul_right h0 (by rw [← s3, r3]);subst hcc;by_cases hroom : xs.length + ys.length ≤ cap'
       ·exact room b xs.length cap' ver ver xs xs ys j C T news hrow s1 s2 s3 r5 sv rfl hszs s5 s6 hroom hb
       ·have hfl := flat_length hszs;have hCl : xs.length * sz'' ≤ C.size := by rw [s3]; exact Nat.mul_le_mul_right _ s4
        refine grow _ xs.length cap' xs ys (C.toList.take (xs.length * sz'')) news j (ver + 1) r5 sv rfl hszs sO ?_ ?_ ?_ oM hb (.inr ⟨_, _, _, hrow, Nat.lt_succ_self _⟩)
        ·intro v hv;obtain ⟨k, hk⟩ := List.getElem?_of_mem hv;rw [List.getElem?_take] at hk;split at hk
         ·exact s5 k v oM (sX hk)
         ·cases hk
        ·intro k c v hkc hkv;rw [List.getElem?_take] at hkv;split at hkv
         ·exact s6 k c v hkc (sX hkv)
         ·cases hkv
        ·refine run_firstCells_some w.drew sz'' xs.length ⟨b, 0, none⟩ _ cap' (C.toList.take (xs.length * sz'')) sO ?_;intro k v hk;rw [List.getElem?_take] at hk;split at hk
         ·rw [Addr.add_lit];change w.cell? _ = _;simp only [World.cell?, s2];simpa using hk
         ·cases hk
   ·cases hs
  ·
   rename_i j ver n;split at hs
   ·rename_i v' sz'' xs hrow;cases hs;obtain ⟨hcur, rfl, rfl, rfl, hb, hpos⟩ := hC;obtain ⟨news, sv⟩ := listOf_ok hc el hcur (opd_ok hy e2 ht);obtain ⟨_, hszs, _, hblk⟩ := hc.objs j _ hrow;have hszt : ∀ q ∈ xs.take n, q.cells.length = sz'' := fun q hq => hszs q (List.mem_of_mem_take hq)
    cases hxv with
    | sub _ _ _ _ _ hu1 _ q1 q2 =>
     obtain ⟨p1, p2⟩ := (q1 _ _ _ hrow).2 rfl;have hnl : n = (xs.take n).length := sO;rcases p2 with ⟨r1, r2, r3, ad, r4⟩ | ⟨b, C, T, fz, cap, ad, r1, r2, r3, r4, r5, r6⟩
     ·subst r3;have := grow ad 0 0 [] ys [] news j (ver + 1) r4 sv rfl sP sP sP sP (cells0 ad 0) oM oM (.inr ⟨_, _, _, hrow, Nat.lt_succ_self _⟩);simpa using this
     ·rcases hblk with ⟨s1, _⟩ | ⟨b', C', T', cap', s1, s2, s3, s4, s5, s6⟩
      ·rw [s1] at r1; cases r1
      ·rw [s1] at r1;cases r1;rw [s2] at r2;cases r2;have hcc : cap' = cap := Nat.eq_of_mul_eq_mul_right h0 (by rw [← s3, r3]);subst hcc;rw [Nat.zero_add] at r4 p1;by_cases hc0 : cap' = 0
       ·subst hc0;have hn0 : n = 0 := oM;subst hn0;have := grow (some ad) 0 0 [] ys [] news j (ver + 1) r6 sv rfl sP sP sP sP (cells0 _ 0) oM oM (.inr ⟨_, _, _, hrow, Nat.lt_succ_self _⟩);simpa using this
       ·have had := r5 oM;rw [Nat.zero_mul] at had;subst had;rw [Nat.sub_zero] at r6;have hfl := flat_length hszt;rw [← hnl] at hfl;have hfx := flat_length hszs;have hnx : n * sz'' ≤ xs.length * sz'' := Nat.mul_le_mul_right _ p1;have hft := flat_take n hszs;by_cases hroom : n + ys.length ≤ cap'
        ·refine room b n cap' ver ver xs (xs.take n) ys j C T news hrow s1 s2 s3 r6 sv hnl hszt (fun k v hk hv => s5 k v oM hv) ?_ hroom hb;intro k c v hkc hkv;rw [hft, List.getElem?_take] at hkc;split at hkc
         ·exact s6 k c v hkc hkv
         ·cases hkc
        ·have hCl : n * sz'' ≤ C.size := by rw [s3]; exact Nat.mul_le_mul_right _ r4
         refine grow _ n cap' (xs.take n) ys (C.toList.take (n * sz'')) news j (ver + 1) r6 sv hnl hszt sO ?_ ?_ ?_ oM hb (.inr ⟨_, _, _, hrow, Nat.lt_succ_self _⟩)
         ·intro v hv;obtain ⟨k, hk⟩ := List.getElem?_of_mem hv;rw [List.getElem?_take] at hk;split at hk
          ·exact s5 k v oM (sX hk)
          ·cases hk
         ·intro k c v hkc hkv;rw [hft, List.getElem?_take] at hkc;rw [List.getElem?_take] at hkv;split at hkv
          ·rename_i hlt;rw [if_pos hlt] at hkc;exact s6 k c v hkc (sX hkv)
          ·cases hkv
         ·refine run_firstCells_some w.drew sz'' n ⟨b, 0, none⟩ _ cap' (C.toList.take (n * sz'')) sO ?_;intro k v hk;rw [List.getElem?_take] at hk;split at hk
          ·rw [Addr.add_lit];change w.cell? _ = _;simp only [World.cell?, s2];simpa using hk
          ·cases hk
   ·cases hs
  ·cases hs
theorem runs_mks {t e : TypeId} {x y : Operand} {x' y' : Opd} {d : Nat} {zs : List Dat} {i : TypeInfo} {ag : Bool} {ti : TypeId} {r : Res} (hc : Core β A w H) (ht : TRep β A w H τ a) (ho : o.op = .makeSlice t x y) (hu : P.underlying t = some (.slice e))
  (hx : opd P ti x = some x') (hy : opd P ti y = some y') (hsz : szT P e = some sz) (hz : zsT P e = some zs) (hi : P.info? e = some i) (hag : agT P e = some ag) (hone : ag = true → sz ≠ 1) (h0 : 0 < sz) (hby : i.bytes ≤ 1024)
  (hs : step τ H d (.mks sz zs x' y') = some r) (hC : r.c) : Runs P a.eval o w β A H r.v r.ups := by
 obtain ⟨i2, z, z1, z2, z3, z4, z5, z6⟩ := zsT_ok hz;rw [hi] at z1;cases z1;have his : i.size = sz := by simpa [szT, hi] using hsz
 have hzl : zs.length = sz := by rw [z3, his]
 simp only [step] at hs;split at hs
 case h_2 => cases hs
 rename_i k1 l k2 c hd e1 e2;cases hs;obtain ⟨c1, c2, c3⟩ := hC;have hx1 := (opd_ok hx e1 ht).of_d;have hy1 := (opd_ok hy e2 ht).of_d;have hxe : a.eval x = .int k1 l := by generalize a.eval x = u at hx1; cases hx1; rfl
 have hye : a.eval y = .int k2 c := by generalize a.eval y = u at hy1; cases hy1; rfl
 have hr := run_make (P := P) w t e i z hu hi z2 k1 k2 l c c1 c2 (by
  have h1 : (i.bytes : Int) * c ≤ 1024 * c := Int.mul_le_mul_of_nonneg_right oM oM
  omega) oM
 have hzc : z.cells.size = sz := by rw [← z4, hzl]
 rw [his] at hr;have hel : (if zs.length = 1 then zs.headD .opq else Dat.agg zs).cells = zs := by
  by_cases h1 : zs.length = 1
  ·rw [if_pos h1]
   match zs, h1 with
   | [q], _ =>
    have hq := z6 A w 0 q (z.cells[0]'(by rw [hzc, ← hzl]; simp)) rfl sP;have hq1 := z5 (z.cells[0]'(by rw [hzc, ← hzl]; simp)) sP;generalize z.cells[0]'(by rw [hzc, ← hzl]; simp) = vv at hq hq1;cases q <;> first | rfl | (exfalso; cases hq; cases hq1)
  ·rw [if_neg h1]; rfl
 generalize hE : (if zs.length = 1 then zs.headD .opq else Dat.agg zs) = E at hel;have hall : ∀ q ∈ List.replicate l.toNat E, q.cells.length = sz := by
  intro q hq;rw [(List.mem_replicate.1 hq).2, hel, hzl]
 have hflat : ∀ (n k : Nat) c, (flat (List.replicate n E))[k]? = some c → k < n * sz ∧ zs[k % sz]? = some c := by
  intro n
  induction n with
  | zero => intro k c h; simp [flat] at h
  | succ n ih =>
   intro k c h;rw [List.replicate_succ, flat_cons, hel] at h;rw [Nat.succ_mul];by_cases hk : k < zs.length
   ·rw [List.getElem?_append_left hk] at h;rw [Nat.mod_eq_of_lt oM];exact ⟨oM, h⟩
   ·rw [List.getElem?_append_right oM] at h;obtain ⟨g1, g2⟩ := ih _ c h;rw [hzl] at g1 g2 hk;refine ⟨oM, ?_⟩;rwa [Nat.mod_eq_sub_mod oM]
 have hfl := flat_length hall;rw [List.length_replicate] at hfl;have hlc : l.toNat ≤ c.toNat := oM;have hlcs : l.toNat * sz ≤ c.toNat * sz := Nat.mul_le_mul_right _ hlc;have hget : ∀ (k : Nat) v, k < l.toNat * sz → (madeCells z.cells (c.toNat * sz))[k]? = some v → z.cells[k % sz]? = some v := by
  intro k v hk hv;have hks : k < c.toNat * sz := oM;have hm : k % sz < z.cells.size := by rw [hzc]; exact Nat.mod_lt _ h0
  simp only [madeCells, Array.getElem?_map, Array.getElem?_range, hks, if_true, Option.map_some, Option.some.injEq, hzc] at hv;rw [← hv, getElem!_pos z.cells (k % sz) hm];simp [hm]
 refine ⟨.slice (some ⟨w.heap.size, 0, none⟩) l.toNat c.toNat, _, A, w.alloc (.cells (madeCells z.cells (c.toNat * sz)) e), .inl (by simp [execOp, ho, hxe, hye, hr]), Stp.alloc hc hd _ _ (fun _ => ?_), ?_⟩
 ·refine ⟨h0, hall, sO, .inr ⟨w.heap.size, _, e, c.toNat, upd_same _ _ _, alloc_at _ _, size_madeCells _ _, sO, ?_, ?_⟩⟩
  ·intro k v hk hv;have h := hget k v oM hv;rw [← Array.getElem?_toList] at h;exact z5 v (List.mem_of_getElem? h)
  ·intro k q v hq hv;obtain ⟨g1, g2⟩ := hflat _ _ _ hq;exact z6 A _ _ _ _ g2 (hget k v g1 hv)
 ·refine .ms _ _ _ rfl (by simp [hputs, upd]) ?_ (by simp [hputs, upd]);intro v3 sz3 xs3 h3;simp only [hputs, upd, if_true, Option.some.injEq, Obj.row.injEq] at h3;obtain ⟨rfl, rfl, rfl⟩ := h3;exact ⟨Nat.le_refl _, fun _ => .inr ⟨w.heap.size, _, e, (0, 0), c.toNat, upd_same _ _ _, alloc_at _ _, size_madeCells _ _, sO, sP⟩⟩
end
end Av
namespace Av
open Go
variable [Glb] [Rls]
variable {x : Operand} {x' : Opd} {r : Res} {d : Nat}
theorem kind_zero (k : IntKind) : k.min ≤ 0 ∧ 0 ≤ k.max := by cases k <;> decide
theorem fdiv_wf (k : IntKind) (n : Int) (d : Nat) (h : k.min ≤ n ∧ n ≤ k.max) : k.min ≤ n.fdiv (2 ^ d) ∧ n.fdiv (2 ^ d) ≤ k.max := by
 obtain ⟨z1, z2⟩ := kind_zero k;have hd : (0 : Int) < 2 ^ d := Int.pow_pos dC;rw [Int.fdiv_eq_ediv_of_nonneg _ (Int.le_of_lt hd)];by_cases hn : 0 ≤ n
 ·have h1 : 0 ≤ n / 2 ^ d := Int.ediv_nonneg hn (Int.le_of_lt hd);have h2 : n / 2 ^ d ≤ n := Int.ediv_le_self _ hn;omega
 ·have h1 : n ≤ n / 2 ^ d := by
   rw [Int.le_ediv_iff_mul_le hd];have : n * 2 ^ d ≤ n * 1 := Int.mul_le_mul_of_nonpos_left oM oM;omega
  have h2 : n / 2 ^ d < 0 := Int.ediv_neg_of_neg_of_pos oM hd;omega
section
variable {P : Program} {β : Blocks} {A : Nat → Prop} {w : World} {H : Heap} {τ : Tmps} {a : Act} {o : Oper}
theorem bit_run {op : BinOp} {t : TypeId} {k k' : IntKind} {m n q : Int} {p : Prop} (hop : isBit op = true) (h : bitD op k m k' n = some (p, q)) (hp : p) (hm : k.min ≤ m ∧ m ≤ k.max) (w : World) :
  (binOp op t (.int k m) (.int k' n)).run P w = .ok (.int k q) w ∧ k.min ≤ q ∧ q ≤ k.max := by
 cases op <;> simp only [isBit] at hop <;> first | cases hop | skip
 all_goals simp only [bitD] at h
 all_goals first
  | (split at h
     ·rename_i e;subst e;simp only [Option.some.injEq, Prod.mk.injEq] at h;obtain ⟨_, rfl⟩ := h;refine ⟨?_, wrap_wf _ _⟩;simp [binOp, Op.intBits]
     ·cases h)
  | (simp only [Option.some.injEq, Prod.mk.injEq] at h
     obtain ⟨rfl, rfl⟩ := h;have hn : ¬ n < 0 := oM
     first
     | (refine ⟨?_, wrap_wf _ _⟩; simp [binOp, Op.shift, hn]; done)
     | (refine ⟨?_, fdiv_wf _ _ _ hm⟩; simp [binOp, Op.shift, hn]; done))
theorem runs_bit {op : BinOp} {t t' : TypeId} {y : Operand} {y' : Opd} (hc : Core β A w H) (ht : TRep β A w H τ a) (ho : o.op = .binOp op t x y t') (hop : isBit op = true)
  (hx : opd P t x = some x') (hy : opd P t y = some y') (hs : step τ H (o.dst.getD 0) (.bit op x' y') = some r) (hC : r.c) : Runs P a.eval o w β A H r.v r.ups := by
 simp only [step] at hs;split at hs
 ·rename_i k m k' n ex ey;split at hs
  ·rename_i p q e;cases hs;have vx := (opd_ok hx ex ht).of_d;have vy := (opd_ok hy ey ht).of_d;generalize hu : a.eval x = u at *;generalize hv : a.eval y = v at *;cases vx with
   | int _ _ hm =>
    cases vy;obtain ⟨h1, h2⟩ := bit_run (P := P) (t := t) hop e hC hm w;refine Runs.pure hc (u := .int k q) ?_ (.d _ _ (.int _ _ h2));simp [execOp, ho, hu, hv, Sem.run_bind, eqGuard_none, h1]
  ·cases hs
 ·cases hs
theorem flat_bytes : ∀ l : List UInt8, flat (l.map fun b => Dat.int .u8 b.toNat) = l.map fun b => Dat.int .u8 b.toNat
 | [] => rfl
 | c :: l => by
  have := flat_bytes l;simp only [flat] at this;simp only [List.map_cons, flat, List.flatMap_cons, this, Dat.cells, List.cons_append, List.nil_append]
theorem encode_len (n : Int) : (Utf8.encode n).data.toList.length ≤ 4 := by
 unfold Utf8.encode;generalize (if Utf8.valid n = true then n.toNat else Utf8.runeError) = c;dsimp only;split
 ·simp
 ·split
  ·simp
  ·split <;> simp
theorem runs_i2s {s t : TypeId} {k : IntKind} (hc : Core β A w H) (ht : TRep β A w H τ a) (ho : o.op = .convert s t x) (h1 : P.underlying s = some (.int k)) (h2 : P.underlying t = some .string)
  (hx : opd P s x = some x') (hs : step τ H (o.dst.getD 0) (.i2s x') = some r) : Runs P a.eval o w β A H r.v r.ups := by
 simp only [step] at hs;split at hs
 ·rename_i k' n ex;cases hs;have vx := (opd_ok hx ex ht).of_d;generalize hu : a.eval x = u at *;cases vx;have hrun := run_convert_int_string (P := P) w s t k' n (by rw [h1]; rfl) h2;refine Runs.pure hc (u := .string (Utf8.encode n)) (by simp [execOp, ho, hu, Sem.run_bind, hrun]) (.d _ _ ?_);have : Rep A w (.str (Utf8.encode n).data.toList) (.string ⟨(Utf8.encode n).data.toList.toArray⟩) := .str _ (by have := encode_len n; omega);simpa using this
 ·cases hs
theorem runs_s2b {s t e : TypeId} (hc : Core β A w H) (ht : TRep β A w H τ a) (ho : o.op = .convert s t x) (h1 : P.underlying s = some .string) (h2 : P.underlying t = some (.slice e))
  (h3 : P.underlying e = some (.int .u8)) (hx : opd P s x = some x') (hs : step τ H (o.dst.getD 0) (.s2b x') = some r) : Runs P a.eval o w β A H r.v r.ups := by
 simp only [step] at hs;split at hs
 ·rename_i l ex;cases hs;have vx := (opd_ok hx ex ht).of_d;generalize hu : a.eval x = u at *;cases vx with
  | str _ hl =>
   have hrun := Go.Lib.run_convert_string_bytes (P := P) w s t e ⟨l.toArray⟩ h1 h2 h3;have hold := Go.Lib.bytesWorld_at_old w e ⟨l.toArray⟩;have hsz := Go.Lib.bytesWorld_size w e ⟨l.toArray⟩;have hst : Stp β A w H β (fun b => A b ∨ b = w.heap.size) (Go.Lib.bytesWorld w e ⟨l.toArray⟩) H :=
    Stp.new hc rfl rfl rfl (by rw [hsz]; omega) (fun b hb => hold b hb) (fun _ h => .inl h) (fun b h => by rcases h with h | h; exact .inl h; exact .inr oM)
     (fun b h => by rw [hsz]; rcases h with h | h; (have := hc.old b h; omega); omega)
   refine ⟨.slice (some ⟨w.heap.size, 0, none⟩) (⟨l.toArray⟩ : ByteArray).size (grownCap w (⟨l.toArray⟩ : ByteArray).size 0 e), β, _, Go.Lib.bytesWorld w e ⟨l.toArray⟩, .inl (by simp [execOp, ho, hu, Sem.run_bind, hrun]), hst, .d _ _ ?_⟩;cases l with
   | nil => exact .emp _ _ _
   | cons c l =>
    have hsize : (⟨(c :: l).toArray⟩ : ByteArray).size = (c :: l).length := by simp [ByteArray.size]
    rw [hsize];refine .list 1 _ w.heap.size 0 _ _ ((c :: l).map fun b => Value.int .u8 b.toNat) sP (.inr rfl) ?_ (sX hl) ?_ ?_ ?_ ?_ ?_
    ·have := grownCap_ge w (⟨(c :: l).toArray⟩ : ByteArray).size 0 e;rw [hsize] at this;simpa using this
    ·intro v hv;obtain ⟨b, _, rfl⟩ := List.mem_map.1 hv;rfl
    ·intro x hx;obtain ⟨b, _, rfl⟩ := List.mem_map.1 hx;rfl
    ·intro i v hi;rw [List.getElem?_map] at hi;cases hb : (c :: l)[i]? with
     | none => simp [hb] at hi
     | some b =>
      simp only [hb, Option.map_some, Option.some.injEq] at hi;subst hi;have hlt : i < (c :: l).length := (List.getElem?_eq_some_iff.1 hb).1;have := Go.Lib.bytesWorld_cell w e ⟨(c :: l).toArray⟩ i (by rw [hsize]; exact hlt);rw [Nat.zero_add, this];simp only [List.getD_eq_getElem?_getD, hb, Option.getD_some]
    ·rw [flat_bytes]; simp
    ·intro i c' v h1 h2;rw [flat_bytes, List.getElem?_map] at h1;rw [List.getElem?_map] at h2;cases hb : (c :: l)[i]? with
     | none => simp [hb] at h1
     | some b =>
      simp only [hb, Option.map_some, Option.some.injEq] at h1 h2;subst h1 h2;refine .int _ _ ?_;have := b.toNat_lt;simp only [IntKind.min, IntKind.max, IntKind.signed, IntKind.bits];simp;omega
 ·cases hs
theorem bytesOf_ok {xs : List Dat} {s : List UInt8} (h : bytesOf xs = some s) : ∃ ns : List Int, xs = ns.map (Dat.int .u8) ∧ s = ns.map fun n => UInt8.ofNat n.toNat := by
 induction xs generalizing s with
 | nil => simp only [bytesOf, Option.some.injEq] at h; subst h; exact ⟨[], rfl, rfl⟩
 | cons x r ih =>
  unfold bytesOf at h;split at h
  ·rename_i heq; cases heq
  ·rename_i n r' heq;cases heq;split at h
   ·rename_i s' hs';cases h;obtain ⟨ns, e1, e2⟩ := ih hs';exact ⟨n :: ns, by rw [e1]; rfl, by rw [e2]; rfl⟩
   ·cases h
  ·cases h
theorem fold_push (ns : List Int) : ∀ (acc : ByteArray), (ns.foldl (fun (r : ByteArray) n => r.push (UInt8.ofNat n.toNat)) acc).data.toList = acc.data.toList ++ ns.map fun n => UInt8.ofNat n.toNat := by
 induction ns with
 | nil => intro acc; simp
 | cons n ns ih => intro acc; rw [List.foldl_cons, ih]; simp [ByteArray.push]
theorem runs_b2s {s t e : TypeId} (hc : Core β A w H) (ht : TRep β A w H τ a) (ho : o.op = .convert s t x) (h1 : P.underlying s = some (.slice e)) (h2 : P.underlying t = some .string)
  (h3 : P.underlying e = some (.int .u8)) (hx : opd P s x = some x') (hs : step τ H (o.dst.getD 0) (.b2s x') = some r) (hC : r.c) : Runs P a.eval o w β A H r.v r.ups := by
 simp only [step] at hs;split at hs
 ·rename_i v e;cases e2 : listOf H v with
  | none => simp [e2] at hs
  | some p =>
   obtain ⟨sz, xs⟩ := p;simp only [e2] at hs;split at hs
   ·rename_i l hl;cases hs;obtain ⟨ns, rfl, rfl⟩ := bytesOf_ok hl;obtain ⟨vs, sv⟩ := listOf_ok hc e2 hC.1 (opd_ok hx e ht);have hflat : ∀ ns : List Int, flat (ns.map (Dat.int .u8)) = ns.map (Dat.int .u8) := by
     intro ns
     induction ns with
     | nil => rfl
     | cons n ns ih => simp only [List.map_cons, flat_cons, ih, Dat.cells]; rfl
    have hvs : vs = ns.map (Value.int .u8) := by
     apply List.ext_getElem?;intro i;have hlen := sv.len;rw [hflat] at hlen;by_cases hi : i < ns.length
     ·have hiv : i < vs.length := by simp at hlen; omega
      have := sv.rep i (.int .u8 ns[i]) vs[i] (by rw [hflat]; simp [hi]) (by simp [hiv]);simp only [List.getElem?_map, List.getElem?_eq_getElem hi, List.getElem?_eq_getElem hiv, Option.map_some];generalize vs[i] = z at this;cases this;rfl
     ·rw [List.getElem?_eq_none (by simp at hlen; omega), List.getElem?_eq_none sO]
    obtain ⟨ad, cap, hu, hcap, hh⟩ := sv.ex;have hstr : Rep A w (.str (ns.map fun n => UInt8.ofNat n.toNat)) (.string (ns.foldl (fun (r : ByteArray) n => r.push (UInt8.ofNat n.toNat)) ByteArray.empty)) := by
     have he : (ns.foldl (fun (r : ByteArray) n => r.push (UInt8.ofNat n.toNat)) ByteArray.empty) = ⟨(ns.map fun n => UInt8.ofNat n.toNat).toArray⟩ := by
      apply ByteArray.ext;apply Array.ext';rw [fold_push];simp
     rw [he];exact .str _ (sX hC.2)
    refine Runs.pure hc (u := .string (ns.foldl (fun (r : ByteArray) n => r.push (UInt8.ofNat n.toNat)) ByteArray.empty)) ?_ (.d _ _ hstr);have hconv : (convert s t (a.eval x)).run P w = .ok (.string (ns.foldl (fun (r : ByteArray) n => r.push (UInt8.ofNat n.toNat)) ByteArray.empty)) w := by
     rw [hu, run_convert_bytes_string w s t _ ad _ _ h1 h3 h2];cases ad with
     | none =>
      cases ns with
      | nil => simp [Conv.bytesToString, Sem.run_pure]
      | cons n ns => obtain ⟨b, o, q, _⟩ := hh sP; cases q
     | some ad =>
      refine run_bytesToString w ad _ cap ns ?_;rw [← hvs];cases ns with
      | nil =>
       subst hvs;have := run_loadCells_list (P := P) w ad [] sP;simpa using this
      | cons n ns =>
       obtain ⟨b, o, q, hhold⟩ := hh sP;cases q;have := run_loadCells_list (P := P) w ⟨b, o, none⟩ vs (fun j v hj => by rw [Addr.add_lit]; exact hhold j v hj);have hlen : vs.length = (List.map (Dat.int .u8) (n :: ns)).length := by rw [hvs]; simp
       rw [hlen] at this;exact this
    simp only [execOp, ho, Sem.run_bind, hconv, Result.andThen_ok, Sem.run_pure]
   ·cases hs
 ·cases hs
theorem runs_mkm {t : TypeId} (hc : Core β A w H) (ho : o.op = .makeMap t none) (hs : step τ H d .mkm = some r) : Runs P a.eval o w β A H r.v r.ups := by
 simp only [step] at hs;split at hs
 ·rename_i hn;cases hs;refine ⟨.map (some w.heap.size), _, A, w.alloc (.map #[] 0), .inl ?_, Stp.alloc hc hn _ _ fun hv => ?_, ?_⟩
  ·simp [execOp, ho, Instr.makeMap, Sem.run_bind]
  ·exact ⟨w.heap.size, #[], 0, upd_same _ _ _, alloc_at _ _, rfl, sP⟩
  ·exact .mp _ _ rfl (by simp [hputs, upd]) (fun es _ => ⟨_, upd_same _ _ _, rfl⟩) (by simp [hputs, upd]) (by simp [hputs, upd])
 ·cases hs
theorem runs_rgs {t : TypeId} (hc : Core β A w H) (ht : TRep β A w H τ a) (ho : o.op = .range t x) (hu : P.underlying t = some .string) (hx : opd P t x = some x') (hs : step τ H d (.rgs x') = some r) :
  Runs P a.eval o w β A H r.v r.ups := by
 simp only [step] at hs;split at hs
 ·rename_i s hn ev;cases hs;have vx := (opd_ok hx ev ht).of_d;generalize hue : a.eval x = u at *;cases vx with
  | str _ hl =>
   refine ⟨.pointer (some ⟨w.heap.size, 0, none⟩), _, A, w.alloc (.stringIter ⟨s.toArray⟩ 0), .inl ?_, Stp.alloc hc hn _ _ fun hv => ?_, ?_⟩
   ·have := run_range_string (P := P) w t ⟨s.toArray⟩ hu;simp only [execOp, ho, hue, Sem.run_bind, this, Result.andThen_ok, Sem.run_pure, World.iter]
   ·exact ⟨w.heap.size, upd_same _ _ _, alloc_at _ _, hl⟩
   ·exact .mp _ _ rfl (by simp [hputs, upd]) (by simp [hputs, upd]) (by simp [hputs, upd]) (fun _ _ _ => ⟨_, upd_same _ _ _, rfl⟩)
 ·cases hs
theorem Stp.hset (hc : Core β A w H) {i b : Nat} {o1 o' : Obj} {g' : Go.Obj} (hi : H i = some o1) (hl : o1.live = true) (hb : β i = some b) (hlt : b < w.heap.size) (hlp : ∀ l, o1 ≠ .lp l)
  (hv : ∀ c u, ((∃ off, c = .ref i off) ∨ (∃ ver, c = .ms i ver) ∨ (∃ ver off len, c = .sub i ver off len) ∨ (∃ ver k off, c = .el i ver k off) ∨ c = .mp i) → VRep β A w H c u → VRep β A (w.putObj b g') (upd H i (some o')) c u)
  (hobj : (∀ c u, VRep β A w H c u → VRep β A (w.putObj b g') (upd H i (some o')) c u) → ORep β A (w.putObj b g') (upd H i (some o')) i o') : Stp β A w H β A (w.putObj b g') (upd H i (some o')) := by
 have hβ : upd β i (some b) = β := upd_self _ _ _ hb;have := Stp.one (w' := w.putObj b g') (A' := A) hc i o' (some b) rfl rfl rfl sP (fun b' _ hn => World.putObj_heap_other (fun e => hn _ hi hl (by rw [hb, e])))
  (fun _ h => h) (fun _ h => .inl h) (fun b hb => by simpa using hc.old b hb) (fun b' e _ => by cases e; exact ⟨.inr ⟨_, hi, hl, hb⟩, hc.sep _ _ _ hi hl hb⟩)
  (fun c u hcase hvr => by rw [hβ]; exact hv c u hcase hvr) (fun hall => by rw [hβ] at hall ⊢; exact hobj hall)
  (fun l h => by rw [hi] at h; cases h; exact (hlp l rfl).elim)
 rwa [hβ] at this
theorem runs_nxs (hc : Core β A w H) (ht : TRep β A w H τ a) (ho : o.op = .next x true) (hx : opd P 0 x = some x') (hs : step τ H d (.nxs x') = some r) :
  Runs P a.eval o w β A H r.v r.ups := by
 simp only [step] at hs;split at hs
 ·rename_i i ev;split at hs
  ·rename_i s p hsit;obtain ⟨b, hb, hh, hl⟩ := hc.objs i _ hsit;have hv := opd_ok hx ev ht;have hu : a.eval x = .pointer (some ⟨b, 0, none⟩) := by
    cases hv with
    | mp _ _ _ _ _ _ h3 =>
     obtain ⟨b', q1, q2⟩ := h3 _ _ hsit;rw [hb] at q1;cases q1;exact q2
   have hlt : b < w.heap.size := (Array.getElem?_eq_some_iff.1 hh).1;have hsize : (⟨s.toArray⟩ : ByteArray).size = s.length := by simp [ByteArray.size]
   split at hs
   ·rename_i hp;cases hs;have hrun := Go.Lib.run_next_any_at (P := P) w b ⟨s.toArray⟩ p o.type hh (by rw [hsize]; exact hp);have hw : w.iterAt b ⟨s.toArray⟩ (p + (Utf8.decode ⟨s.toArray⟩ p).2) = w.putObj b (.stringIter ⟨s.toArray⟩ (p + (Utf8.decode ⟨s.toArray⟩ p).2)) := rfl;rw [hw] at hrun;refine ⟨.tuple #[.bool true, .int .i64 p, .int .i32 (Utf8.decode ⟨s.toArray⟩ p).1], β, A, w.putObj b (.stringIter ⟨s.toArray⟩ (p + (Utf8.decode ⟨s.toArray⟩ p).2)), .inl (by simp [execOp, ho, hu, Sem.run_bind, hrun]), Stp.hset hc hsit rfl hb hlt sP ?_ ?_, ?_⟩
    ·intro c u hcase hvr;rcases hcase with ⟨off, rfl⟩ | ⟨ver, rfl⟩ | ⟨ver, off, len, rfl⟩ | ⟨ver, k, off, rfl⟩ | rfl
     ·cases hvr with | ref _ _ b p _ hu h0 h1 h2 => exact .ref _ _ b p _ hu sU sU sU
     ·cases hvr with | ms _ _ _ hu h0 h1 h2 => exact .ms _ _ _ hu sU sU sU
     ·cases hvr with | sub _ _ _ _ _ hu h0 h1 h2 => exact .sub _ _ _ _ _ hu sU sU sU
     ·cases hvr with | el _ _ _ _ b p _ hu h0 h1 => exact .el _ _ _ _ b p _ hu sU sU
     ·cases hvr with | mp _ _ hu h0 h1 h2 h3 => exact .mp _ _ hu sU sU sU (fun _ _ _ => h3 _ _ hsit)
    ·intro _;exact ⟨b, hb, World.putObj_heap_same hlt, hl⟩
    ·refine .tup _ _ rfl ?_;intro j c v h1 h2;have hdec := decode_le ⟨s.toArray⟩ p
     match j, h1, h2 with
     | 0, h1, h2 => cases h1; cases h2; exact .d _ _ (.bool _)
     | 1, h1, h2 => cases h1; cases h2; exact .d _ _ (.int _ _ (by simp [IntKind.min, IntKind.max, IntKind.signed, IntKind.bits]; omega))
     | 2, h1, h2 => cases h1; cases h2; exact .d _ _ (.int _ _ (by simp [IntKind.min, IntKind.max, IntKind.signed, IntKind.bits]; omega))
     | j + 3, h1, h2 => simp at h1
   ·rename_i hp;cases hs;have hrun := Go.Lib.run_next_end_at (P := P) w b ⟨s.toArray⟩ p o.type hh (by rw [hsize]; exact hp);refine Runs.pure (u := .tuple #[.bool false]) hc (by simp [execOp, ho, hu, Sem.run_bind, hrun]) ?_;refine .tup _ _ rfl ?_;intro j c v h1 h2
    match j, h1, h2 with
    | 0, h1, h2 => cases h1; cases h2; exact .d _ _ (.bool _)
    | j + 1, h1, h2 => simp at h1
  ·cases hs
 ·cases hs
end
end Av
