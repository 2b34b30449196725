/- Part D of a proof. -/
import Derived.Test.YtholoaojlcnacaaGreatDoorFtC
import Derived.Test.YtholoaojlcnacaaGreatDoorFtA
import Derived.Below
import Derived.Shelf.SlGeneric
import Derived.Shelf.Unicode.ValidAny
import Derived.Ground.Names2Prog
import Derived.Test.YtholoaojlcnacaaGreatDoorProg
set_option linter.unusedVariables false
set_option linter.unusedSimpArgs false
set_option linter.unusedSectionVars false
set_option maxRecDepth 10000
namespace Go.Proofs
open Go Av
mutual
def okV : Val → Prop
 | .mk _ _ _ _ l f => l.length ≤ 68719476736 ∧ f.length ≤ 68719476736 ∧ Yw l ∧ ZE f
def Yw : List Val → Prop
 | [] => True
 | v :: r => okV v ∧ Yw r
def okF : Fld → Prop
 | .mk _ v => okV v
def ZE : List Fld → Prop
 | [] => True
 | v :: r => okF v ∧ ZE r
end
theorem JEK : ∀ {l : List Val}, Yw l → ∀ x ∈ l, okV x
 | [], _, x, h => by cases h
 | v :: r, ho, x, h => by
  simp only [Yw] at ho;rcases VA.1 h with rfl | h
  ·exact ho.1
  ·exact JEK ho.2 x h
theorem JHk : ∀ {l : List Fld}, ZE l → ∀ x ∈ l, okF x
 | [], _, x, h => by cases h
 | v :: r, ho, x, h => by
  simp only [ZE] at ho;rcases VA.1 h with rfl | h
  ·exact ho.1
  ·exact JHk ho.2 x h
mutual
def JA7 : Val → Val → Int
 | .mk k i s t l f, b => orI [JA6 k b.kind, JA6 i b.int, JA6 s b.scale, Z3 t b.text, JEL l b.list, JEM f b.fields]
def JEL : List Val → List Val → Int
 | [], [] => 0
 | [], _ :: _ => -1
 | _ :: _, [] => 1
 | x :: xs, y :: ys => if JA7 x y = 0 then JEL xs ys else JA7 x y
def JFI : Fld → Fld → Int
 | .mk n v, g => orI [Z3 n g.name, JA7 v g.value]
def JEM : List Fld → List Fld → Int
 | [], [] => 0
 | [], _ :: _ => -1
 | _ :: _, [] => 1
 | x :: xs, y :: ys => if JFI x y = 0 then JEM xs ys else JFI x y
end
theorem JHl : ∀ (xs ys : List Val), JEL xs ys = cmpL JA7 xs ys
 | [], [] => by simp [JEL, cmpL]
 | [], _ :: _ => by simp [JEL, cmpL]
 | _ :: _, [] => by simp [JEL, cmpL]
 | x :: xs, y :: ys => by simp [JEL, cmpL, JHl xs ys]
theorem JHm : ∀ (xs ys : List Fld), JEM xs ys = cmpL JFI xs ys
 | [], [] => by simp [JEM, cmpL]
 | [], _ :: _ => by simp [JEM, cmpL]
 | _ :: _, [] => by simp [JEM, cmpL]
 | x :: xs, y :: ys => by simp [JEM, cmpL, JHm xs ys]
theorem JQv (n n' : Str) (v v' : Val) (h : PT 51 [JB v, JB v'] (.d (.int .i64 (JA7 v v')))) :
  PT 118 [Jh (.mk n v), Jh (.mk n' v')] (.d (.int .i64 (JFI (.mk n v) (.mk n' v')))) := by
 refine ok118.pc ?_;rw [J3, J3];have hc := h.call trivial;rw [JA, JA] at hc;simp only [go_sem, JS4, Fld.name, Fld.value, simprocAttr];refine JC rfl ((JGR n n').call trivial) trivial ?_;refine zz ?_;refine JC rfl hc trivial ?_;refine zz ?_;refine ⟨sP, JC rfl ((JI8 [Z3 n n', JA7 v v'] sP).call trivial) trivial ?_⟩;refine zz ?_;exact ⟨rfl, by simp only [JFI, Fld.name, Fld.value]⟩
theorem step51 (a b : Val) (ha : a.list.length ≤ 68719476736) (ha2 : a.fields.length ≤ 68719476736) (hb : b.list.length ≤ 68719476736) (hb2 : b.fields.length ≤ 68719476736)
  (h1 : ∀ x ∈ a.list, ∀ y ∈ b.list, CT 51 [.d (JB x), .d (JB y)] [] (.d (.int .i64 (JA7 x y))) [])
  (h2 : ∀ x ∈ a.fields, ∀ y ∈ b.fields, CT 118 [.d (Jh x), .d (Jh y)] [] (.d (.int .i64 (JFI x y))) []) :
  PT 51 [JB a, JB b] (.d (.int .i64 (JA7 a b))) := by
 refine ok51.pc ?_;rw [JA, JA];simp only [go_sem, ir51, simprocAttr];refine JC rfl ((JCY a.kind b.kind).call trivial) trivial ?_;refine zz ?_;refine JC rfl ((JCY a.int b.int).call trivial) trivial ?_;refine zz ?_;refine JC rfl ((JCY a.scale b.scale).call trivial) trivial ?_;refine zz ?_;refine JC rfl ((JGR a.text b.text).call trivial) trivial ?_;refine zz ?_;refine JC rfl ((JQt a.list b.list JA7 51 ha hb h1).call trivial) trivial ?_;refine zz ?_;refine JC rfl ((JQu a.fields b.fields JFI 118 ha2 hb2 h2).call trivial) trivial ?_;refine zz ?_;refine ⟨sP, JC rfl ((JI8 [JA6 a.kind b.kind, JA6 a.int b.int, JA6 a.scale b.scale, Z3 a.text b.text, cmpL JA7 a.list b.list, cmpL JFI a.fields b.fields] sP).call trivial) trivial ?_⟩;refine zz ?_;refine ⟨rfl, ?_⟩;cases a;simp only [JA7, Val.kind, Val.int, Val.scale, Val.text, Val.list, Val.fields, JHl, JHm]
mutual
theorem JI9 : ∀ (a : Val), okV a → ∀ b, okV b → PT 51 [JB a, JB b] (.d (.int .i64 (JA7 a b)))
 | .mk k i s t l f, ha, b, hb => by
  simp only [okV] at ha;obtain ⟨a1, a2, a3, a4⟩ := ha;have hb' : b.list.length ≤ 68719476736 ∧ b.fields.length ≤ 68719476736 ∧ Yw b.list ∧ ZE b.fields := by cases b; simpa only [okV, Val.list, Val.fields] using hb
  exact step51 _ b a1 a2 hb'.1 hb'.2.1 (fun x hx y hy => (JNG l a3 x hx y (JEK hb'.2.2.1 y hy)).call trivial) (fun x hx y hy => (JNH f a4 x hx y (JHk hb'.2.2.2 y hy)).call trivial)
theorem JNG : ∀ (l : List Val), Yw l → ∀ x ∈ l, ∀ b, okV b → PT 51 [JB x, JB b] (.d (.int .i64 (JA7 x b)))
 | [], _, x, h, _, _ => by cases h
 | v :: r, ho, x, h, b, hb => by
  simp only [Yw] at ho;by_cases e : x = v
  ·rw [e]; exact JI9 v ho.1 b hb
  ·exact JNG r ho.2 x ((VA.1 h).resolve_left e) b hb
theorem JQw : ∀ (a : Fld), okF a → ∀ b, okF b → PT 118 [Jh a, Jh b] (.d (.int .i64 (JFI a b)))
 | .mk n v, ha, .mk n' v', hb => JQv n n' v v' (JI9 v (by simpa only [okF] using ha) v' (by simpa only [okF] using hb))
theorem JNH : ∀ (l : List Fld), ZE l → ∀ x ∈ l, ∀ b, okF b → PT 118 [Jh x, Jh b] (.d (.int .i64 (JFI x b)))
 | [], _, x, h, _, _ => by cases h
 | v :: r, ho, x, h, b, hb => by
  simp only [ZE] at ho;by_cases e : x = v
  ·rw [e]; exact JQw v ho.1 b hb
  ·exact JNH r ho.2 x ((VA.1 h).resolve_left e) b hb
end
theorem walk16 (a b : Val) (ha : okV a) (hb : okV b) : PT 16 [JB a, JB b] (.d (.bool (JA7 a b == 0))) := by
 refine ok16.pc ?_;have hc := (JI9 a ha b hb).call trivial;rw [JA, JA] at hc;rw [JA, JA];simp only [go_sem, ir16, simprocAttr];refine wc hc trivial
mutual
def okE : Exp → Prop
 | .mk _ _ _ v a => v.length ≤ 68719476736 ∧ a.length ≤ 68719476736 ∧ Yw v ∧ JJA a
def JJA : List Exp → Prop
 | [] => True
 | v :: r => okE v ∧ JJA r
end
def okM (m : List Rule) : Prop := m.length ≤ 68719476736 ∧ ∀ r ∈ m, okE r.expr
mutual
def okN : Exp → Prop
 | .mk _ _ _ _ a => a.length ≤ 1048576 ∧ JNI a
def JNI : List Exp → Prop
 | [] => True
 | v :: r => okN v ∧ JNI r
end
end Go.Proofs
namespace Go.Proofs
open Go Av
open Go.Proofs.YtholoaojlcnacaaGreatDoor.Rows (uptoBulk uptoBulkAll)
theorem c3 : Tryz.prog.cellsOf 3 = 1 := kR
theorem c9 : Tryz.prog.cellsOf 9 = 1 := kR
theorem c25 : Tryz.prog.cellsOf 25 = 1 := kR
theorem c26 : Tryz.prog.cellsOf 26 = 1 := kR
theorem c44 : Tryz.prog.cellsOf 44 = 1 := kR
theorem c22 : Tryz.prog.cellsOf 22 = 1 := kR
theorem c24 : Tryz.prog.cellsOf 24 = 1 := kR
theorem c28 : Tryz.prog.cellsOf 28 = 6 := kR
theorem c77 : Tryz.prog.cellsOf 77 = 7 := kR
theorem c46 : Tryz.prog.cellsOf 46 = 5 := kR
theorem c48 : Tryz.prog.cellsOf 48 = 6 := kR
theorem JGS : ∀ {l : List Val}, (∀ a ∈ l, okV a) → Yw l
 | [], _ => by simp [Yw]
 | v :: r, h => by simp only [Yw]; exact ⟨h v Vh, JGS fun a ha => h a (Vn _ ha)⟩
theorem JKP : ∀ {l : List Fld}, (∀ a ∈ l, okF a) → ZE l
 | [], _ => by simp [ZE]
 | v :: r, h => by simp only [ZE]; exact ⟨h v Vh, JKP fun a ha => h a (Vn _ ha)⟩
theorem JKQ : ∀ {l : List Exp}, (∀ a ∈ l, okN a) → JNI l
 | [], _ => by simp [JNI]
 | v :: r, h => by simp only [JNI]; exact ⟨h v Vh, JKQ fun a ha => h a (Vn _ ha)⟩
theorem JKR : ∀ {l : List Exp}, (∀ a ∈ l, okE a) → JJA l
 | [], _ => by simp [JJA]
 | v :: r, h => by simp only [JJA]; exact ⟨h v Vh, JKR fun a ha => h a (Vn _ ha)⟩
section
variable {H : Type} {enc : TypeId × Value → H} {w : World} {base : Nat} {spare : Nat → Bool} {held : Bool}
theorem fld {fs : Array Field} {n : Nat} {cs : List Value} {xs : List (DataW H × List MemPlace)}
  (hf : ∀ (i : Nat) (f : Field), fs[i]? = some f → DataW.trod enc Tryz.prog w base spare held n f.type ((cs.drop f.offset).take (Tryz.prog.cellsOf f.type)) = xs[i]?)
  (i : Nat) (t off : Nat) {k : Nat} (hi : (fs[i]?).map (fun f => (f.type, f.offset)) = some (t, off)) (hc : Tryz.prog.cellsOf t = k) : DataW.trod enc Tryz.prog w base spare held n t ((cs.drop off).take k) = xs[i]? := by
 cases e : fs[i]? with
 | none => rw [e] at hi; cases hi
 | some f =>
  rw [e] at hi;simp only [Vj, Vd, Ve] at hi;have := hf i f e;rw [hi.1, hi.2, hc] at this;exact this
theorem JEN (a : Val) : (JB a).cells.length = 6 := by rw [JA]; rfl
theorem JNJ (a : Fld) : (Jh a).cells.length = 7 := by rw [J3]; rfl
theorem JNK (a : Exp) : (JL a).cells.length = 5 := by rw [JE]; rfl
theorem JNL (a : Rule) : (Yg a).cells.length = 6 := rfl
theorem JEO (fuel : Nat) : ∀ (cs : List Value) (x : DataW H × List MemPlace), DataW.trod enc Tryz.prog w base spare held fuel 28 cs = some x → uptoBulk x.1 ≤ 1048576 → ∃ a : Val, okV a ∧ CR (old w) w (JB a).cells cs := by
 induction fuel using Nat.strongRecOn with
 | _ fuel ih =>
  intro cs x h hb;obtain ⟨xs, n, rfl, rfl, hl, hlen, hf⟩ := DataW.trod_struct Tryz.underlying28 h;rw [c28] at hl;have h0 := fld hf 0 3 0 rfl c3;have h1 := fld hf 1 3 1 rfl c3;have h2 := fld hf 2 3 2 rfl c3;have h3 := fld hf 3 9 3 rfl c9;have h4 := fld hf 4 25 4 rfl c25;have h5 := fld hf 5 26 5 rfl c26
  match xs, hlen, cs, hl with
  | [y0, y1, y2, y3, y4, y5], _, [a0, a1, a2, a3, a4, a5], _ =>
   simp only [Va, Vb, uptoBulk, uptoBulkAll] at hb;obtain ⟨k, g0⟩ := Ya Tryz.underlying3 (show DataW.trod enc Tryz.prog w base spare held n 3 [a0] = some y0 from h0);obtain ⟨i, g1⟩ := Ya Tryz.underlying3 (show DataW.trod enc Tryz.prog w base spare held n 3 [a1] = some y1 from h1);obtain ⟨s, g2⟩ := Ya Tryz.underlying3 (show DataW.trod enc Tryz.prog w base spare held n 3 [a2] = some y2 from h2);obtain ⟨t, _, g3⟩ := JCK Tryz.underlying9 (show DataW.trod enc Tryz.prog w base spare held n 9 [a3] = some y3 from h3) oM;obtain ⟨l, e4, o4, g4⟩ := Xd (encA := JB) (ok := okV) Tryz.underlying25 c28 dC JEN (show DataW.trod enc Tryz.prog w base spare held n 25 [a4] = some y4 from h4) oM
    (fun m cs' y hm hy hyb => ih m oM cs' y hy hyb)
   obtain ⟨f, e5, o5, g5⟩ := Xd (encA := Jh) (ok := okF) Tryz.underlying26 c77 dC JNJ (show DataW.trod enc Tryz.prog w base spare held n 26 [a5] = some y5 from h5) oM
    (fun m cs' y hm hy hyb => by
     obtain ⟨xs, m', rfl, rfl, hl, hlen, hf⟩ := DataW.trod_struct Tryz.underlying77 hy;rw [c77] at hl;have h0 := fld hf 0 9 0 rfl c9;have h1 := fld hf 1 28 1 rfl c28
     match xs, hlen, cs', hl with
     | [y0, y1], _, [a0, a1, a2, a3, a4, a5, a6], _ =>
      simp only [Va, Vb, uptoBulk, uptoBulkAll] at hyb;obtain ⟨nm, _, g0⟩ := JCK Tryz.underlying9 (show DataW.trod enc Tryz.prog w base spare held m' 9 [a0] = some y0 from h0) oM;obtain ⟨v, ov, g1⟩ := ih m' oM [a1, a2, a3, a4, a5, a6] y1 h1 oM;refine ⟨.mk nm v, by simpa only [okF] using ov, ?_⟩;have := g0.append g1;simpa only [Jh, Dat.cells, List.singleton_append] using this)
   refine ⟨.mk k i s t l f, by simp only [okV]; exact ⟨oM, oM, JGS o4, JKP o5⟩, ?_⟩;have := g0.append (g1.append (g2.append (g3.append (g4.append g5))));simpa only [JA, Val.kind, Val.int, Val.scale, Val.text, Val.list, Val.fields, Dat.cells, List.singleton_append, List.cons_append, List.nil_append] using this
theorem JNM (fuel : Nat) : ∀ (cs : List Value) (x : DataW H × List MemPlace), DataW.trod enc Tryz.prog w base spare held fuel 46 cs = some x → uptoBulk x.1 ≤ 1048576 → ∃ a : Exp, (okE a ∧ okN a) ∧ CR (old w) w (JL a).cells cs := by
 induction fuel using Nat.strongRecOn with
 | _ fuel ih =>
  intro cs x h hb;obtain ⟨xs, n, rfl, rfl, hl, hlen, hf⟩ := DataW.trod_struct Tryz.underlying46 h;rw [c46] at hl;have h0 := fld hf 0 3 0 rfl c3;have h1 := fld hf 1 3 1 rfl c3;have h2 := fld hf 2 9 2 rfl c9;have h3 := fld hf 3 25 3 rfl c25;have h4 := fld hf 4 44 4 rfl c44
  match xs, hlen, cs, hl with
  | [y0, y1, y2, y3, y4], _, [a0, a1, a2, a3, a4], _ =>
   simp only [Va, Vb, uptoBulk, uptoBulkAll] at hb;obtain ⟨o, g0⟩ := Ya Tryz.underlying3 (show DataW.trod enc Tryz.prog w base spare held n 3 [a0] = some y0 from h0);obtain ⟨i, g1⟩ := Ya Tryz.underlying3 (show DataW.trod enc Tryz.prog w base spare held n 3 [a1] = some y1 from h1);obtain ⟨t, _, g2⟩ := JCK Tryz.underlying9 (show DataW.trod enc Tryz.prog w base spare held n 9 [a2] = some y2 from h2) oM;obtain ⟨v, e3, o3, g3⟩ := Xd (encA := JB) (ok := okV) Tryz.underlying25 c28 dC JEN (show DataW.trod enc Tryz.prog w base spare held n 25 [a3] = some y3 from h3) oM
    (fun m cs' y _ hy hyb => JEO m cs' y hy hyb)
   obtain ⟨l, e4, o4, g4⟩ := Xd (encA := JL) (ok := fun a => okE a ∧ okN a) Tryz.underlying44 c46 dC JNK (show DataW.trod enc Tryz.prog w base spare held n 44 [a4] = some y4 from h4) oM
    (fun m cs' y hm hy hyb => ih m oM cs' y hy hyb)
   refine ⟨.mk o i t v l, ⟨by simp only [okE]; exact ⟨oM, oM, JGS o3, JKR fun a ha => (o4 a ha).1⟩, by simp only [okN]; exact ⟨oM, JKQ fun a ha => (o4 a ha).2⟩⟩, ?_⟩;have := g0.append (g1.append (g2.append (g3.append g4)));simpa only [JE, Exp.op, Exp.int, Exp.text, Exp.value, Exp.args, Dat.cells, List.singleton_append, List.cons_append, List.nil_append] using this
end
end Go.Proofs
namespace Av
open Go Go.RowKit
variable [Glb] [Rls]
theorem JQ.JE6 {P : Program} {f : Nat} {ds : List Dat} {v : Av} (hh : Has P f)
  (h : ∀ (A : Nat → Prop) (w : World) (vs : Array Value), ds.length = vs.size → (∀ (i : Nat) d u, ds[i]? = some d → vs[i]? = some u → Rep A w d u) →
   Calls P f vs w fun e w' => ∃ u, e = .returned u ∧ Below w.heap.size w w' ∧ ∀ β H, VRep β (fun b => A b) w' H v u) : JQ P f (ds.map .d) [] v [] := by
 intro β A w H vs _ hc hvs;have hl : ds.length = vs.size := sX hvs.1;refine .inl ⟨hh, (h A w vs hl ?_).mono ?_⟩
 ·intro i d u hd hu;have := hvs.2 i (.d d) u (by rw [Vo, hd]; rfl) hu;exact this.JX
 ·rintro e w' ⟨u, rfl, hb, hr⟩;refine ⟨u, rfl, β, A, ?_, hr β _⟩;exact Stp.new hc hb.os hb.tape hb.output hb.size hb.block (fun _ h => h) (fun _ h => .inl h) (fun b hA => Nat.lt_of_lt_of_le (hc.old b hA) hb.size)
theorem JQ.JAj {P : Program} {f : Nat} {ds : List Dat} {v : Av} (hh : Has P f)
  (h : ∀ (A : Nat → Prop) (w : World) (vs : Array Value), (∀ g cs, Xc g = some cs → Zp A w g cs) → ds.length = vs.size → (∀ (i : Nat) d u, ds[i]? = some d → vs[i]? = some u → Rep A w d u) →
   Calls P f vs w fun e w' => ∃ u, e = .returned u ∧ Below w.heap.size w w' ∧ ∀ β H, VRep β (fun b => A b) w' H v u) : JQ P f (ds.map .d) [] v [] := by
 intro β A w H vs _ hc hvs;have hl : ds.length = vs.size := sX hvs.1;refine .inl ⟨hh, (h A w vs hc.glob hl ?_).mono ?_⟩
 ·intro i d u hd hu;have := hvs.2 i (.d d) u (by rw [Vo, hd]; rfl) hu;exact this.JX
 ·rintro e w' ⟨u, rfl, hb, hr⟩;refine ⟨u, rfl, β, A, ?_, hr β _⟩;exact Stp.new hc hb.os hb.tape hb.output hb.size hb.block (fun _ h => h) (fun _ h => .inl h) (fun b hA => Nat.lt_of_lt_of_le (hc.old b hA) hb.size)
end Av
namespace Go.Proofs
open Go.Shelf
def Tryz.Yz : Go.Shelf.Ren := ⟨fun | 196 => 106 | 259 => 166 | n => n, fun | 9 => 9 | 4 => 4 | 3 => 3 | 5 => 5 | 12 => 12 | 119 => 211 | 0 => 0 | 46 => 189 | 139 => 214 | 138 => 213 | 53 => 248 | n => n, fun | 3 => 0 | 4 => 1 | n => n⟩
theorem Tryz.JAk : Go.Proofs.Lays.n196 Tryz.prog Tryz.Yz := {
 mixed := kR
 f196 := Tryz.func106.trans (congrArg some kR)
 f259 := Tryz.func166.trans (congrArg some kR)
 t0 := Tryz.underlying0
 a0 := Tryz.isAgg0
 z0 := Tryz.sizeOf0
 v0 := Tryz.zeroValue0
 t3 := Tryz.underlying3
 a3 := Tryz.isAgg3
 z3 := Tryz.sizeOf3
 v3 := Tryz.zeroValue3
 t4 := Tryz.underlying4
 a4 := Tryz.isAgg4
 z4 := Tryz.sizeOf4
 v4 := Tryz.zeroValue4
 t5 := Tryz.underlying5
 a5 := Tryz.isAgg5
 z5 := Tryz.sizeOf5
 v5 := Tryz.zeroValue5
 t9 := Tryz.underlying9
 a9 := Tryz.isAgg9
 z9 := Tryz.sizeOf9
 v9 := Tryz.zeroValue9
 t12 := Tryz.underlying12
 a12 := Tryz.isAgg12
 z12 := Tryz.sizeOf12
 v12 := Tryz.zeroValue12
 t46 := Tryz.underlying189
 a46 := Tryz.isAgg189
 z46 := Tryz.sizeOf189
 v46 := Tryz.zeroValue189
 t53 := Tryz.underlying248
 a53 := Tryz.isAgg248
 z53 := Tryz.sizeOf248
 v53 := Tryz.zeroValue248
 t119 := Tryz.underlying211
 a119 := Tryz.isAgg211
 z119 := Tryz.sizeOf211
 t138 := Tryz.underlying213
 a138 := Tryz.isAgg213
 z138 := Tryz.sizeOf213
 v138 := Tryz.zeroValue213
 t139 := Tryz.underlying214
 a139 := Tryz.isAgg214
 z139 := Tryz.sizeOf214
 v139 := Tryz.zeroValue214
 g3 := kR
 g4 := by kernel_rfl }
end Go.Proofs
