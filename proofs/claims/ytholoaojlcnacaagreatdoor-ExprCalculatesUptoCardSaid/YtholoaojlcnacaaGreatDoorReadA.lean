/- From the kit's reading of memory to data. -/
import Derived.Test.YtholoaojlcnacaaGreatDoorAvA
import Derived.ChangeArms
import Derived.DataReads
import Derived.Test.YtholoaojlcnacaaGreatDoorRows
import Derived.Test.YtholoaojlcnacaaGreatDoorWalkA
set_option linter.unusedVariables false
set_option linter.unusedSimpArgs false
set_option linter.unusedSectionVars false
set_option linter.unusedSimpArgs false
namespace Av
open Go
open Go.Proofs.YtholoaojlcnacaaGreatDoor.Rows (uptoBulk uptoBulkAll)

/-- cells that read as data -/
def CR (A : Nat → Prop) (w : World) (ds : List Dat) (cs : List Value) : Prop :=
  ds.length = cs.length ∧ (∀ v ∈ cs, v.oneCell' = true) ∧ ∀ (i : Nat) c v, ds[i]? = some c → cs[i]? = some v → Rep A w c v

theorem CR.nil {A : Nat → Prop} {w : World} : CR A w [] [] := ⟨rfl, by simp, by simp⟩
theorem CR.one {A : Nat → Prop} {w : World} {d : Dat} {v : Value} (h1 : v.oneCell' = true) (h : Rep A w d v) : CR A w [d] [v] := by
  refine ⟨rfl, by simpa using h1, ?_⟩
  intro i c u hc hu
  cases i with
  | zero => simp at hc hu; subst hc; subst hu; exact h
  | succ i => simp at hc
theorem CR.append {A : Nat → Prop} {w : World} {d1 d2 : List Dat} {c1 c2 : List Value} (h1 : CR A w d1 c1) (h2 : CR A w d2 c2) : CR A w (d1 ++ d2) (c1 ++ c2) := by
  obtain ⟨a1, a2, a3⟩ := h1
  obtain ⟨b1, b2, b3⟩ := h2
  refine ⟨by simp [a1, b1], ?_, ?_⟩
  · intro v hv
    rcases List.mem_append.1 hv with h | h
    · exact a2 v h
    · exact b2 v h
  · intro i c v hc hv
    by_cases hi : i < d1.length
    · rw [List.getElem?_append_left hi] at hc
      rw [List.getElem?_append_left (by omega)] at hv
      exact a3 i c v hc hv
    · rw [List.getElem?_append_right (by omega)] at hc
      rw [List.getElem?_append_right (by omega), ← a1] at hv
      exact b3 _ c v hc hv

theorem bulk_one {H : Type} (d : DataW H) : 1 ≤ uptoBulk d := by
  cases d with
  | lit l => cases l <;> simp [uptoBulk]
  | _ => simp [uptoBulk]
theorem bulk_part {H : Type} {d : DataW H} {l : List (DataW H)} (h : d ∈ l) : uptoBulk d ≤ uptoBulkAll l := by
  induction l with
  | nil => cases h
  | cons x r ih =>
    simp only [uptoBulkAll]
    cases List.mem_cons.1 h with
    | inl e => subst e; omega
    | inr e => have := ih e; omega
theorem bulk_length {H : Type} (l : List (DataW H)) : l.length ≤ uptoBulkAll l := by
  induction l with
  | nil => simp [uptoBulkAll]
  | cons x r ih => have := bulk_one x; simp only [uptoBulkAll, List.length_cons]; omega

section
variable {H : Type} {enc : TypeId × Value → H} {P : Program} {w : World} {base : Nat} {spare : Nat → Bool} {held : Bool}

def old (w : World) (b : Nat) : Prop := b < w.heap.size

theorem cr_int {t : TypeId} {k : IntKind} {fuel : Nat} {cs : List Value} {x : DataW H × List MemPlace} (ht : P.underlying t = some (.int k)) (h : DataW.trod enc P w base spare held fuel t cs = some x) :
    ∃ n, CR (old w) w [.int k n] cs := by
  obtain ⟨n, rfl, _, hw⟩ := DataW.trod_int ht h
  refine ⟨n, .one rfl (.int k n ?_)⟩
  simpa [Lit.wf, Bool.and_eq_true] using hw
theorem cr_str {t : TypeId} {fuel : Nat} {cs : List Value} {x : DataW H × List MemPlace} (ht : P.underlying t = some .string) (h : DataW.trod enc P w base spare held fuel t cs = some x) (hb : uptoBulk x.1 ≤ 1048576) :
    ∃ s : List UInt8, s.length ≤ 1048576 ∧ CR (old w) w [.str s] cs := by
  obtain ⟨s, rfl, rfl, _⟩ := DataW.trod_string ht h
  simp only [uptoBulk] at hb
  have e : (Value.string s) = .string ⟨s.data.toList.toArray⟩ := by simp
  refine ⟨s.data.toList, by omega, ?_⟩
  rw [e]
  exact .one rfl (.str _ (by omega))

theorem cell_spot {a : Addr} {v : Value} (h : w.cell? a = some v) : a.spot = none ∧ a.block < w.heap.size := by
  unfold World.cell? at h
  split at h
  · rename_i hh
    split at h
    · cases h
    · rename_i hs
      refine ⟨by cases e : a.spot <;> simp_all, ?_⟩
      exact (Array.getElem?_eq_some_iff.1 hh).1
  · cases h
theorem add_none {a : Addr} (h : a.spot = none) (n : Nat) : a.add n = ⟨a.block, a.off + n, none⟩ := by
  unfold Addr.add
  split
  · rename_i e; subst e; cases a; simp_all
  · rfl

/-- a row of elements -/
theorem cr_rows {α : Type} {encA : α → Dat} {sz : Nat} (hsz : 0 < sz) (a : Addr) : ∀ (len : Nat) (E : Nat → List Value) (X : Nat → α),
    (∀ i, i < len → w.cells? base (a.add (i * sz)) sz = some (E i) ∧ CR (old w) w (encA (X i)).cells (E i)) →
    ∃ vs : List Value, (0 < len → a.spot = none ∧ a.block < w.heap.size) ∧ vs.length = len * sz ∧ (∀ (i : Nat) v, vs[i]? = some v → w.cell? (a.add i) = some v) ∧ CR (old w) w (flat ((List.range len).map fun i => encA (X i))) vs
  | 0, _, _, _ => ⟨[], by simp, by simp, by simp, by simpa [flat] using CR.nil⟩
  | n + 1, E, X, h => by
    obtain ⟨vs, h1, h2, h3, h4⟩ := cr_rows (encA := encA) hsz a n E X fun i hi => h i (by omega)
    obtain ⟨g1, g2⟩ := h n (by omega)
    obtain ⟨_, hlen, hcell⟩ := World.cells?_some g1
    have hspot : a.spot = none ∧ a.block < w.heap.size := by
      by_cases h0 : 0 < n
      · exact h1 h0
      · obtain rfl : n = 0 := by omega
        have := hcell 0 hsz
        rw [Nat.zero_mul] at this
        have e1 : (a.add 0).add 0 = a := by simp [Addr.add]
        rw [e1] at this
        cases e : (E 0)[0]? with
        | none => rw [List.getElem?_eq_none_iff] at e; omega
        | some v => rw [e] at this; exact cell_spot this
    refine ⟨vs ++ E n, fun _ => hspot, by rw [List.length_append, h2, hlen, Nat.succ_mul], ?_, ?_⟩
    · intro i v hv
      by_cases hi : i < vs.length
      · rw [List.getElem?_append_left hi] at hv
        exact h3 i v hv
      · rw [List.getElem?_append_right (by omega)] at hv
        have hlt : i - vs.length < sz := by
          have := (List.getElem?_eq_some_iff.1 hv).1
          omega
        have := hcell _ hlt
        rw [hv] at this
        rw [← this]
        congr 1
        rw [add_none hspot.1, add_none hspot.1, add_none rfl]
        have hoff : a.off + i = a.off + n * sz + (i - vs.length) := by omega
        show (⟨a.block, a.off + i, none⟩ : Addr) = ⟨a.block, a.off + n * sz + (i - vs.length), none⟩
        rw [hoff]
    · rw [List.range_succ, List.map_append]
      have e : flat (List.map (fun i => encA (X i)) (List.range n) ++ List.map (fun i => encA (X i)) [n]) = flat (List.map (fun i => encA (X i)) (List.range n)) ++ (encA (X n)).cells := by
        simp [flat]
      rw [e]
      exact h4.append g2

theorem cr_slice {α : Type} {encA : α → Dat} {ok : α → Prop} {t e : TypeId} {sz fuel : Nat} {cs : List Value} {x : DataW H × List MemPlace} (ht : P.underlying t = some (.slice e)) (hc : P.cellsOf e = sz) (hsz : 0 < sz) (henc : ∀ a, (encA a).cells.length = sz)
    (h : DataW.trod enc P w base spare held fuel t cs = some x) (hb : uptoBulk x.1 ≤ 1048576)
    (hel : ∀ n cs' y, n < fuel → DataW.trod enc P w base spare held n e cs' = some y → uptoBulk y.1 ≤ 1048576 → ∃ a : α, ok a ∧ CR (old w) w (encA a).cells cs') :
    ∃ xs : List α, xs.length ≤ 1048576 ∧ (∀ a ∈ xs, ok a) ∧ CR (old w) w [.list sz (xs.map encA)] cs := by
  rcases DataW.trod_slice ht h with ⟨rfl, _⟩ | ⟨a, len, cap, elems, rest, n, rfl, rfl, rfl, hbase, hl, hm, hlen, hget, _, _⟩
  · exact ⟨[], by simp, by simp, .one rfl (.emp sz none 0)⟩
  · rw [hc] at hget
    simp only [uptoBulk] at hb
    have hlen' : len ≤ 1048576 := by
      have := bulk_length (elems.map (·.1))
      rw [List.length_map, hlen] at this
      omega
    have hex : ∀ i, i < len → ∃ p : List Value × α, w.cells? base (a.add (i * sz)) sz = some p.1 ∧ ok p.2 ∧ CR (old w) w (encA p.2).cells p.1 := by
      intro i hi
      have hg := hget i hi
      rw [List.getElem?_eq_getElem (by omega)] at hg
      obtain ⟨cs', g1, g2⟩ := Option.bind_eq_some_iff.1 hg
      have hbi : uptoBulk (elems[i]'(by omega)).1 ≤ 1048576 := by
        have := bulk_part (List.mem_map.2 ⟨elems[i]'(by omega), List.getElem_mem _, rfl⟩ : (elems[i]'(by omega)).1 ∈ elems.map (·.1))
        omega
      obtain ⟨y, h1, h2⟩ := hel n cs' _ (by omega) g2 hbi
      exact ⟨(cs', y), g1, h1, h2⟩
    obtain ⟨p0, hp0⟩ : ∃ p : Nat → Option (List Value × α), ∀ i, i < len → ∃ q, p i = some q ∧ w.cells? base (a.add (i * sz)) sz = some q.1 ∧ ok q.2 ∧ CR (old w) w (encA q.2).cells q.1 := by
      classical
      refine ⟨fun i => if hi : i < len then some (Classical.choose (hex i hi)) else none, fun i hi => ?_⟩
      exact ⟨Classical.choose (hex i hi), by simp [hi], Classical.choose_spec (hex i hi)⟩
    by_cases h0 : len = 0
    · subst h0
      exact ⟨[], by simp, by simp, .one rfl (.emp sz (some a) cap)⟩
    · obtain ⟨q0, hq0, _⟩ := hp0 0 (by omega)
      have hq : ∀ i, i < len → w.cells? base (a.add (i * sz)) sz = some ((p0 i).getD q0).1 ∧ ok ((p0 i).getD q0).2 ∧ CR (old w) w (encA ((p0 i).getD q0).2).cells ((p0 i).getD q0).1 := by
        intro i hi
        obtain ⟨q, e, hq⟩ := hp0 i hi
        rw [e]
        exact hq
      obtain ⟨vs, g1, g2, g3, g4⟩ := cr_rows (encA := encA) hsz a len (fun i => ((p0 i).getD q0).1) (fun i => ((p0 i).getD q0).2) fun i hi => ⟨(hq i hi).1, (hq i hi).2.2⟩
      obtain ⟨hs, hblk⟩ := g1 (by omega)
      refine ⟨(List.range len).map fun i => ((p0 i).getD q0).2, by simpa using hlen', ?_, ?_⟩
      · intro y hy
        obtain ⟨i, hi, rfl⟩ := List.mem_map.1 hy
        exact (hq i (List.mem_range.1 hi)).2.1
      · rw [List.map_map]
        have ea : a = ⟨a.block, a.off, none⟩ := by cases a; simp_all
        rw [ea]
        refine .one rfl (.list sz _ a.block a.off len cap vs (by simp) hblk (by simpa using hl) (by simp; omega) g4.2.1 ?_ ?_ g4.1 g4.2.2)
        · intro d hd
          obtain ⟨i, _, rfl⟩ := List.mem_map.1 hd
          exact henc _
        · intro i v hv
          have := g3 i v hv
          rwa [add_none hs] at this
end
end Av
/- Bounds of the lists of an expression. -/
namespace Go.Proofs
open Go Av
mutual
/-- no list of arguments is longer than the bulk bears -/
def okN : Exp → Prop
  | .mk _ _ _ _ a => a.length ≤ 1048576 ∧ okNs a
def okNs : List Exp → Prop
  | [] => True
  | v :: r => okN v ∧ okNs r
end
theorem okNs_mem : ∀ {l : List Exp}, okNs l → ∀ x ∈ l, okN x
  | [], _, x, h => by cases h
  | v :: r, ho, x, h => by
    simp only [okNs] at ho
    rcases List.mem_cons.1 h with rfl | h
    · exact ho.1
    · exact okNs_mem ho.2 x h
theorem okN_args {e : Exp} (h : okN e) : e.args.length ≤ 1048576 ∧ ∀ x ∈ e.args, okN x := by
  cases e
  simp only [okN] at h
  exact ⟨h.1, okNs_mem h.2⟩

end Go.Proofs
/- The arguments of the laws as Lean values. -/
set_option linter.unusedSimpArgs false
set_option maxRecDepth 10000
namespace Go.Proofs
open Go Av
open Go.Proofs.YtholoaojlcnacaaGreatDoor.Rows (uptoBulk uptoBulkAll)

theorem c3 : Tryz.prog.cellsOf 3 = 1 := by kernel_rfl
theorem c9 : Tryz.prog.cellsOf 9 = 1 := by kernel_rfl
theorem c25 : Tryz.prog.cellsOf 25 = 1 := by kernel_rfl
theorem c26 : Tryz.prog.cellsOf 26 = 1 := by kernel_rfl
theorem c44 : Tryz.prog.cellsOf 44 = 1 := by kernel_rfl
theorem c22 : Tryz.prog.cellsOf 22 = 1 := by kernel_rfl
theorem c24 : Tryz.prog.cellsOf 24 = 1 := by kernel_rfl
theorem c28 : Tryz.prog.cellsOf 28 = 6 := by kernel_rfl
theorem c77 : Tryz.prog.cellsOf 77 = 7 := by kernel_rfl
theorem c46 : Tryz.prog.cellsOf 46 = 5 := by kernel_rfl
theorem c48 : Tryz.prog.cellsOf 48 = 6 := by kernel_rfl

theorem okVs_of : ∀ {l : List Val}, (∀ a ∈ l, okV a) → okVs l
  | [], _ => by simp [okVs]
  | v :: r, h => by simp only [okVs]; exact ⟨h v List.mem_cons_self, okVs_of fun a ha => h a (List.mem_cons_of_mem _ ha)⟩
theorem okFs_of : ∀ {l : List Fld}, (∀ a ∈ l, okF a) → okFs l
  | [], _ => by simp [okFs]
  | v :: r, h => by simp only [okFs]; exact ⟨h v List.mem_cons_self, okFs_of fun a ha => h a (List.mem_cons_of_mem _ ha)⟩
theorem okNs_of : ∀ {l : List Exp}, (∀ a ∈ l, okN a) → okNs l
  | [], _ => by simp [okNs]
  | v :: r, h => by simp only [okNs]; exact ⟨h v List.mem_cons_self, okNs_of fun a ha => h a (List.mem_cons_of_mem _ ha)⟩
theorem okEs_of : ∀ {l : List Exp}, (∀ a ∈ l, okE a) → okEs l
  | [], _ => by simp [okEs]
  | v :: r, h => by simp only [okEs]; exact ⟨h v List.mem_cons_self, okEs_of fun a ha => h a (List.mem_cons_of_mem _ ha)⟩

section
variable {H : Type} {enc : TypeId × Value → H} {w : World} {base : Nat} {spare : Nat → Bool} {held : Bool}

theorem fld {fs : Array Field} {n : Nat} {cs : List Value} {xs : List (DataW H × List MemPlace)}
    (hf : ∀ (i : Nat) (f : Field), fs[i]? = some f → DataW.trod enc Tryz.prog w base spare held n f.type ((cs.drop f.offset).take (Tryz.prog.cellsOf f.type)) = xs[i]?)
    (i : Nat) (t off : Nat) {k : Nat} (hi : (fs[i]?).map (fun f => (f.type, f.offset)) = some (t, off)) (hc : Tryz.prog.cellsOf t = k) : DataW.trod enc Tryz.prog w base spare held n t ((cs.drop off).take k) = xs[i]? := by
  cases e : fs[i]? with
  | none => rw [e] at hi; cases hi
  | some f =>
    rw [e] at hi
    simp only [Option.map_some, Option.some.injEq, Prod.mk.injEq] at hi
    have := hf i f e
    rw [hi.1, hi.2, hc] at this
    exact this

theorem encV_len (a : Val) : (encV a).cells.length = 6 := by rw [encV_eq]; rfl
theorem encF_len (a : Fld) : (encF a).cells.length = 7 := by rw [encF_eq]; rfl
theorem encE_len (a : Exp) : (encE a).cells.length = 5 := by rw [encE_eq]; rfl
theorem encR_len (a : Rule) : (encR a).cells.length = 6 := rfl

theorem read_val (fuel : Nat) : ∀ (cs : List Value) (x : DataW H × List MemPlace), DataW.trod enc Tryz.prog w base spare held fuel 28 cs = some x → uptoBulk x.1 ≤ 1048576 → ∃ a : Val, okV a ∧ CR (old w) w (encV a).cells cs := by
  induction fuel using Nat.strongRecOn with
  | _ fuel ih =>
    intro cs x h hb
    obtain ⟨xs, n, rfl, rfl, hl, hlen, hf⟩ := DataW.trod_struct Tryz.underlying28 h
    rw [c28] at hl
    have h0 := fld hf 0 3 0 rfl c3
    have h1 := fld hf 1 3 1 rfl c3
    have h2 := fld hf 2 3 2 rfl c3
    have h3 := fld hf 3 9 3 rfl c9
    have h4 := fld hf 4 25 4 rfl c25
    have h5 := fld hf 5 26 5 rfl c26
    match xs, hlen, cs, hl with
    | [y0, y1, y2, y3, y4, y5], _, [a0, a1, a2, a3, a4, a5], _ =>
      simp only [List.map_cons, List.map_nil, uptoBulk, uptoBulkAll] at hb
      obtain ⟨k, g0⟩ := cr_int Tryz.underlying3 (show DataW.trod enc Tryz.prog w base spare held n 3 [a0] = some y0 from h0)
      obtain ⟨i, g1⟩ := cr_int Tryz.underlying3 (show DataW.trod enc Tryz.prog w base spare held n 3 [a1] = some y1 from h1)
      obtain ⟨s, g2⟩ := cr_int Tryz.underlying3 (show DataW.trod enc Tryz.prog w base spare held n 3 [a2] = some y2 from h2)
      obtain ⟨t, _, g3⟩ := cr_str Tryz.underlying9 (show DataW.trod enc Tryz.prog w base spare held n 9 [a3] = some y3 from h3) (by omega)
      obtain ⟨l, e4, o4, g4⟩ := cr_slice (encA := encV) (ok := okV) Tryz.underlying25 c28 (by decide) encV_len (show DataW.trod enc Tryz.prog w base spare held n 25 [a4] = some y4 from h4) (by omega)
        (fun m cs' y hm hy hyb => ih m (by omega) cs' y hy hyb)
      obtain ⟨f, e5, o5, g5⟩ := cr_slice (encA := encF) (ok := okF) Tryz.underlying26 c77 (by decide) encF_len (show DataW.trod enc Tryz.prog w base spare held n 26 [a5] = some y5 from h5) (by omega)
        (fun m cs' y hm hy hyb => by
          obtain ⟨xs, m', rfl, rfl, hl, hlen, hf⟩ := DataW.trod_struct Tryz.underlying77 hy
          rw [c77] at hl
          have h0 := fld hf 0 9 0 rfl c9
          have h1 := fld hf 1 28 1 rfl c28
          match xs, hlen, cs', hl with
          | [y0, y1], _, [a0, a1, a2, a3, a4, a5, a6], _ =>
            simp only [List.map_cons, List.map_nil, uptoBulk, uptoBulkAll] at hyb
            obtain ⟨nm, _, g0⟩ := cr_str Tryz.underlying9 (show DataW.trod enc Tryz.prog w base spare held m' 9 [a0] = some y0 from h0) (by omega)
            obtain ⟨v, ov, g1⟩ := ih m' (by omega) [a1, a2, a3, a4, a5, a6] y1 h1 (by omega)
            refine ⟨.mk nm v, by simpa only [okF] using ov, ?_⟩
            have := g0.append g1
            simpa only [encF, Dat.cells, List.singleton_append] using this)
      refine ⟨.mk k i s t l f, by simp only [okV]; exact ⟨by omega, by omega, okVs_of o4, okFs_of o5⟩, ?_⟩
      have := g0.append (g1.append (g2.append (g3.append (g4.append g5))))
      simpa only [encV_eq, Val.kind, Val.int, Val.scale, Val.text, Val.list, Val.fields, Dat.cells, List.singleton_append, List.cons_append, List.nil_append] using this

theorem read_exp (fuel : Nat) : ∀ (cs : List Value) (x : DataW H × List MemPlace), DataW.trod enc Tryz.prog w base spare held fuel 46 cs = some x → uptoBulk x.1 ≤ 1048576 → ∃ a : Exp, (okE a ∧ okN a) ∧ CR (old w) w (encE a).cells cs := by
  induction fuel using Nat.strongRecOn with
  | _ fuel ih =>
    intro cs x h hb
    obtain ⟨xs, n, rfl, rfl, hl, hlen, hf⟩ := DataW.trod_struct Tryz.underlying46 h
    rw [c46] at hl
    have h0 := fld hf 0 3 0 rfl c3
    have h1 := fld hf 1 3 1 rfl c3
    have h2 := fld hf 2 9 2 rfl c9
    have h3 := fld hf 3 25 3 rfl c25
    have h4 := fld hf 4 44 4 rfl c44
    match xs, hlen, cs, hl with
    | [y0, y1, y2, y3, y4], _, [a0, a1, a2, a3, a4], _ =>
      simp only [List.map_cons, List.map_nil, uptoBulk, uptoBulkAll] at hb
      obtain ⟨o, g0⟩ := cr_int Tryz.underlying3 (show DataW.trod enc Tryz.prog w base spare held n 3 [a0] = some y0 from h0)
      obtain ⟨i, g1⟩ := cr_int Tryz.underlying3 (show DataW.trod enc Tryz.prog w base spare held n 3 [a1] = some y1 from h1)
      obtain ⟨t, _, g2⟩ := cr_str Tryz.underlying9 (show DataW.trod enc Tryz.prog w base spare held n 9 [a2] = some y2 from h2) (by omega)
      obtain ⟨v, e3, o3, g3⟩ := cr_slice (encA := encV) (ok := okV) Tryz.underlying25 c28 (by decide) encV_len (show DataW.trod enc Tryz.prog w base spare held n 25 [a3] = some y3 from h3) (by omega)
        (fun m cs' y _ hy hyb => read_val m cs' y hy hyb)
      obtain ⟨l, e4, o4, g4⟩ := cr_slice (encA := encE) (ok := fun a => okE a ∧ okN a) Tryz.underlying44 c46 (by decide) encE_len (show DataW.trod enc Tryz.prog w base spare held n 44 [a4] = some y4 from h4) (by omega)
        (fun m cs' y hm hy hyb => ih m (by omega) cs' y hy hyb)
      refine ⟨.mk o i t v l, ⟨by simp only [okE]; exact ⟨by omega, by omega, okVs_of o3, okEs_of fun a ha => (o4 a ha).1⟩, by simp only [okN]; exact ⟨by omega, okNs_of fun a ha => (o4 a ha).2⟩⟩, ?_⟩
      have := g0.append (g1.append (g2.append (g3.append g4)))
      simpa only [encE_eq, Exp.op, Exp.int, Exp.text, Exp.value, Exp.args, Dat.cells, List.singleton_append, List.cons_append, List.nil_append] using this

end
end Go.Proofs
