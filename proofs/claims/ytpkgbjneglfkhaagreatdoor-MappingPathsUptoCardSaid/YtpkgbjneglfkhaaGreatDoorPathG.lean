/- The law's sorted. -/
import Derived.Test.YtpkgbjneglfkhaaGreatDoorPathF
import Derived.Test.YtpkgbjneglfkhaaGreatDoorWalkB
set_option linter.unusedVariables false
set_option linter.unusedSimpArgs false
set_option linter.unusedSectionVars false
set_option linter.unusedSimpArgs false
set_option linter.unusedVariables false
set_option maxRecDepth 10000
namespace Go.Proofs
open Go Av

/-- where an element is to be put -/
def posS : List Str → Str → Nat
  | [], _ => 0
  | y :: r, x => if strLt y x then posS r x + 1 else 0
theorem posS_le : ∀ (l : List Str) (x : Str), posS l x ≤ l.length
  | [], x => Nat.le_refl _
  | y :: r, x => by
    simp only [posS]
    have := posS_le r x
    split
    · simp; omega
    · simp
theorem posS_eq : ∀ (l : List Str) (x : Str) (j : Nat) (hj : j ≤ l.length), (∀ i (h : i < l.length), i < j → strLt l[i] x = true) → (∀ h : j < l.length, strLt l[j] x = false) → posS l x = j
  | [], x, j, hj, _, _ => by simp at hj; subst hj; rfl
  | y :: r, x, 0, hj, h1, h2 => by
    have := h2 (by simp)
    simp only [List.getElem_cons_zero] at this
    simp [posS, this]
  | y :: r, x, j + 1, hj, h1, h2 => by
    have h0 := h1 0 (by simp) (by omega)
    simp only [List.getElem_cons_zero] at h0
    have := posS_eq r x j (by simpa using hj) (fun i h hi => h1 (i + 1) (by simpa using h) (by omega)) (fun h => h2 (by simpa using h))
    simp [posS, h0, this]
def insOne (l : List Str) (x : Str) : List Str := if l[posS l x]? = some x then l else l.take (posS l x) ++ x :: l.drop (posS l x)
def insS (xs : List Str) : List Str := xs.foldl insOne []
theorem insOne_len (l : List Str) (x : Str) : (insOne l x).length ≤ l.length + 1 := by
  have := posS_le l x
  unfold insOne
  split
  · omega
  · simp; omega
theorem foldl_len : ∀ (xs l : List Str), (xs.foldl insOne l).length ≤ l.length + xs.length
  | [], l => by simp
  | x :: r, l => by
    have h1 := foldl_len r (insOne l x)
    have h2 := insOne_len l x
    simp only [List.foldl_cons, List.length_cons]
    omega

theorem walk37 (xs : List Str) (hl : xs.length ≤ 4096) : PCon Tryz.prog 37 [.list 1 (xs.map .str)] (.d (.list 1 ((insS xs).map .str))) := by
  refine ok37.pcon (Nat.le_of_ble_eq_true rfl) trivial ?_
  simp only [go_sem, ir37, List.length_map, Nat.reduceAdd, Nat.reduceEqDiff, Nat.reduceBEq, Nat.reduceLeDiff, reduceCtorEq, ↓reduceIte]
  generalize hR : insS xs = R
  refine wpc_loop (fun r s => ∃ (k : Nat) (out : List Str), k ≤ xs.length ∧ r = xs.length - k ∧ out.length ≤ k ∧ (xs.drop k).foldl insOne out = R ∧
    s = ⟨[(0, .d (.list 1 (xs.map .str))), (3, .ms 60 out.length), (4, .d (.int .i64 k))], [(60, .row out.length 1 (out.map .str))]⟩) ?_ ?_
  · refine ⟨_, _, (Wk.nilT 3 60 1 rfl rfl (by decide)).trans (Wk.less ?_), 0, [], Nat.zero_le _, rfl, by simp, hR, rfl⟩
    simp [put, go_sem]
  · rintro r s ⟨k, out, hk, rfl, hol, hinv, rfl⟩
    by_cases hlt : k < xs.length
    · have hx := nth_str hlt
      have hd : decide ((k : Int) < (xs.length : Int)) = true := by simp; omega
      rw [List.drop_eq_getElem_cons hlt, List.foldl_cons] at hinv
      simp only [go_sem, hx, hd, Int.toNat_natCast, List.length_map, Nat.reduceAdd, Nat.reduceEqDiff, Nat.reduceBEq, Nat.reduceLeDiff, reduceCtorEq, ↓reduceIte]
      refine wpc_loop (fun r s => ∃ (j : Nat), j ≤ out.length ∧ r = out.length - j ∧ (∀ i (h : i < out.length), i < j → strLt out[i] xs[k] = true) ∧
        s = ⟨[(0, .d (.list 1 (xs.map .str))), (3, .ms 60 out.length), (4, .d (.int .i64 k)), (5, .d (.int .i64 j))], [(60, .row out.length 1 (out.map .str))]⟩) ?_ ?_
      · refine ⟨_, _, Wk.less ?_, 0, Nat.zero_le _, rfl, by simp, rfl⟩
        simp [go_sem]
      · rintro r s ⟨j, hj, rfl, hlow, rfl⟩
        by_cases hjl : j < out.length
        · have hy := nth_str hjl
          have hd2 : decide ((j : Int) < (out.length : Int)) = true := by simp; omega
          have hne : ((j : Int) == (out.length : Int)) = false := by simp; omega
          simp only [go_sem, hx, hy, hd2, Int.toNat_natCast, List.length_map, Nat.reduceAdd, Nat.reduceEqDiff, Nat.reduceBEq, Nat.reduceLeDiff, reduceCtorEq, ↓reduceIte]
          refine ⟨⟨by omega, by omega⟩, by decide, ⟨by omega, by omega⟩, by decide, fun hs => ?_, fun hs => ?_⟩
          · refine ⟨out.length - (j + 1), _, by omega, Wk.less ?_, j + 1, by omega, rfl, ?_, rfl⟩
            · simp only [go_sem, wrap64s j (by omega), Nat.reduceAdd, Nat.reduceEqDiff, Nat.reduceBEq, Nat.reduceLeDiff, reduceCtorEq, ↓reduceIte]
            · intro i h hi
              by_cases e : i = j
              · subst e; exact hs
              · exact hlow i h (by omega)
          have hpos : posS out xs[k] = j := posS_eq out xs[k] j hj hlow (fun _ => hs)
          have ht : ((out.length : Int) - (j : Int)).toNat = out.length - j := by omega
          simp only [go_sem, hne, hx, hy, ht, Int.sub_zero, Int.toNat_zero, Int.toNat_natCast, List.length_map, Nat.reduceAdd, Nat.reduceEqDiff, Nat.reduceBEq, Nat.reduceLeDiff, reduceCtorEq, ↓reduceIte]
          refine ⟨⟨by omega, by omega⟩, by decide, ⟨by omega, by omega⟩, by decide, fun hq => ?_, fun hq => ?_⟩
          · have hq : out[j] ≠ xs[k] := by simpa using hq
            have hins : insOne out xs[k] = out.take j ++ xs[k] :: out.drop j := by
              unfold insOne
              rw [hpos, if_neg (by simp [hjl, hq])]
            rw [hins] at hinv
            have hyl : (out.take j ++ xs[k] :: out.drop j).length = out.length + 1 := by simp; omega
            have hym : (out.take j ++ xs[k] :: out.drop j).map Dat.str = (out.map .str).take j ++ .str xs[k] :: ((out.map .str).drop j).take (out.length - j) := by
              have h2 : ((out.map Dat.str).drop j).take (out.length - j) = (out.map .str).drop j := List.take_of_length_le (by simp)
              rw [h2]
              simp [List.map_take, List.map_drop]
            refine ⟨⟨by omega, by omega, by omega⟩, ⟨by omega, by omega⟩, by decide, by simp, ⟨by omega, by omega, by omega⟩, by simp; omega, ⟨by simp; omega, by omega⟩, by rfl, xs.length - (k + 1), _, by omega, Wk.less ?_, k + 1, out.take j ++ xs[k] :: out.drop j, by omega, rfl,
              by omega, hinv, rfl⟩
            have hlen : j + ((((out.map Dat.str).drop j).take (out.length - j)).length + 1) = out.length + 1 := by simp; omega
            simp only [go_sem, hyl, hym, wrap64s k (by omega), Nat.reduceAdd, Nat.reduceEqDiff, Nat.reduceBEq, Nat.reduceLeDiff, reduceCtorEq, ↓reduceIte]
          · have hq : out[j] = xs[k] := by simpa using hq
            have hins : insOne out xs[k] = out := by
              unfold insOne
              rw [hpos, if_pos (by simp [hjl, hq])]
            rw [hins] at hinv
            refine ⟨xs.length - (k + 1), _, by omega, Wk.less ?_, k + 1, out, by omega, rfl, by omega, hinv, rfl⟩
            simp only [go_sem, wrap64s k (by omega), Nat.reduceAdd, Nat.reduceEqDiff, Nat.reduceBEq, Nat.reduceLeDiff, reduceCtorEq, ↓reduceIte]
        · have hd2 : decide ((j : Int) < (out.length : Int)) = false := by simp; omega
          obtain rfl : j = out.length := by omega
          have hpos : posS out xs[k] = out.length := posS_eq out xs[k] out.length hj hlow (fun h => by omega)
          simp only [go_sem, hx, hd2, Int.sub_self, Int.sub_zero, Int.toNat_zero, Int.toNat_natCast, List.take_zero, List.length_nil, List.length_map, Nat.reduceAdd, Nat.reduceEqDiff, Nat.reduceBEq, Nat.reduceLeDiff, reduceCtorEq, ↓reduceIte]
          have hins : insOne out xs[k] = out ++ [xs[k]] := by
            unfold insOne
            rw [hpos, if_neg (by simp)]
            simp
          rw [hins] at hinv
          have hyl : (out ++ [xs[k]]).length = out.length + 1 := by simp
          have hym : (out ++ [xs[k]]).map Dat.str = (out.map .str).take out.length ++ [.str xs[k]] := by
            rw [List.take_of_length_le (by simp)]
            simp
          refine ⟨⟨by omega, by omega, by omega⟩, ⟨by omega, by omega⟩, by decide, by simp, ⟨by omega, by omega⟩, ⟨by omega, by omega⟩, by rfl, xs.length - (k + 1), _, by omega, Wk.less ?_, k + 1, out ++ [xs[k]], by omega, rfl,
              by omega, hinv, rfl⟩
          simp only [go_sem, hyl, hym, wrap64s k (by omega), Nat.reduceAdd, Nat.reduceEqDiff, Nat.reduceBEq, Nat.reduceLeDiff, reduceCtorEq, ↓reduceIte]
    · have hd : decide ((k : Int) < (xs.length : Int)) = false := by simp; omega
      obtain rfl : k = xs.length := by omega
      rw [List.drop_length, List.foldl_nil] at hinv
      subst hinv
      simp only [go_sem, hd, canonL_strs, List.length_map, Nat.reduceAdd, Nat.reduceEqDiff, Nat.reduceBEq, Nat.reduceLeDiff, reduceCtorEq, ↓reduceIte]
end Go.Proofs
/- Sorted lists of strings: the plain law of MappingPaths. -/
set_option linter.unusedSimpArgs false
set_option linter.unusedVariables false
namespace Go.Proofs
open Go Av

theorem strLt_iff : ∀ (x y : Str), strLt x y = decide (x < y)
  | x, [] => by
    have : ¬ x < ([] : Str) := List.not_lt_nil x
    simp [strLt, Op.bytesLess, this]
  | [], b :: y => by
    have : ([] : Str) < b :: y := List.nil_lt_cons b y
    simp [strLt, Op.bytesLess, this]
  | a :: x, b :: y => by
    have ih := strLt_iff x y
    simp only [strLt] at ih
    simp only [strLt, Op.bytesLess, ih, List.cons_lt_cons_iff]
    by_cases h1 : a < b <;> by_cases h2 : a = b <;> simp [h1, h2]
theorem lt_irr (x : Str) : strLt x x = false := by
  rw [strLt_iff]
  simp [List.lt_irrefl]
theorem lt_tr {x y z : Str} (h1 : strLt x y = true) (h2 : strLt y z = true) : strLt x z = true := by
  rw [strLt_iff, decide_eq_true_eq] at *
  exact List.lt_trans h1 h2
theorem lt_tri : ∀ {x y : Str}, strLt x y = false → strLt y x = false → x = y
  | [], [], _, _ => rfl
  | [], b :: y, h, _ => by simp [strLt, Op.bytesLess] at h
  | a :: x, [], _, h => by simp [strLt, Op.bytesLess] at h
  | a :: x, b :: y, h1, h2 => by
    simp only [strLt, Op.bytesLess, Bool.or_eq_false_iff, decide_eq_false_iff_not, Bool.and_eq_false_iff, beq_eq_false_iff_ne] at h1 h2
    obtain ⟨p1, p2⟩ := h1
    obtain ⟨q1, q2⟩ := h2
    have e : a = b := by
      rw [UInt8.lt_iff_toNat_lt] at p1 q1
      exact UInt8.toNat_inj.1 (by omega)
    subst e
    have r1 := p2.resolve_left (fun h => h rfl)
    have r2 := q2.resolve_left (fun h => h rfl)
    rw [lt_tri (x := x) (y := y) r1 r2]

def SS (l : List Str) : Prop := l.Pairwise fun a b => strLt a b = true
theorem SS_ext : ∀ (l1 l2 : List Str), SS l1 → SS l2 → (∀ x, x ∈ l1 ↔ x ∈ l2) → l1 = l2
  | [], [], _, _, _ => rfl
  | [], b :: s, _, _, h => by have := (h b).2 List.mem_cons_self; cases this
  | a :: r, [], _, _, h => by have := (h a).1 List.mem_cons_self; cases this
  | a :: r, b :: s, h1, h2, h => by
    obtain ⟨a1, a2⟩ := List.pairwise_cons.1 h1
    obtain ⟨b1, b2⟩ := List.pairwise_cons.1 h2
    have e : a = b := by
      rcases List.mem_cons.1 ((h a).1 List.mem_cons_self) with e | e
      · exact e
      · rcases List.mem_cons.1 ((h b).2 List.mem_cons_self) with e' | e'
        · exact e'.symm
        · have := lt_tr (b1 a e) (a1 b e')
          rw [lt_irr] at this
          cases this
    subst e
    rw [SS_ext r s a2 b2 fun x => ⟨fun hx => ?_, fun hx => ?_⟩]
    · rcases List.mem_cons.1 ((h x).1 (List.mem_cons_of_mem _ hx)) with e | e
      · subst e; have := a1 x hx; rw [lt_irr] at this; cases this
      · exact e
    · rcases List.mem_cons.1 ((h x).2 (List.mem_cons_of_mem _ hx)) with e | e
      · subst e; have := b1 x hx; rw [lt_irr] at this; cases this
      · exact e

def ins : List Str → Str → List Str
  | [], x => [x]
  | y :: r, x => if strLt y x then y :: ins r x else if y = x then y :: r else x :: y :: r
theorem insOne_eq : ∀ (l : List Str) (x : Str), insOne l x = ins l x
  | [], x => by simp [insOne, ins, posS]
  | y :: r, x => by
    have ih := insOne_eq r x
    simp only [ins]
    by_cases h : strLt y x = true
    · rw [if_pos h, ← ih]
      unfold insOne
      simp only [posS, h, if_true, List.getElem?_cons_succ, List.take_succ_cons, List.drop_succ_cons]
      split <;> rfl
    · rw [if_neg h]
      unfold insOne
      simp only [posS, if_neg h, List.getElem?_cons_zero, Option.some.injEq, List.take_zero, List.drop_zero, List.nil_append]
theorem mem_ins : ∀ (l : List Str) (x z : Str), z ∈ ins l x ↔ z = x ∨ z ∈ l
  | [], x, z => by simp [ins]
  | y :: r, x, z => by
    simp only [ins]
    split
    · rw [List.mem_cons, mem_ins r x z, List.mem_cons]
      constructor
      · rintro (h | h | h)
        · exact .inr (.inl h)
        · exact .inl h
        · exact .inr (.inr h)
      · rintro (h | h | h)
        · exact .inr (.inl h)
        · exact .inl h
        · exact .inr (.inr h)
    · split
      · rename_i e
        subst e
        constructor
        · exact .inr
        · rintro (h | h)
          · rw [h]; exact List.mem_cons_self
          · exact h
      · exact List.mem_cons
theorem SS_ins : ∀ (l : List Str) (x : Str), SS l → SS (ins l x)
  | [], x, _ => List.pairwise_singleton _ _
  | y :: r, x, h => by
    obtain ⟨h1, h2⟩ := List.pairwise_cons.1 h
    simp only [ins]
    split
    · rename_i hy
      refine List.pairwise_cons.2 ⟨fun z hz => ?_, SS_ins r x h2⟩
      rcases (mem_ins r x z).1 hz with e | e
      · rw [e]; exact hy
      · exact h1 z e
    · rename_i hy
      split
      · exact h
      · rename_i hne
        have hxy : strLt x y = true := by
          cases hb : strLt x y with
          | true => rfl
          | false => exact absurd (lt_tri (by simpa using hy) hb) hne
        refine List.pairwise_cons.2 ⟨fun z hz => ?_, h⟩
        rcases List.mem_cons.1 hz with e | e
        · rw [e]; exact hxy
        · exact lt_tr hxy (h1 z e)
theorem foldl_spec : ∀ (xs l : List Str), SS l → SS (xs.foldl insOne l) ∧ ∀ z, z ∈ xs.foldl insOne l ↔ z ∈ l ∨ z ∈ xs
  | [], l, h => ⟨h, fun z => by simp⟩
  | x :: r, l, h => by
    rw [List.foldl_cons, insOne_eq]
    obtain ⟨h1, h2⟩ := foldl_spec r (ins l x) (SS_ins l x h)
    refine ⟨h1, fun z => ?_⟩
    rw [h2, mem_ins, List.mem_cons]
    constructor
    · rintro ((h | h) | h)
      · exact .inr (.inl h)
      · exact .inl h
      · exact .inr (.inr h)
    · rintro (h | h | h)
      · exact .inl (.inr h)
      · exact .inl (.inl h)
      · exact .inr h
theorem insS_spec (xs : List Str) : SS (insS xs) ∧ ∀ z, z ∈ insS xs ↔ z ∈ xs := by
  obtain ⟨h1, h2⟩ := foldl_spec xs [] List.Pairwise.nil
  exact ⟨h1, fun z => by rw [insS, h2]; simp⟩

theorem sortS_le (l : List Str) : (sortS l).Pairwise fun a b => strLt b a = false := by
  have := List.pairwise_mergeSort (le := fun x y : Str => decide (x ≤ y)) (fun a b c h1 h2 => ?_) (fun a b => ?_) l
  · refine this.imp ?_
    intro a b h
    rw [strLt_iff]
    simpa using h
  · simp only [decide_eq_true_eq] at *
    exact List.le_trans h1 h2
  · have := List.le_total a b
    simpa using this

theorem uniqF_spec : ∀ (l : List Str) (p : Option Str), (l.Pairwise fun a b => strLt b a = false) → (∀ q, p = some q → ∀ x ∈ l, strLt x q = false) →
    SS (uniqF p l) ∧ (∀ q, p = some q → ∀ x ∈ uniqF p l, strLt q x = true) ∧ ∀ z, (z ∈ uniqF p l ∨ p = some z) ↔ (z ∈ l ∨ p = some z)
  | [], p, _, _ => ⟨List.Pairwise.nil, by simp [uniqF], fun z => by simp [uniqF]⟩
  | x :: r, p, h, hp => by
    obtain ⟨h1, h2⟩ := List.pairwise_cons.1 h
    obtain ⟨i1, i2, i3⟩ := uniqF_spec r (some x) h2 (fun q e y hy => by cases e; exact h1 y hy)
    simp only [uniqF]
    split
    · rename_i e
      subst e
      refine ⟨i1, fun q e y hy => i2 q e y hy, fun z => ?_⟩
      rw [i3]
      simp only [Option.some.injEq, List.mem_cons]
      constructor
      · rintro (h | h)
        · exact .inl (.inr h)
        · exact .inr h
      · rintro ((h | h) | h)
        · exact .inr h.symm
        · exact .inl h
        · exact .inr h
    · rename_i hne
      refine ⟨List.pairwise_cons.2 ⟨fun y hy => i2 x rfl y hy, i1⟩, ?_, fun z => ?_⟩
      · rintro q rfl y hy
        have hqx : strLt q x = true := by
          cases hb : strLt q x with
          | true => rfl
          | false => exact absurd (congrArg some (lt_tri hb (hp q rfl x List.mem_cons_self))) hne
        rcases List.mem_cons.1 hy with e | e
        · rw [e]; exact hqx
        · exact lt_tr hqx (i2 x rfl y e)
      · have := i3 z
        simp only [Option.some.injEq] at this
        simp only [List.mem_cons]
        constructor
        · rintro ((h | h) | h)
          · exact .inl (.inl h)
          · rcases this.1 (.inl h) with h | h
            · exact .inl (.inr h)
            · exact .inl (.inl h.symm)
          · exact .inr h
        · rintro ((h | h) | h)
          · exact .inl (.inl h)
          · rcases this.2 (.inl h) with h | h
            · exact .inl (.inr h)
            · exact .inl (.inl h.symm)
          · exact .inr h
theorem uniq_sort (l : List Str) : uniq (sortS l) = insS l := by
  obtain ⟨h1, _, h3⟩ := uniqF_spec (sortS l) none (sortS_le l) (fun q e => by cases e)
  obtain ⟨g1, g2⟩ := insS_spec l
  refine SS_ext _ _ h1 g1 fun x => ?_
  have := h3 x
  simp only [reduceCtorEq, or_false] at this
  rw [uniq, this, g2]
  exact (sortS_perm l).mem_iff
theorem insS_sort (l : List Str) : insS (sortS l) = insS l := by
  obtain ⟨h1, h2⟩ := insS_spec (sortS l)
  obtain ⟨g1, g2⟩ := insS_spec l
  refine SS_ext _ _ h1 g1 fun x => ?_
  rw [h2, g2]
  exact (sortS_perm l).mem_iff
theorem sortS_step (l : List Str) (k : Nat) (h : k + 1 < (sortS l).length) : strLt (sortS l)[k + 1] (sortS l)[k] = false := by
  have := List.pairwise_iff_getElem.1 (sortS_le l) k (k + 1) (by omega) h (by omega)
  exact this
end Go.Proofs
/- The law MappingPaths. -/
set_option linter.unusedSimpArgs false
set_option linter.unusedVariables false
set_option maxRecDepth 10000
namespace Go.Proofs
open Go Av

/-- a growing row handed as data for good -/
theorem PCon.callF {P : Program} {f i v sz : Nat} {xs : List Dat} {r : Dat} (h : PCon P f [.list sz xs] (.d r)) : CallOK P f [.ms i v] [(i, some (.row v sz xs))] (.d r) [(i, .frz v sz xs)] := by
  intro β A w H vs hT hc hvs
  have hi : H i = some (.row v sz xs) := hT _ (List.mem_singleton.2 rfl)
  have hd : datumAll H [.ms i v] = some (v = v ∧ True, [.list sz xs], [(i, .frz v sz xs)]) := by simp [datumAll, datum, datum1, hi]
  obtain ⟨A1, s1, l1, r1, m1⟩ := datumAll_ok hc hd ⟨rfl, trivial⟩ (us := vs.toList) (by simpa using hvs.1) (fun k c u h1 h2 => hvs.2 k c u h1 (by simpa using h2))
  have := h.call trivial β A1 w _ vs (by simp) s1.core ⟨by simpa using l1, fun k c u h1 h2 => by
    rw [List.getElem?_map] at h1
    cases hq : [Dat.list sz xs][k]? with
    | none => rw [hq] at h1; cases h1
    | some x =>
      rw [hq] at h1
      cases h1
      exact .d _ _ (r1 k x u hq (by simpa using h2))⟩
  rcases this with ⟨a1, a2⟩ | ⟨u, w', a1, β', A', a2, a3⟩
  · refine .inl ⟨a1, a2.mono ?_⟩
    rintro e w' ⟨u, rfl, β', A', b1, b2⟩
    exact ⟨u, rfl, β', A', s1.trans b1, b2⟩
  · exact .inr ⟨u, w', a1, β', A', s1.trans a2, a3⟩

theorem walk8 (m : List Rule) (hm : okM m) (h22 : PCon Tryz.prog 22 [] (.d (.bool true))) : PCon Tryz.prog 8 [encM m] (.d (.bool true)) := by
  have c22 := h22.call trivial
  have c23m := (walk23 m hm).call trivial
  refine ok8.pcon (Nat.le_of_ble_eq_true rfl) trivial ?_
  simp only [encM] at c23m
  simp only [go_sem, ir8, encM, List.length_map, Nat.reduceAdd, Nat.reduceEqDiff, Nat.reduceBEq, Nat.reduceLeDiff, reduceCtorEq, ↓reduceIte]
  refine wps_call rfl c22 trivial ?_
  simp only [go_sem, Nat.reduceAdd, Nat.reduceEqDiff, Nat.reduceBEq, Nat.reduceLeDiff, reduceCtorEq, ↓reduceIte]
  refine scQ_pure (!smallM m) (fun _ => ?_) ?_
  · simp only [go_sem, Bool.not_true, Nat.reduceAdd, Nat.reduceEqDiff, Nat.reduceBEq, Nat.reduceLeDiff, reduceCtorEq, ↓reduceIte]
    refine wps_call rfl c23m trivial ?_
    simp only [go_sem, Bool.not_true, Nat.reduceAdd, Nat.reduceEqDiff, Nat.reduceBEq, Nat.reduceLeDiff, reduceCtorEq, ↓reduceIte]
  simp only [go_sem, Bool.not_true, Bool.false_or, Nat.reduceAdd, Nat.reduceEqDiff, Nat.reduceBEq, Nat.reduceLeDiff, reduceCtorEq, ↓reduceIte]
  refine ⟨fun hs => ?_, fun hs => ?_⟩
  · refine wps_call rfl c22 trivial ?_
    simp only [go_sem, Nat.reduceAdd, Nat.reduceEqDiff, Nat.reduceBEq, Nat.reduceLeDiff, reduceCtorEq, ↓reduceIte]
  have h12 : m.length ≤ 12 := by
    simp only [Bool.not_eq_false', smallM, Bool.and_eq_true] at hs
    have := hs.1
    simp at this
    omega
  have c35 := (walk35 m h12).call trivial
  have c38 := (walk38 m h12).call trivial
  simp only [encM] at c35 c38
  refine wpc_loop (fun r s => ∃ (k : Nat), k ≤ m.length ∧ r = m.length - k ∧
    s = ⟨[(1, .ref 1 0), (3, .ms 90 k), (4, .ms 91 k), (5, .d (.int .i64 k))], [(1, .box [.d (.list 6 (m.map encR))]), (90, .row k 1 ((pathsM (m.take k)).map .str)), (91, .row k 1 (((m.take k).map Rule.target).map .str))]⟩) ?_ ?_
  · refine ⟨_, _, (Wk.nilT 3 90 1 rfl rfl (by decide)).trans ((Wk.nilT 4 91 1 rfl rfl (by decide)).trans (Wk.less ?_)), 0, Nat.zero_le _, rfl, rfl⟩
    simp [put, go_sem, pathsM]
  · rintro r s ⟨k, hk, rfl, rfl⟩
    by_cases hlt : k < m.length
    · have hx := nth_encR hlt
      have hd : decide ((k : Int) < (m.length : Int)) = true := by simp; omega
      have hc := (walk34 m[k].expr).call trivial
      have hl1 := pathsM_len (m.take k)
      have hl2 := pathsE_len m[k].expr
      have hp : pathsM (m.take (k + 1)) = pathsM (m.take k) ++ pathsE m[k].expr := by
        rw [List.take_succ_eq_append_getElem hlt, pathsM, List.flatMap_append]
        simp [pathsM]
      have hl3 : (m.take k).length ≤ 12 := by simp; omega
      rw [encE_eq] at hc
      simp only [go_sem, hx, hd, Int.toNat_natCast, List.length_map, Nat.reduceAdd, Nat.reduceEqDiff, Nat.reduceBEq, Nat.reduceLeDiff, reduceCtorEq, ↓reduceIte]
      refine ⟨⟨by omega, by omega⟩, wps_call rfl hc trivial ?_⟩
      simp only [go_sem, hx, Int.toNat_natCast, List.length_map, Nat.reduceAdd, Nat.reduceEqDiff, Nat.reduceBEq, Nat.reduceLeDiff, reduceCtorEq, ↓reduceIte]
      refine ⟨by omega, ⟨by omega, by omega⟩, by decide, by simp, by simp; omega, m.length - (k + 1), _, by omega, Wk.less ?_, k + 1, by omega, rfl, rfl⟩
      rw [List.take_succ_eq_append_getElem hlt] at hp
      simp only [go_sem, wrap64s k (by omega), List.take_succ_eq_append_getElem hlt, hp, List.map_append, List.map_cons, List.map_nil, Nat.reduceAdd, Nat.reduceEqDiff, Nat.reduceBEq, Nat.reduceLeDiff, reduceCtorEq, ↓reduceIte]
    · have hd : decide ((k : Int) < (m.length : Int)) = false := by simp; omega
      obtain rfl : k = m.length := by omega
      simp only [go_sem, hd, List.take_length, List.length_map, Nat.reduceAdd, Nat.reduceEqDiff, Nat.reduceBEq, Nat.reduceLeDiff, reduceCtorEq, ↓reduceIte]
      refine wps_call rfl c35 trivial ?_
      have hne : (((sortS (m.map Rule.target)).length : Int) != (m.length : Int)) = false := by simp [sort_len]
      simp only [go_sem, hne, List.length_map, Nat.reduceAdd, Nat.reduceEqDiff, Nat.reduceBEq, Nat.reduceLeDiff, reduceCtorEq, ↓reduceIte]
      have hsl := sort_len (m.map Rule.target)
      have hpl := pathsM_len m
      have h36a := (walk36 (insS (sortS (m.map Rule.target))) (insS (m.map Rule.target)) (by have := foldl_len (sortS (m.map Rule.target)) []; rw [hsl] at this; simp at this; unfold insS; omega)).call trivial
      have h36b := (walk36 (uniq (sortS (pathsM m))) (insS (pathsM m)) (by rw [uniq_sort]; have := foldl_len (pathsM m) []; simp at this; unfold insS; omega)).call trivial
      have q1 : (insS (sortS (m.map Rule.target)) == insS (m.map Rule.target)) = true := by rw [insS_sort]; simp
      have q2 : (uniq (sortS (pathsM m)) == insS (pathsM m)) = true := by rw [uniq_sort]; simp
      rw [q1] at h36a
      rw [q2] at h36b
      have step : ∀ ss : List Str, ss = sortS (m.map Rule.target) → ∀ (j : Nat) (h : j + 1 < ss.length), strLt ss[j + 1] (ss[j]'(by omega)) = false := by
        rintro ss rfl j h
        exact sortS_step _ j h
      refine wps_call rfl ((walk37 (sortS (m.map Rule.target)) (by rw [hsl]; simp; omega)).call trivial) trivial ?_
      simp only [go_sem, List.length_map, Nat.reduceAdd, Nat.reduceEqDiff, Nat.reduceBEq, Nat.reduceLeDiff, reduceCtorEq, ↓reduceIte]
      refine wps_call rfl (PCon.callF (walk37 (m.map Rule.target) (by simp; omega))) ⟨rfl, trivial⟩ ?_
      simp only [go_sem, List.length_map, Nat.reduceAdd, Nat.reduceEqDiff, Nat.reduceBEq, Nat.reduceLeDiff, reduceCtorEq, ↓reduceIte]
      refine wps_call rfl h36a trivial ?_
      simp only [go_sem, Bool.not_true, List.length_map, Nat.reduceAdd, Nat.reduceEqDiff, Nat.reduceBEq, Nat.reduceLeDiff, reduceCtorEq, ↓reduceIte]
      refine wps_call rfl c38 trivial ?_
      simp only [go_sem, List.length_map, Nat.reduceAdd, Nat.reduceEqDiff, Nat.reduceBEq, Nat.reduceLeDiff, reduceCtorEq, ↓reduceIte]
      refine wps_call rfl (PCon.callF (walk37 (pathsM m) (by omega))) ⟨rfl, trivial⟩ ?_
      simp only [go_sem, List.length_map, Nat.reduceAdd, Nat.reduceEqDiff, Nat.reduceBEq, Nat.reduceLeDiff, reduceCtorEq, ↓reduceIte]
      refine wps_call rfl h36b trivial ?_
      simp only [go_sem, Bool.not_true, List.length_map, Nat.reduceAdd, Nat.reduceEqDiff, Nat.reduceBEq, Nat.reduceLeDiff, reduceCtorEq, ↓reduceIte]
      generalize hss : sortS (m.map Rule.target) = ss at hsl ⊢
      have step := step ss hss.symm
      have hs12 : ss.length ≤ 12 := by rw [hsl]; simpa using h12
      refine wpc_loop (fun r s => ∃ (j : Nat), j ≤ ss.length ∧ r = ss.length - j ∧ s = ⟨[(6, .d (.list 1 (ss.map .str))), (7, .d (.int .i64 ((j + 1 : Nat) : Int)))], []⟩) ?_ ?_
      · refine ⟨_, _, Wk.less ?_, 0, Nat.zero_le _, rfl, rfl⟩
        simp [go_sem]
      · rintro r s ⟨j, hj, rfl, rfl⟩
        by_cases hjl : j + 1 < ss.length
        · have hx := nth_str hjl
          have hy := nth_str (xs := ss) (k := j) (by omega)
          have hd : decide (((j + 1 : Nat) : Int) < (ss.length : Int)) = true := by simp; omega
          have hw : IntKind.i64.wrap (((j + 1 : Nat) : Int) - 1) = j := by rw [wrap64 (by omega) (by omega)]; omega
          simp only [go_sem, hx, hy, hd, hw, step j hjl, Int.toNat_natCast, List.length_map, Nat.reduceAdd, Nat.reduceEqDiff, Nat.reduceBEq, Nat.reduceLeDiff, reduceCtorEq, ↓reduceIte]
          refine ⟨⟨by omega, by omega⟩, by decide, ⟨by omega, by omega⟩, by decide, ss.length - (j + 1), _, by omega, Wk.less ?_, j + 1, by omega, rfl, rfl⟩
          simp only [go_sem, wrap64s (j + 1) (by omega), Nat.reduceAdd, Nat.reduceEqDiff, Nat.reduceBEq, Nat.reduceLeDiff, reduceCtorEq, ↓reduceIte]
        · have hd : decide (((j + 1 : Nat) : Int) < (ss.length : Int)) = false := by simp; omega
          simp only [go_sem, hd, List.length_map, Nat.reduceAdd, Nat.reduceEqDiff, Nat.reduceBEq, Nat.reduceLeDiff, reduceCtorEq, ↓reduceIte]
end Go.Proofs
