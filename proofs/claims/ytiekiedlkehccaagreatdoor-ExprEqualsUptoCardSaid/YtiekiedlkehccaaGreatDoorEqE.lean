/- Part E of a proof. -/
import Derived.Test.YtiekiedlkehccaaGreatDoorEqD
import Derived.Shelf.SlGeneric
import Derived.Shelf.LaysM
import Derived.Shelf.Strconv.Itoa3
import Derived.Shelf.LaysC
import Derived.Shelf.Strconv.AtoiAll
import Derived.Ground.Names2Prog
import Derived.Ground.SlgnProg
import Derived.Test.YtiekiedlkehccaaGreatDoorProg
import Derived.Below
import Derived.Lib.ItoaLen
import Derived.Sort.Grow
import Derived.Sort.EncStr
import Derived.Lib.SlicesCompact
import Derived.Test.YtiekiedlkehccaaGreatDoorEqA
import Derived.Shelf.Unicode.ValidAny
set_option linter.unusedVariables false
set_option linter.unusedSimpArgs false
set_option linter.unusedSectionVars false
set_option maxRecDepth 10000
namespace Go.Proofs
open Go Av

theorem walk232 (s p : Str) (hp : p.length ≤ 68719476736) : PCon Tryz.prog 232 [.str s, .str p] (.d (.bool (decide ((s.length : Int) ≥ p.length) && (s.take p.length == p)))) := by
  refine ok232.pcon (Nat.le_of_ble_eq_true rfl) trivial ?_
  simp only [go_sem, ir232, Nat.reduceAdd, Nat.reduceEqDiff, Nat.reduceBEq, Nat.reduceLeDiff, reduceCtorEq, ↓reduceIte]
  refine scQ_pure (s.take p.length == p) (fun h => ?_) ?_
  · simp only [decide_eq_true_eq] at h
    simp only [go_sem, Int.toNat_natCast, Int.toNat_zero, List.drop_zero, Nat.sub_zero, Nat.reduceAdd, Nat.reduceEqDiff, Nat.reduceBEq, Nat.reduceLeDiff, reduceCtorEq, ↓reduceIte]
    have e : ((p.length : Int) - 0).toNat = p.length := by omega
    rw [e]
    exact ⟨by omega, rfl⟩
  · simp only [go_sem, Nat.reduceAdd, Nat.reduceEqDiff, Nat.reduceBEq, Nat.reduceLeDiff, reduceCtorEq, ↓reduceIte]

def preS (s p : Str) : Bool := decide ((s.length : Int) ≥ p.length) && (s.take p.length == p)
theorem walk148 (s p : Str) (hp : p.length ≤ 68719476736) : PCon Tryz.prog 148 [.str s, .str p] (.d (.bool (preS s p))) := by
  refine ok148.pcon (Nat.le_of_ble_eq_true rfl) trivial ?_
  simp only [go_sem, ir148, Nat.reduceAdd, Nat.reduceEqDiff, Nat.reduceBEq, Nat.reduceLeDiff, reduceCtorEq, ↓reduceIte]
  refine wps_call rfl ((walk232 s p hp).call trivial) trivial ?_
  simp only [go_sem, preS, Nat.reduceAdd, Nat.reduceEqDiff, Nat.reduceBEq, Nat.reduceLeDiff, reduceCtorEq, ↓reduceIte]

theorem k1' : ((1 : Nat) : Int) = 1 := rfl
theorem l10 : ((1 : Int) == 0) = false := rfl
theorem l11 : ((1 : Int) == 1) = true := rfl
theorem t0' : Int.toNat 0 = 0 := rfl
theorem walk313 (s : Str) (c : UInt8) : PCon Tryz.prog 313 [.str s, .str [c]] (.d (.int .i64 (ixb s c.toNat))) := by
  refine ok313.pcon (Nat.le_of_ble_eq_true rfl) trivial ?_
  have e3 : (([c] : Str).getD 0 0) = c := rfl
  simp only [go_sem, ir313, k1', l10, l11, t0', e3, List.length_singleton, Nat.reduceAdd, Nat.reduceEqDiff, Nat.reduceBEq, Nat.reduceLeDiff, reduceCtorEq, ↓reduceIte]
  refine ⟨fun h => ?_, fun h => ⟨by decide, ?_⟩⟩
  · simp only [beq_iff_eq] at h
    subst h
    have : ixb [c] c.toNat = 0 := by simp [ixb, idxB]
    rw [this]
  · refine wps_call rfl ((walk374 _ _).call trivial) trivial ?_
    simp only [go_sem, Nat.reduceAdd, Nat.reduceEqDiff, Nat.reduceBEq, Nat.reduceLeDiff, reduceCtorEq, ↓reduceIte]

theorem ixb_lt (s : Str) (c : UInt8) : ixb s c.toNat < s.length := by
  have hk : ∀ (t : Str) k, idxB t c k < (t.length + k : Nat) ∨ idxB t c k = -1 := by
    intro t
    induction t with
    | nil => intro k; right; rfl
    | cons b t ih =>
      intro k
      rw [idxB]
      split
      · left; simp only [List.length_cons]; omega
      · rcases ih (k + 1) with h | h
        · left; simp only [List.length_cons]; omega
        · right; exact h
  have e : (c.toNat : Int).toNat.toUInt8 = c := by simp
  rw [ixb, e]
  rcases hk s 0 with h | h
  · simpa using h
  · omega

/-- a text cut at a sign -/
def cutS (s : Str) (c : UInt8) : Str × Str × Bool := if ixb s c.toNat ≥ 0 then (s.take (ixb s c.toNat).toNat, s.drop ((ixb s c.toNat).toNat + 1), true) else (s, [], false)

theorem walk233 (s : Str) (c : UInt8) (hs : s.length ≤ 68719476736) : PCon Tryz.prog 233 [.str s, .str [c]] (.tup [.d (.str (cutS s c).1), .d (.str (cutS s c).2.1), .d (.bool (cutS s c).2.2)]) := by
  refine ok233.pcon (Nat.le_of_ble_eq_true rfl) (by simp [inTR, idsIn, idsInL]) ?_
  simp only [go_sem, ir233, Nat.reduceAdd, Nat.reduceEqDiff, Nat.reduceBEq, Nat.reduceLeDiff, reduceCtorEq, ↓reduceIte]
  refine wps_call rfl ((walk313 s c).call trivial) trivial ?_
  simp only [go_sem, k1', List.length_singleton, Nat.reduceAdd, Nat.reduceEqDiff, Nat.reduceBEq, Nat.reduceLeDiff, reduceCtorEq, ↓reduceIte]
  have hlt := ixb_lt s c
  have hge := (ixb_le s c.toNat).1
  refine ⟨fun h => ?_, fun h => ?_⟩
  · simp only [decide_eq_true_eq] at h
    have hw : IntKind.i64.wrap (ixb s c.toNat + 1) = ixb s c.toNat + 1 := wrap64 (by omega) (by omega)
    simp only [hw]
    have e1 : s.take ((ixb s c.toNat) - 0).toNat = s.take (ixb s c.toNat).toNat := by rw [Int.sub_zero]
    have e2 : ((s.length : Int) - (ixb s c.toNat + 1)).toNat = (s.drop (ixb s c.toNat + 1).toNat).length := by rw [List.length_drop]; omega
    have e3 : (ixb s c.toNat + 1).toNat = (ixb s c.toNat).toNat + 1 := by omega
    have e4 : cutS s c = (s.take (ixb s c.toNat).toNat, s.drop ((ixb s c.toNat).toNat + 1), true) := by unfold cutS; rw [if_pos h]
    refine ⟨by omega, by omega, ?_⟩
    rw [t0', List.drop_zero, e1, e2, List.take_length, e3, e4]
  · simp only [decide_eq_false_iff_not] at h
    have : cutS s c = (s, [], false) := by unfold cutS; rw [if_neg h]
    rw [this]

theorem walk149 (s : Str) (c : UInt8) (hs : s.length ≤ 68719476736) : PCon Tryz.prog 149 [.str s, .str [c]] (.tup [.d (.str (cutS s c).1), .d (.str (cutS s c).2.1), .d (.bool (cutS s c).2.2)]) := by
  refine ok149.pcon (Nat.le_of_ble_eq_true rfl) (by simp [inTR, idsIn, idsInL]) ?_
  simp only [go_sem, ir149, Nat.reduceAdd, Nat.reduceEqDiff, Nat.reduceBEq, Nat.reduceLeDiff, reduceCtorEq, ↓reduceIte]
  refine wps_call rfl ((walk233 s c hs).call (by simp [pureR])) trivial ?_
  simp only [go_sem, Nat.reduceAdd, Nat.reduceEqDiff, Nat.reduceBEq, Nat.reduceLeDiff, reduceCtorEq, ↓reduceIte]

def nameC (c : UInt8) : Bool := !((decide ((c.toNat : Int) < 97) || decide ((c.toNat : Int) > 122)) && (decide ((c.toNat : Int) < 48) || decide ((c.toNat : Int) > 57)) && ((c.toNat : Int) != 95))
def nameS (s : Str) : Bool := !(s == [] || decide ((s.length : Int) > 32) || decide (((s.getD 0 0).toNat : Int) < 97) || decide (((s.getD 0 0).toNat : Int) > 122)) && s.all nameC

theorem walk151 (s : Str) (hs : s.length ≤ 68719476736) : PCon Tryz.prog 151 [.str s] (.d (.bool (nameS s))) := by
  refine ok151.pcon (Nat.le_of_ble_eq_true rfl) trivial ?_
  cases s with
  | nil =>
    simp only [go_sem, ir151, Nat.reduceAdd, Nat.reduceEqDiff, Nat.reduceBEq, Nat.reduceLeDiff, reduceCtorEq, ↓reduceIte]
    rfl
  | cons c t =>
    have e0 : ((c :: t : Str) == []) = false := rfl
    have e1 : (c :: t).getD 0 0 = c := rfl
    simp only [go_sem, ir151, e0, e1, t0', Nat.reduceAdd, Nat.reduceEqDiff, Nat.reduceBEq, Nat.reduceLeDiff, reduceCtorEq, ↓reduceIte]
    generalize hb : (c :: t : Str) = s at *
    have hl : 0 < s.length := by rw [← hb]; simp
    have hlen : (t.length + 1 : Nat) = s.length := by rw [← hb]; simp
    have hc0 : s.getD 0 0 = c := by rw [← hb]; rfl
    have e0' : (s == []) = false := by rw [← hb]; rfl
    rw [hlen]
    refine scQ_pure (decide ((c.toNat : Int) < 97)) (fun _ => ?_) ?_
    · simp only [go_sem, t0', hc0, Nat.reduceAdd, Nat.reduceEqDiff, Nat.reduceBEq, Nat.reduceLeDiff, reduceCtorEq, ↓reduceIte]
      omega
    simp only [go_sem, Nat.reduceAdd, Nat.reduceEqDiff, Nat.reduceBEq, Nat.reduceLeDiff, reduceCtorEq, ↓reduceIte]
    refine scQ_pure (decide ((c.toNat : Int) > 122)) (fun _ => ?_) ?_
    · simp only [go_sem, t0', hc0, Nat.reduceAdd, Nat.reduceEqDiff, Nat.reduceBEq, Nat.reduceLeDiff, reduceCtorEq, ↓reduceIte]
      omega
    simp only [go_sem, Nat.reduceAdd, Nat.reduceEqDiff, Nat.reduceBEq, Nat.reduceLeDiff, reduceCtorEq, ↓reduceIte]
    refine ⟨fun h => ?_, fun h => ?_⟩
    · have : nameS s = false := by unfold nameS; rw [e0', hc0, Bool.false_or, h]; rfl
      rw [this]
    have hn : nameS s = s.all nameC := by unfold nameS; rw [e0', hc0, Bool.false_or, h]; rfl
    rw [hn]
    simp only [go_sem, List.length_map, Nat.reduceAdd, Nat.reduceEqDiff, Nat.reduceBEq, Nat.reduceLeDiff, reduceCtorEq, ↓reduceIte]
    refine wpc_loop (fun n st => ∃ k : Nat, k ≤ s.length ∧ n = s.length - k ∧ s.all nameC = (s.drop k).all nameC ∧
      st = ⟨[(23, .d (.list 1 (s.map fun b => .int .u8 b.toNat))), (24, .d (.int .i64 s.length)), (25, .d (.int .i64 k))], []⟩) ?_ ?_
    · exact ⟨_, _, Wk.refl _, 0, Nat.zero_le _, rfl, rfl, rfl⟩
    · rintro n st ⟨k, hk, rfl, hinv, rfl⟩
      by_cases hlt : k < s.length
      · have hd : decide ((k : Int) < (s.length : Int)) = true := by simp; omega
        have hg : nth (s.map fun b => Dat.int .u8 b.toNat) k = .int .u8 s[k].toNat := by rw [nth_eq (by simpa using hlt)]; simp
        rw [List.drop_eq_getElem_cons hlt, List.all_cons] at hinv
        simp only [go_sem, hd, hg, Int.toNat_natCast, List.length_map, Nat.reduceAdd, Nat.reduceEqDiff, Nat.reduceBEq, Nat.reduceLeDiff, reduceCtorEq, ↓reduceIte]
        generalize hx : (s[k].toNat : Int) = x at *
        refine ⟨by omega, by omega, ?_⟩
        refine scQ_pure (decide (x > 122)) (fun _ => ?_) ?_
        · simp only [go_sem, Nat.reduceAdd, Nat.reduceEqDiff, Nat.reduceBEq, Nat.reduceLeDiff, reduceCtorEq, ↓reduceIte]
        simp only [go_sem, Nat.reduceAdd, Nat.reduceEqDiff, Nat.reduceBEq, Nat.reduceLeDiff, reduceCtorEq, ↓reduceIte]
        refine scQ_pure (decide (x < 48) || decide (x > 57)) (fun _ => ?_) ?_
        · simp only [go_sem, Nat.reduceAdd, Nat.reduceEqDiff, Nat.reduceBEq, Nat.reduceLeDiff, reduceCtorEq, ↓reduceIte]
          refine scQ_pure (decide (x > 57)) (fun _ => ?_) ?_
          · simp only [go_sem, Nat.reduceAdd, Nat.reduceEqDiff, Nat.reduceBEq, Nat.reduceLeDiff, reduceCtorEq, ↓reduceIte]
          simp only [go_sem, Nat.reduceAdd, Nat.reduceEqDiff, Nat.reduceBEq, Nat.reduceLeDiff, reduceCtorEq, ↓reduceIte]
        simp only [go_sem, Nat.reduceAdd, Nat.reduceEqDiff, Nat.reduceBEq, Nat.reduceLeDiff, reduceCtorEq, ↓reduceIte]
        refine scQ_pure (x != 95) (fun _ => ?_) ?_
        · simp only [go_sem, Nat.reduceAdd, Nat.reduceEqDiff, Nat.reduceBEq, Nat.reduceLeDiff, reduceCtorEq, ↓reduceIte]
        simp only [go_sem, Nat.reduceAdd, Nat.reduceEqDiff, Nat.reduceBEq, Nat.reduceLeDiff, reduceCtorEq, ↓reduceIte]
        have hcx : nameC s[k] = !((decide (x < 97) || decide (x > 122)) && (decide (x < 48) || decide (x > 57)) && (x != 95)) := by rw [← hx]; rfl
        refine ⟨fun hf => ?_, fun hf => ?_⟩
        · rw [hcx, hf, Bool.not_true, Bool.false_and] at hinv
          rw [hinv]
        · rw [hcx, hf, Bool.not_false, Bool.true_and] at hinv
          refine ⟨s.length - (k + 1), _, by omega, Wk.less ?_, k + 1, by omega, rfl, hinv, rfl⟩
          simp only [go_sem, wrap64s k (by omega), Nat.reduceAdd, Nat.reduceEqDiff, Nat.reduceBEq, Nat.reduceLeDiff, reduceCtorEq, ↓reduceIte]
      · have hd : decide ((k : Int) < (s.length : Int)) = false := by simp; omega
        obtain rfl : k = s.length := by omega
        rw [List.drop_length, List.all_nil] at hinv
        simp only [go_sem, hd, hinv, Nat.reduceAdd, Nat.reduceEqDiff, Nat.reduceBEq, Nat.reduceLeDiff, reduceCtorEq, ↓reduceIte]

structure Part where
  kind : Int
  index : Int
  name : Str
def encP (p : Part) : Dat := .agg [.int .i64 p.kind, .int .i64 p.index, .str p.name]
def validP (p : Part) : Bool :=
  if p.kind = 1 ∨ p.kind = 4 then (p.index == 0) && nameS p.name else if p.kind = 2 then (p.name == []) && decide (p.index ≥ 0) && decide (p.index < 256) else if p.kind = 3 then (p.name == []) && (p.index == 0) else false

theorem walk74 (p : Part) (hp : p.name.length ≤ 68719476736) : PCon Tryz.prog 74 [encP p] (.d (.bool (validP p))) := by
  refine ok74.pcon (Nat.le_of_ble_eq_true rfl) trivial ?_
  obtain ⟨k, i, n⟩ := p
  simp only at hp
  simp only [encP]
  by_cases h1 : k = 1 ∨ k = 4
  · have hv : validP ⟨k, i, n⟩ = ((i == 0) && nameS n) := by unfold validP; rw [if_pos h1]
    rw [hv]
    rcases h1 with rfl | rfl
    · simp only [go_sem, ir74, beq_self_eq_true, Nat.reduceAdd, Nat.reduceEqDiff, Nat.reduceBEq, Nat.reduceLeDiff, reduceCtorEq, ↓reduceIte]
      refine scQ_pure (nameS n) (fun _ => ?_) ?_
      · simp only [go_sem, Nat.reduceAdd, Nat.reduceEqDiff, Nat.reduceBEq, Nat.reduceLeDiff, reduceCtorEq, ↓reduceIte]
        refine wps_call rfl ((walk151 n hp).call trivial) trivial ?_
        simp only [go_sem, Nat.reduceAdd, Nat.reduceEqDiff, Nat.reduceBEq, Nat.reduceLeDiff, reduceCtorEq, ↓reduceIte]
      · simp only [go_sem, Nat.reduceAdd, Nat.reduceEqDiff, Nat.reduceBEq, Nat.reduceLeDiff, reduceCtorEq, ↓reduceIte]
    · have q1 : ((4 : Int) == 1) = false := rfl
      simp only [go_sem, ir74, q1, beq_self_eq_true, Nat.reduceAdd, Nat.reduceEqDiff, Nat.reduceBEq, Nat.reduceLeDiff, reduceCtorEq, ↓reduceIte]
      refine scQ_pure (nameS n) (fun _ => ?_) ?_
      · simp only [go_sem, Nat.reduceAdd, Nat.reduceEqDiff, Nat.reduceBEq, Nat.reduceLeDiff, reduceCtorEq, ↓reduceIte]
        refine wps_call rfl ((walk151 n hp).call trivial) trivial ?_
        simp only [go_sem, Nat.reduceAdd, Nat.reduceEqDiff, Nat.reduceBEq, Nat.reduceLeDiff, reduceCtorEq, ↓reduceIte]
      · simp only [go_sem, Nat.reduceAdd, Nat.reduceEqDiff, Nat.reduceBEq, Nat.reduceLeDiff, reduceCtorEq, ↓reduceIte]
  · have q1 : (k == 1) = false := by simp; omega
    have q4 : (k == 4) = false := by simp; omega
    by_cases h2 : k = 2
    · subst h2
      have hv : validP ⟨2, i, n⟩ = ((n == []) && decide (i ≥ 0) && decide (i < 256)) := by unfold validP; rw [if_neg h1, if_pos rfl]
      rw [hv]
      simp only [go_sem, ir74, q1, q4, beq_self_eq_true, Nat.reduceAdd, Nat.reduceEqDiff, Nat.reduceBEq, Nat.reduceLeDiff, reduceCtorEq, ↓reduceIte]
      refine scQ_pure (decide (i ≥ 0)) (fun _ => ?_) ?_
      · simp only [go_sem, Nat.reduceAdd, Nat.reduceEqDiff, Nat.reduceBEq, Nat.reduceLeDiff, reduceCtorEq, ↓reduceIte]
      simp only [go_sem, Nat.reduceAdd, Nat.reduceEqDiff, Nat.reduceBEq, Nat.reduceLeDiff, reduceCtorEq, ↓reduceIte]
      refine scQ_pure (decide (i < 256)) (fun _ => ?_) ?_
      · simp only [go_sem, Nat.reduceAdd, Nat.reduceEqDiff, Nat.reduceBEq, Nat.reduceLeDiff, reduceCtorEq, ↓reduceIte]
      simp only [go_sem, Nat.reduceAdd, Nat.reduceEqDiff, Nat.reduceBEq, Nat.reduceLeDiff, reduceCtorEq, ↓reduceIte]
    · have q2 : (k == 2) = false := by simp; omega
      by_cases h3 : k = 3
      · subst h3
        have hv : validP ⟨3, i, n⟩ = ((n == []) && (i == 0)) := by unfold validP; rw [if_neg h1, if_neg h2, if_pos rfl]
        rw [hv]
        simp only [go_sem, ir74, q1, q2, q4, beq_self_eq_true, Nat.reduceAdd, Nat.reduceEqDiff, Nat.reduceBEq, Nat.reduceLeDiff, reduceCtorEq, ↓reduceIte]
        refine scQ_pure (i == 0) (fun _ => ?_) ?_
        · simp only [go_sem, Nat.reduceAdd, Nat.reduceEqDiff, Nat.reduceBEq, Nat.reduceLeDiff, reduceCtorEq, ↓reduceIte]
        simp only [go_sem, Nat.reduceAdd, Nat.reduceEqDiff, Nat.reduceBEq, Nat.reduceLeDiff, reduceCtorEq, ↓reduceIte]
      · have q3 : (k == 3) = false := by simp; omega
        have hv : validP ⟨k, i, n⟩ = false := by unfold validP; rw [if_neg h1, if_neg h2, if_neg h3]
        rw [hv]
        simp only [go_sem, ir74, q1, q2, q3, q4, Nat.reduceAdd, Nat.reduceEqDiff, Nat.reduceBEq, Nat.reduceLeDiff, reduceCtorEq, ↓reduceIte]
end Go.Proofs

namespace Go.Proofs
open Go.Shelf
def Tryz.laysM171_ren : Go.Shelf.Ren := ⟨fun | 171 => 100 | 243 => 200 | 246 => 277 | 283 => 344 | 284 => 345 | 285 => 346 | 286 => 347 | 129 => 256 | 317 => 391 | 318 => 392 | 319 => 393 | 320 => 394 | 337 => 417 | 338 => 418 | n => n, fun | 3 => 3 | 9 => 9 | 2 => 2 | 4 => 4 | 171 => 390 | 0 => 0 | 53 => 320 | 37 => 299 | 5 => 5 | 173 => 392 | 212 => 431 | 51 => 318 | 20 => 20 | 213 => 432 | 46 => 257 | 232 => 459 | 233 => 460 | n => n, fun | 17 => 5 | 18 => 6 | 19 => 7 | n => n⟩
theorem Tryz.laysM171 : Go.Proofs.LaysM.n171 Tryz.prog Tryz.laysM171_ren := {
  mixed := by kernel_rfl
  f129 := Tryz.func256.trans (congrArg some (by kernel_rfl))
  f171 := Tryz.func100.trans (congrArg some (by kernel_rfl))
  f243 := Tryz.func200.trans (congrArg some (by kernel_rfl))
  f246 := Tryz.func277.trans (congrArg some (by kernel_rfl))
  f283 := Tryz.func344.trans (congrArg some (by kernel_rfl))
  f284 := Tryz.func345.trans (congrArg some (by kernel_rfl))
  f285 := Tryz.func346.trans (congrArg some (by kernel_rfl))
  f286 := Tryz.func347.trans (congrArg some (by kernel_rfl))
  f317 := Tryz.func391.trans (congrArg some (by kernel_rfl))
  f318 := Tryz.func392.trans (congrArg some (by kernel_rfl))
  f319 := Tryz.func393.trans (congrArg some (by kernel_rfl))
  f320 := Tryz.func394.trans (congrArg some (by kernel_rfl))
  f337 := Tryz.func417.trans (congrArg some (by kernel_rfl))
  f338 := Tryz.func418.trans (congrArg some (by kernel_rfl))
  t0 := Tryz.underlying0
  a0 := Tryz.isAgg0
  z0 := Tryz.sizeOf0
  v0 := Tryz.zeroValue0
  t2 := Tryz.underlying2
  a2 := Tryz.isAgg2
  z2 := Tryz.sizeOf2
  v2 := Tryz.zeroValue2
  t3 := Tryz.underlying3
  a3 := Tryz.isAgg3
  z3 := Tryz.sizeOf3
  v3 := Tryz.zeroValue3
  t4 := Tryz.underlying4
  a4 := Tryz.isAgg4
  z4 := Tryz.sizeOf4
  v4 := Tryz.zeroValue4
  t5 := Tryz.underlying5
  a5 := Tryz.isAgg5
  z5 := Tryz.sizeOf5
  v5 := Tryz.zeroValue5
  t9 := Tryz.underlying9
  a9 := Tryz.isAgg9
  z9 := Tryz.sizeOf9
  v9 := Tryz.zeroValue9
  t20 := Tryz.underlying20
  a20 := Tryz.isAgg20
  z20 := Tryz.sizeOf20
  v20 := Tryz.zeroValue20
  t37 := Tryz.underlying299
  a37 := Tryz.isAgg299
  z37 := Tryz.sizeOf299
  v37 := Tryz.zeroValue299
  t46 := Tryz.underlying257
  a46 := Tryz.isAgg257
  z46 := Tryz.sizeOf257
  v46 := Tryz.zeroValue257
  t51 := Tryz.underlying318
  a51 := Tryz.isAgg318
  z51 := Tryz.sizeOf318
  v51 := Tryz.zeroValue318
  t53 := Tryz.underlying320
  a53 := Tryz.isAgg320
  z53 := Tryz.sizeOf320
  v53 := Tryz.zeroValue320
  t171 := Tryz.underlying390
  a171 := Tryz.isAgg390
  z171 := Tryz.sizeOf390
  v171 := Tryz.zeroValue390
  t173 := Tryz.underlying392
  a173 := Tryz.isAgg392
  z173 := Tryz.sizeOf392
  v173 := Tryz.zeroValue392
  t212 := Tryz.underlying431
  a212 := Tryz.isAgg431
  z212 := Tryz.sizeOf431
  v212 := Tryz.zeroValue431
  t213 := Tryz.underlying432
  a213 := Tryz.isAgg432
  z213 := Tryz.sizeOf432
  t232 := Tryz.underlying459
  a232 := Tryz.isAgg459
  z232 := Tryz.sizeOf459
  v232 := Tryz.zeroValue459
  t233 := Tryz.underlying460
  a233 := Tryz.isAgg460
  z233 := Tryz.sizeOf460
  v233 := Tryz.zeroValue460
  g17 := by kernel_rfl
  g18 := by kernel_rfl
  g19 := by kernel_rfl
  i0 := by kernel_rfl
  i2 := by kernel_rfl
  i3 := by kernel_rfl
  i4 := by kernel_rfl
  i5 := by kernel_rfl
  i9 := by kernel_rfl
  i20 := by kernel_rfl
  i37 := by kernel_rfl
  i46 := by kernel_rfl
  i51 := by kernel_rfl
  i53 := by kernel_rfl
  i171 := by kernel_rfl
  i173 := by kernel_rfl
  i212 := by kernel_rfl
  i232 := by kernel_rfl
  i233 := by kernel_rfl
  m17 := by kernel_rfl
  m18 := by kernel_rfl
  m19 := by kernel_rfl }
def Tryz.laysC172_ren : Go.Shelf.Ren := ⟨fun | 172 => 150 | 244 => 234 | 245 => 235 | 247 => 314 | 279 => 315 | 280 => 316 | 281 => 317 | 282 => 318 | 287 => 376 | 316 => 377 | 171 => 100 | 205 => 378 | 321 => 404 | 322 => 405 | 243 => 200 | 246 => 277 | 283 => 344 | 284 => 345 | 285 => 346 | 286 => 347 | 129 => 256 | 317 => 391 | 318 => 392 | 319 => 393 | 320 => 394 | 337 => 417 | 338 => 418 | n => n, fun | 9 => 9 | 3 => 3 | 75 => 235 | 76 => 236 | 4 => 4 | 5 => 5 | 167 => 361 | 37 => 299 | 0 => 0 | 85 => 362 | 2 => 2 | 168 => 364 | 53 => 320 | 175 => 411 | 46 => 257 | 210 => 414 | 127 => 423 | 145 => 442 | 143 => 440 | 21 => 21 | 171 => 390 | 173 => 392 | 212 => 431 | 51 => 318 | 20 => 20 | 213 => 432 | 232 => 459 | 233 => 460 | 80 => 243 | n => n, fun | 15 => 3 | 16 => 4 | 17 => 5 | 18 => 6 | 19 => 7 | n => n⟩
theorem Tryz.laysC172 : Go.Proofs.LaysC.n172 Tryz.prog Tryz.laysC172_ren := {
  mixed := by kernel_rfl
  f129 := Tryz.func256.trans (congrArg some (by kernel_rfl))
  f171 := Tryz.func100.trans (congrArg some (by kernel_rfl))
  f172 := Tryz.func150.trans (congrArg some (by kernel_rfl))
  f205 := Tryz.func378.trans (congrArg some (by kernel_rfl))
  f243 := Tryz.func200.trans (congrArg some (by kernel_rfl))
  f244 := Tryz.func234.trans (congrArg some (by kernel_rfl))
  f245 := Tryz.func235.trans (congrArg some (by kernel_rfl))
  f246 := Tryz.func277.trans (congrArg some (by kernel_rfl))
  f247 := Tryz.func314.trans (congrArg some (by kernel_rfl))
  f279 := Tryz.func315.trans (congrArg some (by kernel_rfl))
  f280 := Tryz.func316.trans (congrArg some (by kernel_rfl))
  f281 := Tryz.func317.trans (congrArg some (by kernel_rfl))
  f282 := Tryz.func318.trans (congrArg some (by kernel_rfl))
  f283 := Tryz.func344.trans (congrArg some (by kernel_rfl))
  f284 := Tryz.func345.trans (congrArg some (by kernel_rfl))
  f285 := Tryz.func346.trans (congrArg some (by kernel_rfl))
  f286 := Tryz.func347.trans (congrArg some (by kernel_rfl))
  f287 := Tryz.func376.trans (congrArg some (by kernel_rfl))
  f316 := Tryz.func377.trans (congrArg some (by kernel_rfl))
  f317 := Tryz.func391.trans (congrArg some (by kernel_rfl))
  f318 := Tryz.func392.trans (congrArg some (by kernel_rfl))
  f319 := Tryz.func393.trans (congrArg some (by kernel_rfl))
  f320 := Tryz.func394.trans (congrArg some (by kernel_rfl))
  f321 := Tryz.func404.trans (congrArg some (by kernel_rfl))
  f322 := Tryz.func405.trans (congrArg some (by kernel_rfl))
  f337 := Tryz.func417.trans (congrArg some (by kernel_rfl))
  f338 := Tryz.func418.trans (congrArg some (by kernel_rfl))
  t0 := Tryz.underlying0
  a0 := Tryz.isAgg0
  z0 := Tryz.sizeOf0
  v0 := Tryz.zeroValue0
  t2 := Tryz.underlying2
  a2 := Tryz.isAgg2
  z2 := Tryz.sizeOf2
  v2 := Tryz.zeroValue2
  t3 := Tryz.underlying3
  a3 := Tryz.isAgg3
  z3 := Tryz.sizeOf3
  v3 := Tryz.zeroValue3
  t4 := Tryz.underlying4
  a4 := Tryz.isAgg4
  z4 := Tryz.sizeOf4
  v4 := Tryz.zeroValue4
  t5 := Tryz.underlying5
  a5 := Tryz.isAgg5
  z5 := Tryz.sizeOf5
  v5 := Tryz.zeroValue5
  t9 := Tryz.underlying9
  a9 := Tryz.isAgg9
  z9 := Tryz.sizeOf9
  v9 := Tryz.zeroValue9
  t20 := Tryz.underlying20
  a20 := Tryz.isAgg20
  z20 := Tryz.sizeOf20
  v20 := Tryz.zeroValue20
  t21 := Tryz.underlying21
  a21 := Tryz.isAgg21
  z21 := Tryz.sizeOf21
  v21 := Tryz.zeroValue21
  t37 := Tryz.underlying299
  a37 := Tryz.isAgg299
  z37 := Tryz.sizeOf299
  v37 := Tryz.zeroValue299
  t46 := Tryz.underlying257
  a46 := Tryz.isAgg257
  z46 := Tryz.sizeOf257
  v46 := Tryz.zeroValue257
  t51 := Tryz.underlying318
  a51 := Tryz.isAgg318
  z51 := Tryz.sizeOf318
  v51 := Tryz.zeroValue318
  t53 := Tryz.underlying320
  a53 := Tryz.isAgg320
  z53 := Tryz.sizeOf320
  v53 := Tryz.zeroValue320
  t75 := Tryz.underlying235
  a75 := Tryz.isAgg235
  z75 := Tryz.sizeOf235
  v75 := Tryz.zeroValue235
  t76 := Tryz.underlying236
  a76 := Tryz.isAgg236
  z76 := Tryz.sizeOf236
  v76 := Tryz.zeroValue236
  t85 := Tryz.underlying362
  a85 := Tryz.isAgg362
  z85 := Tryz.sizeOf362
  v85 := Tryz.zeroValue362
  t127 := Tryz.underlying423
  a127 := Tryz.isAgg423
  z127 := Tryz.sizeOf423
  v127 := Tryz.zeroValue423
  t143 := Tryz.underlying440
  a143 := Tryz.isAgg440
  z143 := Tryz.sizeOf440
  v143 := Tryz.zeroValue440
  t145 := Tryz.underlying442
  a145 := Tryz.isAgg442
  z145 := Tryz.sizeOf442
  v145 := Tryz.zeroValue442
  t167 := Tryz.underlying361
  a167 := Tryz.isAgg361
  z167 := Tryz.sizeOf361
  v167 := Tryz.zeroValue361
  t168 := Tryz.underlying364
  a168 := Tryz.isAgg364
  z168 := Tryz.sizeOf364
  v168 := Tryz.zeroValue364
  t171 := Tryz.underlying390
  a171 := Tryz.isAgg390
  z171 := Tryz.sizeOf390
  v171 := Tryz.zeroValue390
  t173 := Tryz.underlying392
  a173 := Tryz.isAgg392
  z173 := Tryz.sizeOf392
  v173 := Tryz.zeroValue392
  t175 := Tryz.underlying411
  a175 := Tryz.isAgg411
  z175 := Tryz.sizeOf411
  v175 := Tryz.zeroValue411
  t210 := Tryz.underlying414
  a210 := Tryz.isAgg414
  z210 := Tryz.sizeOf414
  v210 := Tryz.zeroValue414
  t212 := Tryz.underlying431
  a212 := Tryz.isAgg431
  z212 := Tryz.sizeOf431
  v212 := Tryz.zeroValue431
  t213 := Tryz.underlying432
  a213 := Tryz.isAgg432
  z213 := Tryz.sizeOf432
  t232 := Tryz.underlying459
  a232 := Tryz.isAgg459
  z232 := Tryz.sizeOf459
  v232 := Tryz.zeroValue459
  t233 := Tryz.underlying460
  a233 := Tryz.isAgg460
  z233 := Tryz.sizeOf460
  v233 := Tryz.zeroValue460
  g15 := by kernel_rfl
  g16 := by kernel_rfl
  g17 := by kernel_rfl
  g18 := by kernel_rfl
  g19 := by kernel_rfl
  t80 := Tryz.underlying243
  a80 := Tryz.isAgg243
  z80 := Tryz.sizeOf243
  v80 := Tryz.zeroValue243
  i0 := by kernel_rfl
  i2 := by kernel_rfl
  i3 := by kernel_rfl
  i4 := by kernel_rfl
  i5 := by kernel_rfl
  i9 := by kernel_rfl
  i20 := by kernel_rfl
  i21 := by kernel_rfl
  i37 := by kernel_rfl
  i46 := by kernel_rfl
  i51 := by kernel_rfl
  i53 := by kernel_rfl
  i75 := by kernel_rfl
  i76 := by kernel_rfl
  i80 := by kernel_rfl
  i85 := by kernel_rfl
  i127 := by kernel_rfl
  i143 := by kernel_rfl
  i145 := by kernel_rfl
  i167 := by kernel_rfl
  i168 := by kernel_rfl
  i171 := by kernel_rfl
  i173 := by kernel_rfl
  i175 := by kernel_rfl
  i210 := by kernel_rfl
  i212 := by kernel_rfl
  i232 := by kernel_rfl
  i233 := by kernel_rfl
  m15 := by kernel_rfl
  m16 := by kernel_rfl
  m17 := by kernel_rfl
  m18 := by kernel_rfl
  m19 := by kernel_rfl
  c0 := by kernel_rfl
  c2 := by kernel_rfl
  c3 := by kernel_rfl
  c4 := by kernel_rfl
  c5 := by kernel_rfl
  c9 := by kernel_rfl
  c20 := by kernel_rfl
  c21 := by kernel_rfl
  c37 := by kernel_rfl
  c46 := by kernel_rfl
  c51 := by kernel_rfl
  c53 := by kernel_rfl
  c75 := by kernel_rfl
  c76 := by kernel_rfl
  c80 := by kernel_rfl
  c85 := by kernel_rfl
  c127 := by kernel_rfl
  c143 := by kernel_rfl
  c145 := by kernel_rfl
  c167 := by kernel_rfl
  c168 := by kernel_rfl
  c171 := by kernel_rfl
  c173 := by kernel_rfl
  c175 := by kernel_rfl
  c210 := by kernel_rfl
  c212 := by kernel_rfl
  c213 := by kernel_rfl
  c232 := by kernel_rfl
  c233 := by kernel_rfl }
end Go.Proofs

namespace Av
open Go Go.RowKit
variable [Glb] [Rls]

theorem CallOK.of_calls {P : Program} {f : Nat} {ds : List Dat} {v : Av} (hh : Has P f)
    (h : ∀ (A : Nat → Prop) (w : World) (vs : Array Value), ds.length = vs.size → (∀ (i : Nat) d u, ds[i]? = some d → vs[i]? = some u → Rep A w d u) →
      Calls P f vs w fun e w' => ∃ u, e = .returned u ∧ Below w.heap.size w w' ∧ ∀ β H, VRep β (fun b => A b) w' H v u) : CallOK P f (ds.map .d) [] v [] := by
  intro β A w H vs _ hc hvs
  have hl : ds.length = vs.size := by simpa using hvs.1
  refine .inl ⟨hh, (h A w vs hl ?_).mono ?_⟩
  · intro i d u hd hu
    have := hvs.2 i (.d d) u (by rw [List.getElem?_map, hd]; rfl) hu
    exact this.of_d
  · rintro e w' ⟨u, rfl, hb, hr⟩
    refine ⟨u, rfl, β, A, ?_, hr β _⟩
    exact Stp.new hc hb.os hb.tape hb.output hb.size hb.block (fun _ h => h) (fun _ h => .inl h) (fun b hA => Nat.lt_of_lt_of_le (hc.old b hA) hb.size)

/-- the same, with what the package-level variables hold -/
theorem CallOK.of_callsG {P : Program} {f : Nat} {ds : List Dat} {v : Av} (hh : Has P f)
    (h : ∀ (A : Nat → Prop) (w : World) (vs : Array Value), (∀ g cs, globOf g = some cs → GRep A w g cs) → ds.length = vs.size → (∀ (i : Nat) d u, ds[i]? = some d → vs[i]? = some u → Rep A w d u) →
      Calls P f vs w fun e w' => ∃ u, e = .returned u ∧ Below w.heap.size w w' ∧ ∀ β H, VRep β (fun b => A b) w' H v u) : CallOK P f (ds.map .d) [] v [] := by
  intro β A w H vs _ hc hvs
  have hl : ds.length = vs.size := by simpa using hvs.1
  refine .inl ⟨hh, (h A w vs hc.glob hl ?_).mono ?_⟩
  · intro i d u hd hu
    have := hvs.2 i (.d d) u (by rw [List.getElem?_map, hd]; rfl) hu
    exact this.of_d
  · rintro e w' ⟨u, rfl, hb, hr⟩
    refine ⟨u, rfl, β, A, ?_, hr β _⟩
    exact Stp.new hc hb.os hb.tape hb.output hb.size hb.block (fun _ h => h) (fun _ h => .inl h) (fun b hA => Nat.lt_of_lt_of_le (hc.old b hA) hb.size)
end Av

namespace Go.Proofs
open Go Av Go.RowKit

theorem hasT {f : Nat} {fn : Func} (h : Tryz.prog.funcs[f]? = some fn) (h1 : fn.body.isSome = true) (h2 : (fn.name == "runtime.NumGoroutine") = false) : Has Tryz.prog f := ⟨fn, h, h1, h2⟩

theorem one_arg {vs : Array Value} (h : 1 = vs.size) : ∃ x, vs = #[x] := by
  refine ⟨vs[0], ?_⟩
  apply Array.ext
  · simp [← h]
  · intro i h1 h2
    have : i = 0 := by omega
    subst this; rfl

def atoiV (s : Str) : Int × Dat := match Lib.atoiAll s with
  | .ok v => (v, .nilIface)
  | .range => (Lib.atoiSat s, .iface 364 .opq)
  | _ => (0, .iface 364 .opq)

theorem errCell {A : Nat → Prop} {w : World} (hg : ∀ g cs, globOf g = some cs → GRep A w g cs) (g : Nat) (h : globOf g = some [.iface 440 .opq]) :
    ∃ ev, w.cell? ⟨g, 0, none⟩ = some ev ∧ (ev = .nilIface ∨ ∃ te pe, ev = .iface te pe) := by
  obtain ⟨h0, C, T, fr, h1, h2, h3, h4⟩ := hg g _ h
  have hs : C[0]? = some (C[0]'(by simp at h2; omega)) := by simp
  have := h4 0 _ _ rfl hs
  refine ⟨C[0]'(by simp at h2; omega), ?_, ?_⟩
  · simp [World.cell?, h1]
  · generalize C[0]'(by simp at h2; omega) = v at this
    cases this with
    | iface t x v h => exact .inr ⟨_, _, rfl⟩

theorem vrep_two {β : Blocks} {A : Nat → Prop} {w : World} {H : Heap} {x y : Dat} {u v : Value} (h1 : Rep A w x u) (h2 : Rep A w y v) : VRep β A w H (.tup [.d x, .d y]) (.tuple #[u, v]) := by
  refine .tup _ _ rfl ?_
  intro i c z hc hz
  match i, hc, hz with
  | 0, hc, hz => cases hc; cases hz; exact .d _ _ h1
  | 1, hc, hz => cases hc; cases hz; exact .d _ _ h2

theorem i64b {v : Int} (h0 : -9223372036854775808 ≤ v) (h1 : v ≤ 9223372036854775807) : IntKind.i64.min ≤ v ∧ v ≤ IntKind.i64.max := by
  have e1 : IntKind.i64.min = -9223372036854775808 := by decide
  have e2 : IntKind.i64.max = 9223372036854775807 := by decide
  rw [e1, e2]; exact ⟨h0, h1⟩

theorem call150 (s : Str) (hs : s.length ≤ 68719476736) : CallOK Tryz.prog 150 [.d (.str s)] [] (.tup [.d (.int .i64 (atoiV s).1), .d (atoiV s).2]) [] := by
  refine CallOK.of_callsG (ds := [.str s]) (hasT Tryz.func150 (by kernel_rfl) (by kernel_rfl)) ?_
  intro A w vs hg hl hv
  obtain ⟨x, rfl⟩ := one_arg hl
  have hx := hv 0 _ x rfl rfl
  cases hx with
  | str _ h =>
    have e : (⟨s.toArray⟩ : ByteArray).data.toList = s := by simp
    have hsz : (⟨s.toArray⟩ : ByteArray).size = s.length := by simp [ByteArray.size]
    cases ha : Lib.atoiAll s with
    | ok v =>
      have hv : atoiV s = (v, .nilIface) := by unfold atoiV; rw [ha]
      rw [hv]
      obtain ⟨b0, b1⟩ := Lib.atoiAll_bounds ha
      refine (Any.strconv_Atoi_ok Tryz.laysC172 ⟨s.toArray⟩ (by omega) v (by rw [e]; exact ha) w).mono ?_
      rintro e w' ⟨rfl, hw⟩
      refine ⟨_, rfl, ?_, fun β H => vrep_two (.int _ _ (i64b b0 b1)) .nilIface⟩
      rcases hw with rfl | ⟨t, rfl⟩
      · exact Below.refl _ _
      · exact Lib.bytesWorld_below _ _ _
    | range =>
      have hv : atoiV s = (Lib.atoiSat s, .iface 364 .opq) := by unfold atoiV; rw [ha]
      rw [hv]
      obtain ⟨ev, g1, g2⟩ := errCell hg 4 rfl
      obtain ⟨b0, b1⟩ := Lib.atoiSat_bounds s
      refine (Any.strconv_Atoi_range Tryz.laysC172 ⟨s.toArray⟩ (by omega) (by rw [e]; exact ha) ev w g1 g2).mono ?_
      rintro e' w' ⟨N, rfl, h1, h2, hb⟩
      rw [e]
      exact ⟨_, rfl, hb, fun β H => vrep_two (.int _ _ (i64b b0 b1)) (.iface _ _ _ (.opq _ rfl))⟩
    | _ =>
      have hv : atoiV s = (0, .iface 364 .opq) := by unfold atoiV; rw [ha]
      rw [hv]
      obtain ⟨ev, g1, g2⟩ := errCell hg 3 rfl
      refine (Any.strconv_Atoi_syntax Tryz.laysC172 ⟨s.toArray⟩ (by omega) (by rw [e]; exact ha) ev w g1 g2).mono ?_
      rintro e w' ⟨N, rfl, h1, h2, hb⟩
      exact ⟨_, rfl, hb, fun β H => vrep_two (.int _ _ (i64b (by omega) (by omega))) (.iface _ _ _ (.opq _ rfl))⟩

theorem atoiV_bd (s : Str) : -9223372036854775808 ≤ (atoiV s).1 ∧ (atoiV s).1 ≤ 9223372036854775807 := by
  unfold atoiV
  cases ha : Lib.atoiAll s with
  | ok v => exact Lib.atoiAll_bounds ha
  | range => exact Lib.atoiSat_bounds s
  | _ => exact ⟨by show (-9223372036854775808 : Int) ≤ 0; omega, by show (0 : Int) ≤ 9223372036854775807; omega⟩
theorem atoiV_err (s : Str) : (atoiV s).2 = .nilIface ∨ (atoiV s).2 = .iface 364 .opq := by
  unfold atoiV
  cases ha : Lib.atoiAll s with
  | ok v => exact .inl rfl
  | range => exact .inr rfl
  | _ => exact .inr rfl

theorem tabI {A : Nat → Prop} {w : World} (hg : ∀ g cs, globOf g = some cs → GRep A w g cs) : Lib.TabIs Tryz.prog w "internal/strconv.uint64pow10" .u64 Lib.pow10Tab := by
  obtain ⟨h0, C, T, fr, h1, h2, h3, h4⟩ := hg 5 tab3 rfl
  have hn : Tryz.prog.globalNamed "internal/strconv.uint64pow10" = some 5 := by kernel_rfl
  unfold Lib.TabIs World.var?
  rw [hn]
  simp only [Option.bind_some, h1, Option.some.injEq]
  have hlen : tab3.length = 20 := by simp [tab3]
  apply Array.ext
  · rw [← h2, hlen]; simp [Lib.pow10Tab]
  · intro i hi hi'
    have hi20 : i < 20 := by rw [← h2, hlen] at hi; exact hi
    have e1 : tab3[i]? = some (.int .u64 ((10 ^ i : Nat) : Int)) := by simp [tab3, hi20]
    have := h4 i _ C[i] e1 (by simp)
    generalize C[i] = v at this
    cases this
    simp [Lib.pow10Tab]

theorem call100 (n : Int) (h0 : -9223372036854775808 ≤ n) (h1 : n ≤ 9223372036854775807) : CallOK Tryz.prog 100 [.d (.int .i64 n)] [] (.d (.str (Lib.itoa n))) [] := by
  refine CallOK.of_callsG (ds := [.int .i64 n]) (hasT Tryz.func100 (by kernel_rfl) (by kernel_rfl)) ?_
  intro A w vs hg hl hv
  obtain ⟨x, rfl⟩ := one_arg hl
  have hx := hv 0 _ x rfl rfl
  cases hx with
  | int =>
    refine (Any.strconv_Itoa Tryz.laysM171 n h0 h1 w (tabI hg)).mono ?_
    rintro e w' ⟨rfl, k, os, rfl⟩
    refine ⟨_, rfl, ?_, fun β H => .d _ _ (.str _ ?_)⟩
    · refine ⟨rfl, rfl, rfl, by simp [Sort.grow], fun i hi => ?_⟩
      show ((w.drewN k).heap ++ os)[i]? = _
      rw [Array.getElem?_append_left (by show i < w.heap.size; omega)]
      rfl
    · have := Lib.itoa_length_le n h0 h1
      omega
end Go.Proofs

namespace Go.Proofs
open Go Av

/-- a call that only reads a captured variable -/
theorem Con.rl {P : Program} {f : Nat} {ds cs : List Dat} {r : Dat} (h : Con P f (ds.map .d ++ [.ref 1000 0]) [(1000, .box (cs.map .d))] (.d r) []) (i : Nat) :
    CallOK P f (ds.map .d ++ [.ref i 0]) [(i, some (.box (cs.map .d)))] (.d r) [] := by
  have h1 : ∀ j, (get [(1000, Obj.box (cs.map .d))] j).isSome = true → j = 1000 := by
    intro j hj
    simp only [Av.get] at hj
    split at hj
    · rename_i e; exact e.symm
    · cases hj
  have := h.call (fun _ => i) (fun j hj => by rw [h1 j hj]; decide) (fun a b ha hb _ => by rw [h1 a ha, h1 b hb]) ?_ (closed_box _ _) [] (by simp) (closed_box _ _) trivial
  · have e : (ds.map Av.d).map (Av.ren fun _ => i) = ds.map Av.d := by
      rw [List.map_map]; exact List.map_congr_left fun x _ => by simp [Av.ren]
    simpa [Av.ren, Obj.ren, renL_d, e] using this
  · intro c hc
    rcases List.mem_append.1 hc with hc | hc
    · obtain ⟨x, _, rfl⟩ := List.mem_map.1 hc; trivial
    · rw [List.mem_singleton.1 hc]; rfl

noncomputable def endI (s : Str) : Int := if anyI (s.drop 1) < 0 then s.length else 1 + anyI (s.drop 1)
theorem endI_bd (s : Str) (h : 0 < s.length) : 1 ≤ endI s ∧ endI s ≤ s.length := by
  have := anyI_bd (s.drop 1)
  rw [List.length_drop] at this
  unfold endI
  split <;> omega

theorem sls_from (s : Str) (k : Nat) : (s.drop k).take ((s.length : Int) - k).toNat = s.drop k := by
  apply List.take_of_length_le
  rw [List.length_drop]; omega

theorem sls_fromI (s : Str) (n : Int) (h : 0 ≤ n) : (s.drop n.toNat).take ((s.length : Int) - n).toNat = s.drop n.toNat := by
  have := sls_from s n.toNat
  rwa [Int.toNat_of_nonneg h] at this

theorem walk146 (s : Str) (hs : s.length ≤ 68719476736) (h0 : 0 < s.length) : Con Tryz.prog 146 ([Dat.int .i64 1].map .d ++ [.ref 1000 0]) [(1000, .box ([Dat.str s].map .d))] (.d (.int .i64 (endI s))) [] := by
  refine ok146.con (k := false) (Nat.le_of_ble_eq_true rfl) (closed_box _ _) trivial ?_
  have t1 : Int.toNat 1 = 1 := rfl
  have e1 : (s.drop 1).take ((s.length : Int) - 1).toNat = s.drop 1 := sls_from s 1
  have hd : (s.drop 1).length ≤ 68719476736 := by rw [List.length_drop]; omega
  have hb := anyI_bd (s.drop 1)
  rw [List.length_drop] at hb
  simp only [List.map_cons, List.map_nil, List.cons_append, List.nil_append]
  simp only [go_sem, ir146, t1, e1, Nat.reduceAdd, Nat.reduceEqDiff, Nat.reduceBEq, Nat.reduceLeDiff, reduceCtorEq, ↓reduceIte]
  refine ⟨by omega, wps_call rfl ((walk147 (s.drop 1) hd).call trivial) trivial ?_⟩
  simp only [go_sem, Nat.reduceAdd, Nat.reduceEqDiff, Nat.reduceBEq, Nat.reduceLeDiff, reduceCtorEq, ↓reduceIte]
  refine ⟨fun h => ?_, fun h => ?_⟩
  · simp only [decide_eq_true_eq] at h
    have : endI s = s.length := by unfold endI; rw [if_pos h]
    rw [this]
  · simp only [decide_eq_false_iff_not] at h
    have : endI s = 1 + anyI (s.drop 1) := by unfold endI; rw [if_neg h]
    rw [this]
    have hw : IntKind.i64.wrap (1 + anyI (s.drop 1)) = 1 + anyI (s.drop 1) := wrap64 (by omega) (by omega)
    rw [hw]

noncomputable def takeS (s : Str) : Part × Str × Bool :=
  if preS s [91, 42, 93] then (⟨3, 0, []⟩, s.drop 3, true)
  else if s.getD 0 0 = 46 then (⟨1, 0, (s.drop 1).take ((endI s) - 1).toNat⟩, s.drop (endI s).toNat, true)
  else if s.getD 0 0 = 63 then (⟨4, 0, (s.drop 1).take ((endI s) - 1).toNat⟩, s.drop (endI s).toNat, true)
  else (⟨2, (atoiV (cutS (s.drop 1) 93).1).1, []⟩, (cutS (s.drop 1) 93).2.1,
    ((((s.getD 0 0).toNat : Int) == 91) && (cutS (s.drop 1) 93).2.2) && ((isNilI (.d (atoiV (cutS (s.drop 1) 93).1).2)).getD false) && (Lib.itoa (atoiV (cutS (s.drop 1) 93).1).1 == (cutS (s.drop 1) 93).1))

theorem cutS_len (s : Str) (c : UInt8) : (cutS s c).1.length ≤ s.length ∧ (cutS s c).2.1.length ≤ s.length := by
  unfold cutS
  split
  · simp only [List.length_take, List.length_drop]; omega
  · simp

theorem takeS_lt (s : Str) (h0 : 0 < s.length) : (takeS s).2.1.length < s.length ∧ (takeS s).1.name.length ≤ s.length := by
  have he := endI_bd s h0
  unfold takeS
  split
  · simp only [List.length_drop, List.length_nil]; omega
  split
  · simp only [List.length_drop, List.length_take]; omega
  split
  · simp only [List.length_drop, List.length_take]; omega
  · have := cutS_len (s.drop 1) 93
    rw [List.length_drop] at this
    simp only [List.length_nil]; omega

theorem walk73 (s : Str) (hs : s.length ≤ 68719476736) (h0 : 0 < s.length) : PCon Tryz.prog 73 [.str s] (.tup [.d (encP (takeS s).1), .d (.str (takeS s).2.1), .d (.bool (takeS s).2.2)]) := by
  refine ok73.pcon (Nat.le_of_ble_eq_true rfl) (by simp [inTR, idsIn, idsInL]) ?_
  have he := endI_bd s h0
  have t1 : Int.toNat 1 = 1 := rfl
  have t3 : Int.toNat 3 = 3 := rfl
  simp only [go_sem, ir73, Nat.reduceAdd, Nat.reduceEqDiff, Nat.reduceBEq, Nat.reduceLeDiff, reduceCtorEq, ↓reduceIte]
  refine wps_call rfl (Con.rl (walk146 s hs h0) 1) ⟨rfl, trivial⟩ ?_
  simp only [go_sem, Nat.reduceAdd, Nat.reduceEqDiff, Nat.reduceBEq, Nat.reduceLeDiff, reduceCtorEq, ↓reduceIte]
  refine wps_call rfl ((walk148 s [91, 42, 93] (by decide)).call trivial) trivial ?_
  simp only [go_sem, Nat.reduceAdd, Nat.reduceEqDiff, Nat.reduceBEq, Nat.reduceLeDiff, reduceCtorEq, ↓reduceIte]
  refine ⟨fun hp => ?_, fun hp => ?_⟩
  · have hv : takeS s = (⟨3, 0, []⟩, s.drop 3, true) := by unfold takeS; rw [if_pos hp]
    have hl : 3 ≤ s.length := by
      unfold preS at hp
      simp only [Bool.and_eq_true, decide_eq_true_eq] at hp
      have := hp.1
      simp only [List.length_cons, List.length_nil] at this
      omega
    rw [hv]
    have q := sls_from s 3
    refine ⟨by omega, by decide, ?_⟩
    rw [show ((s.length : Int) - 3).toNat = ((s.length : Int) - (3 : Nat)).toNat from rfl, t3, q]
    rfl
  · have q2 := sls_fromI s (endI s) (by omega)
    have q3 := sls_from s 1
    refine ⟨by omega, fun h46 => ?_, fun h46 => ⟨by omega, fun h63 => ?_, fun h63 => ⟨by omega, ?_⟩⟩⟩
    · have hc : s.getD 0 0 = 46 := by
        simp only [t0', beq_iff_eq] at h46
        have : (s.getD 0 0).toNat = (46 : UInt8).toNat := by exact_mod_cast h46
        exact UInt8.toNat_inj.1 this
      have hv : takeS s = (⟨1, 0, (s.drop 1).take ((endI s) - 1).toNat⟩, s.drop (endI s).toNat, true) := by unfold takeS; rw [if_neg (by simp [hp]), if_pos hc]
      refine ⟨by omega, by omega, by decide, ?_⟩
      rw [q2, hv, t1]
      rfl
    · have hn46 : ¬ s.getD 0 0 = 46 := by
        intro e
        simp only [t0', e] at h46
        cases h46
      have hc : s.getD 0 0 = 63 := by
        simp only [t0', beq_iff_eq] at h63
        have : (s.getD 0 0).toNat = (63 : UInt8).toNat := by exact_mod_cast h63
        exact UInt8.toNat_inj.1 this
      have hv : takeS s = (⟨4, 0, (s.drop 1).take ((endI s) - 1).toNat⟩, s.drop (endI s).toNat, true) := by unfold takeS; rw [if_neg (by simp [hp]), if_neg hn46, if_pos hc]
      refine ⟨by omega, by omega, by decide, ?_⟩
      rw [q2, hv, t1]
      rfl
    · have hn46 : ¬ s.getD 0 0 = 46 := by
        intro e
        simp only [t0', e] at h46
        cases h46
      have hn63 : ¬ s.getD 0 0 = 63 := by
        intro e
        simp only [t0', e] at h63
        cases h63
      have hv : takeS s = (⟨2, (atoiV (cutS (s.drop 1) 93).1).1, []⟩, (cutS (s.drop 1) 93).2.1,
          ((((s.getD 0 0).toNat : Int) == 91) && (cutS (s.drop 1) 93).2.2) && ((isNilI (.d (atoiV (cutS (s.drop 1) 93).1).2)).getD false) && (Lib.itoa (atoiV (cutS (s.drop 1) 93).1).1 == (cutS (s.drop 1) 93).1)) := by
        unfold takeS; rw [if_neg (by simp [hp]), if_neg hn46, if_neg hn63]
      rw [hv, t1, show ((s.length : Int) - 1).toNat = ((s.length : Int) - (1 : Nat)).toNat from rfl, q3]
      have hd : (s.drop 1).length ≤ 68719476736 := by rw [List.length_drop]; omega
      refine wps_call rfl ((walk149 (s.drop 1) 93 hd).call (by simp [pureR])) trivial ?_
      have hcl := cutS_len (s.drop 1) 93
      generalize hcut : cutS (s.drop 1) 93 = cu at *
      obtain ⟨num, rest, closed⟩ := cu
      simp only [go_sem, Nat.reduceAdd, Nat.reduceEqDiff, Nat.reduceBEq, Nat.reduceLeDiff, reduceCtorEq, ↓reduceIte]
      have hnl : num.length ≤ 68719476736 := by simp only at hcl; omega
      have hab := atoiV_bd num
      have hae := atoiV_err num
      refine wps_call rfl (call150 num hnl) trivial ?_
      generalize hat : atoiV num = av at *
      obtain ⟨iv, er⟩ := av
      simp only at hab hae
      simp only [go_sem, t0', Nat.reduceAdd, Nat.reduceEqDiff, Nat.reduceBEq, Nat.reduceLeDiff, reduceCtorEq, ↓reduceIte]
      refine ⟨by omega, scQ_pure closed (fun _ => ?_) ?_⟩
      · simp only [go_sem, Nat.reduceAdd, Nat.reduceEqDiff, Nat.reduceBEq, Nat.reduceLeDiff, reduceCtorEq, ↓reduceIte]
      simp only [go_sem, Nat.reduceAdd, Nat.reduceEqDiff, Nat.reduceBEq, Nat.reduceLeDiff, reduceCtorEq, ↓reduceIte]
      rcases hae with rfl | rfl
      · refine scQ_pure true (fun _ => ?_) ?_
        · simp only [go_sem, isNilI, Nat.reduceAdd, Nat.reduceEqDiff, Nat.reduceBEq, Nat.reduceLeDiff, reduceCtorEq, ↓reduceIte]
        simp only [go_sem, Nat.reduceAdd, Nat.reduceEqDiff, Nat.reduceBEq, Nat.reduceLeDiff, reduceCtorEq, ↓reduceIte]
        refine scQ_pure (Lib.itoa iv == num) (fun _ => ?_) ?_
        · simp only [go_sem, Nat.reduceAdd, Nat.reduceEqDiff, Nat.reduceBEq, Nat.reduceLeDiff, reduceCtorEq, ↓reduceIte]
          refine wps_call rfl (call100 iv hab.1 hab.2) trivial ?_
          simp only [go_sem, Nat.reduceAdd, Nat.reduceEqDiff, Nat.reduceBEq, Nat.reduceLeDiff, reduceCtorEq, ↓reduceIte]
        simp only [go_sem, isNilI, Option.getD_some, Nat.reduceAdd, Nat.reduceEqDiff, Nat.reduceBEq, Nat.reduceLeDiff, reduceCtorEq, ↓reduceIte]
        rfl
      · refine scQ_pure false (fun _ => ?_) ?_
        · simp only [go_sem, isNilI, Nat.reduceAdd, Nat.reduceEqDiff, Nat.reduceBEq, Nat.reduceLeDiff, reduceCtorEq, ↓reduceIte]
        simp only [go_sem, Nat.reduceAdd, Nat.reduceEqDiff, Nat.reduceBEq, Nat.reduceLeDiff, reduceCtorEq, ↓reduceIte]
        refine scQ_pure (Lib.itoa iv == num) (fun _ => ?_) ?_
        · simp only [go_sem, Nat.reduceAdd, Nat.reduceEqDiff, Nat.reduceBEq, Nat.reduceLeDiff, reduceCtorEq, ↓reduceIte]
          refine wps_call rfl (call100 iv hab.1 hab.2) trivial ?_
          simp only [go_sem, Nat.reduceAdd, Nat.reduceEqDiff, Nat.reduceBEq, Nat.reduceLeDiff, reduceCtorEq, ↓reduceIte]
        simp only [go_sem, isNilI, Option.getD_some, Nat.reduceAdd, Nat.reduceEqDiff, Nat.reduceBEq, Nat.reduceLeDiff, reduceCtorEq, ↓reduceIte]
        rfl
end Go.Proofs

namespace Go.Proofs
open Go Av

noncomputable def parseL : Nat → Str → Option (List Part)
  | 0, _ => some []
  | f + 1, r => if r == [] then some [] else if !(takeS r).2.2 || !(validP (takeS r).1) then none else match parseL f (takeS r).2.1 with
    | some ps => some ((takeS r).1 :: ps)
    | none => none
noncomputable def parseS (s : Str) : List Part × Int :=
  if s == [] then ([], 4) else if (s.length : Int) > 200 then ([], 5) else match parseL (s.length + 2) (46 :: s) with
    | some ps => if (ps.length : Int) > 16 then ([], 9) else (ps, 0)
    | none => ([], 13)

theorem canonL_parts (l : List Part) : canonL (l.map encP) = l.map encP := by
  rw [canonL_map, List.map_map]
  exact List.map_congr_left fun p _ => by simp [encP, Dat.canon, canonL]
attribute [go_sem] canonL_parts

theorem walk26 (s : Str) (hs : s.length ≤ 68719476736) : PCon Tryz.prog 26 [.str s] (.tup [.d (.list 3 ((parseS s).1.map encP)), .d (.int .i64 (parseS s).2)]) := by
  refine ok26.pcon (Nat.le_of_ble_eq_true rfl) (by simp [inTR, idsIn, idsInL]) ?_
  simp only [go_sem, ir26, Nat.reduceAdd, Nat.reduceEqDiff, Nat.reduceBEq, Nat.reduceLeDiff, reduceCtorEq, ↓reduceIte]
  refine ⟨fun h0 => ?_, fun h0 => ⟨fun h200 => ?_, fun h200 => ?_⟩⟩
  · have : parseS s = ([], 4) := by unfold parseS; rw [if_pos h0]
    rw [this]; rfl
  · have : parseS s = ([], 5) := by
      unfold parseS; rw [if_neg (by simp [h0])]
      simp only [decide_eq_true_eq] at h200
      rw [if_pos h200]
    rw [this]; rfl
  have hR : parseS s = match parseL (s.length + 2) (46 :: s) with
    | some ps => if (ps.length : Int) > 16 then ([], 9) else (ps, 0)
    | none => ([], 13) := by
      unfold parseS; rw [if_neg (by simp [h0])]
      simp only [decide_eq_false_iff_not] at h200
      rw [if_neg h200]
  generalize hr0 : parseL (s.length + 2) (46 :: s) = R at hR
  simp only [decide_eq_false_iff_not] at h200
  refine ⟨by first | omega | (simp; omega), ?_⟩
  refine wpc_loop (fun n st => ∃ (ps : List Part) (rest : Str), rest.length < n ∧ ps.length + rest.length ≤ 201 ∧ rest.length ≤ 68719476736 ∧ R = (parseL n rest).map (ps ++ ·) ∧
    st = ⟨[(4, .ms 36 ps.length), (5, .d (.str rest))], [(36, .row ps.length 3 (ps.map encP))]⟩) ?_ ?_
  · refine ⟨s.length + 2, _, Wk.nilT 4 36 3 rfl rfl (by decide), [], 46 :: s, by simp, by simp; omega, by simp; omega, ?_, rfl⟩
    rw [hr0]; cases R <;> simp
  · rintro n st ⟨ps, rest, hn, hb, hl, hinv, rfl⟩
    by_cases he : rest = []
    · subst he
      obtain ⟨n, rfl⟩ : ∃ m, n = m + 1 := by cases n with | zero => simp at hn | succ m => exact ⟨m, rfl⟩
      have e1 : (([] : Str) == []) = true := rfl
      have hRp : R = some ps := by rw [hinv]; simp [parseL]
      subst hRp
      simp only at hR
      simp only [go_sem, e1, Bool.not_true, List.length_map, Nat.reduceAdd, Nat.reduceEqDiff, Nat.reduceBEq, Nat.reduceLeDiff, reduceCtorEq, ↓reduceIte]
      refine ⟨fun h16 => ?_, fun h16 => ?_⟩
      · have h16 : (ps.length : Int) > 16 := by simpa using h16
        rw [if_pos h16] at hR
        rw [hR]; rfl
      · have h16 : ¬ (ps.length : Int) > 16 := by simpa using h16
        rw [if_neg h16] at hR
        rw [hR]
    · have h0r : 0 < rest.length := List.length_pos_iff.2 he
      have e2 : (rest == []) = false := by simpa using he
      obtain ⟨n, rfl⟩ : ∃ m, n = m + 1 := by cases n with | zero => omega | succ m => exact ⟨m, rfl⟩
      have hlt := takeS_lt rest h0r
      simp only [parseL, e2] at hinv
      simp only [go_sem, e2, Bool.not_false, Nat.reduceAdd, Nat.reduceEqDiff, Nat.reduceBEq, Nat.reduceLeDiff, reduceCtorEq, ↓reduceIte]
      refine wps_call rfl ((walk73 rest hl h0r).call (by simp [pureR])) trivial ?_
      generalize htk : takeS rest = tk at *
      obtain ⟨⟨pk, pi, pn⟩, nx, is⟩ := tk
      simp only at hlt hinv
      simp only [go_sem, encP, Nat.reduceAdd, Nat.reduceEqDiff, Nat.reduceBEq, Nat.reduceLeDiff, reduceCtorEq, ↓reduceIte]
      have hv := walk74 ⟨pk, pi, pn⟩ (by simp only; omega)
      refine scQ_pure (!validP ⟨pk, pi, pn⟩) (fun _ => ?_) ?_
      · simp only [go_sem, Nat.reduceAdd, Nat.reduceEqDiff, Nat.reduceBEq, Nat.reduceLeDiff, reduceCtorEq, ↓reduceIte]
        refine wps_call rfl (hv.call trivial) trivial ?_
        simp only [go_sem, Nat.reduceAdd, Nat.reduceEqDiff, Nat.reduceBEq, Nat.reduceLeDiff, reduceCtorEq, ↓reduceIte]
      simp only [go_sem, Nat.reduceAdd, Nat.reduceEqDiff, Nat.reduceBEq, Nat.reduceLeDiff, reduceCtorEq, ↓reduceIte]
      refine ⟨fun hf => ?_, fun hf => ?_⟩
      · rw [hf] at hinv
        simp only [↓reduceIte, Option.map_none] at hinv
        subst hinv
        rw [hR]; rfl
      · rw [hf] at hinv
        refine ⟨by simp, by simp; omega, n, _, by omega, Wk.less ?_, ps ++ [⟨pk, pi, pn⟩], nx, by omega, by simp; omega, by omega, ?_, rfl⟩
        · simp only [go_sem, encP, List.length_append, List.length_singleton, List.map_append, List.map_cons, List.map_nil, Nat.reduceAdd, Nat.reduceEqDiff, Nat.reduceBEq, Nat.reduceLeDiff, reduceCtorEq, ↓reduceIte]
        · rw [hinv]
          cases parseL n nx <;> simp
end Go.Proofs

namespace Go.Proofs
open Go Av

def eqP (a b : Part) : Bool := (a.kind == b.kind) && ((a.index == b.index) && ((a.name == b.name) && true))
theorem eqP_iff {a b : Part} : eqP a b = true ↔ a = b := by
  obtain ⟨k, i, n⟩ := a
  obtain ⟨k', i', n'⟩ := b
  simp [eqP]
def eqPs : List Part → List Part → Bool
  | [], [] => true
  | a :: r, b :: s => eqP a b && eqPs r s
  | _, _ => false
theorem eqPs_iff : ∀ {a b : List Part}, eqPs a b = true ↔ a = b
  | [], [] => by simp [eqPs]
  | [], _ :: _ => by simp [eqPs]
  | _ :: _, [] => by simp [eqPs]
  | a :: r, b :: s => by simp [eqPs, eqP_iff, eqPs_iff]
theorem nth_encP {xs : List Part} {k : Nat} (h : k < xs.length) : nth (xs.map encP) k = .agg [.int .i64 xs[k].kind, .int .i64 xs[k].index, .str xs[k].name] := by
  rw [nth_eq (by simpa using h), List.getElem_map, encP]
theorem eqP_ne {xs ys : List Part} {k : Nat} (h : k < xs.length) (h' : k < ys.length) (hf : eqP xs[k] ys[k] = false) : eqPs xs ys = false := by
  cases e : eqPs xs ys with
  | false => rfl
  | true =>
    have := eqPs_iff.1 e
    subst this
    have := (eqP_iff (a := xs[k]) (b := xs[k])).2 rfl
    rw [hf] at this
    cases this
end Go.Proofs

namespace Go.Proofs
open Go Av
theorem step54 (a : Val) (ha : a.list.length ≤ 68719476736) (ha2 : a.fields.length ≤ 68719476736) (h1 : ∀ x ∈ a.list, CallOK Tryz.prog 54 [.d (encV x)] [] (.d (encV x)) []) (h2 : ∀ x ∈ a.fields, CallOK Tryz.prog 54 [.d (encV x.value)] [] (.d (encV x.value)) []) :
    PCon Tryz.prog 54 [encV a] (.d (encV a)) := by
  refine ok54.pcon (Nat.le_of_ble_eq_true rfl) trivial ?_
  rw [encV_eq]
  simp only [go_sem, ir54, Nat.reduceAdd, Nat.reduceEqDiff, Nat.reduceBEq, Nat.reduceLeDiff, reduceCtorEq, ↓reduceIte]
  refine wpc_loop (fun n s => ∃ k : Nat, k ≤ a.list.length ∧ n = a.list.length - k ∧
    s = ⟨[(1, .ref 1 0), (2, .ref 2 0), (3, .ref 3 0), (12, .d (.list 6 (a.list.map encV))), (13, .d (.int .i64 a.list.length)), (14, .d (.int .i64 k))],
      [(1, .box [.d (.int .i64 a.kind), .d (.int .i64 a.int), .d (.int .i64 a.scale), .d (.str a.text), .d (.list 6 (a.list.map encV)), .d (.list 7 (a.fields.map encF))]),
       (2, .box [.d (.int .i64 0), .d (.int .i64 0), .d (.int .i64 0), .d (.str []), .d (.nil 6), .d (.nil 7)]),
       (3, .box [.d (.int .i64 a.kind), .d (.int .i64 a.int), .d (.int .i64 a.scale), .d (.str a.text), .ms 23 k, .d (.nil 7)]),
       (23, .row k 6 ((a.list.take k).map encV))]⟩) ?_ ?_
  · refine ⟨_, _, Wk.nilB 3 4 23 6 _ rfl rfl rfl (by decide), 0, Nat.zero_le _, rfl, ?_⟩
    simp [put]
  · rintro n s ⟨k, hk, rfl, rfl⟩
    by_cases hlt : k < a.list.length
    · have hx := nth_encV hlt
      have hd : decide ((k : Int) < (a.list.length : Int)) = true := by simp; omega
      simp only [go_sem, hx, hd, Int.toNat_natCast, Nat.reduceAdd, Nat.reduceEqDiff, Nat.reduceBEq, Nat.reduceLeDiff, reduceCtorEq, ↓reduceIte]
      have hc := h1 a.list[k] (List.getElem_mem _)
      rw [encV_eq] at hc
      refine ⟨by simp; omega, wpsL_call rfl hc trivial ?_⟩
      simp only [go_sem, Nat.reduceAdd, Nat.reduceEqDiff, Nat.reduceBEq, Nat.reduceLeDiff, reduceCtorEq, ↓reduceIte]
      refine ⟨by simp, by simp; omega, rfl, a.list.length - (k + 1), _, by omega, Wk.less ?_, k + 1, by omega, rfl, rfl⟩
      rw [List.take_succ_eq_append_getElem hlt, List.map_append]
      simp only [go_sem, wrap64s k (by omega), List.map_cons, List.map_nil, encV_eq a.list[k], Nat.reduceAdd, Nat.reduceEqDiff, Nat.reduceBEq, Nat.reduceLeDiff, reduceCtorEq, ↓reduceIte]
    · have hd : decide ((k : Int) < (a.list.length : Int)) = false := by simp; omega
      obtain rfl : k = a.list.length := by omega
      simp only [go_sem, hd, List.take_length, Nat.reduceAdd, Nat.reduceEqDiff, Nat.reduceBEq, Nat.reduceLeDiff, reduceCtorEq, ↓reduceIte]
      refine wpc_loop (fun n s => ∃ k : Nat, k ≤ a.fields.length ∧ n = a.fields.length - k ∧
        s = ⟨[(2, .ref 2 0), (3, .ref 3 0), (27, .d (.list 7 (a.fields.map encF))), (28, .d (.int .i64 a.fields.length)), (29, .d (.int .i64 k))],
          [(2, .box [.d (.int .i64 0), .d (.int .i64 0), .d (.int .i64 0), .d (.str []), .d (.nil 6), .d (.nil 7)]),
           (3, .box [.d (.int .i64 a.kind), .d (.int .i64 a.int), .d (.int .i64 a.scale), .d (.str a.text), .ms 23 a.list.length, .ms 42 k]),
           (23, .row a.list.length 6 (a.list.map encV)),
           (42, .row k 7 ((a.fields.take k).map encF))]⟩) ?_ ?_
      · refine ⟨_, _, (Wk.nilB 3 5 42 7 _ rfl rfl rfl (by decide)).trans (Wk.less ?_), 0, Nat.zero_le _, rfl, rfl⟩
        simp [put, go_sem]
      · rintro n s ⟨k, hk, rfl, rfl⟩
        by_cases hlt : k < a.fields.length
        · have hx := nth_encF hlt
          have hd : decide ((k : Int) < (a.fields.length : Int)) = true := by simp; omega
          have hc := h2 a.fields[k] (List.getElem_mem _)
          rw [encV_eq] at hc
          simp only [go_sem, hx, hd, Int.toNat_natCast, Nat.reduceAdd, Nat.reduceEqDiff, Nat.reduceBEq, Nat.reduceLeDiff, reduceCtorEq, ↓reduceIte]
          refine ⟨by simp; omega, wpsL_call rfl hc trivial ?_⟩
          simp only [go_sem, Nat.reduceAdd, Nat.reduceEqDiff, Nat.reduceBEq, Nat.reduceLeDiff, reduceCtorEq, ↓reduceIte]
          refine ⟨by simp, by simp; omega, rfl, a.fields.length - (k + 1), _, by omega, Wk.less ?_, k + 1, by omega, rfl, rfl⟩
          rw [List.take_succ_eq_append_getElem hlt, List.map_append]
          simp only [go_sem, wrap64s k (by omega), List.map_cons, List.map_nil, encF_eq a.fields[k], Nat.reduceAdd, Nat.reduceEqDiff, Nat.reduceBEq, Nat.reduceLeDiff, reduceCtorEq, ↓reduceIte]
        · have hd : decide ((k : Int) < (a.fields.length : Int)) = false := by simp; omega
          obtain rfl : k = a.fields.length := by omega
          simp only [go_sem, hd, List.take_length, Nat.reduceAdd, Nat.reduceEqDiff, Nat.reduceBEq, Nat.reduceLeDiff, reduceCtorEq, ↓reduceIte]

mutual
theorem walk54 : ∀ (a : Val), okV a → PCon Tryz.prog 54 [encV a] (.d (encV a))
  | .mk k i s t l f, ha => by
    simp only [okV] at ha
    obtain ⟨a1, a2, a3, a4⟩ := ha
    exact step54 _ a1 a2 (fun x hx => (walk54s l a3 x hx).call trivial) (fun x hx => (walk54f f a4 x hx).call trivial)
theorem walk54s : ∀ (l : List Val), okVs l → ∀ x ∈ l, PCon Tryz.prog 54 [encV x] (.d (encV x))
  | [], _, x, h => by cases h
  | v :: r, ho, x, h => by
    simp only [okVs] at ho
    by_cases e : x = v
    · rw [e]; exact walk54 v ho.1
    · exact walk54s r ho.2 x ((List.mem_cons.1 h).resolve_left e)
theorem walk54f : ∀ (l : List Fld), okFs l → ∀ x ∈ l, PCon Tryz.prog 54 [encV x.value] (.d (encV x.value))
  | [], _, x, h => by cases h
  | .mk n v :: r, ho, x, h => by
    simp only [okFs, okF] at ho
    by_cases e : x = .mk n v
    · rw [e]; exact walk54 v ho.1
    · exact walk54f r ho.2 x ((List.mem_cons.1 h).resolve_left e)
end
end Go.Proofs

namespace Go.Proofs
open Go Av
/-- manifold/path.Check -/
def ir78 : Ic :=
  .seq (.dn (.reg (
    .op (some 2) (.mov (.k (.int .i64 0))) <|
    .nil)) [2]) <|
  .seq (.seq (.dn (.reg (
    .op (some 6) (.mov (.t 0)) <|
    .op (some 7) (.len (.t 6)) <|
    .op (some 8) (.bin .lss (.t 7) (.k (.int .i64 1))) <|
    .op (some 9) (.mov (.t 8)) <|
    .sc 9 false (
      .op (some 10) (.mov (.t 0)) <|
      .op (some 11) (.len (.t 10)) <|
      .op (some 12) (.bin .gtr (.t 11) (.k (.int .i64 16))) <|
      .nil) (.t 12) 13 <|
    .op (some 14) (.mov (.t 13)) <|
    .sc 14 false (
      .op (some 15) (.mov (.t 0)) <|
      .op (some 16) (.ixa true 3 (.t 15) (.k (.int .i64 0))) <|
      .op (some 17) (.fa (.t 16) 0) <|
      .op (some 18) (.ld none (.t 17)) <|
      .op (some 19) (.bin .neq (.t 18) (.k (.int .i64 1))) <|
      .nil) (.t 19) 20 <|
    .nil)) [6, 7, 8, 9, 10, 11, 12, 13, 14, 15, 16, 17, 18, 19]) <|
  .dn (.ite (.t 20) (.seq (.dn (.reg (
      .op (some 2) (.mov (.k (.int .i64 3))) <|
      .nil)) [0, 20]) <|
    .ret)
    (.skip)) [2, 20]) <|
  .seq (.reg (
    .op (some 3) (.mov (.k (.int .i64 (-1)))) <|
    .nil)) <|
  .seq (.seq (.dn (.reg (
    .op (some 21) (.mov (.t 0)) <|
    .op (some 22) (.len (.t 21)) <|
    .op (some 23) (.mov (.k (.int .i64 0))) <|
    .nil)) [0]) <|
  .dn (.block 0 (
    .loop (
      .seq (.reg (
        .op (some 24) (.bin .lss (.t 23) (.t 22)) <|
        .nil)) <|
      .seq (.dn (.ite (.t 24) (.skip)
        (.exit 0)) [24]) <|
      .seq (.dn (.block 1 (
        .seq (.dn (.reg (
          .op (some 25) (.ixa true 3 (.t 21) (.t 23)) <|
          .op (some 26) (.ld (some 3) (.t 25)) <|
          .op (some 5) (.new [(.int .i64 0), (.int .i64 0), (.str [])]) <|
          .op none (.sto (some 3) (.t 5) (.t 26)) <|
          .nil)) [25, 26]) <|
        .seq (.seq (.dn (.reg (
          .op (some 27) (.ld (some 3) (.t 5)) <|
          .call (some 28) (.fn 74) [(.t 27)] <|
          .op (some 29) (.not (.t 28)) <|
          .nil)) [27, 28]) <|
        .dn (.ite (.t 29) (.seq (.dn (.reg (
            .op (some 2) (.mov (.k (.int .i64 3))) <|
            .nil)) [3, 21, 22, 23, 5, 29]) <|
          .ret)
          (.skip)) [2, 29]) <|
        .dn (.reg (
          .op (some 30) (.mov (.t 3)) <|
          .op (some 31) (.ld (some 3) (.t 5)) <|
          .call (some 32) (.fn 159) [(.t 31)] <|
          .op (some 33) (.slen (.t 32)) <|
          .op (some 34) (.bin .add (.t 30) (.t 33)) <|
          .op (some 3) (.mov (.t 34)) <|
          .nil)) [5, 30, 31, 32, 33, 34])) [25, 26, 5, 27, 28, 29, 2, 30, 31, 32, 33, 34]) <|
      .dn (.reg (
        .op (some 35) (.bin .add (.t 23) (.k (.int .i64 1))) <|
        .op (some 23) (.mov (.t 35)) <|
        .nil)) [35]))) [21, 22, 23, 24, 25, 26, 5, 27, 28, 29, 2, 30, 31, 32, 33, 34, 35]) <|
  .seq (.seq (.dn (.reg (
    .op (some 36) (.mov (.t 3)) <|
    .op (some 37) (.bin .gtr (.t 36) (.k (.int .i64 200))) <|
    .nil)) [3, 36]) <|
  .dn (.ite (.t 37) (.seq (.dn (.reg (
      .op (some 2) (.mov (.k (.int .i64 3))) <|
      .nil)) [37]) <|
    .ret)
    (.skip)) [2, 37]) <|
  .seq (.reg (
    .op (some 2) (.mov (.k (.int .i64 0))) <|
    .nil)) <|
  .ret
theorem ok78 : FnOk Tryz.prog 78 38 ir78 [.tmp 2] := FnOk.of Tryz.func78 (by kernel_rfl) (by kernel_rfl) (by kernel_rfl) (by kernel_rfl)
/-- (manifold/path.Part).text -/
def ir159 : Ic :=
  .seq (.dn (.reg (
    .op (some 1) (.box (.t 0)) <|
    .op (some 2) (.mov (.k (.str []))) <|
    .nil)) [0, 2]) <|
  .seq (.seq (.dn (.reg (
    .op (some 3) (.fa (.t 1) 0) <|
    .op (some 4) (.ld none (.t 3)) <|
    .nil)) [3]) <|
  .dn (.block 0 (
    .seq (.dn (.reg (
      .op (some 6) (.bin .eql (.t 4) (.k (.int .i64 1))) <|
      .op (some 5) (.mov (.t 6)) <|
      .nil)) [6]) <|
    .dn (.ite (.t 5) (.seq (.dn (.reg (
        .op (some 7) (.fa (.t 1) 2) <|
        .op (some 8) (.ld none (.t 7)) <|
        .op (some 9) (.bin .cat (.k (.str [46])) (.t 8)) <|
        .op (some 2) (.mov (.t 9)) <|
        .nil)) [1, 4, 5, 7, 8, 9]) <|
      .ret)
      (.seq (.dn (.reg (
        .op (some 11) (.bin .eql (.t 4) (.k (.int .i64 2))) <|
        .op (some 10) (.mov (.t 11)) <|
        .nil)) [5, 11]) <|
      .dn (.ite (.t 10) (.seq (.dn (.reg (
          .op (some 12) (.fa (.t 1) 1) <|
          .op (some 13) (.ld none (.t 12)) <|
          .call (some 14) (.fn 100) [(.t 13)] <|
          .op (some 15) (.bin .cat (.k (.str [91])) (.t 14)) <|
          .op (some 16) (.bin .cat (.t 15) (.k (.str [93]))) <|
          .op (some 2) (.mov (.t 16)) <|
          .nil)) [1, 4, 10, 12, 13, 14, 15, 16]) <|
        .ret)
        (.seq (.dn (.reg (
          .op (some 18) (.bin .eql (.t 4) (.k (.int .i64 3))) <|
          .op (some 17) (.mov (.t 18)) <|
          .nil)) [4, 10, 18]) <|
        .dn (.ite (.t 17) (.seq (.dn (.reg (
            .op (some 2) (.mov (.k (.str [91, 42, 93]))) <|
            .nil)) [1, 17]) <|
          .ret)
          (.skip)) [2, 17])) [2])) [2])) [4, 6, 5, 7, 8, 9, 2, 11, 10, 12, 13, 14, 15, 16, 18, 17]) <|
  .seq (.dn (.reg (
    .op (some 19) (.fa (.t 1) 2) <|
    .op (some 20) (.ld none (.t 19)) <|
    .op (some 21) (.bin .cat (.k (.str [63])) (.t 20)) <|
    .op (some 2) (.mov (.t 21)) <|
    .nil)) [1, 19, 20, 21]) <|
  .ret
theorem ok159 : FnOk Tryz.prog 159 22 ir159 [.tmp 2] := FnOk.of Tryz.func159 (by kernel_rfl) (by kernel_rfl) (by kernel_rfl) (by kernel_rfl)
/-- (manifold/path.Part).applies -/
def ir156 : Ic :=
  .seq (.dn (.reg (
    .op (some 2) (.box (.t 0)) <|
    .op (some 3) (.box (.t 1)) <|
    .op (some 4) (.mov (.k (.bool false))) <|
    .nil)) [0, 1, 4]) <|
  .seq (.seq (.dn (.reg (
    .op (some 5) (.fa (.t 2) 0) <|
    .op (some 6) (.ld none (.t 5)) <|
    .nil)) [2, 5]) <|
  .dn (.block 0 (
    .seq (.dn (.reg (
      .op (some 8) (.bin .eql (.t 6) (.k (.int .i64 1))) <|
      .op (some 7) (.mov (.t 8)) <|
      .nil)) [8]) <|
    .dn (.ite (.t 7) (.seq (.dn (.reg (
        .op (some 9) (.fa (.t 3) 0) <|
        .op (some 10) (.ld none (.t 9)) <|
        .op (some 11) (.bin .eql (.t 10) (.k (.int .i64 9))) <|
        .op (some 4) (.mov (.t 11)) <|
        .nil)) [3, 6, 7, 9, 10, 11]) <|
      .ret)
      (.seq (.dn (.reg (
        .op (some 13) (.bin .eql (.t 6) (.k (.int .i64 4))) <|
        .op (some 12) (.mov (.t 13)) <|
        .nil)) [6, 7, 13]) <|
      .dn (.ite (.t 12) (.seq (.dn (.reg (
          .op (some 14) (.fa (.t 3) 0) <|
          .op (some 15) (.ld none (.t 14)) <|
          .op (some 16) (.bin .eql (.t 15) (.k (.int .i64 10))) <|
          .op (some 17) (.mov (.t 16)) <|
          .sc 17 true (
            .op (some 18) (.fa (.t 3) 4) <|
            .op (some 19) (.ld none (.t 18)) <|
            .op (some 20) (.len (.t 19)) <|
            .op (some 21) (.bin .eql (.t 20) (.k (.int .i64 1))) <|
            .nil) (.t 21) 22 <|
          .op (some 4) (.mov (.t 22)) <|
          .nil)) [3, 12, 14, 15, 16, 17, 18, 19, 20, 21, 22]) <|
        .ret)
        (.skip)) [4, 12])) [4])) [6, 8, 7, 9, 10, 11, 4, 13, 12, 14, 15, 16, 17, 18, 19, 20, 21, 22]) <|
  .seq (.dn (.reg (
    .op (some 23) (.fa (.t 3) 0) <|
    .op (some 24) (.ld none (.t 23)) <|
    .op (some 25) (.bin .eql (.t 24) (.k (.int .i64 8))) <|
    .op (some 4) (.mov (.t 25)) <|
    .nil)) [3, 23, 24, 25]) <|
  .ret
theorem ok156 : FnOk Tryz.prog 156 26 ir156 [.tmp 4] := FnOk.of Tryz.func156 (by kernel_rfl) (by kernel_rfl) (by kernel_rfl) (by kernel_rfl)
/-- (manifold/path.Part).lead -/
def ir84 : Ic :=
  .seq (.dn (.reg (
    .op (some 2) (.box (.t 0)) <|
    .op (some 3) (.box (.t 1)) <|
    .op (some 4) (.mov (.k (.nil 6))) <|
    .nil)) [0, 1, 4]) <|
  .seq (.dn (.block 0 (
    .seq (.dn (.reg (
      .op (some 7) (.fa (.t 2) 0) <|
      .op (some 8) (.ld none (.t 7)) <|
      .op (some 9) (.bin .eql (.t 8) (.k (.int .i64 1))) <|
      .op (some 6) (.mov (.t 9)) <|
      .nil)) [7, 8, 9]) <|
    .ite (.t 6) (.seq (.dn (.reg (
        .op (some 10) (.ld (some 6) (.t 3)) <|
        .op (some 11) (.fa (.t 2) 2) <|
        .op (some 12) (.ld none (.t 11)) <|
        .call (some 13) (.fn 164) [(.t 10), (.t 12)] <|
        .op (some 5) (.mov (.t 13)) <|
        .nil)) [2, 6, 10, 11, 12, 13]) <|
      .seq (.dn (.reg (
        .op (some 14) (.mov (.t 5)) <|
        .op (some 15) (.bin .geq (.t 14) (.k (.int .i64 0))) <|
        .nil)) [14]) <|
      .dn (.ite (.t 15) (.seq (.dn (.reg (
          .op (some 16) (.fa (.t 3) 5) <|
          .op (some 17) (.ld none (.t 16)) <|
          .op (some 18) (.mov (.t 5)) <|
          .op (some 19) (.ixa true 7 (.t 17) (.t 18)) <|
          .op (some 20) (.fa (.t 19) 1) <|
          .op (some 21) (.ld (some 6) (.t 20)) <|
          .op (some 22) (.bls 6 [(.t 21)]) <|
          .op (some 4) (.mov (.t 22)) <|
          .nil)) [3, 5, 15, 16, 17, 18, 19, 20, 21, 22]) <|
        .ret)
        (.skip)) [4, 3, 5, 15])
      (.seq (.dn (.reg (
        .op (some 24) (.fa (.t 2) 0) <|
        .op (some 25) (.ld none (.t 24)) <|
        .op (some 26) (.bin .eql (.t 25) (.k (.int .i64 3))) <|
        .op (some 27) (.mov (.t 26)) <|
        .sc 27 false (
          .op (some 28) (.fa (.t 2) 0) <|
          .op (some 29) (.ld none (.t 28)) <|
          .op (some 30) (.bin .eql (.t 29) (.k (.int .i64 4))) <|
          .op (some 31) (.mov (.t 30)) <|
          .sc 31 true (
            .op (some 32) (.fa (.t 3) 3) <|
            .op (some 33) (.ld none (.t 32)) <|
            .op (some 34) (.fa (.t 2) 2) <|
            .op (some 35) (.ld none (.t 34)) <|
            .op (some 36) (.bin .seq (.t 33) (.t 35)) <|
            .nil) (.t 36) 37 <|
          .nil) (.t 37) 38 <|
        .op (some 23) (.mov (.t 38)) <|
        .nil)) [6, 24, 25, 26, 27, 28, 29, 30, 31, 32, 33, 34, 35, 36, 37, 38]) <|
      .dn (.ite (.t 23) (.seq (.dn (.reg (
          .op (some 39) (.fa (.t 3) 4) <|
          .op (some 40) (.ld none (.t 39)) <|
          .op (some 4) (.mov (.t 40)) <|
          .nil)) [2, 3, 23, 39, 40]) <|
        .ret)
        (.seq (.dn (.reg (
          .op (some 42) (.fa (.t 2) 0) <|
          .op (some 43) (.ld none (.t 42)) <|
          .op (some 44) (.bin .eql (.t 43) (.k (.int .i64 2))) <|
          .op (some 45) (.mov (.t 44)) <|
          .sc 45 true (
            .op (some 46) (.fa (.t 2) 1) <|
            .op (some 47) (.ld none (.t 46)) <|
            .op (some 48) (.fa (.t 3) 4) <|
            .op (some 49) (.ld none (.t 48)) <|
            .op (some 50) (.len (.t 49)) <|
            .op (some 51) (.bin .lss (.t 47) (.t 50)) <|
            .nil) (.t 51) 52 <|
          .op (some 41) (.mov (.t 52)) <|
          .nil)) [23, 42, 43, 44, 45, 46, 47, 48, 49, 50, 51, 52]) <|
        .dn (.ite (.t 41) (.seq (.dn (.reg (
            .op (some 53) (.fa (.t 3) 4) <|
            .op (some 54) (.ld none (.t 53)) <|
            .op (some 55) (.fa (.t 2) 1) <|
            .op (some 56) (.ld none (.t 55)) <|
            .op (some 57) (.fa (.t 2) 1) <|
            .op (some 58) (.ld none (.t 57)) <|
            .op (some 59) (.bin .add (.t 58) (.k (.int .i64 1))) <|
            .op (some 60) (.slc 6 (.t 54) (some (.t 56)) (some (.t 59)) none) <|
            .op (some 4) (.mov (.t 60)) <|
            .nil)) [2, 3, 41, 53, 54, 55, 56, 57, 58, 59, 60]) <|
          .ret)
          (.skip)) [4, 2, 3, 41])) [4]))) [2, 3, 7, 8, 9, 6, 10, 11, 12, 13, 5, 14, 15, 16, 17, 18, 19, 20, 21, 22, 4, 24, 25, 26, 27, 28, 29, 30, 31, 32, 33, 34, 35, 36, 37, 38, 23, 39, 40, 42, 43, 44, 45, 46, 47, 48, 49, 50, 51, 52, 41, 53, 54, 55, 56, 57, 58, 59, 60]) <|
  .seq (.reg (
    .op (some 4) (.mov (.k (.nil 6))) <|
    .nil)) <|
  .ret
theorem ok84 : FnOk Tryz.prog 84 61 ir84 [.tmp 4] := FnOk.of Tryz.func84 (by kernel_rfl) (by kernel_rfl) (by kernel_rfl) (by kernel_rfl)
/-- manifold/path.field -/
def ir164 : Ic :=
  .seq (.dn (.reg (
    .op (some 2) (.box (.t 0)) <|
    .op (some 3) (.box (.t 1)) <|
    .op (some 4) (.mov (.k (.int .i64 0))) <|
    .nil)) [0, 1, 4]) <|
  .seq (.dn (.reg (
    .op (some 5) (.fa (.t 2) 5) <|
    .op (some 6) (.ld none (.t 5)) <|
    .op (some 7) (.fnv (.func 239) [] [(.t 3)]) <|
    .call (some 8) (.fn 160) [(.t 6), (.t 7)] <|
    .op (some 4) (.mov (.t 8)) <|
    .nil)) [2, 3, 5, 6, 7, 8]) <|
  .ret
theorem ok164 : FnOk Tryz.prog 164 9 ir164 [.tmp 4] := FnOk.of Tryz.func164 (by kernel_rfl) (by kernel_rfl) (by kernel_rfl) (by kernel_rfl)
/-- manifold/path.field$1 -/
def ir239 : Ic :=
  .seq (.dn (.reg (
    .op (some 2) (.box (.t 0)) <|
    .op (some 3) (.mov (.k (.bool false))) <|
    .nil)) [0, 3]) <|
  .seq (.dn (.reg (
    .op (some 4) (.fa (.t 2) 0) <|
    .op (some 5) (.ld none (.t 4)) <|
    .op (some 6) (.ld none (.t 1)) <|
    .op (some 7) (.bin .seq (.t 5) (.t 6)) <|
    .op (some 3) (.mov (.t 7)) <|
    .nil)) [2, 4, 5, 6, 7]) <|
  .ret
theorem ok239 : FnOk Tryz.prog 239 8 ir239 [.tmp 3] := FnOk.of Tryz.func239 (by kernel_rfl) (by kernel_rfl) (by kernel_rfl) (by kernel_rfl)
/-- manifold/path.every -/
def ir77 : Ic :=
  .seq (.dn (.reg (
    .op (some 2) (.mov (.k (.bool false))) <|
    .nil)) [2]) <|
  .seq (.dn (.reg (
    .op (some 3) (.mov (.t 0)) <|
    .call (some 4) (.fn 157) [(.t 3), (.k (.fn (.func 158) [] []))] <|
    .op (some 2) (.mov (.t 4)) <|
    .nil)) [0, 3, 4]) <|
  .ret
theorem ok77 : FnOk Tryz.prog 77 5 ir77 [.tmp 2] := FnOk.of Tryz.func77 (by kernel_rfl) (by kernel_rfl) (by kernel_rfl) (by kernel_rfl)
/-- manifold/path.every$1 -/
def ir158 : Ic :=
  .seq (.dn (.reg (
    .op (some 1) (.box (.t 0)) <|
    .op (some 2) (.mov (.k (.bool false))) <|
    .nil)) [0, 2]) <|
  .seq (.dn (.reg (
    .op (some 3) (.fa (.t 1) 0) <|
    .op (some 4) (.ld none (.t 3)) <|
    .op (some 5) (.bin .eql (.t 4) (.k (.int .i64 3))) <|
    .op (some 2) (.mov (.t 5)) <|
    .nil)) [1, 3, 4, 5]) <|
  .ret
theorem ok158 : FnOk Tryz.prog 158 6 ir158 [.tmp 2] := FnOk.of Tryz.func158 (by kernel_rfl) (by kernel_rfl) (by kernel_rfl) (by kernel_rfl)
/-- manifold/path.Find -/
def ir76 : Ic :=
  .seq (.dn (.reg (
    .op (some 2) (.box (.t 0)) <|
    .op (some 4) (.mov (.k (.nil 6))) <|
    .op (some 5) (.mov (.k (.int .i64 0))) <|
    .nil)) [0, 4, 5]) <|
  .seq (.seq (.dn (.reg (
    .op (some 16) (.mov (.t 1)) <|
    .call (some 17) (.fn 78) [(.t 16)] <|
    .op (some 6) (.mov (.t 17)) <|
    .nil)) [16, 17]) <|
  .seq (.dn (.reg (
    .op (some 18) (.mov (.t 6)) <|
    .op (some 19) (.bin .neq (.t 18) (.k (.int .i64 0))) <|
    .nil)) [18]) <|
  .dn (.ite (.t 19) (.seq (.dn (.reg (
      .op (some 20) (.mov (.t 6)) <|
      .op (some 4) (.mov (.k (.nil 6))) <|
      .op (some 5) (.mov (.t 20)) <|
      .nil)) [1, 2, 6, 19, 20]) <|
    .ret)
    (.skip)) [4, 5, 6, 19]) <|
  .seq (.dn (.reg (
    .op (some 21) (.ld (some 6) (.t 2)) <|
    .op (some 22) (.bls 6 [(.t 21)]) <|
    .op (some 7) (.mov (.t 22)) <|
    .nil)) [2, 21, 22]) <|
  .seq (.seq (.reg (
    .op (some 23) (.mov (.t 1)) <|
    .op (some 24) (.len (.t 23)) <|
    .op (some 25) (.mov (.k (.int .i64 0))) <|
    .nil)) <|
  .dn (.block 0 (
    .loop (
      .seq (.reg (
        .op (some 26) (.bin .lss (.t 25) (.t 24)) <|
        .nil)) <|
      .seq (.dn (.ite (.t 26) (.skip)
        (.exit 0)) [26]) <|
      .seq (.dn (.block 1 (
        .seq (.dn (.reg (
          .op (some 27) (.ixa true 3 (.t 23) (.t 25)) <|
          .op (some 28) (.ld (some 3) (.t 27)) <|
          .op (some 9) (.new [(.int .i64 0), (.int .i64 0), (.str [])]) <|
          .op none (.sto (some 3) (.t 9) (.t 28)) <|
          .nil)) [27, 28]) <|
        .seq (.reg (
          .op (some 10) (.mov (.k (.nil 6))) <|
          .nil)) <|
        .seq (.seq (.dn (.reg (
          .op (some 29) (.mov (.t 7)) <|
          .op (some 30) (.len (.t 29)) <|
          .op (some 31) (.mov (.k (.int .i64 0))) <|
          .nil)) [7]) <|
        .dn (.block 2 (
          .loop (
            .seq (.reg (
              .op (some 32) (.bin .lss (.t 31) (.t 30)) <|
              .nil)) <|
            .seq (.dn (.ite (.t 32) (.skip)
              (.exit 2)) [32]) <|
            .seq (.dn (.block 3 (
              .seq (.dn (.reg (
                .op (some 33) (.ixa true 6 (.t 29) (.t 31)) <|
                .op (some 34) (.ld (some 6) (.t 33)) <|
                .op (some 12) (.new [(.int .i64 0), (.int .i64 0), (.int .i64 0), (.str []), (.nil 6), (.nil 7)]) <|
                .op none (.sto (some 6) (.t 12) (.t 34)) <|
                .nil)) [33, 34]) <|
              .seq (.seq (.dn (.reg (
                .op (some 35) (.ld (some 3) (.t 9)) <|
                .op (some 36) (.ld (some 6) (.t 12)) <|
                .call (some 37) (.fn 156) [(.t 35), (.t 36)] <|
                .op (some 38) (.not (.t 37)) <|
                .nil)) [35, 36, 37]) <|
              .dn (.ite (.t 38) (.seq (.dn (.reg (
                  .op (some 4) (.mov (.k (.nil 6))) <|
                  .op (some 5) (.mov (.k (.int .i64 22))) <|
                  .nil)) [1, 23, 24, 25, 9, 10, 29, 30, 31, 12, 38]) <|
                .ret)
                (.skip)) [4, 5, 38]) <|
              .dn (.reg (
                .op (some 39) (.mov (.t 10)) <|
                .op (some 40) (.ld (some 3) (.t 9)) <|
                .op (some 41) (.ld (some 6) (.t 12)) <|
                .call (some 42) (.fn 84) [(.t 40), (.t 41)] <|
                .op (some 43) (.app 6 (.t 39) (.t 42)) <|
                .op (some 10) (.mov (.t 43)) <|
                .nil)) [12, 39, 40, 41, 42, 43])) [33, 34, 12, 35, 36, 37, 38, 4, 5, 39, 40, 41, 42, 43]) <|
            .dn (.reg (
              .op (some 44) (.bin .add (.t 31) (.k (.int .i64 1))) <|
              .op (some 31) (.mov (.t 44)) <|
              .nil)) [44]))) [9, 29, 30, 31, 32, 33, 34, 12, 35, 36, 37, 38, 4, 5, 39, 40, 41, 42, 43, 44]) <|
        .dn (.reg (
          .op (some 45) (.mov (.t 10)) <|
          .op (some 7) (.mov (.t 45)) <|
          .nil)) [10, 45])) [27, 28, 9, 10, 29, 30, 31, 32, 33, 34, 12, 35, 36, 37, 38, 4, 5, 39, 40, 41, 42, 43, 44, 45]) <|
      .dn (.reg (
        .op (some 46) (.bin .add (.t 25) (.k (.int .i64 1))) <|
        .op (some 25) (.mov (.t 46)) <|
        .nil)) [46]))) [23, 24, 25, 26, 27, 28, 9, 10, 29, 30, 31, 32, 33, 34, 12, 35, 36, 37, 38, 4, 5, 39, 40, 41, 42, 43, 44, 45, 46]) <|
  .seq (.seq (.dn (.reg (
    .op (some 47) (.mov (.t 7)) <|
    .op (some 48) (.len (.t 47)) <|
    .op (some 49) (.bin .eql (.t 48) (.k (.int .i64 0))) <|
    .op (some 50) (.mov (.t 49)) <|
    .sc 50 true (
      .op (some 51) (.mov (.t 1)) <|
      .call (some 52) (.fn 77) [(.t 51)] <|
      .op (some 53) (.not (.t 52)) <|
      .nil) (.t 53) 54 <|
    .nil)) [1, 47, 48, 49, 50, 51, 52, 53]) <|
  .dn (.ite (.t 54) (.seq (.dn (.reg (
      .op (some 4) (.mov (.k (.nil 6))) <|
      .op (some 5) (.mov (.k (.int .i64 19))) <|
      .nil)) [7, 54]) <|
    .ret)
    (.skip)) [4, 5, 54]) <|
  .seq (.reg (
    .op (some 13) (.mov (.k (.nil 6))) <|
    .nil)) <|
  .seq (.seq (.dn (.reg (
    .op (some 55) (.mov (.t 7)) <|
    .op (some 56) (.len (.t 55)) <|
    .op (some 57) (.mov (.k (.int .i64 0))) <|
    .nil)) [7]) <|
  .dn (.block 4 (
    .loop (
      .seq (.reg (
        .op (some 58) (.bin .lss (.t 57) (.t 56)) <|
        .nil)) <|
      .seq (.dn (.ite (.t 58) (.skip)
        (.exit 4)) [58]) <|
      .seq (.dn (.block 5 (
        .seq (.dn (.reg (
          .op (some 59) (.ixa true 6 (.t 55) (.t 57)) <|
          .op (some 60) (.ld (some 6) (.t 59)) <|
          .op (some 15) (.new [(.int .i64 0), (.int .i64 0), (.int .i64 0), (.str []), (.nil 6), (.nil 7)]) <|
          .op none (.sto (some 6) (.t 15) (.t 60)) <|
          .nil)) [59, 60]) <|
        .dn (.reg (
          .op (some 61) (.mov (.t 13)) <|
          .op (some 62) (.ld (some 6) (.t 15)) <|
          .call (some 63) (.fn 54) [(.t 62)] <|
          .op (some 64) (.bls 6 [(.t 63)]) <|
          .op (some 65) (.app 6 (.t 61) (.t 64)) <|
          .op (some 13) (.mov (.t 65)) <|
          .nil)) [15, 61, 62, 63, 64, 65])) [59, 60, 15, 61, 62, 63, 64, 65]) <|
      .dn (.reg (
        .op (some 66) (.bin .add (.t 57) (.k (.int .i64 1))) <|
        .op (some 57) (.mov (.t 66)) <|
        .nil)) [66]))) [55, 56, 57, 58, 59, 60, 15, 61, 62, 63, 64, 65, 66]) <|
  .seq (.dn (.reg (
    .op (some 67) (.mov (.t 13)) <|
    .op (some 4) (.mov (.t 67)) <|
    .op (some 5) (.mov (.k (.int .i64 0))) <|
    .nil)) [13, 67]) <|
  .ret
theorem ok76 : FnOk Tryz.prog 76 68 ir76 [.tmp 4, .tmp 5] := FnOk.of Tryz.func76 (by kernel_rfl) (by kernel_rfl) (by kernel_rfl) (by kernel_rfl)
/-- manifold/path.Get -/
def ir28 : Ic :=
  .seq (.dn (.reg (
    .op (some 2) (.box (.t 0)) <|
    .op (some 4) (.new [(.int .i64 0), (.int .i64 0), (.int .i64 0), (.str []), (.nil 6), (.nil 7)]) <|
    .op (some 5) (.mov (.k (.int .i64 0))) <|
    .nil)) [0, 5]) <|
  .seq (.dn (.reg (
    .op (some 9) (.ld (some 6) (.t 2)) <|
    .op (some 10) (.mov (.t 1)) <|
    .call (some 11) (.fn 76) [(.t 9), (.t 10)] <|
    .op (some 8) (.mov (.t 11)) <|
    .op (some 12) (.ext (.t 8) 0) <|
    .op (some 13) (.ext (.t 8) 1) <|
    .op (some 6) (.mov (.t 12)) <|
    .op (some 7) (.mov (.t 13)) <|
    .nil)) [2, 9, 10, 11, 8, 12, 13]) <|
  .seq (.dn (.block 0 (
    .seq (.dn (.reg (
      .op (some 15) (.mov (.t 7)) <|
      .op (some 16) (.bin .neq (.t 15) (.k (.int .i64 0))) <|
      .op (some 14) (.mov (.t 16)) <|
      .nil)) [15, 16]) <|
    .dn (.ite (.t 14) (.seq (.dn (.reg (
        .op (some 17) (.bld [(.int .i64 0), (.int .i64 0), (.int .i64 0), (.str []), (.nil 6), (.nil 7)] []) <|
        .op (some 18) (.mov (.t 7)) <|
        .op none (.sto (some 6) (.t 4) (.t 17)) <|
        .op (some 5) (.mov (.t 18)) <|
        .nil)) [1, 6, 7, 14, 17, 18]) <|
      .ret)
      (.seq (.dn (.reg (
        .op (some 20) (.mov (.t 1)) <|
        .call (some 21) (.fn 77) [(.t 20)] <|
        .op (some 19) (.mov (.t 21)) <|
        .nil)) [1, 7, 14, 20, 21]) <|
      .dn (.ite (.t 19) (.seq (.dn (.reg (
          .op (some 22) (.mov (.t 6)) <|
          .op (some 23) (.bld [(.int .i64 0), (.int .i64 0), (.int .i64 0), (.str []), (.nil 6), (.nil 7)] [(0, 1, (.k (.int .i64 8))), (4, 1, (.t 22))]) <|
          .op none (.sto (some 6) (.t 4) (.t 23)) <|
          .op (some 5) (.mov (.k (.int .i64 0))) <|
          .nil)) [6, 19, 22, 23]) <|
        .ret)
        (.skip)) [5, 19])) [5])) [1, 7, 15, 16, 14, 17, 18, 5, 20, 21, 19, 22, 23]) <|
  .seq (.dn (.reg (
    .op (some 24) (.mov (.t 6)) <|
    .op (some 25) (.ixa true 6 (.t 24) (.k (.int .i64 0))) <|
    .op (some 26) (.ld (some 6) (.t 25)) <|
    .op none (.sto (some 6) (.t 4) (.t 26)) <|
    .op (some 5) (.mov (.k (.int .i64 0))) <|
    .nil)) [6, 24, 25, 26]) <|
  .ret
theorem ok28 : FnOk Tryz.prog 28 27 ir28 [.cell 4 (some 6), .tmp 5] := FnOk.of Tryz.func28 (by kernel_rfl) (by kernel_rfl) (by kernel_rfl) (by kernel_rfl)
/-- manifold/decimal.Sum -/
def ir264 : Ic :=
  .seq (.dn (.reg (
    .op (some 2) (.new [(.int .i64 0), (.int .i64 0)]) <|
    .op (some 3) (.mov (.k (.int .i64 0))) <|
    .nil)) [3]) <|
  .seq (.seq (.dn (.reg (
    .op (some 8) (.mov (.t 0)) <|
    .op (some 9) (.len (.t 8)) <|
    .op (some 10) (.bin .gtr (.t 9) (.k (.int .i64 256))) <|
    .nil)) [8, 9]) <|
  .dn (.ite (.t 10) (.seq (.dn (.reg (
      .op (some 11) (.bld [(.int .i64 0), (.int .i64 0)] []) <|
      .op none (.sto (some 2) (.t 2) (.t 11)) <|
      .op (some 3) (.mov (.k (.int .i64 9))) <|
      .nil)) [0, 10, 11]) <|
    .ret)
    (.skip)) [3, 10]) <|
  .seq (.seq (.dn (.reg (
    .op (some 12) (.mov (.t 0)) <|
    .call (some 13) (.fn 327) [(.t 12)] <|
    .op (some 4) (.mov (.t 13)) <|
    .nil)) [12, 13]) <|
  .seq (.dn (.reg (
    .op (some 14) (.mov (.t 4)) <|
    .op (some 15) (.bin .neq (.t 14) (.k (.int .i64 0))) <|
    .nil)) [14]) <|
  .dn (.ite (.t 15) (.seq (.dn (.reg (
      .op (some 16) (.bld [(.int .i64 0), (.int .i64 0)] []) <|
      .op (some 17) (.mov (.t 4)) <|
      .op none (.sto (some 2) (.t 2) (.t 16)) <|
      .op (some 3) (.mov (.t 17)) <|
      .nil)) [0, 4, 15, 16, 17]) <|
    .ret)
    (.skip)) [3, 4, 15]) <|
  .seq (.reg (
    .op (some 5) (.mov (.k (.int .i64 0))) <|
    .nil)) <|
  .seq (.seq (.reg (
    .op (some 18) (.mov (.t 0)) <|
    .op (some 19) (.len (.t 18)) <|
    .op (some 20) (.mov (.k (.int .i64 0))) <|
    .nil)) <|
  .dn (.block 0 (
    .loop (
      .seq (.reg (
        .op (some 21) (.bin .lss (.t 20) (.t 19)) <|
        .nil)) <|
      .seq (.dn (.ite (.t 21) (.skip)
        (.exit 0)) [21]) <|
      .seq (.dn (.block 1 (
        .seq (.dn (.reg (
          .op (some 22) (.ixa true 2 (.t 18) (.t 20)) <|
          .op (some 23) (.ld (some 2) (.t 22)) <|
          .op (some 7) (.new [(.int .i64 0), (.int .i64 0)]) <|
          .op none (.sto (some 2) (.t 7) (.t 23)) <|
          .nil)) [22, 23]) <|
        .dn (.reg (
          .op (some 24) (.mov (.t 5)) <|
          .op (some 25) (.fa (.t 7) 1) <|
          .op (some 26) (.ld none (.t 25)) <|
          .op (some 27) (.mx (.t 24) (.t 26)) <|
          .op (some 5) (.mov (.t 27)) <|
          .nil)) [7, 24, 25, 26, 27])) [22, 23, 7, 24, 25, 26, 27]) <|
      .dn (.reg (
        .op (some 28) (.bin .add (.t 20) (.k (.int .i64 1))) <|
        .op (some 20) (.mov (.t 28)) <|
        .nil)) [28]))) [18, 19, 20, 21, 22, 23, 7, 24, 25, 26, 27, 28]) <|
  .seq (.dn (.reg (
    .op (some 29) (.mov (.t 0)) <|
    .op (some 30) (.mov (.t 5)) <|
    .call (some 31) (.fn 329) [(.t 29), (.t 30)] <|
    .op (some 32) (.ext (.t 31) 0) <|
    .op (some 33) (.ext (.t 31) 1) <|
    .op none (.sto (some 2) (.t 2) (.t 32)) <|
    .op (some 3) (.mov (.t 33)) <|
    .nil)) [0, 5, 29, 30, 31, 32, 33]) <|
  .ret
theorem ok264 : FnOk Tryz.prog 264 34 ir264 [.cell 2 (some 2), .tmp 3] := FnOk.of Tryz.func264 (by kernel_rfl) (by kernel_rfl) (by kernel_rfl) (by kernel_rfl)
/-- (*manifold/expr.machine).sum -/
def ir191 : Ic :=
  .seq (.dn (.reg (
    .op (some 3) (.box (.t 1)) <|
    .op (some 4) (.new [(.int .i64 0), (.int .i64 0), (.int .i64 0), (.str []), (.nil 6), (.nil 7)]) <|
    .nil)) [1]) <|
  .seq (.dn (.reg (
    .op (some 17) (.fa (.t 3) 2) <|
    .op (some 18) (.ld none (.t 17)) <|
    .call (some 19) (.fn 26) [(.t 18)] <|
    .op (some 16) (.mov (.t 19)) <|
    .op (some 20) (.ext (.t 16) 0) <|
    .op (some 21) (.ext (.t 16) 1) <|
    .op (some 5) (.mov (.t 20)) <|
    .op (some 6) (.mov (.t 21)) <|
    .nil)) [17, 18, 19, 16, 20, 21, 6]) <|
  .seq (.dn (.reg (
    .op (some 23) (.mov (.t 0)) <|
    .op (some 24) (.nck (.t 23)) <|
    .op (some 25) (.fa (.t 24) 0) <|
    .op (some 26) (.ld (some 6) (.t 25)) <|
    .op (some 27) (.mov (.t 5)) <|
    .call (some 28) (.fn 76) [(.t 26), (.t 27)] <|
    .op (some 22) (.mov (.t 28)) <|
    .op (some 29) (.ext (.t 22) 0) <|
    .op (some 30) (.ext (.t 22) 1) <|
    .op (some 7) (.mov (.t 29)) <|
    .op (some 8) (.mov (.t 30)) <|
    .nil)) [5, 23, 24, 25, 26, 27, 28, 22, 29, 30]) <|
  .seq (.seq (.dn (.reg (
    .op (some 31) (.mov (.t 8)) <|
    .op (some 32) (.bin .neq (.t 31) (.k (.int .i64 0))) <|
    .nil)) [31]) <|
  .dn (.ite (.t 32) (.seq (.dn (.reg (
      .op (some 33) (.mov (.t 0)) <|
      .op (some 34) (.mov (.t 8)) <|
      .call (some 35) (.fn 190) [(.t 33), (.t 34)] <|
      .op none (.sto (some 6) (.t 4) (.t 35)) <|
      .nil)) [0, 3, 7, 8, 32, 33, 34, 35]) <|
    .ret)
    (.skip)) [8, 32]) <|
  .seq (.dn (.reg (
    .op (some 36) (.bls 2 []) <|
    .op (some 9) (.mov (.t 36)) <|
    .nil)) [36]) <|
  .seq (.seq (.dn (.reg (
    .op (some 37) (.mov (.t 7)) <|
    .op (some 38) (.len (.t 37)) <|
    .op (some 39) (.mov (.k (.int .i64 0))) <|
    .nil)) [7]) <|
  .dn (.block 0 (
    .loop (
      .seq (.reg (
        .op (some 40) (.bin .lss (.t 39) (.t 38)) <|
        .nil)) <|
      .seq (.dn (.ite (.t 40) (.skip)
        (.exit 0)) [40]) <|
      .seq (.dn (.block 1 (
        .seq (.dn (.reg (
          .op (some 41) (.ixa true 6 (.t 37) (.t 39)) <|
          .op (some 42) (.ld (some 6) (.t 41)) <|
          .op (some 11) (.new [(.int .i64 0), (.int .i64 0), (.int .i64 0), (.str []), (.nil 6), (.nil 7)]) <|
          .op none (.sto (some 6) (.t 11) (.t 42)) <|
          .nil)) [41, 42]) <|
        .seq (.seq (.dn (.regd [(15, 18)] (
          .op (some 43) (.fa (.t 3) 1) <|
          .op (some 44) (.ld none (.t 43)) <|
          .op (some 45) (.bin .eql (.t 44) (.k (.int .i64 0))) <|
          .op (some 46) (.mov (.t 45)) <|
          .sc 46 true (
            .op (some 47) (.fa (.t 11) 0) <|
            .op (some 48) (.ld none (.t 47)) <|
            .op (some 49) (.bin .neq (.t 48) (.k (.int .i64 2))) <|
            .nil) (.t 49) 50 <|
          .op (some 51) (.mov (.t 50)) <|
          .sc 51 false (
            .op (some 52) (.ld (some 6) (.t 11)) <|
            .call (some 53) (.fn 261) [(.t 52)] <|
            .op (some 54) (.not (.t 53)) <|
            .nil) (.t 54) 55 <|
          .op (some 56) (.mov (.t 55)) <|
          .sc 56 false (
            .op (some 57) (.ld (some 6) (.t 11)) <|
            .call (some 58) (.fn 263) [(.t 57)] <|
            .op (some 59) (.fld none (.t 58) 1) <|
            .op (some 60) (.fa (.t 3) 1) <|
            .op (some 61) (.ld none (.t 60)) <|
            .op (some 62) (.bin .gtr (.t 59) (.t 61)) <|
            .nil) (.t 62) 63 <|
          .nil)) [43, 44, 45, 46, 47, 48, 49, 50, 51, 52, 53, 54, 55, 56, 57, 58, 59, 60, 61, 62]) <|
        .dn (.ite (.t 63) (.seq (.dn (.reg (
            .op (some 64) (.mov (.t 0)) <|
            .call (some 65) (.fn 190) [(.t 64), (.k (.int .i64 18))] <|
            .op none (.sto (some 6) (.t 4) (.t 65)) <|
            .nil)) [0, 3, 9, 37, 38, 39, 11, 63, 64, 65]) <|
          .ret)
          (.skip)) [63]) <|
        .dn (.reg (
          .op (some 66) (.mov (.t 9)) <|
          .op (some 67) (.ld (some 6) (.t 11)) <|
          .call (some 68) (.fn 263) [(.t 67)] <|
          .op (some 69) (.bls 2 [(.t 68)]) <|
          .op (some 70) (.app 2 (.t 66) (.t 69)) <|
          .op (some 9) (.mov (.t 70)) <|
          .nil)) [11, 66, 67, 68, 69, 70])) [41, 42, 11, 43, 44, 45, 46, 47, 48, 49, 50, 51, 52, 53, 54, 55, 56, 57, 58, 59, 60, 61, 62, 63, 64, 65, 66, 67, 68, 69, 70]) <|
      .dn (.reg (
        .op (some 71) (.bin .add (.t 39) (.k (.int .i64 1))) <|
        .op (some 39) (.mov (.t 71)) <|
        .nil)) [71]))) [37, 38, 39, 40, 41, 42, 11, 43, 44, 45, 46, 47, 48, 49, 50, 51, 52, 53, 54, 55, 56, 57, 58, 59, 60, 61, 62, 63, 64, 65, 66, 67, 68, 69, 70, 71]) <|
  .seq (.seq (.dn (.reg (
    .op (some 72) (.mov (.t 9)) <|
    .op (some 73) (.len (.t 72)) <|
    .op (some 74) (.bin .gtr (.t 73) (.k (.int .i64 256))) <|
    .nil)) [72, 73]) <|
  .dn (.ite (.t 74) (.seq (.dn (.reg (
      .op (some 75) (.mov (.t 0)) <|
      .call (some 76) (.fn 190) [(.t 75), (.k (.int .i64 9))] <|
      .op none (.sto (some 6) (.t 4) (.t 76)) <|
      .nil)) [0, 3, 9, 74, 75, 76]) <|
    .ret)
    (.skip)) [74]) <|
  .seq (.seq (.dn (.reg (
    .op (some 77) (.fa (.t 3) 1) <|
    .op (some 78) (.ld none (.t 77)) <|
    .op (some 79) (.bin .eql (.t 78) (.k (.int .i64 0))) <|
    .nil)) [77, 78]) <|
  .dn (.ite (.t 79) (.seq (.dn (.reg (
      .op (some 81) (.mov (.t 9)) <|
      .call (some 82) (.fn 264) [(.t 81)] <|
      .op (some 80) (.mov (.t 82)) <|
      .op (some 83) (.ext (.t 80) 0) <|
      .op (some 84) (.ext (.t 80) 1) <|
      .op (some 12) (.new [(.int .i64 0), (.int .i64 0)]) <|
      .op none (.sto (some 2) (.t 12) (.t 83)) <|
      .op (some 13) (.mov (.t 84)) <|
      .nil)) [3, 9, 79, 81, 82, 80, 83, 84]) <|
    .seq (.dn (.reg (
      .op (some 85) (.mov (.t 0)) <|
      .op (some 86) (.ld (some 2) (.t 12)) <|
      .op (some 87) (.mov (.t 13)) <|
      .call (some 88) (.fn 265) [(.t 85), (.k (.bool true)), (.t 86), (.t 87)] <|
      .op none (.sto (some 6) (.t 4) (.t 88)) <|
      .nil)) [0, 12, 13, 85, 86, 87, 88]) <|
    .ret)
    (.skip)) [79]) <|
  .seq (.dn (.reg (
    .op (some 89) (.fa (.t 3) 1) <|
    .op (some 90) (.ld none (.t 89)) <|
    .op (some 91) (.bld [(.int .i64 0), (.int .i64 0)] [(1, 1, (.t 90))]) <|
    .op (some 14) (.new [(.int .i64 0), (.int .i64 0)]) <|
    .op none (.sto (some 2) (.t 14) (.t 91)) <|
    .nil)) [3, 89, 90, 91]) <|
  .seq (.dn (.reg (
    .op (some 93) (.mov (.t 9)) <|
    .call (some 94) (.fn 264) [(.t 93)] <|
    .op (some 92) (.mov (.t 94)) <|
    .op (some 95) (.ext (.t 92) 0) <|
    .op (some 96) (.ext (.t 92) 1) <|
    .op (some 15) (.new [(.int .i64 0), (.int .i64 0)]) <|
    .op none (.sto (some 2) (.t 15) (.t 95)) <|
    .op (some 8) (.mov (.t 96)) <|
    .nil)) [9, 93, 94, 92, 95, 96]) <|
  .seq (.seq (.dn (.reg (
    .op (some 97) (.mov (.t 8)) <|
    .op (some 98) (.bin .neq (.t 97) (.k (.int .i64 0))) <|
    .nil)) [97]) <|
  .dn (.ite (.t 98) (.seq (.dn (.reg (
      .op (some 99) (.mov (.t 0)) <|
      .op (some 100) (.mov (.t 8)) <|
      .call (some 101) (.fn 190) [(.t 99), (.t 100)] <|
      .op none (.sto (some 6) (.t 4) (.t 101)) <|
      .nil)) [0, 14, 15, 8, 98, 99, 100, 101]) <|
    .ret)
    (.skip)) [8, 98]) <|
  .seq (.dn (.reg (
    .op (some 103) (.ld (some 2) (.t 15)) <|
    .op (some 104) (.ld (some 2) (.t 14)) <|
    .call (some 105) (.fn 266) [(.t 103), (.t 104)] <|
    .op (some 102) (.mov (.t 105)) <|
    .op (some 106) (.ext (.t 102) 0) <|
    .op (some 107) (.ext (.t 102) 1) <|
    .op none (.sto (some 2) (.t 15) (.t 106)) <|
    .op (some 8) (.mov (.t 107)) <|
    .nil)) [14, 103, 104, 105, 102, 106, 107]) <|
  .seq (.dn (.reg (
    .op (some 108) (.mov (.t 0)) <|
    .op (some 109) (.ld (some 2) (.t 15)) <|
    .op (some 110) (.mov (.t 8)) <|
    .call (some 111) (.fn 265) [(.t 108), (.k (.bool false)), (.t 109), (.t 110)] <|
    .op none (.sto (some 6) (.t 4) (.t 111)) <|
    .nil)) [0, 15, 8, 108, 109, 110, 111]) <|
  .ret
theorem ok191 : FnOk Tryz.prog 191 112 ir191 [.cell 4 (some 6)] := FnOk.of Tryz.func191 (by kernel_rfl) (by kernel_rfl) (by kernel_rfl) (by kernel_rfl)
/-- (*manifold/expr.machine).truth -/
def ir192 : Ic :=
  .seq (.dn (.reg (
    .op (some 3) (.box (.t 1)) <|
    .op (some 4) (.mov (.k (.bool false))) <|
    .nil)) [1, 4]) <|
  .seq (.dn (.reg (
    .op (some 6) (.mov (.t 0)) <|
    .op (some 7) (.ld (some 5) (.t 3)) <|
    .call (some 8) (.fn 187) [(.t 6), (.t 7)] <|
    .op (some 5) (.new [(.int .i64 0), (.int .i64 0), (.int .i64 0), (.str []), (.nil 6), (.nil 7)]) <|
    .op none (.sto (some 6) (.t 5) (.t 8)) <|
    .nil)) [3, 6, 7, 8]) <|
  .seq (.seq (.dn (.reg (
    .op (some 9) (.mov (.t 0)) <|
    .op (some 10) (.nck (.t 9)) <|
    .op (some 11) (.fa (.t 10) 6) <|
    .op (some 12) (.ld none (.t 11)) <|
    .op (some 13) (.bin .eql (.t 12) (.k (.int .i64 0))) <|
    .op (some 14) (.mov (.t 13)) <|
    .sc 14 true (
      .op (some 15) (.fa (.t 5) 0) <|
      .op (some 16) (.ld none (.t 15)) <|
      .op (some 17) (.bin .neq (.t 16) (.k (.int .i64 1))) <|
      .nil) (.t 17) 18 <|
    .nil)) [9, 10, 11, 12, 13, 14, 15, 16, 17]) <|
  .dn (.ite (.t 18) (.dn (.reg (
      .op (some 19) (.mov (.t 0)) <|
      .call (some 20) (.fn 190) [(.t 19), (.k (.int .i64 18))] <|
      .nil)) [18, 19, 20])
    (.skip)) [18]) <|
  .seq (.dn (.reg (
    .op (some 21) (.mov (.t 0)) <|
    .op (some 22) (.nck (.t 21)) <|
    .op (some 23) (.fa (.t 22) 6) <|
    .op (some 24) (.ld none (.t 23)) <|
    .op (some 25) (.bin .eql (.t 24) (.k (.int .i64 0))) <|
    .op (some 26) (.mov (.t 25)) <|
    .sc 26 true (
      .op (some 27) (.fa (.t 5) 1) <|
      .op (some 28) (.ld none (.t 27)) <|
      .op (some 29) (.bin .eql (.t 28) (.k (.int .i64 1))) <|
      .nil) (.t 29) 30 <|
    .op (some 4) (.mov (.t 30)) <|
    .nil)) [0, 5, 21, 22, 23, 24, 25, 26, 27, 28, 29, 30]) <|
  .ret
theorem ok192 : FnOk Tryz.prog 192 31 ir192 [.tmp 4] := FnOk.of Tryz.func192 (by kernel_rfl) (by kernel_rfl) (by kernel_rfl) (by kernel_rfl)
/-- (*manifold/expr.machine).equal -/
def ir193 : Ic :=
  .seq (.dn (.reg (
    .op (some 4) (.box (.t 1)) <|
    .op (some 5) (.box (.t 2)) <|
    .op (some 6) (.mov (.k (.bool false))) <|
    .nil)) [1, 2, 6]) <|
  .seq (.dn (.block 0 (
    .seq (.dn (.reg (
      .op (some 10) (.mov (.t 0)) <|
      .op (some 11) (.nck (.t 10)) <|
      .op (some 12) (.fa (.t 11) 6) <|
      .op (some 13) (.ld none (.t 12)) <|
      .op (some 14) (.bin .neq (.t 13) (.k (.int .i64 0))) <|
      .op (some 9) (.mov (.t 14)) <|
      .nil)) [10, 11, 12, 13, 14]) <|
    .dn (.ite (.t 9) (.seq (.dn (.reg (
        .op (some 6) (.mov (.k (.bool false))) <|
        .nil)) [0, 4, 5, 9]) <|
      .ret)
      (.seq (.dn (.reg (
        .op (some 16) (.ld (some 6) (.t 4)) <|
        .call (some 17) (.fn 261) [(.t 16)] <|
        .op (some 18) (.mov (.t 17)) <|
        .sc 18 true (
          .op (some 19) (.ld (some 6) (.t 5)) <|
          .call (some 20) (.fn 261) [(.t 19)] <|
          .nil) (.t 20) 21 <|
        .op (some 15) (.mov (.t 21)) <|
        .nil)) [9, 16, 17, 18, 19, 20, 21]) <|
      .dn (.ite (.t 15) (.seq (.dn (.regd [(1, 2)] (
          .op (some 23) (.ld (some 6) (.t 4)) <|
          .call (some 24) (.fn 263) [(.t 23)] <|
          .op (some 25) (.ld (some 6) (.t 5)) <|
          .call (some 26) (.fn 263) [(.t 25)] <|
          .call (some 27) (.fn 262) [(.t 24), (.t 26)] <|
          .op (some 22) (.mov (.t 27)) <|
          .op (some 28) (.ext (.t 22) 0) <|
          .op (some 29) (.ext (.t 22) 1) <|
          .op (some 7) (.mov (.t 28)) <|
          .op (some 8) (.mov (.t 29)) <|
          .nil)) [4, 5, 15, 23, 24, 25, 26, 27, 22, 28, 29]) <|
        .seq (.seq (.dn (.reg (
          .op (some 30) (.mov (.t 8)) <|
          .op (some 31) (.bin .neq (.t 30) (.k (.int .i64 0))) <|
          .nil)) [30]) <|
        .dn (.ite (.t 31) (.dn (.reg (
            .op (some 32) (.mov (.t 0)) <|
            .op (some 33) (.mov (.t 8)) <|
            .call (some 34) (.fn 190) [(.t 32), (.t 33)] <|
            .nil)) [0, 31, 32, 33, 34])
          (.skip)) [0, 31]) <|
        .seq (.dn (.reg (
          .op (some 35) (.mov (.t 8)) <|
          .op (some 36) (.bin .eql (.t 35) (.k (.int .i64 0))) <|
          .op (some 37) (.mov (.t 36)) <|
          .sc 37 true (
            .op (some 38) (.mov (.t 7)) <|
            .op (some 39) (.bin .eql (.t 38) (.k (.int .i64 0))) <|
            .nil) (.t 39) 40 <|
          .op (some 6) (.mov (.t 40)) <|
          .nil)) [7, 8, 35, 36, 37, 38, 39, 40]) <|
        .ret)
        (.seq (.dn (.reg (
          .op (some 42) (.fa (.t 4) 0) <|
          .op (some 43) (.ld none (.t 42)) <|
          .op (some 44) (.fa (.t 5) 0) <|
          .op (some 45) (.ld none (.t 44)) <|
          .op (some 46) (.bin .neq (.t 43) (.t 45)) <|
          .op (some 41) (.mov (.t 46)) <|
          .nil)) [15, 42, 43, 44, 45, 46]) <|
        .dn (.ite (.t 41) (.seq (.dn (.reg (
            .op (some 47) (.mov (.t 0)) <|
            .call (some 48) (.fn 190) [(.t 47), (.k (.int .i64 18))] <|
            .nil)) [0, 4, 5, 41, 47, 48]) <|
          .seq (.reg (
            .op (some 6) (.mov (.k (.bool false))) <|
            .nil)) <|
          .ret)
          (.skip)) [6, 0, 41])) [6])) [6])) [0, 10, 11, 12, 13, 14, 9, 6, 16, 17, 18, 19, 20, 21, 15, 23, 24, 25, 26, 27, 22, 28, 29, 7, 8, 30, 31, 32, 33, 34, 35, 36, 37, 38, 39, 40, 42, 43, 44, 45, 46, 41, 47, 48]) <|
  .seq (.dn (.reg (
    .op (some 49) (.ld (some 6) (.t 4)) <|
    .op (some 50) (.ld (some 6) (.t 5)) <|
    .call (some 51) (.fn 17) [(.t 49), (.t 50)] <|
    .op (some 6) (.mov (.t 51)) <|
    .nil)) [4, 5, 49, 50, 51]) <|
  .ret
theorem ok193 : FnOk Tryz.prog 193 52 ir193 [.tmp 6] := FnOk.of Tryz.func193 (by kernel_rfl) (by kernel_rfl) (by kernel_rfl) (by kernel_rfl)
/-- (*manifold/expr.machine).concat -/
def ir195 : Ic :=
  .seq (.dn (.reg (
    .op (some 4) (.box (.t 1)) <|
    .op (some 5) (.box (.t 2)) <|
    .op (some 6) (.new [(.int .i64 0), (.int .i64 0), (.int .i64 0), (.str []), (.nil 6), (.nil 7)]) <|
    .nil)) [1, 2]) <|
  .seq (.dn (.block 0 (
    .seq (.dn (.reg (
      .op (some 8) (.mov (.t 0)) <|
      .op (some 9) (.nck (.t 8)) <|
      .op (some 10) (.fa (.t 9) 6) <|
      .op (some 11) (.ld none (.t 10)) <|
      .op (some 12) (.bin .neq (.t 11) (.k (.int .i64 0))) <|
      .op (some 7) (.mov (.t 12)) <|
      .nil)) [8, 9, 10, 11, 12]) <|
    .ite (.t 7) (.seq (.dn (.reg (
        .op (some 13) (.bld [(.int .i64 0), (.int .i64 0), (.int .i64 0), (.str []), (.nil 6), (.nil 7)] []) <|
        .op none (.sto (some 6) (.t 6) (.t 13)) <|
        .nil)) [0, 4, 5, 7, 13]) <|
      .ret)
      (.seq (.dn (.reg (
        .op (some 15) (.fa (.t 4) 0) <|
        .op (some 16) (.ld none (.t 15)) <|
        .op (some 17) (.bin .neq (.t 16) (.k (.int .i64 4))) <|
        .op (some 18) (.mov (.t 17)) <|
        .sc 18 false (
          .op (some 19) (.fa (.t 5) 0) <|
          .op (some 20) (.ld none (.t 19)) <|
          .op (some 21) (.bin .neq (.t 20) (.k (.int .i64 4))) <|
          .nil) (.t 21) 22 <|
        .op (some 14) (.mov (.t 22)) <|
        .nil)) [7, 15, 16, 17, 18, 19, 20, 21, 22]) <|
      .ite (.t 14) (.seq (.dn (.reg (
          .op (some 23) (.mov (.t 0)) <|
          .call (some 24) (.fn 190) [(.t 23), (.k (.int .i64 18))] <|
          .op none (.sto (some 6) (.t 6) (.t 24)) <|
          .nil)) [0, 4, 5, 14, 23, 24]) <|
        .ret)
        (.seq (.dn (.reg (
          .op (some 26) (.fa (.t 4) 3) <|
          .op (some 27) (.ld none (.t 26)) <|
          .op (some 28) (.slen (.t 27)) <|
          .op (some 29) (.fa (.t 5) 3) <|
          .op (some 30) (.ld none (.t 29)) <|
          .op (some 31) (.slen (.t 30)) <|
          .op (some 32) (.bin .add (.t 28) (.t 31)) <|
          .op (some 33) (.bin .gtr (.t 32) (.k (.int .i64 1024))) <|
          .op (some 25) (.mov (.t 33)) <|
          .nil)) [14, 26, 27, 28, 29, 30, 31, 32, 33]) <|
        .dn (.ite (.t 25) (.seq (.dn (.reg (
            .op (some 34) (.mov (.t 0)) <|
            .call (some 35) (.fn 190) [(.t 34), (.k (.int .i64 5))] <|
            .op none (.sto (some 6) (.t 6) (.t 35)) <|
            .nil)) [0, 4, 5, 25, 34, 35]) <|
          .ret)
          (.skip)) [0, 25])))) [0, 8, 9, 10, 11, 12, 7, 13, 15, 16, 17, 18, 19, 20, 21, 22, 14, 23, 24, 26, 27, 28, 29, 30, 31, 32, 33, 25, 34, 35]) <|
  .seq (.dn (.reg (
    .op (some 36) (.fa (.t 4) 3) <|
    .op (some 37) (.ld none (.t 36)) <|
    .op (some 38) (.fa (.t 5) 3) <|
    .op (some 39) (.ld none (.t 38)) <|
    .op (some 40) (.bin .cat (.t 37) (.t 39)) <|
    .call (some 41) (.fn 216) [(.t 40)] <|
    .op none (.sto (some 6) (.t 6) (.t 41)) <|
    .nil)) [4, 5, 36, 37, 38, 39, 40, 41]) <|
  .ret
theorem ok195 : FnOk Tryz.prog 195 42 ir195 [.cell 6 (some 6)] := FnOk.of Tryz.func195 (by kernel_rfl) (by kernel_rfl) (by kernel_rfl) (by kernel_rfl)
/-- manifold/value.index -/
def ir278 : Ic :=
  .seq (.dn (.reg (
    .op (some 2) (.box (.t 0)) <|
    .op (some 3) (.box (.t 1)) <|
    .op (some 4) (.mov (.k (.int .i64 0))) <|
    .nil)) [0, 1, 4]) <|
  .seq (.dn (.reg (
    .op (some 5) (.fa (.t 2) 5) <|
    .op (some 6) (.ld none (.t 5)) <|
    .op (some 7) (.fnv (.func 348) [] [(.t 3)]) <|
    .call (some 8) (.fn 160) [(.t 6), (.t 7)] <|
    .op (some 4) (.mov (.t 8)) <|
    .nil)) [2, 3, 5, 6, 7, 8]) <|
  .ret
theorem ok278 : FnOk Tryz.prog 278 9 ir278 [.tmp 4] := FnOk.of Tryz.func278 (by kernel_rfl) (by kernel_rfl) (by kernel_rfl) (by kernel_rfl)
/-- manifold/value.index$1 -/
def ir348 : Ic :=
  .seq (.dn (.reg (
    .op (some 2) (.box (.t 0)) <|
    .op (some 3) (.mov (.k (.bool false))) <|
    .nil)) [0, 3]) <|
  .seq (.dn (.reg (
    .op (some 4) (.fa (.t 2) 0) <|
    .op (some 5) (.ld none (.t 4)) <|
    .op (some 6) (.ld none (.t 1)) <|
    .op (some 7) (.bin .seq (.t 5) (.t 6)) <|
    .op (some 3) (.mov (.t 7)) <|
    .nil)) [2, 4, 5, 6, 7]) <|
  .ret
theorem ok348 : FnOk Tryz.prog 348 8 ir348 [.tmp 3] := FnOk.of Tryz.func348 (by kernel_rfl) (by kernel_rfl) (by kernel_rfl) (by kernel_rfl)
/-- slices.IndexFunc   manifold/api.Field,manifold/api.Field  -/
def ir160 : Ic :=
  .seq (.dn (.reg (
    .op (some 4) (.mov (.k (.int .i64 0))) <|
    .nil)) [4]) <|
  .seq (.seq (.dn (.reg (
    .op (some 6) (.mov (.t 0)) <|
    .op (some 7) (.len (.t 6)) <|
    .op (some 8) (.mov (.k (.int .i64 0))) <|
    .nil)) [6]) <|
  .dn (.block 0 (
    .loop (
      .seq (.reg (
        .op (some 9) (.bin .lss (.t 8) (.t 7)) <|
        .nil)) <|
      .seq (.dn (.ite (.t 9) (.skip)
        (.exit 0)) [9]) <|
      .seq (.dn (.block 1 (
        .seq (.dn (.reg (
          .op (some 10) (.mov (.t 8)) <|
          .op (some 5) (.mov (.t 10)) <|
          .nil)) [10]) <|
        .seq (.dn (.reg (
          .op (some 11) (.mov (.t 1)) <|
          .op (some 12) (.mov (.t 0)) <|
          .op (some 13) (.mov (.t 5)) <|
          .op (some 14) (.ixa true 7 (.t 12) (.t 13)) <|
          .op (some 15) (.ld (some 7) (.t 14)) <|
          .call (some 16) (.dyn (.t 11)) [(.t 15)] <|
          .nil)) [11, 12, 13, 14, 15]) <|
        .dn (.ite (.t 16) (.seq (.dn (.reg (
            .op (some 17) (.mov (.t 5)) <|
            .op (some 4) (.mov (.t 17)) <|
            .nil)) [0, 1, 7, 8, 5, 16, 17]) <|
          .ret)
          (.skip)) [4, 5, 16])) [10, 5, 11, 12, 13, 14, 15, 16, 17, 4]) <|
      .dn (.reg (
        .op (some 18) (.bin .add (.t 8) (.k (.int .i64 1))) <|
        .op (some 8) (.mov (.t 18)) <|
        .nil)) [18]))) [0, 1, 7, 8, 9, 10, 5, 11, 12, 13, 14, 15, 16, 17, 4, 18]) <|
  .seq (.reg (
    .op (some 4) (.mov (.k (.int .i64 (-1)))) <|
    .nil)) <|
  .ret
theorem ok160 : FnOk Tryz.prog 160 19 ir160 [.tmp 4] := FnOk.of Tryz.func160 (by kernel_rfl) (by kernel_rfl) (by kernel_rfl) (by kernel_rfl)
/-- manifold/value.Field -/
def ir201 : Ic :=
  .seq (.dn (.reg (
    .op (some 2) (.box (.t 0)) <|
    .op (some 4) (.new [(.int .i64 0), (.int .i64 0), (.int .i64 0), (.str []), (.nil 6), (.nil 7)]) <|
    .op (some 5) (.mov (.k (.bool false))) <|
    .nil)) [0, 5]) <|
  .seq (.dn (.reg (
    .op (some 7) (.ld (some 6) (.t 2)) <|
    .op (some 8) (.mov (.t 1)) <|
    .call (some 9) (.fn 278) [(.t 7), (.t 8)] <|
    .op (some 6) (.mov (.t 9)) <|
    .nil)) [1, 7, 8, 9]) <|
  .seq (.seq (.dn (.reg (
    .op (some 10) (.fa (.t 2) 0) <|
    .op (some 11) (.ld none (.t 10)) <|
    .op (some 12) (.bin .neq (.t 11) (.k (.int .i64 9))) <|
    .op (some 13) (.mov (.t 12)) <|
    .sc 13 false (
      .op (some 14) (.mov (.t 6)) <|
      .op (some 15) (.bin .lss (.t 14) (.k (.int .i64 0))) <|
      .nil) (.t 15) 16 <|
    .nil)) [10, 11, 12, 13, 14, 15]) <|
  .dn (.ite (.t 16) (.seq (.dn (.reg (
      .op (some 17) (.bld [(.int .i64 0), (.int .i64 0), (.int .i64 0), (.str []), (.nil 6), (.nil 7)] []) <|
      .op none (.sto (some 6) (.t 4) (.t 17)) <|
      .op (some 5) (.mov (.k (.bool false))) <|
      .nil)) [2, 6, 16, 17]) <|
    .ret)
    (.skip)) [5, 16]) <|
  .seq (.dn (.reg (
    .op (some 18) (.fa (.t 2) 5) <|
    .op (some 19) (.ld none (.t 18)) <|
    .op (some 20) (.mov (.t 6)) <|
    .op (some 21) (.ixa true 7 (.t 19) (.t 20)) <|
    .op (some 22) (.fa (.t 21) 1) <|
    .op (some 23) (.ld (some 6) (.t 22)) <|
    .call (some 24) (.fn 54) [(.t 23)] <|
    .op none (.sto (some 6) (.t 4) (.t 24)) <|
    .op (some 5) (.mov (.k (.bool true))) <|
    .nil)) [2, 6, 18, 19, 20, 21, 22, 23, 24]) <|
  .ret
theorem ok201 : FnOk Tryz.prog 201 25 ir201 [.cell 4 (some 6), .tmp 5] := FnOk.of Tryz.func201 (by kernel_rfl) (by kernel_rfl) (by kernel_rfl) (by kernel_rfl)
/-- manifold/schema.Field -/
def ir131 : Ic :=
  .seq (.dn (.reg (
    .op (some 2) (.box (.t 0)) <|
    .op (some 3) (.box (.t 1)) <|
    .op (some 4) (.new [(.int .i64 0), (.str []), (.int .i64 0), (.int .i64 0), (.int .i64 0), (.int .i64 0), (.int .i64 0), (.nil 1), (.nil 7), (.nil 11), (.nil 6)]) <|
    .op (some 5) (.mov (.k (.bool false))) <|
    .nil)) [0, 1, 5]) <|
  .seq (.dn (.reg (
    .op (some 6) (.ld (some 7) (.t 2)) <|
    .op (some 7) (.fnv (.func 221) [] [(.t 3)]) <|
    .call (some 8) (.fn 220) [(.t 6), (.t 7)] <|
    .op (some 9) (.ext (.t 8) 0) <|
    .op (some 10) (.ext (.t 8) 1) <|
    .op none (.sto (some 11) (.t 4) (.t 9)) <|
    .op (some 5) (.mov (.t 10)) <|
    .nil)) [2, 3, 6, 7, 8, 9, 10]) <|
  .ret
theorem ok131 : FnOk Tryz.prog 131 11 ir131 [.cell 4 (some 11), .tmp 5] := FnOk.of Tryz.func131 (by kernel_rfl) (by kernel_rfl) (by kernel_rfl) (by kernel_rfl)
/-- manifold/schema.find -/
def ir220 : Ic :=
  .seq (.dn (.reg (
    .op (some 2) (.box (.t 0)) <|
    .op (some 4) (.new [(.int .i64 0), (.str []), (.int .i64 0), (.int .i64 0), (.int .i64 0), (.int .i64 0), (.int .i64 0), (.nil 1), (.nil 7), (.nil 11), (.nil 6)]) <|
    .op (some 5) (.mov (.k (.bool false))) <|
    .nil)) [0, 5]) <|
  .seq (.seq (.dn (.reg (
    .op (some 7) (.fa (.t 2) 0) <|
    .op (some 8) (.ld none (.t 7)) <|
    .op (some 9) (.bin .neq (.t 8) (.k (.int .i64 9))) <|
    .op (some 10) (.mov (.t 9)) <|
    .sc 10 true (
      .op (some 11) (.fa (.t 2) 0) <|
      .op (some 12) (.ld none (.t 11)) <|
      .op (some 13) (.bin .neq (.t 12) (.k (.int .i64 10))) <|
      .nil) (.t 13) 14 <|
    .nil)) [7, 8, 9, 10, 11, 12, 13]) <|
  .dn (.ite (.t 14) (.seq (.dn (.reg (
      .op (some 15) (.bld [(.int .i64 0), (.str []), (.int .i64 0), (.int .i64 0), (.int .i64 0), (.int .i64 0), (.int .i64 0), (.nil 1), (.nil 7), (.nil 11), (.nil 6)] []) <|
      .op none (.sto (some 11) (.t 4) (.t 15)) <|
      .op (some 5) (.mov (.k (.bool false))) <|
      .nil)) [1, 2, 14, 15]) <|
    .ret)
    (.skip)) [5, 14]) <|
  .seq (.dn (.reg (
    .op (some 16) (.fa (.t 2) 6) <|
    .op (some 17) (.ld none (.t 16)) <|
    .op (some 18) (.mov (.t 1)) <|
    .call (some 19) (.fn 203) [(.t 17), (.t 18)] <|
    .op (some 6) (.mov (.t 19)) <|
    .nil)) [1, 16, 17, 18, 19]) <|
  .seq (.seq (.dn (.reg (
    .op (some 20) (.mov (.t 6)) <|
    .op (some 21) (.bin .lss (.t 20) (.k (.int .i64 0))) <|
    .nil)) [20]) <|
  .dn (.ite (.t 21) (.seq (.dn (.reg (
      .op (some 22) (.bld [(.int .i64 0), (.str []), (.int .i64 0), (.int .i64 0), (.int .i64 0), (.int .i64 0), (.int .i64 0), (.nil 1), (.nil 7), (.nil 11), (.nil 6)] []) <|
      .op none (.sto (some 11) (.t 4) (.t 22)) <|
      .op (some 5) (.mov (.k (.bool false))) <|
      .nil)) [2, 6, 21, 22]) <|
    .ret)
    (.skip)) [5, 21]) <|
  .seq (.dn (.reg (
    .op (some 23) (.fa (.t 2) 6) <|
    .op (some 24) (.ld none (.t 23)) <|
    .op (some 25) (.mov (.t 6)) <|
    .op (some 26) (.ixa true 11 (.t 24) (.t 25)) <|
    .op (some 27) (.ld (some 11) (.t 26)) <|
    .call (some 28) (.fn 226) [(.t 27)] <|
    .op none (.sto (some 11) (.t 4) (.t 28)) <|
    .op (some 5) (.mov (.k (.bool true))) <|
    .nil)) [2, 6, 23, 24, 25, 26, 27, 28]) <|
  .ret
theorem ok220 : FnOk Tryz.prog 220 29 ir220 [.cell 4 (some 11), .tmp 5] := FnOk.of Tryz.func220 (by kernel_rfl) (by kernel_rfl) (by kernel_rfl) (by kernel_rfl)
/-- manifold/schema.Field$1 -/
def ir221 : Ic :=
  .seq (.dn (.reg (
    .op (some 2) (.box (.t 0)) <|
    .op (some 3) (.mov (.k (.bool false))) <|
    .nil)) [0, 3]) <|
  .seq (.dn (.reg (
    .op (some 4) (.fa (.t 2) 1) <|
    .op (some 5) (.ld none (.t 4)) <|
    .op (some 6) (.ld none (.t 1)) <|
    .op (some 7) (.bin .seq (.t 5) (.t 6)) <|
    .op (some 3) (.mov (.t 7)) <|
    .nil)) [2, 4, 5, 6, 7]) <|
  .ret
theorem ok221 : FnOk Tryz.prog 221 8 ir221 [.tmp 3] := FnOk.of Tryz.func221 (by kernel_rfl) (by kernel_rfl) (by kernel_rfl) (by kernel_rfl)
/-- manifold/path.insert$1 -/
def ir161 : Ic :=
  .seq (.dn (.reg (
    .op (some 2) (.box (.t 0)) <|
    .op (some 3) (.mov (.k (.bool false))) <|
    .nil)) [0, 3]) <|
  .seq (.dn (.reg (
    .op (some 4) (.fa (.t 2) 0) <|
    .op (some 5) (.ld none (.t 4)) <|
    .op (some 6) (.ld none (.t 1)) <|
    .op (some 7) (.bin .sgt (.t 5) (.t 6)) <|
    .op (some 3) (.mov (.t 7)) <|
    .nil)) [2, 4, 5, 6, 7]) <|
  .ret
theorem ok161 : FnOk Tryz.prog 161 8 ir161 [.tmp 3] := FnOk.of Tryz.func161 (by kernel_rfl) (by kernel_rfl) (by kernel_rfl) (by kernel_rfl)
end Go.Proofs

namespace Av
open Go

mutual
def fits : Dat → Prop
  | .str s => s.length ≤ 68719476736
  | .int k n => k.min ≤ n ∧ n ≤ k.max
  | .list _ xs => xs.length ≤ 68719476736 ∧ fitsL xs
  | .agg cs => fitsL cs
  | .ptr cs => fitsL cs
  | .iface _ d => fits d
  | _ => True
def fitsL : List Dat → Prop
  | [] => True
  | x :: r => fits x ∧ fitsL r
end
theorem fitsL_iff : ∀ {l : List Dat}, fitsL l ↔ ∀ x ∈ l, fits x
  | [] => by simp [fitsL]
  | x :: r => by simp [fitsL, fitsL_iff (l := r)]
theorem fits_cells {x : Dat} (h : ∀ c ∈ x.cells, fits c) : fits x := by
  cases x with
  | agg cs => simp only [fits]; exact fitsL_iff.2 h
  | _ => exact h _ (by simp [Dat.cells])

theorem Rep.fits {A : Nat → Prop} {w : World} {x : Dat} {v : Value} (h : Rep A w x v) : Av.fits x := by
  induction h with
  | str s h => exact h
  | int k n h => exact h
  | emp sz a cap => simp [Av.fits, fitsL]
  | list sz xs b o n cap vs hn hAb hl hc h1 hsz hh hvl hv ih =>
    refine ⟨hc, fitsL_iff.2 fun x hx => fits_cells fun c hc' => ?_⟩
    have hm : c ∈ flat xs := List.mem_flatMap.2 ⟨x, hx, hc'⟩
    obtain ⟨i, hi, rfl⟩ := List.getElem_of_mem hm
    exact ih i _ _ (List.getElem?_eq_getElem hi) (List.getElem?_eq_getElem (by omega))
  | agg cs arr hl h1 hv ih =>
    simp only [Av.fits]
    refine fitsL_iff.2 fun c hc => ?_
    obtain ⟨i, hi, rfl⟩ := List.getElem_of_mem hc
    exact ih i _ _ (List.getElem?_eq_getElem hi) (Array.getElem?_eq_getElem (by omega))
  | ptr cs b o vs hAb h1 hh hvl hv ih =>
    simp only [Av.fits]
    refine fitsL_iff.2 fun c hc => ?_
    obtain ⟨i, hi, rfl⟩ := List.getElem_of_mem hc
    exact ih i _ _ (List.getElem?_eq_getElem hi) (List.getElem?_eq_getElem (by omega))
  | iface t x v h ih => exact ih
  | _ => trivial

variable [Glb] [Rls]
theorem PCon.of_fits {P : Program} {f : Nat} {ds : List Dat} {v : Av} (hh : Has P f) (h : (∀ d ∈ ds, fits d) → PCon P f ds v) : PCon P f ds v := by
  refine ⟨hh, fun β A w vs hc hvs => (h fun d hd => ?_).2 β A w vs hc hvs⟩
  obtain ⟨i, hi, rfl⟩ := List.getElem_of_mem hd
  have hl : ds.length = vs.size := by simpa using hvs.1
  have := hvs.2 i (.d ds[i]) vs[i] (by simp [hi]) (by simp)
  exact this.of_d.fits
theorem Con.of_fits {P : Program} {f : Nat} {args : List Av} {T : List (Nat × Obj)} {v : Av} {ups : List (Nat × Obj)} (hh : Has P f) (h : (∀ d, .d d ∈ args → fits d) → Con P f args T v ups) : Con P f args T v ups := by
  refine ⟨hh, fun β A w vs hc hvs => (h fun d hd => ?_).2 β A w vs hc hvs⟩
  obtain ⟨i, hi, e⟩ := List.getElem_of_mem hd
  have := hvs.2 i (.d d) (vs[i]'(by have := hvs.1; omega)) (by rw [← e]; simp) (by simp)
  exact this.of_d.fits
theorem FnOk.has {P : Program} {f N : Nat} {ic : Ic} {ris : List RI} (h : FnOk P f N ic ris) : Has P f := by
  obtain ⟨fn, code, h1, h2, h3, _⟩ := h.ex
  exact ⟨fn, h1, by rw [h2]; rfl, h3⟩
end Av

namespace Av
open Go Go.Sort Go.Proofs
variable [Glb] [Rls]

theorem putRow_setRow {w : World} {b : Nat} {C : Array Value} {T : TypeId} {fr : Nat × Nat} (d : Array (List UInt8)) (hh : w.heap[b]? = some (.cells C T fr)) : putRow encStr w b 0 d = w.setRow b (putCells encStr 0 d C) := by
  unfold putRow mapBlock World.setRow
  congr 1
  apply Array.ext_getElem?
  intro k
  simp only [Array.getElem?_modify]
  by_cases hk : b = k
  · subst hk
    rw [hh]
    rfl
  · simp [hk]

theorem flat_str (l : List (List UInt8)) : flat (l.map .str) = l.map .str := by
  induction l with
  | nil => rfl
  | cons x r ih => simp only [flat, List.map_cons, List.flatMap_cons, Dat.cells, List.singleton_append, List.cons.injEq, true_and]; exact ih

section
variable {β : Blocks} {A : Nat → Prop} {w : World} {H : Heap}

/-- a row of strings is written anew in its place, and other blocks are added -/
theorem Stp.rowPut (hc : Core β A w H) {i b ver ver' cap m n : Nat} {ss ys : List (List UInt8)} {C : Array Value} {T : TypeId} (os : Array Go.Obj) (hi : H i = some (.row ver 1 (ss.map .str))) (hb : β i = some b)
    (hh : w.heap[b]? = some (.cells C T (0, 0))) (hcap : C.size = cap * 1) (hys : ys.length ≤ cap) (hm : m ≤ ys.length) (hver : ver ≤ ver') (hlen : ver' = ver → m = ss.length) (hl : ∀ y ∈ ys.take m, y.length ≤ 68719476736) (hbnd : m ≤ 68719476736) :
    Stp β A w H β A (grow (putRow encStr (ahead w n) b 0 ys.toArray) os) (upd H i (some (.row ver' 1 ((ys.take m).map .str)))) ∧
      (grow (putRow encStr (ahead w n) b 0 ys.toArray) os).heap[b]? = some (.cells (putCells encStr 0 ys.toArray C) T (0, 0)) := by
  have h1 : Stp β A w H β A (ahead w n) H := Stp.draw hc rfl rfl rfl rfl
  have hh' : (ahead w n).heap[b]? = some (.cells C T (0, 0)) := hh
  rw [putRow_setRow _ hh']
  have hsz : (putCells encStr 0 ys.toArray C).size = C.size := by simp [putCells]
  have hget : ∀ k, (putCells encStr 0 ys.toArray C)[k]? = (C[k]?).map fun x => if k < ys.length then encStr ys.toArray[k]! else x := by
    intro k
    simp only [putCells, Array.getElem?_mapIdx, Nat.zero_le, true_and, Nat.zero_add, List.size_toArray, Nat.sub_zero]
  have hcell : ∀ (j : Nat) y v, (ys.take m)[j]? = some y → (putCells encStr 0 ys.toArray C)[j]? = some v → v = .string ⟨y.toArray⟩ := by
    intro j y v hy hv
    rw [hget] at hv
    obtain ⟨hj, rfl⟩ := List.getElem?_eq_some_iff.1 hy
    have hj' : j < m ∧ j < ys.length := by simp only [List.length_take] at hj; omega
    cases hC : C[j]? with
    | none => rw [hC] at hv; cases hv
    | some x =>
      rw [hC] at hv
      simp only [Option.map_some, if_pos hj'.2, Option.some.injEq] at hv
      rw [← hv]
      simp [hj'.2]
  have h2 := Stp.rowSet h1.core (ver' := ver') (xs' := (ys.take m).map .str) (C' := putCells encStr 0 ys.toArray C) hi hb hh' hcap hsz hver (fun e => by have := hlen e; simp; omega)
    (fun x hx => by obtain ⟨y, _, rfl⟩ := List.mem_map.1 hx; rfl) (by simp; omega) (by simp; omega)
    (fun j v hj hv => by
      rw [flat_str] at hj
      obtain ⟨y, hy⟩ : ∃ y, (ys.take m)[j]? = some y := ⟨_, List.getElem?_eq_getElem (by simpa using hj)⟩
      rw [hcell j y v hy hv]
      rfl)
    (fun j c v hc' hv => by
      rw [flat_str, List.getElem?_map] at hc'
      cases hy : (ys.take m)[j]? with
      | none => rw [hy] at hc'; cases hc'
      | some y =>
        rw [hy] at hc'
        cases hc'
        rw [hcell j y v hy hv]
        exact .str _ (hl y (List.mem_of_getElem? hy)))
  have hsame : ∀ k, k < ((ahead w n).setRow b (putCells encStr 0 ys.toArray C)).heap.size → (grow ((ahead w n).setRow b (putCells encStr 0 ys.toArray C)) os).heap[k]? = ((ahead w n).setRow b (putCells encStr 0 ys.toArray C)).heap[k]? := by
    intro k hk
    show (_ ++ os)[k]? = _
    rw [Array.getElem?_append_left hk]
  have h3 : Stp β A ((ahead w n).setRow b (putCells encStr 0 ys.toArray C)) (upd H i (some (.row ver' 1 ((ys.take m).map .str)))) β A (grow ((ahead w n).setRow b (putCells encStr 0 ys.toArray C)) os) (upd H i (some (.row ver' 1 ((ys.take m).map .str)))) :=
    Stp.new h2.core rfl rfl rfl (by simp [grow]) hsame (fun _ h => h) (fun _ h => .inl h) (fun k h => by have := h2.core.old k h; simp [grow] at this ⊢; omega)
  refine ⟨(h1.trans h2).trans h3, ?_⟩
  have hset := setRow_heap (ahead w n) b C (putCells encStr 0 ys.toArray C) T (0, 0) hh'
  rw [hsame b (Array.getElem?_eq_some_iff.1 hset).1, hset]

theorem size_one {vs : Array Value} (h : 1 = vs.size) : ∃ x, vs = #[x] := by
  refine ⟨vs[0], ?_⟩
  apply Array.ext
  · simp [← h]
  · intro i h1 h2
    have : i = 0 := by omega
    subst this
    rfl

/-- what a handed row of strings is in memory -/
theorem row_mem (hc : Core β A w H) {i v : Nat} {ss : List (List UInt8)} (hi : H i = some (.row v 1 (ss.map .str))) {u : Value} (hu : VRep β A w H (.ms i v) u) :
    (β i = (none : Option Nat) ∧ ss = [] ∧ ∃ a, u = .slice a 0 0) ∨ ∃ b, ∃ C T cap, β i = (some b : Option Nat) ∧ w.heap[b]? = some (.cells C T (0, 0)) ∧ C.size = cap * 1 ∧ ss.length ≤ cap ∧ u = .slice (some ⟨b, 0, none⟩) ss.length cap ∧
      Go.Sort.Holds encStr w b 0 ss.toArray ∧ ∀ s ∈ ss, s.length ≤ 68719476736 := by
  obtain ⟨_, hcell, hbnd, hrow⟩ := hc.objs i _ hi
  cases hu with
  | ms _ _ _ hoc h0 h1 h2 =>
    obtain ⟨_, hrv⟩ := h1 _ _ _ hi
    have hrv := hrv rfl
    rcases hrv with ⟨hbn, hn, a, rfl⟩ | ⟨b, C, T, fz, cap, hb, hh, hC, hle, rfl⟩
    · exact .inl ⟨hbn, by simpa using hn, a, rfl⟩
    · rcases hrow with ⟨hbn, _⟩ | ⟨b', C', T', cap', hb', hh', hC', hle', h1c, h2c⟩
      · rw [hb] at hbn; cases hbn
      · rw [hb] at hb'
        cases hb'
        rw [hh] at hh'
        cases hh'
        have hval : ∀ j (hj : j < ss.length), C[j]? = some (encStr ss[j]) ∧ ss[j].length ≤ 68719476736 := by
          intro j hj
          have hlt : j < C.size := by rw [hC]; simp at hle; omega
          have := h2c j (.str ss[j]) C[j] (by rw [flat_str]; simp [hj]) (by simp [hlt])
          generalize hz : C[j] = z at this
          cases this with
          | str _ hs => exact ⟨by rw [Array.getElem?_eq_getElem hlt, hz], hs⟩
        refine .inr ⟨b, C, T, cap, hb, hh, hC, by simpa using hle, by simp, ?_, ?_⟩
        · intro j hj
          have hj : j < ss.length := by simpa using hj
          refine ⟨?_, ?_⟩
          · simp only [World.cell?, hh, Nat.zero_add]
            rw [(hval j hj).1]
            simp [hj]
          · simp [World.frozen?, hh]
        · intro s hs
          obtain ⟨j, hj, rfl⟩ := List.getElem_of_mem hs
          exact (hval j hj).2
end

def sortS (ss : List (List UInt8)) : List (List UInt8) := ss.mergeSort fun x y => decide (x ≤ y)
theorem sortS_perm (ss : List (List UInt8)) : (sortS ss).Perm ss := List.mergeSort_perm _ _

theorem CallOK.sort {P : Program} {f : Nat} (hh : Has P f)
    (hS : ∀ (b cap : Nat) (ss : List (List UInt8)) (w : World), Go.Sort.Holds encStr w b 0 ss.toArray → b < w.heap.size → ss.length < 4611686018427387904 → Calls P f #[.slice (some ⟨b, 0, none⟩) ss.length cap] w fun e w' => e = .returned (.tuple #[]) ∧
      ∃ n os, w' = grow (putRow encStr (ahead w n) b 0 (ss.mergeSort fun x y => decide (x ≤ y)).toArray) os)
    (hN : ∀ (a : Option Addr) (cap : Nat) (w : World), Calls P f #[.slice a 0 cap] w fun e w' => e = .returned (.tuple #[]) ∧ w' = w) (i v : Nat) (ss : List (List UInt8)) :
    CallOK P f [.ms i v] [(i, some (.row v 1 (ss.map .str)))] (.tup []) [(i, .row v 1 ((sortS ss).map .str))] := by
  intro β A w H vs hT hc hvs
  have hi : H i = some (.row v 1 (ss.map .str)) := hT _ (List.mem_singleton.2 rfl)
  have hbnd := (hc.objs i _ hi).2.2.1
  obtain ⟨u, rfl⟩ := size_one hvs.1
  have hu := hvs.2 0 (.ms i v) u rfl rfl
  refine .inl ⟨hh, ?_⟩
  rcases row_mem hc hi hu with ⟨hbn, rfl, a, rfl⟩ | ⟨b, C, T, cap, hb, hheap, hC, hle, rfl, hH, hlen⟩
  · refine (hN a 0 w).mono ?_
    rintro e w' ⟨rfl, rfl⟩
    refine ⟨_, rfl, β, A, ?_, .tup [] #[] rfl (by simp)⟩
    have : hputs H [(i, .row v 1 ((sortS []).map .str))] = H := by
      simp only [hputs, sortS, List.mergeSort_nil, List.map_nil]
      exact upd_self _ _ _ (by simpa using hi)
    rw [this]
    exact Stp.refl hc
  · refine (hS b cap ss w hH (Array.getElem?_eq_some_iff.1 hheap).1 (by simp at hbnd; omega)).mono ?_
    rintro e w' ⟨rfl, n, os, rfl⟩
    refine ⟨_, rfl, β, A, ?_, .tup [] #[] rfl (by simp)⟩
    have hl : (sortS ss).length = ss.length := (sortS_perm ss).length_eq
    have := (Stp.rowPut hc (ver' := v) (m := ss.length) (n := n) (ys := sortS ss) os hi hb hheap hC (by omega) (by omega) (Nat.le_refl _) (fun _ => rfl) (fun y hy => hlen y ((sortS_perm ss).mem_iff.1 (List.mem_of_mem_take hy))) (by simpa using hbnd)).1
    rw [List.take_of_length_le (by omega)] at this
    exact this

theorem CallOK.compact {P : Program} {f : Nat} (hh : Has P f)
    (hS : ∀ (b cap : Nat) (ss : List (List UInt8)) (w : World), Go.Sort.Holds encStr w b 0 ss.toArray → ss.length ≤ 9223372036854775807 → ss.length ≤ cap → Calls P f #[.slice (some ⟨b, 0, none⟩) ss.length cap] w fun e w' => e = .returned (.slice (some ⟨b, 0, none⟩) (Lib.compact ss).length cap) ∧
      ∃ q, w' = putRow encStr (ahead w q) b 0 (Lib.compact ss ++ List.replicate (ss.length - (Lib.compact ss).length) []).toArray)
    (hN : ∀ (a : Option Addr) (cap : Nat) (w : World), Calls P f #[.slice a 0 cap] w fun e w' => e = .returned (.slice a 0 cap) ∧ w' = w) (hsub : ∀ ss : List (List UInt8), (Lib.compact ss).Sublist ss) (i v : Nat) (ss : List (List UInt8)) :
    CallOK P f [.ms i v] [(i, some (.row v 1 (ss.map .str)))] (.ms i (v + 1)) [(i, .row (v + 1) 1 ((Lib.compact ss).map .str))] := by
  intro β A w H vs hT hc hvs
  have hi : H i = some (.row v 1 (ss.map .str)) := hT _ (List.mem_singleton.2 rfl)
  have hbnd := (hc.objs i _ hi).2.2.1
  obtain ⟨u, rfl⟩ := size_one hvs.1
  have hu := hvs.2 0 (.ms i v) u rfl rfl
  refine .inl ⟨hh, ?_⟩
  rcases row_mem hc hi hu with ⟨hbn, rfl, a, rfl⟩ | ⟨b, C, T, cap, hb, hheap, hC, hle, rfl, hH, hlen⟩
  · refine (hN a 0 w).mono ?_
    rintro e w' ⟨rfl, hw⟩
    have hw := hw.symm
    subst hw
    have hc0 : Lib.compact ([] : List (List UInt8)) = [] := List.eq_nil_of_length_eq_zero (Nat.le_zero.1 (hsub []).length_le)
    rw [hc0]
    have hst : Stp β A w H (upd β i (none : Option Nat)) A w (upd H i (some (.row (v + 1) 1 []))) :=
      Stp.one hc i (.row (v + 1) 1 []) none rfl rfl rfl (Nat.le_refl _) (fun _ _ _ => rfl) (fun _ h => h) (fun _ h => .inl h) (fun b h => hc.old b h) (by simp) (fun c u hcase hvr => old_vals (.inr ⟨v, 1, _, hi, by omega⟩) c u hcase hvr)
        (fun _ => ⟨by decide, by simp, by simp, .inl ⟨upd_same _ _ _, rfl⟩⟩)
    refine ⟨_, rfl, _, A, hst, ?_⟩
    refine .ms _ _ _ rfl (by simp [hputs, upd]) ?_ (by simp [hputs, upd])
    intro v3 sz3 xs3 h3
    simp only [hputs, upd, List.map_nil, if_true, Option.some.injEq, Obj.row.injEq] at h3
    obtain ⟨rfl, rfl, rfl⟩ := h3
    exact ⟨Nat.le_refl _, fun _ => .inl ⟨upd_same _ _ _, rfl, a, rfl⟩⟩
  · refine (hS b cap ss w hH (by simp at hbnd; omega) hle).mono ?_
    rintro e w' ⟨rfl, q, rfl⟩
    have hs := hsub ss
    have hl := hs.length_le
    obtain ⟨h1, h2⟩ := Stp.rowPut hc (ver' := v + 1) (m := (Lib.compact ss).length) (n := q) (ys := Lib.compact ss ++ List.replicate (ss.length - (Lib.compact ss).length) []) #[] hi hb hheap hC (by simp; omega) (by simp) (by omega) (fun h => by omega)
      (fun y hy => hlen y (hs.subset (by simpa using hy))) (by simp at hbnd; omega)
    have e0 : ∀ w : World, grow w #[] = w := fun w => by simp [grow]
    rw [e0] at h1 h2
    simp only [List.take_left'] at h1
    refine ⟨_, rfl, β, A, h1, ?_⟩
    refine .ms _ _ _ rfl (by simp [hputs, upd]) ?_ (by simp [hputs, upd])
    intro v3 sz3 xs3 h3
    simp only [hputs, upd, if_true, Option.some.injEq, Obj.row.injEq] at h3
    obtain ⟨rfl, rfl, rfl⟩ := h3
    refine ⟨Nat.le_refl _, fun _ => .inr ⟨b, _, T, (0, 0), cap, hb, h2, by simp [putCells, hC], by simp; omega, by simp⟩⟩

theorem hputs_out : ∀ (ups : List (Nat × Obj)) (H : Heap) (m : Nat), ¬ (get ups m).isSome = true → hputs H ups m = H m
  | [], H, m, _ => rfl
  | (i, o) :: r, H, m, h => by
    simp only [get] at h
    split at h
    · exact absurd rfl h
    · rename_i hne
      simp only [hputs]
      rw [hputs_out r _ m h, upd_ne _ _ (Ne.symm hne)]
theorem hputs_same : ∀ (ups : List (Nat × Obj)) (H H' : Heap) (m : Nat), (get ups m).isSome = true → hputs H ups m = hputs H' ups m
  | [], H, H', m, h => by cases h
  | (i, o) :: r, H, H', m, h => by
    simp only [hputs]
    by_cases hr : (get r m).isSome = true
    · exact hputs_same r _ _ m hr
    · rw [hputs_out r _ m hr, hputs_out r _ m hr]
      simp only [get] at h
      split at h
      · rename_i e; subst e; rw [upd_same, upd_same]
      · exact absurd h hr
theorem Stp.nilB {β : Blocks} {A : Nat → Prop} {w : World} {H : Heap} (hc : Core β A w H) {b j k sz : Nat} {cs : List Av} (hb : H b = some (.box cs)) (hj : cs[j]? = some (.d (.nil sz))) (hk : H k = none) (hsz : 0 < sz) :
    ∃ β', Stp β A w H β' A w (upd (upd H k (some (.row 0 sz []))) b (some (.box (cs.set j (.ms k 0))))) := by
  have hne : b ≠ k := fun e => by subst e; rw [hk] at hb; cases hb
  have hst := Stp.rowNil (β := β) hc hk hsz
  have hb1 : upd H k (some (.row 0 sz [])) b = some (.box cs) := by rw [upd_ne _ _ hne]; exact hb
  obtain ⟨bb, C, T, e1, e2, e3, e4, e5⟩ := hst.core.objs b _ hb1
  have hset : w.setRow bb C = w := setRow_same e2
  have hst2 := Stp.boxSet (cs' := cs.set j (.ms k 0)) (C' := C) hst.core hb1 e1 e2 (by simpa using e3) e4 (fun hall i c v hc' hv' => by
    rw [List.getElem?_set] at hc'
    split at hc'
    · rename_i e
      subst e
      split at hc'
      · cases hc'
        obtain ⟨bb0, C0, T0, q1, q2, q3, q4, q5⟩ := hc.objs b _ hb
        have hbb : bb0 = bb := by
          rw [upd_ne _ _ hne] at e1
          rw [q1] at e1
          exact Option.some.inj (BK.mk.inj e1).1
        subst hbb
        rw [e2] at q2
        cases q2
        have hr := (q5 j _ v hj hv').of_d
        exact hall _ _ (VRep.rowNil hr)
      · cases hc'
    · exact hall _ _ (e5 i c v hc' hv'))
  rw [hset] at hst2
  exact ⟨_, hst.trans hst2⟩

/-- a nil slice in a handed box becomes a growing one before the call -/
theorem CallOK.nilBox {P : Program} {f : Cee} {args : List Av} {v : Av} {ups : List (Nat × Obj)} {T : List (Nat × Option Obj)} {i k sz j : Nat} {cs : List Av}
    (h : CallOK P f args ((i, some (.box (cs.set j (.ms k 0)))) :: (k, some (.row 0 sz [])) :: T) v ups) (hT : ∀ e ∈ T, e.1 ≠ i ∧ e.1 ≠ k) (hik : i ≠ k) (hj : cs[j]? = some (.d (.nil sz))) (hsz : 0 < sz)
    (hui : (get ups i).isSome = true) (huk : (get ups k).isSome = true) : CallOK P f args ((i, some (.box cs)) :: (k, none) :: T) v ups := by
  intro β A w H vs hT' hc hvs
  have hi : H i = some (.box cs) := hT' (i, some (.box cs)) List.mem_cons_self
  have hk : H k = none := hT' (k, none) (List.mem_cons_of_mem _ List.mem_cons_self)
  have hst := Stp.nilB hc hi hj hk hsz
  obtain ⟨β2, hst⟩ := hst
  have hput : hputs (upd (upd H k (some (.row 0 sz []))) i (some (.box (cs.set j (.ms k 0))))) ups = hputs H ups := by
    funext m
    by_cases hm : (get ups m).isSome = true
    · exact hputs_same ups _ _ m hm
    · have hmi : m ≠ i := fun e => hm (e ▸ hui)
      have hmk : m ≠ k := fun e => hm (e ▸ huk)
      rw [hputs_out ups _ m hm, hputs_out ups _ m hm, upd_ne _ _ hmi, upd_ne _ _ hmk]
  have := h β2 A w _ vs (fun e he => ?_) hst.core ⟨hvs.1, fun n c u h1 h2 => hst.vals c u (hvs.2 n c u h1 h2)⟩
  · rw [hput] at this
    cases f with
    | fn g =>
      rcases this with ⟨a1, a2⟩ | ⟨u, w', a1, β', A', a2, a3⟩
      · refine .inl ⟨a1, a2.mono ?_⟩
        rintro e w' ⟨u, rfl, β', A', b1, b2⟩
        exact ⟨u, rfl, β', A', hst.trans b1, b2⟩
      · exact .inr ⟨u, w', a1, β', A', hst.trans a2, a3⟩
    | yld =>
      obtain ⟨l, rest, a1, fn, tmps, asg, body, a2, a3⟩ := this
      refine ⟨l, rest, a1, fn, tmps, asg, body, a2, a3.mono ?_⟩
      rintro e w' ⟨u, rfl, β', A', b1, b2⟩
      exact ⟨u, rfl, β', A', hst.trans b1, b2⟩
  · simp only [List.mem_cons] at he
    rcases he with rfl | rfl | he
    · exact upd_same _ _ _
    · rw [upd_ne _ _ (Ne.symm hik)]; exact upd_same _ _ _
    · obtain ⟨q1, q2⟩ := hT e he
      rw [upd_ne _ _ q1, upd_ne _ _ q2]
      exact hT' e (List.mem_cons_of_mem _ (List.mem_cons_of_mem _ he))
end Av

namespace Av
open Go
variable [Glb] [Rls]

section
variable {β : Blocks} {A : Nat → Prop} {w : World} {H : Heap} {D : Nat → Prop}
theorem VRep.sub_of_ms {i ver sz : Nat} {xs : List Dat} {u : Value} (h : VRep β A w H (.ms i ver) u) (hi : H i = some (.row ver sz xs)) : VRep β A w H (.sub i ver 0 xs.length) u := by
  cases h with
  | ms _ _ _ hu h0 h1 h2 =>
    refine .sub _ _ _ _ _ hu h0 ?_ ?_
    · intro v' sz' xs' hr
      obtain ⟨g1, g2⟩ := h1 v' sz' xs' hr
      refine ⟨g1, fun e => ?_⟩
      rw [hi] at hr
      cases hr
      refine ⟨by omega, ?_⟩
      rcases g2 rfl with ⟨b0, n0, a, rfl⟩ | ⟨b, C, T, fz, cap, e1, e2, e3, e4, rfl⟩
      · exact .inl ⟨b0, rfl, n0, a, rfl⟩
      · exact .inr ⟨b, C, T, fz, cap, ⟨b, 0, none⟩, e1, e2, e3, by omega, fun _ => by simp, by simp⟩
    · intro sz' xs' hr
      rw [hi] at hr
      cases hr
/-- a temporary's growing slice is a part of its row -/
theorem Wk.subT {st : St} (t i ver sz : Nat) (xs : List Dat) (ht : get st.tm t = some (.ms i ver)) (hi : get st.hp i = some (.row ver sz xs)) : Wk D st ⟨put st.tm t (.sub i ver 0 xs.length), st.hp⟩ := by
  intro β A w a hc htr
  refine ⟨β, A, hc, fun t' v hv => ?_, fun i o b h1 h2 h3 => ⟨i, o, h1, h2, h3⟩, fun _ h => .inl h, fun c u _ h => h⟩
  rw [get_put] at hv
  split at hv
  · rename_i e
    subst e
    cases hv
    obtain ⟨u, q1, q2⟩ := htr t' _ ht
    exact ⟨u, q1, q2.sub_of_ms hi⟩
  · exact htr t' v hv
end
end Av
namespace Av
open Go
variable [Glb] [Rls]
theorem ren_dats (ρ : Nat → Nat) (ds : List Dat) : renL ρ (ds.map .d) = ds.map .d := by
  induction ds with
  | nil => rfl
  | cons x r ih => simp [renL, Av.ren, ih]
theorem ren_pure {v : Av} (h : pureR v) (ρ : Nat → Nat) : v.ren ρ = v := by
  cases v with
  | d x => rfl
  | tup cs =>
    have h' : ∀ c ∈ cs, ∃ x, c = .d x := h
    have e : ∃ ds : List Dat, cs = ds.map .d := by
      clear h
      induction cs with
      | nil => exact ⟨[], rfl⟩
      | cons c r ih =>
        obtain ⟨x, rfl⟩ := h' c List.mem_cons_self
        obtain ⟨ds, rfl⟩ := ih fun c hc => h' c (List.mem_cons_of_mem _ hc)
        exact ⟨x :: ds, rfl⟩
    obtain ⟨ds, rfl⟩ := e
    simp only [Av.ren, ren_dats]
  | _ => exact h.elim
theorem idsInL_dats (G : Nat → Option Obj) (ds : List Dat) : idsInL G (ds.map .d) := by
  induction ds with
  | nil => trivial
  | cons x r ih => exact ⟨trivial, ih⟩
theorem inT_pure {v : Av} (h : pureR v) (G : Heap) : inT G v := by
  cases v with
  | d x => trivial
  | tup cs =>
    have h' : ∀ c ∈ cs, ∃ x, c = .d x := h
    show idsInL _ cs
    clear h
    induction cs with
    | nil => trivial
    | cons c r ih =>
      obtain ⟨x, rfl⟩ := h' c List.mem_cons_self
      exact ⟨trivial, ih fun c hc => h' c (List.mem_cons_of_mem _ hc)⟩
  | _ => exact h.elim

/-- a method with a receiver whose variables are data: it may change them -/
theorem Con.rw1 {P : Program} {f : Nat} {az cs cs' : List Dat} {v : Av} (h : Con P f (.ref 1000 0 :: az.map .d) [(1000, .box (cs.map .d))] v [(1000, .box (cs'.map .d))]) (hv : pureR v) (i : Nat) :
    CallOK P f (.ref i 0 :: az.map .d) [(i, some (.box (cs.map .d)))] v [(i, .box (cs'.map .d))] := by
  have hcl : ∀ a : List Dat, closed (get [(1000, .box (a.map .d))]) := fun a => closed_of ⟨idsInL_dats _ a, trivial⟩
  have hu : hputs (get [(1000, .box (cs.map .d))]) [(1000, .box (cs'.map .d))] = get [(1000, .box (cs'.map .d))] := by
    rw [← get_puts]; rfl
  have hdom : ∀ (a : List Dat) j, (get [(1000, Obj.box (a.map .d))] j).isSome = true → j = 1000 := by
    intro a j hj
    simp only [get] at hj
    split at hj
    · rename_i e; exact e.symm
    · cases hj
  have := h.call (fun _ => i) ?_ ?_ ?_ (hcl cs) [] ?_ ?_ ?_
  · have e : (az.map Av.d).map (Av.ren fun _ => i) = az.map Av.d := by
      rw [List.map_map]; exact List.map_congr_left fun x _ => by simp [Av.ren]
    simpa [Av.ren, Obj.ren, ren_dats, e, ren_pure hv] using this
  · intro j hj
    rw [hdom _ j hj]
    decide
  · intro a b ha hb _
    rw [hu] at ha hb
    rw [hdom _ a ha, hdom _ b hb]
  · intro c hc
    rcases List.mem_cons.1 hc with rfl | hc
    · rfl
    · obtain ⟨x, _, rfl⟩ := List.mem_map.1 hc; trivial
  · intro e he
    simp only [List.mem_singleton] at he
    subst he
    exact .inl rfl
  · rw [hu]; exact hcl cs'
  · exact inT_pure hv _
end Av
namespace Av
open Go
variable [Glb] [Rls]
/-- a temporary's growing slice becomes data for good -/
theorem Wk.frzT {D : Nat → Prop} {st : St} (t i v sz : Nat) (xs : List Dat) (ht : get st.tm t = some (.ms i v)) (hi : get st.hp i = some (.row v sz xs)) : Wk D st ⟨put st.tm t (.d (.list sz xs)), put st.hp i (.frz v sz xs)⟩ := by
  refine Wk.of_stp ?_
  intro β A w a hc htr
  obtain ⟨u, q1, q2⟩ := htr t _ ht
  have hd : datumAll (get st.hp) [.ms i v] = some (v = v ∧ True, [.list sz xs], [(i, .frz v sz xs)]) := by simp [datumAll, datum, datum1, hi]
  obtain ⟨A1, s1, l1, r1, m1⟩ := datumAll_ok hc hd ⟨rfl, trivial⟩ (us := [u]) rfl (fun k c u' h1 h2 => by
    cases k with
    | zero => simp at h1 h2; subst h1; subst h2; exact q2
    | succ k => simp at h1)
  have hh : get (put st.hp i (.frz v sz xs)) = hputs (get st.hp) [(i, .frz v sz xs)] := funext fun j => by rw [get_put]; rfl
  rw [hh]
  refine ⟨β, A1, s1, ?_⟩
  intro t' v' hv
  rw [get_put] at hv
  split at hv
  · rename_i e
    subst e
    cases hv
    exact ⟨u, q1, .d _ _ (r1 0 _ u rfl rfl)⟩
  · obtain ⟨u', g1, g2⟩ := htr t' v' hv
    exact ⟨u', g1, s1.vals _ _ g2⟩
end Av

namespace Av
open Go
variable [Glb] [Rls]

/-- a closure over one variable, as data -/
abbrev cloD (g : Nat) (cs : List Dat) : Dat := .fn (.func g) [] [.ptr cs]

theorem allD_map (cs : List Dat) : allD (cs.map .d) = some cs := by
  induction cs with
  | nil => rfl
  | cons x r ih => simp only [List.map_cons, allD, ih]


theorem CallOK.clo {P : Program} {f g : Nat} {ds cs : List Dat} {r : Dat} (h : PCon P f (ds ++ [cloD g cs]) (.d r)) (hr : scalar r = true) (i : Nat) :
    CallOK P f (ds.map .d ++ [.clo (.func g) [] [.ref i 0]]) [(i, some (.box (cs.map .d)))] (.d r) [] := by
  intro β A w H vs hT hc hvs
  have hi : H i = some (.box (cs.map .d)) := hT _ (List.mem_singleton.2 rfl)
  have st := Stp.freezeBox hc hi (allD_map cs)
  have hc0 : Core β (fun k => A k ∨ β i = some k) w (get []) := ⟨(by intro i o hi; cases hi), (by intro i j o o' b hi; cases hi), (by intro i o b hi; cases hi), st.core.old, st.core.glob⟩
  refine .inl ⟨h.1, (h.2 β (fun k => A k ∨ β i = some k) w vs hc0 ⟨by have := hvs.1; simp at this ⊢; omega, ?_⟩).mono ?_⟩
  · intro k c v h1 h2
    rw [List.getElem?_map] at h1
    cases e : (ds ++ [cloD g cs])[k]? with
    | none => simp [e] at h1
    | some x =>
      simp only [e, Option.map_some, Option.some.injEq] at h1
      subst h1
      refine .d _ _ ?_
      by_cases hk : k < ds.length
      · rw [List.getElem?_append_left hk] at e
        have := hvs.2 k (.d x) v (by rw [List.getElem?_append_left (by simpa using hk), List.getElem?_map, e]; rfl) h2
        exact (st.vals _ _ this).of_d
      · rw [List.getElem?_append_right (by omega)] at e
        have hk0 : k - ds.length = 0 := by
          rcases Nat.eq_zero_or_pos (k - ds.length) with h | h
          · exact h
          · rw [List.getElem?_eq_none (by simp; omega)] at e; cases e
        rw [hk0] at e
        cases e
        have hlen : (ds.map Av.d).length = ds.length := by simp
        have := hvs.2 k (.clo (.func g) [] [.ref i 0]) v (by rw [List.getElem?_append_right (by simp; omega), hlen, hk0]; rfl) h2
        have h3 := st.vals _ _ this
        cases h3 with
        | clo _ _ _ a1 a2 l1 l2 hf hvv =>
          refine .fn _ _ _ a1 a2 l1 (by simpa using l2) (by intro j c v hj; cases hj) ?_
          intro j c v hj hjv
          match j, hj with
          | 0, hj =>
            cases hj
            have hrf := hvv 0 _ v rfl hjv
            cases hrf with
            | ref _ _ _ _ _ hu g0 g1 g2 =>
              have := g2 cs (by simp [upd])
              simpa using this
          | j + 1, hj => cases hj
  · rintro e w' ⟨v, β1, A1, rfl, hsince, hc1, hv⟩
    obtain ⟨s1, s2, s3, s4, s5, sl, s6, s7, s8⟩ := hsince
    dsimp only at s1 s2 s3 s4 s5 sl
    have hsame : ∀ b, b < w.heap.size → w'.heap[b]? = w.heap[b]? := fun b hb => s5 b hb (by intro i o hi; cases hi)
    have hst : Stp β A w H β A w' H := Stp.new hc s1 s2 s3 s4 hsame (fun _ h => h) (fun _ h => .inl h) (fun b hb => by have := hc.old b hb; omega)
    exact ⟨v, rfl, β, A, hst, .d _ _ (hv.of_d.scalar hr)⟩
/-- a growing row handed as data for good -/
theorem PCon.callFr {P : Program} {f i v sz : Nat} {xs : List Dat} {r : Av} (h : PCon P f [.list sz xs] r) (hr : pureR r) : CallOK P f [.ms i v] [(i, some (.row v sz xs))] r [(i, .frz v sz xs)] := by
  intro β A w H vs hT hc hvs
  have hi : H i = some (.row v sz xs) := hT _ (List.mem_singleton.2 rfl)
  have hd : datumAll H [.ms i v] = some (v = v ∧ True, [.list sz xs], [(i, .frz v sz xs)]) := by simp [datumAll, datum, datum1, hi]
  obtain ⟨A1, s1, l1, r1, m1⟩ := datumAll_ok hc hd ⟨rfl, trivial⟩ (us := vs.toList) (by simpa using hvs.1) (fun k c u h1 h2 => hvs.2 k c u h1 (by simpa using h2))
  have := h.call hr β A1 w _ vs (by simp) s1.core ⟨by simpa using l1, fun k c u h1 h2 => by
    rw [List.getElem?_map] at h1
    cases hq : [Dat.list sz xs][k]? with
    | none => rw [hq] at h1; cases h1
    | some x =>
      rw [hq] at h1
      cases h1
      exact .d _ _ (r1 k x u hq (by simpa using h2))⟩
  rcases this with ⟨a1, a2⟩ | ⟨u, w', a1, β', A', a2, a3⟩
  · refine .inl ⟨a1, a2.mono ?_⟩
    rintro e w' ⟨u, rfl, β', A', b1, b2⟩
    exact ⟨u, rfl, β', A', s1.trans b1, b2⟩
  · exact .inr ⟨u, w', a1, β', A', s1.trans a2, a3⟩
end Av

namespace Go.Proofs
open Go Av

/-- the place of the first field with a property, or -1 -/
def ixF (q : Fld → Bool) (l : List Fld) : Int := match l.findIdx? q with
  | some k => (k : Int)
  | none => -1
theorem walk160 {g : Nat} {cs : List Dat} {q : Fld → Bool} (hq : ∀ x, PCon Tryz.prog g [encF x, .ptr cs] (.d (.bool (q x)))) (l : List Fld) (hl : l.length ≤ 68719476736) :
    PCon Tryz.prog 160 [.list 7 (l.map encF), cloD g cs] (.d (.int .i64 (ixF q l))) := by
  refine ok160.pcon (Nat.le_of_ble_eq_true rfl) trivial ?_
  simp only [go_sem, ir160, List.length_map, Nat.reduceAdd, Nat.reduceEqDiff, Nat.reduceBEq, Nat.reduceLeDiff, reduceCtorEq, ↓reduceIte]
  refine wpc_loop (fun n s => ∃ k : Nat, k ≤ l.length ∧ n = l.length - k ∧ (∀ (j : Nat) (h1 : j < l.length), j < k → q l[j] = false) ∧
    s = ⟨[(0, .d (.list 7 (l.map encF))), (1, .d (cloD g cs)), (7, .d (.int .i64 l.length)), (8, .d (.int .i64 k))], []⟩) ?_ ?_
  · exact ⟨_, _, Wk.refl _, 0, Nat.zero_le _, rfl, by simp, rfl⟩
  · rintro n s ⟨k, hk, rfl, hinv, rfl⟩
    by_cases hlt : k < l.length
    · have hx := nth_encF hlt
      have hd : decide ((k : Int) < (l.length : Int)) = true := by simp; omega
      have hc := (hq l[k]).call trivial
      rw [encF_eq] at hc
      simp only [go_sem, hx, hd, Int.toNat_natCast, List.length_map, Nat.reduceAdd, Nat.reduceEqDiff, Nat.reduceBEq, Nat.reduceLeDiff, reduceCtorEq, ↓reduceIte]
      refine ⟨by omega, wps_call rfl hc trivial ?_⟩
      simp only [go_sem, Nat.reduceAdd, Nat.reduceEqDiff, Nat.reduceBEq, Nat.reduceLeDiff, reduceCtorEq, ↓reduceIte]
      refine ⟨fun hf => ?_, fun hf => ?_⟩
      · have : l.findIdx? q = some k := by
          rw [List.findIdx?_eq_some_iff_getElem]
          exact ⟨hlt, hf, fun j hj => by rw [hinv j (by omega) hj]; decide⟩
        simp only [ixF, this]
      · refine ⟨l.length - (k + 1), _, by omega, Wk.less ?_, k + 1, by omega, rfl, ?_, rfl⟩
        · simp only [go_sem, wrap64s k (by omega), Nat.reduceAdd, Nat.reduceEqDiff, Nat.reduceBEq, Nat.reduceLeDiff, reduceCtorEq, ↓reduceIte]
        · intro j h1 hj
          by_cases e : j = k
          · subst e; exact hf
          · exact hinv j h1 (by omega)
    · have hd : decide ((k : Int) < (l.length : Int)) = false := by simp; omega
      simp only [go_sem, hd, Nat.reduceAdd, Nat.reduceEqDiff, Nat.reduceBEq, Nat.reduceLeDiff, reduceCtorEq, ↓reduceIte]
      have : l.findIdx? q = none := by
        rw [List.findIdx?_eq_none_iff]
        intro x hx
        obtain ⟨j, hj, rfl⟩ := List.getElem_of_mem hx
        exact hinv j hj (by omega)
      simp only [ixF, this]
theorem ixF_bd {q : Fld → Bool} {l : List Fld} : -1 ≤ ixF q l ∧ ixF q l < l.length := by
  unfold ixF
  cases e : l.findIdx? q with
  | none => simp only; omega
  | some k =>
    obtain ⟨h, _⟩ := List.findIdx?_eq_some_iff_getElem.1 e
    simp only; omega
theorem walk239 (x : Fld) (n : Str) : PCon Tryz.prog 239 [encF x, .ptr [.str n]] (.d (.bool (x.name == n))) := by
  refine ok239.pcon (Nat.le_of_ble_eq_true rfl) trivial ?_
  rw [encF_eq]
  simp only [go_sem, ir239, Nat.reduceAdd, Nat.reduceEqDiff, Nat.reduceBEq, Nat.reduceLeDiff, reduceCtorEq, ↓reduceIte]
  exact Nat.one_pos
theorem walk348 (x : Fld) (n : Str) : PCon Tryz.prog 348 [encF x, .ptr [.str n]] (.d (.bool (x.name == n))) := by
  refine ok348.pcon (Nat.le_of_ble_eq_true rfl) trivial ?_
  rw [encF_eq]
  simp only [go_sem, ir348, Nat.reduceAdd, Nat.reduceEqDiff, Nat.reduceBEq, Nat.reduceLeDiff, reduceCtorEq, ↓reduceIte]
  exact Nat.one_pos
def gtB (a b : Str) : Bool := !(strLt a b || a == b)
theorem walk161 (x : Fld) (n : Str) : PCon Tryz.prog 161 [encF x, .ptr [.str n]] (.d (.bool (gtB x.name n))) := by
  refine ok161.pcon (Nat.le_of_ble_eq_true rfl) trivial ?_
  rw [encF_eq]
  simp only [go_sem, ir161, gtB, Nat.reduceAdd, Nat.reduceEqDiff, Nat.reduceBEq, Nat.reduceLeDiff, reduceCtorEq, ↓reduceIte]
  exact Nat.one_pos
/-- the place of the first field with a name -/
def ixN (n : Str) (l : List Fld) : Int := ixF (fun f => f.name == n) l
theorem walk164 (v : Val) (n : Str) (hl : v.fields.length ≤ 68719476736) : PCon Tryz.prog 164 [encV v, .str n] (.d (.int .i64 (ixN n v.fields))) := by
  refine ok164.pcon (Nat.le_of_ble_eq_true rfl) trivial ?_
  have hc := CallOK.clo (ds := [.list 7 (v.fields.map encF)]) (walk160 (fun x => walk239 x n) v.fields hl) rfl 3
  simp only [List.map_cons, List.map_nil, List.cons_append, List.nil_append] at hc
  rw [encV_eq]
  simp only [go_sem, ir164, Nat.reduceAdd, Nat.reduceEqDiff, Nat.reduceBEq, Nat.reduceLeDiff, reduceCtorEq, ↓reduceIte]
  refine wps_call rfl hc ⟨rfl, trivial⟩ ?_
  simp only [go_sem, ixN, Nat.reduceAdd, Nat.reduceEqDiff, Nat.reduceBEq, Nat.reduceLeDiff, reduceCtorEq, ↓reduceIte]
theorem walk278 (v : Val) (n : Str) (hl : v.fields.length ≤ 68719476736) : PCon Tryz.prog 278 [encV v, .str n] (.d (.int .i64 (ixN n v.fields))) := by
  refine ok278.pcon (Nat.le_of_ble_eq_true rfl) trivial ?_
  have hc := CallOK.clo (ds := [.list 7 (v.fields.map encF)]) (walk160 (fun x => walk348 x n) v.fields hl) rfl 3
  simp only [List.map_cons, List.map_nil, List.cons_append, List.nil_append] at hc
  rw [encV_eq]
  simp only [go_sem, ir278, Nat.reduceAdd, Nat.reduceEqDiff, Nat.reduceBEq, Nat.reduceLeDiff, reduceCtorEq, ↓reduceIte]
  refine wps_call rfl hc ⟨rfl, trivial⟩ ?_
  simp only [go_sem, ixN, Nat.reduceAdd, Nat.reduceEqDiff, Nat.reduceBEq, Nat.reduceLeDiff, reduceCtorEq, ↓reduceIte]

/-- does a part of a path apply to a value? -/
def appP (p : Part) (v : Val) : Bool := if p.kind == 1 then v.kind == 9 else if p.kind == 4 then (v.kind == 10) && (((v.list.length : Nat) : Int) == 1) else v.kind == 8
theorem walk156 (p : Part) (v : Val) : PCon Tryz.prog 156 [encP p, encV v] (.d (.bool (appP p v))) := by
  refine ok156.pcon (Nat.le_of_ble_eq_true rfl) trivial ?_
  rw [encV_eq]
  simp only [encP, appP]
  simp only [go_sem, ir156, Nat.reduceAdd, Nat.reduceEqDiff, Nat.reduceBEq, Nat.reduceLeDiff, reduceCtorEq, ↓reduceIte]
  refine ⟨fun h => ?_, fun h => ?_⟩
  · simp only [h, ↓reduceIte]
  simp only [h, Bool.false_eq_true, ↓reduceIte]
  try simp only [go_sem, Nat.reduceAdd, Nat.reduceEqDiff, Nat.reduceBEq, Nat.reduceLeDiff, reduceCtorEq, ↓reduceIte]
  refine ⟨fun h2 => ?_, fun h2 => ?_⟩
  · simp only [h2, ↓reduceIte]
    refine scQ_pure (((v.list.length : Nat) : Int) == 1) (fun _ => ?_) ?_
    · simp only [go_sem, List.length_map, Nat.reduceAdd, Nat.reduceEqDiff, Nat.reduceBEq, Nat.reduceLeDiff, reduceCtorEq, ↓reduceIte]
    · simp only [go_sem, Nat.reduceAdd, Nat.reduceEqDiff, Nat.reduceBEq, Nat.reduceLeDiff, reduceCtorEq, ↓reduceIte]
  · simp only [h2, Bool.false_eq_true, ↓reduceIte]
end Go.Proofs

namespace Go.Proofs
open Go Av

/-- where a part of a path leads -/
def ledP (p : Part) (v : Val) : List Val :=
  if p.kind == 1 then (if ixN p.name v.fields ≥ 0 then [((v.fields[(ixN p.name v.fields).toNat]?).map Fld.value).getD (.mk 0 0 0 [] [] [])] else [])
  else if (p.kind == 3) || ((p.kind == 4) && (v.text == p.name)) then v.list
  else if (p.kind == 2) && decide (p.index < ((v.list.length : Nat) : Int)) then (v.list.drop p.index.toNat).take 1 else []
theorem walk84 (p : Part) (v : Val) (hl : v.fields.length ≤ 68719476736) (hl2 : v.list.length ≤ 68719476736) (hi : 0 ≤ p.index) : PCon Tryz.prog 84 [encP p, encV v] (.d (.list 6 ((ledP p v).map encV))) := by
  refine ok84.pcon (Nat.le_of_ble_eq_true rfl) trivial ?_
  have c164 := (walk164 v p.name hl).call trivial
  have hbd := ixF_bd (q := fun f => f.name == p.name) (l := v.fields)
  change -1 ≤ ixN p.name v.fields ∧ ixN p.name v.fields < v.fields.length at hbd
  generalize hT : ledP p v = T
  unfold ledP at hT
  rw [encV_eq] at c164
  rw [encV_eq]
  simp only [encP]
  simp only [go_sem, ir84, Nat.reduceAdd, Nat.reduceEqDiff, Nat.reduceBEq, Nat.reduceLeDiff, reduceCtorEq, ↓reduceIte]
  refine ⟨fun h => ?_, fun h => ?_⟩
  · rw [if_pos h] at hT
    refine wps_call rfl c164 trivial ?_
    simp only [go_sem, Nat.reduceAdd, Nat.reduceEqDiff, Nat.reduceBEq, Nat.reduceLeDiff, reduceCtorEq, ↓reduceIte]
    generalize ixN p.name v.fields = k at *
    refine ⟨fun h2 => ?_, fun h2 => ?_⟩
    · simp only [decide_eq_true_eq] at h2
      rw [if_pos h2] at hT
      have hk : k.toNat < v.fields.length := by omega
      have hx := nth_encF hk
      have hd : 0 ≤ k ∧ k < (v.fields.length : Int) := ⟨h2, hbd.2⟩
      rw [List.getElem?_eq_getElem hk] at hT
      simp only [Option.map_some, Option.getD_some] at hT
      rw [← hT]
      simp only [go_sem, hx, List.length_map, List.map_cons, List.map_nil, encV_eq, Nat.reduceAdd, Nat.reduceEqDiff, Nat.reduceBEq, Nat.reduceLeDiff, reduceCtorEq, ↓reduceIte]
      refine ⟨hd, fun x hx => ?_⟩
      rcases List.mem_singleton.1 hx with rfl
      rfl
    · simp only [decide_eq_false_iff_not] at h2
      rw [if_neg h2] at hT
      rw [← hT]
      rfl
  rw [if_neg (by rw [h]; exact Bool.false_ne_true)] at hT
  refine scQ_pure ((p.kind == 4) && (v.text == p.name)) (fun _ => ?_) ?_
  · simp only [go_sem, Nat.reduceAdd, Nat.reduceEqDiff, Nat.reduceBEq, Nat.reduceLeDiff, reduceCtorEq, ↓reduceIte]
    refine scQ_pure (v.text == p.name) (fun _ => ?_) ?_
    · simp only [go_sem, Nat.reduceAdd, Nat.reduceEqDiff, Nat.reduceBEq, Nat.reduceLeDiff, reduceCtorEq, ↓reduceIte]
    simp only [go_sem, Nat.reduceAdd, Nat.reduceEqDiff, Nat.reduceBEq, Nat.reduceLeDiff, reduceCtorEq, ↓reduceIte]
  simp only [go_sem, Nat.reduceAdd, Nat.reduceEqDiff, Nat.reduceBEq, Nat.reduceLeDiff, reduceCtorEq, ↓reduceIte]
  refine ⟨fun h2 => ?_, fun h2 => ?_⟩
  · rw [if_pos h2] at hT
    rw [← hT]
  rw [if_neg (by rw [h2]; exact Bool.false_ne_true)] at hT
  try simp only [go_sem, Nat.reduceAdd, Nat.reduceEqDiff, Nat.reduceBEq, Nat.reduceLeDiff, reduceCtorEq, ↓reduceIte]
  refine scQ_pure (decide (p.index < ((v.list.length : Nat) : Int))) (fun _ => ?_) ?_
  · simp only [go_sem, List.length_map, Nat.reduceAdd, Nat.reduceEqDiff, Nat.reduceBEq, Nat.reduceLeDiff, reduceCtorEq, ↓reduceIte]
  simp only [go_sem, Nat.reduceAdd, Nat.reduceEqDiff, Nat.reduceBEq, Nat.reduceLeDiff, reduceCtorEq, ↓reduceIte]
  refine ⟨fun h3 => ?_, fun h3 => ?_⟩
  · rw [if_pos h3] at hT
    simp only [Bool.and_eq_true, decide_eq_true_eq] at h3
    have hw : IntKind.i64.wrap (p.index + 1) = p.index + 1 := wrap64 (by omega) (by omega)
    have ht : (p.index + 1 - p.index).toNat = 1 := by omega
    rw [← hT]
    simp only [go_sem, hw, ht, List.map_take, List.map_drop, List.length_map, Nat.reduceAdd, Nat.reduceEqDiff, Nat.reduceBEq, Nat.reduceLeDiff, reduceCtorEq, ↓reduceIte]
    refine ⟨⟨hi, by omega, by omega⟩, ?_⟩
    rw [← List.map_drop, ← List.map_take, canonL_vals]
  · rw [if_neg (by rw [h3]; exact Bool.false_ne_true)] at hT
    rw [← hT]
    rfl
/-- the text of a part -/
def txtP (p : Part) : Str := if p.kind == 1 then [46] ++ p.name else if p.kind == 2 then ([91] ++ Lib.itoa p.index) ++ [93] else if p.kind == 3 then [91, 42, 93] else [63] ++ p.name
theorem walk159 (p : Part) (hp : p.name.length ≤ 1000) (h0 : -9223372036854775808 ≤ p.index) (h1 : p.index ≤ 9223372036854775807) : PCon Tryz.prog 159 [encP p] (.d (.str (txtP p))) := by
  refine ok159.pcon (Nat.le_of_ble_eq_true rfl) trivial ?_
  have c100 := call100 p.index h0 h1
  have hil := Lib.itoa_length_le p.index h0 h1
  simp only [encP, txtP]
  simp only [go_sem, ir159, Nat.reduceAdd, Nat.reduceEqDiff, Nat.reduceBEq, Nat.reduceLeDiff, reduceCtorEq, ↓reduceIte]
  refine ⟨fun h => ?_, fun h => ?_⟩
  · simp only [h, ↓reduceIte, List.length_append, List.length_cons, List.length_nil]
    exact ⟨by omega, trivial⟩
  simp only [h, Bool.false_eq_true, ↓reduceIte]
  try simp only [go_sem, Nat.reduceAdd, Nat.reduceEqDiff, Nat.reduceBEq, Nat.reduceLeDiff, reduceCtorEq, ↓reduceIte]
  refine ⟨fun h2 => ?_, fun h2 => ?_⟩
  · simp only [h2, ↓reduceIte]
    refine wps_call rfl c100 trivial ?_
    simp only [go_sem, List.length_append, List.length_cons, List.length_nil, Nat.reduceAdd, Nat.reduceEqDiff, Nat.reduceBEq, Nat.reduceLeDiff, reduceCtorEq, ↓reduceIte]
    try exact ⟨by omega, by omega⟩
    try omega
  simp only [h2, Bool.false_eq_true, ↓reduceIte]
  try simp only [go_sem, Nat.reduceAdd, Nat.reduceEqDiff, Nat.reduceBEq, Nat.reduceLeDiff, reduceCtorEq, ↓reduceIte]
  refine ⟨fun h3 => ?_, fun h3 => ?_⟩
  · simp only [h3, ↓reduceIte]
  simp only [h3, Bool.false_eq_true, ↓reduceIte, List.length_append, List.length_cons, List.length_nil]
  exact ⟨by omega, trivial⟩
end Go.Proofs

namespace Go.Proofs
open Go Av

theorem nameS_len {s : Str} (h : nameS s = true) : s.length ≤ 32 := by
  simp only [nameS, Bool.and_eq_true, Bool.not_eq_true', Bool.or_eq_false_iff, decide_eq_false_iff_not] at h
  omega
theorem validP_bd {p : Part} (h : validP p = true) : p.name.length ≤ 32 ∧ 0 ≤ p.index ∧ p.index ≤ 255 := by
  unfold validP at h
  split at h
  · simp only [Bool.and_eq_true, beq_iff_eq] at h
    exact ⟨nameS_len h.2, by omega, by omega⟩
  split at h
  · simp only [Bool.and_eq_true, beq_iff_eq, decide_eq_true_eq] at h
    refine ⟨by rw [h.1.1]; simp, by omega, by omega⟩
  split at h
  · simp only [Bool.and_eq_true, beq_iff_eq] at h
    exact ⟨by rw [h.1]; simp, by omega, by omega⟩
  · cases h
theorem txtP_len {p : Part} (h : validP p = true) : (txtP p).length ≤ 40 := by
  obtain ⟨h1, h2, h3⟩ := validP_bd h
  have := Lib.itoa_length_le p.index (by omega) (by omega)
  unfold txtP
  split
  · simp; omega
  split
  · simp; omega
  split
  · simp
  · simp; omega
/-- the bytes of a path's text -/
def szP (l : List Part) : Int := l.foldl (fun n p => n + ((txtP p).length : Int)) (-1)
def hdP (l : List Part) : Bool := (decide ((l.length : Int) < 1) || decide ((l.length : Int) > 16)) || ((l[0]?.map Part.kind).getD 0 != 1)
def chkP (l : List Part) : Int := if hdP l then 3 else if l.all validP && decide (szP l ≤ 200) then 0 else 3
theorem szP_take {l : List Part} {k : Nat} (h : k < l.length) : szP (l.take (k + 1)) = szP (l.take k) + ((txtP l[k]).length : Int) := by
  rw [List.take_succ_eq_append_getElem h]
  unfold szP
  rw [List.foldl_append]
  rfl
theorem szP_bd {l : List Part} : ∀ {k : Nat}, k ≤ l.length → (∀ (j : Nat) (h : j < l.length), j < k → validP l[j] = true) → -1 ≤ szP (l.take k) ∧ szP (l.take k) ≤ 40 * k
  | 0, _, _ => by simp [szP]
  | k + 1, hk, hv => by
    obtain ⟨h1, h2⟩ := szP_bd (k := k) (by omega) (fun j h hj => hv j h (by omega))
    have := txtP_len (hv k (by omega) (by omega))
    rw [szP_take (by omega)]
    push_cast
    omega
theorem walk78 (l : List Part) (hl : l.length ≤ 68719476736) (hn : ∀ p ∈ l, p.name.length ≤ 68719476736) : PCon Tryz.prog 78 [.list 3 (l.map encP)] (.d (.int .i64 (chkP l))) := by
  refine ok78.pcon (Nat.le_of_ble_eq_true rfl) trivial ?_
  generalize hT : chkP l = T
  unfold chkP at hT
  simp only [go_sem, ir78, List.length_map, Nat.reduceAdd, Nat.reduceEqDiff, Nat.reduceBEq, Nat.reduceLeDiff, reduceCtorEq, ↓reduceIte]
  refine scQ_pure (decide ((l.length : Int) > 16)) (fun _ => ?_) ?_
  · simp only [go_sem, List.length_map, Nat.reduceAdd, Nat.reduceEqDiff, Nat.reduceBEq, Nat.reduceLeDiff, reduceCtorEq, ↓reduceIte]
  simp only [go_sem, Nat.reduceAdd, Nat.reduceEqDiff, Nat.reduceBEq, Nat.reduceLeDiff, reduceCtorEq, ↓reduceIte]
  refine scQ_pure ((l[0]?.map Part.kind).getD 0 != 1) (fun hq => ?_) ?_
  · simp only [Bool.or_eq_false_iff, decide_eq_false_iff_not] at hq
    have h0 : 0 < l.length := by omega
    have hx := nth_encP (xs := l) h0
    have e0 : Int.toNat 0 = 0 := rfl
    have e1 : (l[0]?.map Part.kind).getD 0 = l[0].kind := by rw [List.getElem?_eq_getElem h0]; rfl
    simp only [go_sem, e0, e1, hx, List.length_map, Nat.reduceAdd, Nat.reduceEqDiff, Nat.reduceBEq, Nat.reduceLeDiff, reduceCtorEq, ↓reduceIte]
    try exact ⟨by omega, by simp⟩
    try omega
  simp only [go_sem, Nat.reduceAdd, Nat.reduceEqDiff, Nat.reduceBEq, Nat.reduceLeDiff, reduceCtorEq, ↓reduceIte]
  have hh : hdP l = ((decide ((l.length : Int) < 1) || decide ((l.length : Int) > 16)) || ((l[0]?.map Part.kind).getD 0 != 1)) := rfl
  rw [← hh]
  refine ⟨fun h => ?_, fun h => ?_⟩
  · rw [if_pos h] at hT
    rw [← hT]
  rw [if_neg (by rw [h]; exact Bool.false_ne_true)] at hT
  have hl16 : l.length ≤ 16 := by
    simp only [hdP, Bool.or_eq_false_iff, decide_eq_false_iff_not] at h
    omega
  try simp only [go_sem, List.length_map, Nat.reduceAdd, Nat.reduceEqDiff, Nat.reduceBEq, Nat.reduceLeDiff, reduceCtorEq, ↓reduceIte]
  refine wpc_loop (fun n s => ∃ k : Nat, k ≤ l.length ∧ n = l.length - k ∧ (∀ (j : Nat) (h1 : j < l.length), j < k → validP l[j] = true) ∧
    s = ⟨[(3, .d (.int .i64 (szP (l.take k)))), (21, .d (.list 3 (l.map encP))), (22, .d (.int .i64 l.length)), (23, .d (.int .i64 k))], []⟩) ?_ ?_
  · exact ⟨_, _, Wk.refl _, 0, Nat.zero_le _, rfl, by simp, rfl⟩
  · rintro n s ⟨k, hk, rfl, hinv, rfl⟩
    by_cases hlt : k < l.length
    · have hx := nth_encP hlt
      have hd : decide ((k : Int) < (l.length : Int)) = true := by simp; omega
      have hc := (walk74 l[k] (hn _ (List.getElem_mem hlt))).call trivial
      simp only [encP] at hc
      simp only [go_sem, hx, hd, Int.toNat_natCast, List.length_map, Nat.reduceAdd, Nat.reduceEqDiff, Nat.reduceBEq, Nat.reduceLeDiff, reduceCtorEq, ↓reduceIte]
      refine ⟨by omega, wps_call rfl hc trivial ?_⟩
      simp only [go_sem, Nat.reduceAdd, Nat.reduceEqDiff, Nat.reduceBEq, Nat.reduceLeDiff, reduceCtorEq, ↓reduceIte]
      refine ⟨fun hf => ?_, fun hf => ?_⟩
      · simp only [Bool.not_eq_true'] at hf
        have : l.all validP = false := by
          rw [List.all_eq_false]
          exact ⟨_, List.getElem_mem hlt, by rw [hf]; decide⟩
        rw [this, Bool.false_and, if_neg Bool.false_ne_true] at hT
        rw [← hT]
      · simp only [Bool.not_eq_false'] at hf
        obtain ⟨b1, b2, b3⟩ := validP_bd hf
        have ht := (walk159 l[k] (by omega) (by omega) (by omega)).call trivial
        have htl := txtP_len hf
        obtain ⟨s1, s2⟩ := szP_bd (k := k) hk hinv
        simp only [encP] at ht
        try simp only [go_sem, Nat.reduceAdd, Nat.reduceEqDiff, Nat.reduceBEq, Nat.reduceLeDiff, reduceCtorEq, ↓reduceIte]
        refine wps_call rfl ht trivial ?_
        simp only [go_sem, Nat.reduceAdd, Nat.reduceEqDiff, Nat.reduceBEq, Nat.reduceLeDiff, reduceCtorEq, ↓reduceIte]
        refine ⟨l.length - (k + 1), _, by omega, Wk.less ?_, k + 1, by omega, rfl, ?_, rfl⟩
        · have hw : IntKind.i64.wrap (szP (l.take k) + ((txtP l[k]).length : Int)) = szP (l.take k) + ((txtP l[k]).length : Int) := wrap64 (by omega) (by omega)
          simp only [go_sem, hw, szP_take hlt, wrap64s k (by omega), Nat.reduceAdd, Nat.reduceEqDiff, Nat.reduceBEq, Nat.reduceLeDiff, reduceCtorEq, ↓reduceIte]
        · intro j h1 hj
          by_cases e : j = k
          · subst e; exact hf
          · exact hinv j h1 (by omega)
    · have hd : decide ((k : Int) < (l.length : Int)) = false := by simp; omega
      obtain rfl : k = l.length := by omega
      have hall : l.all validP = true := by
        rw [List.all_eq_true]
        intro x hx
        obtain ⟨j, hj, rfl⟩ := List.getElem_of_mem hx
        exact hinv j hj hj
      rw [hall, Bool.true_and] at hT
      simp only [go_sem, hd, List.take_length, Nat.reduceAdd, Nat.reduceEqDiff, Nat.reduceBEq, Nat.reduceLeDiff, reduceCtorEq, ↓reduceIte]
      refine ⟨fun h2 => ?_, fun h2 => ?_⟩
      · simp only [decide_eq_true_eq] at h2
        rw [if_neg (by simp; omega)] at hT
        rw [← hT]
      · simp only [decide_eq_false_iff_not] at h2
        rw [if_pos (by simp; omega)] at hT
        rw [← hT]
end Go.Proofs

namespace Go.Proofs
open Go Av

mutual
/-- of how many values a value consists -/
def szV : Val → Nat
  | .mk _ _ _ _ l f => 1 + szVs l + szFs f
def szVs : List Val → Nat
  | [] => 0
  | v :: r => szV v + szVs r
def szFs : List Fld → Nat
  | [] => 0
  | .mk _ v :: r => szV v + szFs r
end
theorem szV_eq (v : Val) : szV v = 1 + szVs v.list + szFs v.fields := by cases v; rfl
theorem szV_pos (v : Val) : 1 ≤ szV v := by rw [szV_eq]; omega
theorem szVs_append : ∀ a b : List Val, szVs (a ++ b) = szVs a + szVs b
  | [], b => by simp [szVs]
  | v :: r, b => by simp only [List.cons_append, szVs, szVs_append r b]; omega
theorem szVs_len : ∀ l : List Val, l.length ≤ szVs l
  | [] => by simp [szVs]
  | v :: r => by
    have := szVs_len r
    have := szV_pos v
    simp only [List.length_cons, szVs]; omega
theorem szFs_len : ∀ l : List Fld, l.length ≤ szFs l
  | [] => by simp [szFs]
  | .mk _ v :: r => by
    have := szFs_len r
    have := szV_pos v
    simp only [List.length_cons, szFs]; omega
theorem szVs_mem : ∀ {l : List Val} {x : Val}, x ∈ l → szV x ≤ szVs l
  | v :: r, x, h => by
    rcases List.mem_cons.1 h with rfl | h
    · simp only [szVs]; omega
    · have := szVs_mem h
      simp only [szVs]; omega
theorem szFs_mem : ∀ {l : List Fld} {x : Fld}, x ∈ l → szV x.value ≤ szFs l
  | .mk n v :: r, x, h => by
    rcases List.mem_cons.1 h with rfl | h
    · show szV v ≤ _
      simp only [szFs]; omega
    · have := szFs_mem h
      simp only [szFs]; omega
theorem szVs_sub : ∀ {a b : List Val}, a.Sublist b → szVs a ≤ szVs b
  | _, _, .slnil => Nat.le_refl _
  | _, _, .cons x h => by have := szVs_sub h; simp only [szVs]; omega
  | _, _, .cons_cons x h => by have := szVs_sub h; simp only [szVs]; omega
mutual
theorem okV_sz : ∀ (v : Val), szV v ≤ 68719476736 → okV v
  | .mk _ _ _ _ l f, h => by
    simp only [szV] at h
    have h1 := szVs_len l
    have h2 := szFs_len f
    simp only [okV]
    exact ⟨by omega, by omega, okVs_sz l (by omega), okFs_sz f (by omega)⟩
theorem okVs_sz : ∀ (l : List Val), szVs l ≤ 68719476736 → okVs l
  | [], _ => by simp [okVs]
  | v :: r, h => by
    simp only [szVs] at h
    simp only [okVs]
    exact ⟨okV_sz v (by omega), okVs_sz r (by omega)⟩
theorem okFs_sz : ∀ (l : List Fld), szFs l ≤ 68719476736 → okFs l
  | [], _ => by simp [okFs]
  | .mk _ v :: r, h => by
    simp only [szFs] at h
    simp only [okFs, okF]
    exact ⟨okV_sz v (by omega), okFs_sz r (by omega)⟩
end
theorem szVs_led (p : Part) (v : Val) : szVs (ledP p v) ≤ szV v := by
  rw [szV_eq]
  unfold ledP
  split
  · split
    · rename_i h
      have hbd := ixF_bd (q := fun f => f.name == p.name) (l := v.fields)
      change -1 ≤ ixN p.name v.fields ∧ ixN p.name v.fields < v.fields.length at hbd
      have hk : (ixN p.name v.fields).toNat < v.fields.length := by omega
      rw [List.getElem?_eq_getElem hk]
      have := szFs_mem (List.getElem_mem hk)
      simp only [Option.map_some, Option.getD_some, szVs]
      omega
    · simp [szVs]
  split
  · omega
  split
  · have := szVs_sub ((List.take_sublist 1 (v.list.drop p.index.toNat)).trans (List.drop_sublist _ _))
    omega
  · simp [szVs]
theorem szVs_leds (p : Part) : ∀ l : List Val, szVs (l.flatMap (ledP p)) ≤ szVs l
  | [] => by simp [szVs]
  | v :: r => by
    have := szVs_leds p r
    have := szVs_led p v
    rw [List.flatMap_cons, szVs_append]
    simp only [szVs]
    omega

/-- does a path have a part for all elements? -/
def evP (l : List Part) : Bool := l.any fun p => p.kind == 3
/-- what a path leads to, part by part -/
def walkN : List Part → List Val → Option (List Val)
  | [], now => some now
  | p :: r, now => if now.all (appP p) then walkN r (now.flatMap (ledP p)) else none
def findR (l : List Part) : Option (List Val) → List Val × Int
  | none => ([], 22)
  | some now => if (((now.length : Nat) : Int) == 0) && !evP l then ([], 19) else (now, 0)
def findV (v : Val) (l : List Part) : List Val × Int := if chkP l != 0 then ([], chkP l) else findR l (walkN l [v])
theorem walkN_sz : ∀ (l : List Part) {now out : List Val}, walkN l now = some out → szVs out ≤ szVs now
  | [], now, out, h => by cases h; exact Nat.le_refl _
  | p :: r, now, out, h => by
    simp only [walkN] at h
    split at h
    · have := walkN_sz r h
      have := szVs_leds p now
      omega
    · cases h
theorem chkP_ok {l : List Part} (h : (chkP l != 0) = false) : l.length ≤ 16 ∧ ∀ p ∈ l, validP p = true := by
  simp only [bne_eq_false_iff_eq] at h
  unfold chkP at h
  split at h
  · cases h
  rename_i hh
  split at h
  · rename_i h2
    simp only [Bool.and_eq_true, List.all_eq_true] at h2
    simp only [hdP, Bool.or_eq_true, decide_eq_true_eq, not_or] at hh
    exact ⟨by omega, h2.1⟩
  · cases h
theorem take_flat (p : Part) {now : List Val} {j : Nat} (h : j < now.length) : (now.take (j + 1)).flatMap (ledP p) = (now.take j).flatMap (ledP p) ++ ledP p now[j] := by
  rw [List.take_succ_eq_append_getElem h, List.flatMap_append]
  simp
theorem szVs_take (p : Part) (now : List Val) (j : Nat) : szVs ((now.take j).flatMap (ledP p)) ≤ szVs now := by
  have := szVs_leds p (now.take j)
  have := szVs_sub (List.take_sublist j now)
  omega
theorem walk76 (v : Val) (l : List Part) (hl : l.length ≤ 68719476736) (hn : ∀ p ∈ l, p.name.length ≤ 68719476736) (hsz : szV v ≤ 2000000) (c77 : CallOK Tryz.prog 77 [.d (.list 3 (l.map encP))] [] (.d (.bool (evP l))) []) :
    PCon Tryz.prog 76 [encV v, .list 3 (l.map encP)] (.tup [.d (.list 6 ((findV v l).1.map encV)), .d (.int .i64 (findV v l).2)]) := by
  refine ok76.pcon (Nat.le_of_ble_eq_true rfl) (by simp [inTR, idsIn, idsInL]) ?_
  have c78 := (walk78 l hl hn).call trivial
  generalize hT : findV v l = T
  unfold findV at hT
  rw [encV_eq]
  simp only [go_sem, ir76, Nat.reduceAdd, Nat.reduceEqDiff, Nat.reduceBEq, Nat.reduceLeDiff, reduceCtorEq, ↓reduceIte]
  refine wps_call rfl c78 trivial ?_
  simp only [go_sem, Nat.reduceAdd, Nat.reduceEqDiff, Nat.reduceBEq, Nat.reduceLeDiff, reduceCtorEq, ↓reduceIte]
  refine ⟨fun h => ?_, fun h => ?_⟩
  · rw [if_pos h] at hT
    rw [← hT]
    rfl
  rw [if_neg (by rw [h]; exact Bool.false_ne_true)] at hT
  obtain ⟨hl16, hval⟩ := chkP_ok h
  clear h
  try simp only [go_sem, List.length_map, Nat.reduceAdd, Nat.reduceEqDiff, Nat.reduceBEq, Nat.reduceLeDiff, reduceCtorEq, ↓reduceIte]
  refine ⟨(by intro x hx; rcases List.mem_singleton.1 hx with rfl; rfl), ?_⟩
  refine wpc_loop (fun n s => ∃ (k : Nat) (now : List Val), k ≤ l.length ∧ n = l.length - k ∧ szVs now ≤ 2000000 ∧ walkN l [v] = walkN (l.drop k) now ∧
    s = ⟨[(1, .d (.list 3 (l.map encP))), (7, .d (.list 6 (now.map encV))), (23, .d (.list 3 (l.map encP))), (24, .d (.int .i64 l.length)), (25, .d (.int .i64 k))], []⟩) ?_ ?_
  · refine ⟨_, _, Wk.less ?_, 0, [v], Nat.zero_le _, rfl, by simpa [szVs] using hsz, rfl, rfl⟩
    simp only [go_sem, encV_eq v, List.map_cons, List.map_nil, Nat.reduceAdd, Nat.reduceEqDiff, Nat.reduceBEq, Nat.reduceLeDiff, reduceCtorEq, ↓reduceIte]
    exact rfl
  · rintro n s ⟨k, now, hk, rfl, hnz, hwk, rfl⟩
    have hnl := szVs_len now
    by_cases hlt : k < l.length
    · have hx := nth_encP hlt
      have hd : decide ((k : Int) < (l.length : Int)) = true := by simp; omega
      simp only [go_sem, hx, hd, Int.toNat_natCast, List.length_map, Nat.reduceAdd, Nat.reduceEqDiff, Nat.reduceBEq, Nat.reduceLeDiff, reduceCtorEq, ↓reduceIte]
      have hcons : l.drop k = l[k] :: l.drop (k + 1) := List.drop_eq_getElem_cons hlt
      generalize hp : l[k] = p at *
      have hpv : validP p = true := hval p (by rw [← hp]; exact List.getElem_mem hlt)
      obtain ⟨_, hpi, _⟩ := validP_bd hpv
      refine ⟨by omega, ?_⟩
      refine wpc_loop (fun n s => ∃ j : Nat, j ≤ now.length ∧ n = now.length - j ∧ (∀ (i : Nat) (h : i < now.length), i < j → appP p now[i] = true) ∧
        s = ⟨[(1, .d (.list 3 (l.map encP))), (23, .d (.list 3 (l.map encP))), (24, .d (.int .i64 l.length)), (25, .d (.int .i64 k)), (9, .ref 9 0), (10, .ms 43 j), (29, .d (.list 6 (now.map encV))), (30, .d (.int .i64 now.length)), (31, .d (.int .i64 j))],
          [(9, .box [.d (.int .i64 p.kind), .d (.int .i64 p.index), .d (.str p.name)]), (43, .row j 6 (((now.take j).flatMap (ledP p)).map encV))]⟩) ?_ ?_
      · refine ⟨_, _, (Wk.nilT 10 43 6 rfl rfl (by decide)).trans (Wk.less ?_), 0, Nat.zero_le _, rfl, (by intro i h hi; omega), rfl⟩
        simp only [go_sem, List.take_zero, List.flatMap_nil, List.map_nil, List.length_map, Nat.reduceAdd, Nat.reduceEqDiff, Nat.reduceBEq, Nat.reduceLeDiff, reduceCtorEq, ↓reduceIte]
        try exact rfl
      · rintro n s ⟨j, hj, rfl, hinv, rfl⟩
        by_cases hjl : j < now.length
        · have hx2 := nth_encV hjl
          have hd2 : decide ((j : Int) < (now.length : Int)) = true := by simp; omega
          have hm := szVs_mem (List.getElem_mem hjl)
          have hszx : szV now[j] ≤ 2000000 := by omega
          rw [szV_eq] at hszx
          have b1 := szVs_len now[j].list
          have b2 := szFs_len now[j].fields
          have c156 := (walk156 p now[j]).call trivial
          have c84 := (walk84 p now[j] (by omega) (by omega) hpi).call trivial
          have hled := szVs_len (ledP p now[j])
          have hled2 := szVs_led p now[j]
          have hacc := szVs_len ((now.take j).flatMap (ledP p))
          have hacc2 := szVs_take p now j
          simp only [encP] at c156 c84
          rw [encV_eq] at c156 c84
          simp only [go_sem, hx2, hd2, Int.toNat_natCast, List.length_map, Nat.reduceAdd, Nat.reduceEqDiff, Nat.reduceBEq, Nat.reduceLeDiff, reduceCtorEq, ↓reduceIte]
          refine ⟨by omega, wps_call rfl c156 trivial ?_⟩
          simp only [go_sem, Nat.reduceAdd, Nat.reduceEqDiff, Nat.reduceBEq, Nat.reduceLeDiff, reduceCtorEq, ↓reduceIte]
          refine ⟨fun hf => ?_, fun hf => ?_⟩
          · simp only [Bool.not_eq_true'] at hf
            have : now.all (appP p) = false := by
              rw [List.all_eq_false]
              exact ⟨_, List.getElem_mem hjl, by rw [hf]; decide⟩
            rw [hwk, hcons] at hT
            simp only [walkN, this, Bool.false_eq_true, ↓reduceIte, findR] at hT
            rw [← hT]
            rfl
          · simp only [Bool.not_eq_false'] at hf
            try simp only [go_sem, Nat.reduceAdd, Nat.reduceEqDiff, Nat.reduceBEq, Nat.reduceLeDiff, reduceCtorEq, ↓reduceIte]
            refine wps_call rfl c84 trivial ?_
            simp only [go_sem, List.length_map, Nat.reduceAdd, Nat.reduceEqDiff, Nat.reduceBEq, Nat.reduceLeDiff, reduceCtorEq, ↓reduceIte]
            refine ⟨by omega, now.length - (j + 1), _, by omega, Wk.less ?_, j + 1, by omega, rfl, ?_, rfl⟩
            · rw [take_flat p hjl, List.map_append]
              simp only [go_sem, wrap64s j (by omega), Nat.reduceAdd, Nat.reduceEqDiff, Nat.reduceBEq, Nat.reduceLeDiff, reduceCtorEq, ↓reduceIte]
            · intro i h1 hi
              by_cases e : i = j
              · subst e; exact hf
              · exact hinv i h1 (by omega)
        · have hd2 : decide ((j : Int) < (now.length : Int)) = false := by simp; omega
          obtain rfl : j = now.length := by omega
          have hall : now.all (appP p) = true := by
            rw [List.all_eq_true]
            intro x hx
            obtain ⟨i, hi, rfl⟩ := List.getElem_of_mem hx
            exact hinv i hi hi
          simp only [go_sem, hd2, List.take_length, Nat.reduceAdd, Nat.reduceEqDiff, Nat.reduceBEq, Nat.reduceLeDiff, reduceCtorEq, ↓reduceIte]
          refine ⟨l.length - (k + 1), _, by omega, (Wk.frzT 7 43 now.length 6 ((now.flatMap (ledP p)).map encV) rfl rfl).trans (Wk.less ?_), k + 1, now.flatMap (ledP p), by omega, rfl, ?_, ?_, rfl⟩
          · simp only [go_sem, wrap64s k (by omega), Nat.reduceAdd, Nat.reduceEqDiff, Nat.reduceBEq, Nat.reduceLeDiff, reduceCtorEq, ↓reduceIte]
          · have := szVs_leds p now; omega
          · rw [hwk, hcons]
            simp only [walkN, hall, ↓reduceIte]
    · have hd : decide ((k : Int) < (l.length : Int)) = false := by simp; omega
      obtain rfl : k = l.length := by omega
      rw [List.drop_length] at hwk
      simp only [walkN] at hwk
      rw [hwk] at hT
      simp only [findR] at hT
      simp only [go_sem, hd, List.length_map, Nat.reduceAdd, Nat.reduceEqDiff, Nat.reduceBEq, Nat.reduceLeDiff, reduceCtorEq, ↓reduceIte]
      refine scQ_pure (!evP l) (fun _ => ?_) ?_
      · simp only [go_sem, Nat.reduceAdd, Nat.reduceEqDiff, Nat.reduceBEq, Nat.reduceLeDiff, reduceCtorEq, ↓reduceIte]
        refine wps_call rfl c77 trivial ?_
        simp only [go_sem, Nat.reduceAdd, Nat.reduceEqDiff, Nat.reduceBEq, Nat.reduceLeDiff, reduceCtorEq, ↓reduceIte]
      simp only [go_sem, Nat.reduceAdd, Nat.reduceEqDiff, Nat.reduceBEq, Nat.reduceLeDiff, reduceCtorEq, ↓reduceIte]
      refine ⟨fun h => ?_, fun h => ?_⟩
      · rw [if_pos h] at hT
        rw [← hT]
        rfl
      rw [if_neg (by rw [h]; exact Bool.false_ne_true)] at hT
      rw [← hT]
      try simp only [go_sem, List.length_map, Nat.reduceAdd, Nat.reduceEqDiff, Nat.reduceBEq, Nat.reduceLeDiff, reduceCtorEq, ↓reduceIte]
      refine wpc_loop (fun n s => ∃ j : Nat, j ≤ now.length ∧ n = now.length - j ∧
        s = ⟨[(13, .ms 65 j), (55, .d (.list 6 (now.map encV))), (56, .d (.int .i64 now.length)), (57, .d (.int .i64 j))], [(65, .row j 6 ((now.take j).map encV))]⟩) ?_ ?_
      · refine ⟨_, _, (Wk.nilT 13 65 6 rfl rfl (by decide)).trans (Wk.less ?_), 0, Nat.zero_le _, rfl, rfl⟩
        simp only [go_sem, List.take_zero, List.map_nil, List.length_map, Nat.reduceAdd, Nat.reduceEqDiff, Nat.reduceBEq, Nat.reduceLeDiff, reduceCtorEq, ↓reduceIte]
        try exact rfl
      · rintro n s ⟨j, hj, rfl, rfl⟩
        by_cases hjl : j < now.length
        · have hx2 := nth_encV hjl
          have hd2 : decide ((j : Int) < (now.length : Int)) = true := by simp; omega
          have hm := szVs_mem (List.getElem_mem hjl)
          have c54 := (walk54 now[j] (okV_sz _ (by omega))).call trivial
          rw [encV_eq] at c54
          simp only [go_sem, hx2, hd2, Int.toNat_natCast, List.length_map, Nat.reduceAdd, Nat.reduceEqDiff, Nat.reduceBEq, Nat.reduceLeDiff, reduceCtorEq, ↓reduceIte]
          refine ⟨by omega, wps_call rfl c54 trivial ?_⟩
          simp only [go_sem, List.length_map, List.length_take, Nat.reduceAdd, Nat.reduceEqDiff, Nat.reduceBEq, Nat.reduceLeDiff, reduceCtorEq, ↓reduceIte]
          refine ⟨(by intro x hx; rcases List.mem_singleton.1 hx with rfl; rfl), by omega, now.length - (j + 1), _, by omega, Wk.less ?_, j + 1, by omega, rfl, rfl⟩
          rw [List.take_succ_eq_append_getElem hjl, List.map_append]
          simp only [go_sem, wrap64s j (by omega), List.map_cons, List.map_nil, encV_eq now[j], Nat.reduceAdd, Nat.reduceEqDiff, Nat.reduceBEq, Nat.reduceLeDiff, reduceCtorEq, ↓reduceIte]
        · have hd2 : decide ((j : Int) < (now.length : Int)) = false := by simp; omega
          obtain rfl : j = now.length := by omega
          simp only [go_sem, hd2, List.take_length, Nat.reduceAdd, Nat.reduceEqDiff, Nat.reduceBEq, Nat.reduceLeDiff, reduceCtorEq, ↓reduceIte]
end Go.Proofs

namespace Go.Proofs
open Go Av
open Go.Proofs.YtiekiedlkehccaaGreatDoor.Rows (uptoBulk uptoBulkAll)

theorem c3 : Tryz.prog.cellsOf 3 = 1 := by kernel_rfl
theorem c9 : Tryz.prog.cellsOf 9 = 1 := by kernel_rfl
theorem c31 : Tryz.prog.cellsOf 27 = 1 := by kernel_rfl
theorem c27 : Tryz.prog.cellsOf 28 = 1 := by kernel_rfl
theorem cOLD44 : Tryz.prog.cellsOf 71 = 1 := by kernel_rfl
theorem c266 : Tryz.prog.cellsOf 93 = 1 := by kernel_rfl
theorem c269 : Tryz.prog.cellsOf 95 = 1 := by kernel_rfl
theorem c19 : Tryz.prog.cellsOf 30 = 6 := by kernel_rfl
theorem c106 : Tryz.prog.cellsOf 113 = 7 := by kernel_rfl
theorem c35 : Tryz.prog.cellsOf 73 = 5 := by kernel_rfl
theorem c86 : Tryz.prog.cellsOf 481 = 6 := by kernel_rfl

theorem okVs_of : ∀ {l : List Val}, (∀ a ∈ l, okV a) → okVs l
  | [], _ => by simp [okVs]
  | v :: r, h => by simp only [okVs]; exact ⟨h v List.mem_cons_self, okVs_of fun a ha => h a (List.mem_cons_of_mem _ ha)⟩
theorem okFs_of : ∀ {l : List Fld}, (∀ a ∈ l, okF a) → okFs l
  | [], _ => by simp [okFs]
  | v :: r, h => by simp only [okFs]; exact ⟨h v List.mem_cons_self, okFs_of fun a ha => h a (List.mem_cons_of_mem _ ha)⟩
theorem okNs_of : ∀ {l : List Exp}, (∀ a ∈ l, okN a) → okNs l
  | [], _ => by simp [okNs]
  | v :: r, h => by simp only [okNs]; exact ⟨h v List.mem_cons_self, okNs_of fun a ha => h a (List.mem_cons_of_mem _ ha)⟩
theorem okEs_of : ∀ {l : List Exp}, (∀ a ∈ l, okE a) → okEs l
  | [], _ => by simp [okEs]
  | v :: r, h => by simp only [okEs]; exact ⟨h v List.mem_cons_self, okEs_of fun a ha => h a (List.mem_cons_of_mem _ ha)⟩

section
variable {H : Type} {enc : TypeId × Value → H} {w : World} {base : Nat} {spare : Nat → Bool} {held : Bool}

theorem fld {fs : Array Field} {n : Nat} {cs : List Value} {xs : List (DataW H × List MemPlace)}
    (hf : ∀ (i : Nat) (f : Field), fs[i]? = some f → DataW.trod enc Tryz.prog w base spare held n f.type ((cs.drop f.offset).take (Tryz.prog.cellsOf f.type)) = xs[i]?)
    (i : Nat) (t off : Nat) {k : Nat} (hi : (fs[i]?).map (fun f => (f.type, f.offset)) = some (t, off)) (hc : Tryz.prog.cellsOf t = k) : DataW.trod enc Tryz.prog w base spare held n t ((cs.drop off).take k) = xs[i]? := by
  cases e : fs[i]? with
  | none => rw [e] at hi; cases hi
  | some f =>
    rw [e] at hi
    simp only [Option.map_some, Option.some.injEq, Prod.mk.injEq] at hi
    have := hf i f e
    rw [hi.1, hi.2, hc] at this
    exact this

theorem encV_len (a : Val) : (encV a).cells.length = 6 := by rw [encV_eq]; rfl
theorem encF_len (a : Fld) : (encF a).cells.length = 7 := by rw [encF_eq]; rfl
theorem encE_len (a : Exp) : (encE a).cells.length = 5 := by rw [encE_eq]; rfl
theorem encR_len (a : Rule) : (encR a).cells.length = 6 := rfl

theorem szVs_sum : ∀ l : List Val, szVs l = (l.map szV).sum
  | [] => rfl
  | v :: r => by simp only [szVs, List.map_cons, List.sum_cons, szVs_sum r]
theorem szFs_sum : ∀ l : List Fld, szFs l = (l.map fun f => szV f.value).sum
  | [] => rfl
  | .mk n v :: r => by simp only [szFs, List.map_cons, List.sum_cons, szFs_sum r]; rfl
theorem read_val (fuel : Nat) : ∀ (cs : List Value) (x : DataW H × List MemPlace), DataW.trod enc Tryz.prog w base spare held fuel 30 cs = some x → uptoBulk x.1 ≤ 1048576 → ∃ a : Val, (okV a ∧ szV a ≤ uptoBulk x.1) ∧ CR (old w) w (encV a).cells cs := by
  induction fuel using Nat.strongRecOn with
  | _ fuel ih =>
    intro cs x h hb
    obtain ⟨xs, n, rfl, rfl, hl, hlen, hf⟩ := DataW.trod_struct Tryz.underlying30 h
    rw [c19] at hl
    have h0 := fld hf 0 3 0 rfl c3
    have h1 := fld hf 1 3 1 rfl c3
    have h2 := fld hf 2 3 2 rfl c3
    have h3 := fld hf 3 9 3 rfl c9
    have h4 := fld hf 4 27 4 rfl c31
    have h5 := fld hf 5 28 5 rfl c27
    match xs, hlen, cs, hl with
    | [y0, y1, y2, y3, y4, y5], _, [a0, a1, a2, a3, a4, a5], _ =>
      simp only [List.map_cons, List.map_nil, uptoBulk, uptoBulkAll] at hb
      obtain ⟨k, g0⟩ := cr_int Tryz.underlying3 (show DataW.trod enc Tryz.prog w base spare held n 3 [a0] = some y0 from h0)
      obtain ⟨i, g1⟩ := cr_int Tryz.underlying3 (show DataW.trod enc Tryz.prog w base spare held n 3 [a1] = some y1 from h1)
      obtain ⟨s, g2⟩ := cr_int Tryz.underlying3 (show DataW.trod enc Tryz.prog w base spare held n 3 [a2] = some y2 from h2)
      obtain ⟨t, _, g3⟩ := cr_str Tryz.underlying9 (show DataW.trod enc Tryz.prog w base spare held n 9 [a3] = some y3 from h3) (by omega)
      obtain ⟨l, e4, o4, z4, g4⟩ := cr_sliceM (encA := encV) (ok := okV) (m := szV) Tryz.underlying27 c19 (by decide) encV_len (show DataW.trod enc Tryz.prog w base spare held n 27 [a4] = some y4 from h4) (by omega)
        (fun m cs' y hm hy hyb => ih m (by omega) cs' y hy hyb)
      obtain ⟨f, e5, o5, z5, g5⟩ := cr_sliceM (encA := encF) (ok := okF) (m := fun f => szV f.value) Tryz.underlying28 c106 (by decide) encF_len (show DataW.trod enc Tryz.prog w base spare held n 28 [a5] = some y5 from h5) (by omega)
        (fun m cs' y hm hy hyb => by
          obtain ⟨xs, m', rfl, rfl, hl, hlen, hf⟩ := DataW.trod_struct Tryz.underlying113 hy
          rw [c106] at hl
          have h0 := fld hf 0 9 0 rfl c9
          have h1 := fld hf 1 30 1 rfl c19
          match xs, hlen, cs', hl with
          | [y0, y1], _, [a0, a1, a2, a3, a4, a5, a6], _ =>
            simp only [List.map_cons, List.map_nil, uptoBulk, uptoBulkAll] at hyb
            obtain ⟨nm, _, g0⟩ := cr_str Tryz.underlying9 (show DataW.trod enc Tryz.prog w base spare held m' 9 [a0] = some y0 from h0) (by omega)
            obtain ⟨v, ov, g1⟩ := ih m' (by omega) [a1, a2, a3, a4, a5, a6] y1 h1 (by omega)
            refine ⟨.mk nm v, ⟨by simpa only [okF] using ov.1, by show szV v ≤ _; have := ov.2; simp only [List.map_cons, List.map_nil, uptoBulk, uptoBulkAll]; omega⟩, ?_⟩
            have := g0.append g1
            simpa only [encF, Dat.cells, List.singleton_append] using this)
      refine ⟨.mk k i s t l f, ⟨by simp only [okV]; exact ⟨by omega, by omega, okVs_of o4, okFs_of o5⟩, ?_⟩, ?_⟩
      · simp only [szV, szVs_sum l, szFs_sum f, List.map_cons, List.map_nil, uptoBulk, uptoBulkAll]
        have := bulk_one y0.1
        omega
      have := g0.append (g1.append (g2.append (g3.append (g4.append g5))))
      simpa only [encV_eq, Val.kind, Val.int, Val.scale, Val.text, Val.list, Val.fields, Dat.cells, List.singleton_append, List.cons_append, List.nil_append] using this

theorem read_exp (fuel : Nat) : ∀ (cs : List Value) (x : DataW H × List MemPlace), DataW.trod enc Tryz.prog w base spare held fuel 73 cs = some x → uptoBulk x.1 ≤ 1048576 → ∃ a : Exp, (okE a ∧ okN a) ∧ CR (old w) w (encE a).cells cs := by
  induction fuel using Nat.strongRecOn with
  | _ fuel ih =>
    intro cs x h hb
    obtain ⟨xs, n, rfl, rfl, hl, hlen, hf⟩ := DataW.trod_struct Tryz.underlying73 h
    rw [c35] at hl
    have h0 := fld hf 0 3 0 rfl c3
    have h1 := fld hf 1 3 1 rfl c3
    have h2 := fld hf 2 9 2 rfl c9
    have h3 := fld hf 3 27 3 rfl c31
    have h4 := fld hf 4 71 4 rfl cOLD44
    match xs, hlen, cs, hl with
    | [y0, y1, y2, y3, y4], _, [a0, a1, a2, a3, a4], _ =>
      simp only [List.map_cons, List.map_nil, uptoBulk, uptoBulkAll] at hb
      obtain ⟨o, g0⟩ := cr_int Tryz.underlying3 (show DataW.trod enc Tryz.prog w base spare held n 3 [a0] = some y0 from h0)
      obtain ⟨i, g1⟩ := cr_int Tryz.underlying3 (show DataW.trod enc Tryz.prog w base spare held n 3 [a1] = some y1 from h1)
      obtain ⟨t, _, g2⟩ := cr_str Tryz.underlying9 (show DataW.trod enc Tryz.prog w base spare held n 9 [a2] = some y2 from h2) (by omega)
      obtain ⟨v, e3, o3, g3⟩ := cr_slice (encA := encV) (ok := okV) Tryz.underlying27 c19 (by decide) encV_len (show DataW.trod enc Tryz.prog w base spare held n 27 [a3] = some y3 from h3) (by omega)
        (fun m cs' y _ hy hyb => by obtain ⟨a, h1, h2⟩ := read_val m cs' y hy hyb; exact ⟨a, h1.1, h2⟩)
      obtain ⟨l, e4, o4, g4⟩ := cr_slice (encA := encE) (ok := fun a => okE a ∧ okN a) Tryz.underlying71 c35 (by decide) encE_len (show DataW.trod enc Tryz.prog w base spare held n 71 [a4] = some y4 from h4) (by omega)
        (fun m cs' y hm hy hyb => ih m (by omega) cs' y hy hyb)
      refine ⟨.mk o i t v l, ⟨by simp only [okE]; exact ⟨by omega, by omega, okVs_of o3, okEs_of fun a ha => (o4 a ha).1⟩, by simp only [okN]; exact ⟨by omega, okNs_of fun a ha => (o4 a ha).2⟩⟩, ?_⟩
      have := g0.append (g1.append (g2.append (g3.append g4)))
      simpa only [encE_eq, Exp.op, Exp.int, Exp.text, Exp.value, Exp.args, Dat.cells, List.singleton_append, List.cons_append, List.nil_append] using this

end
end Go.Proofs

namespace Go.Proofs
open Go.Shelf
def Tryz.laysValid_ren : Go.Shelf.Ren := ⟨fun | 196 => 173 | 259 => 240 | n => n, fun | 9 => 9 | 4 => 4 | 3 => 3 | 5 => 5 | 12 => 12 | 119 => 305 | 0 => 0 | 46 => 257 | 139 => 308 | 138 => 307 | 53 => 320 | n => n, fun | 3 => 0 | 4 => 1 | n => n⟩
theorem Tryz.laysValid : Go.Proofs.Lays.n196 Tryz.prog Tryz.laysValid_ren := {
  mixed := by kernel_rfl
  f196 := Tryz.func173.trans (congrArg some (by kernel_rfl))
  f259 := Tryz.func240.trans (congrArg some (by kernel_rfl))
  t0 := Tryz.underlying0
  a0 := Tryz.isAgg0
  z0 := Tryz.sizeOf0
  v0 := Tryz.zeroValue0
  t3 := Tryz.underlying3
  a3 := Tryz.isAgg3
  z3 := Tryz.sizeOf3
  v3 := Tryz.zeroValue3
  t4 := Tryz.underlying4
  a4 := Tryz.isAgg4
  z4 := Tryz.sizeOf4
  v4 := Tryz.zeroValue4
  t5 := Tryz.underlying5
  a5 := Tryz.isAgg5
  z5 := Tryz.sizeOf5
  v5 := Tryz.zeroValue5
  t9 := Tryz.underlying9
  a9 := Tryz.isAgg9
  z9 := Tryz.sizeOf9
  v9 := Tryz.zeroValue9
  t12 := Tryz.underlying12
  a12 := Tryz.isAgg12
  z12 := Tryz.sizeOf12
  v12 := Tryz.zeroValue12
  t46 := Tryz.underlying257
  a46 := Tryz.isAgg257
  z46 := Tryz.sizeOf257
  v46 := Tryz.zeroValue257
  t53 := Tryz.underlying320
  a53 := Tryz.isAgg320
  z53 := Tryz.sizeOf320
  v53 := Tryz.zeroValue320
  t119 := Tryz.underlying305
  a119 := Tryz.isAgg305
  z119 := Tryz.sizeOf305
  t138 := Tryz.underlying307
  a138 := Tryz.isAgg307
  z138 := Tryz.sizeOf307
  v138 := Tryz.zeroValue307
  t139 := Tryz.underlying308
  a139 := Tryz.isAgg308
  z139 := Tryz.sizeOf308
  v139 := Tryz.zeroValue308
  g3 := by kernel_rfl
  g4 := by kernel_rfl }
end Go.Proofs
