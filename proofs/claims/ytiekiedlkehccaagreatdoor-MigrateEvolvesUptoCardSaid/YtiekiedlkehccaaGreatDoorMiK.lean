/- Part K of a proof. -/
import Derived.Test.YtiekiedlkehccaaGreatDoorMiJ
import Derived.Test.YtiekiedlkehccaaGreatDoorMiD
import Derived.Test.YtiekiedlkehccaaGreatDoorMiA
import Derived.Test.YtiekiedlkehccaaGreatDoorMiE
import Derived.Lib.Bytealg
import Derived.Test.YtiekiedlkehccaaGreatDoorMiI
set_option linter.unusedVariables false
set_option linter.unusedSimpArgs false
set_option linter.unusedSectionVars false
set_option linter.constructorNameAsVariable false
set_option linter.unnecessarySimpa false
set_option maxRecDepth 100000
set_option maxHeartbeats 2000000
namespace Av
open Go
variable [Glb]
theorem Con.twoR {P : Program} {f : Nat} {ds : List Dat} {x y a1 b1 s1 a2 s2 : Nat} [Rls] {X Y : List Dat} {v : Av} (h : Con P f (ds.map .d) [] v [(x, .tre a1 b1 s1 X), (y, .row a2 s2 Y)]) (hxy : x ≠ y)
  (hv : inT (hputs (get []) [(x, .tre a1 b1 s1 X), (y, .row a2 s2 Y)]) v) (i j : Nat) (hij : i ≠ j) :
  CallOK P f (ds.map .d) [(i, none), (j, none)] (v.ren fun n => if n = x then i else j) [(i, .tre a1 b1 s1 X), (j, .row a2 s2 Y)] := by
 have hput : ∀ n, (hputs (get []) [(x, Obj.tre a1 b1 s1 X), (y, .row a2 s2 Y)] n).isSome = true ↔ n = x ∨ n = y := by
  intro n;simp only [hputs, upd, get];by_cases h1 : n = y
  ·simp [h1]
  ·by_cases h2 : n = x
   ·subst h2; simp [h1]
   ·simp [h1, h2]
 have := Con.call h (fun n => if n = x then i else j) (by intro n h; cases h) (by
   intro m n hm hn e;rcases (hput m).1 hm with rfl | rfl <;> rcases (hput n).1 hn with rfl | rfl
   ·rfl
   ·simp only [if_true, if_neg (Ne.symm hxy)] at e; exact absurd e hij
   ·simp only [if_true, if_neg (Ne.symm hxy)] at e; exact absurd e.symm hij
   ·rfl) (by intro c hc; obtain ⟨d, _, rfl⟩ := List.mem_map.1 hc; trivial) (by intro n o h; cases h) [x, y] (by
   intro e he;simp only [List.mem_cons, List.not_mem_nil, or_false] at he;rcases he with rfl | rfl
   ·exact .inr sP
   ·exact .inr sP) (by
   intro n o hn;simp only [hputs, upd, get] at hn;split at hn
   ·cases hn; trivial
   ·split at hn
    ·cases hn; trivial
    ·cases hn) hv
 have e0 : (ds.map Av.d).map (Av.ren fun n => if n = x then i else j) = ds.map .d := by simp [Av.ren]
 simp only [e0, List.map_cons, List.map_nil, Obj.ren, if_true, if_neg (Ne.symm hxy), List.nil_append] at this;exact this
end Av
namespace Go.Proofs
open Go Av
def rL (s : Slt) (i j : Nat) : Av := .agg [.d (.int .i64 s.key.kind), .d (.int .i64 s.key.int), .d (.int .i64 s.key.scale), .d (.str s.key.text), .d (.list 6 (s.key.list.map encV)), .d (.list 7 (s.key.fields.map encF)), .d (.int .i64 s.num), .d (.int .i64 s.time), .tr i ⟨s.items.length, 0, [], none⟩, .ms j s.vals.length]
theorem walk116t (s : Slt) (h1 : s.items.length ≤ 1000000000) (h2 : s.vals.length ≤ 1000000000) :
  KT 116 [.d (encL s)] [] (rL s 212 29) [(212, .tre s.items.length 0 10 (s.items.map encM)), (29, .row s.vals.length 6 (s.vals.map encV))] := by
 refine ok116.co (k := true) (closed_puts (by simp [puts, put, closedH, objIn])) (by simp [rL, hputs, upd, inT, idsIn, idsInL]) ?_;rw [rL];have c54 := (p54 s.key).call trivial;rw [encV_eq s.key] at c54;refine zz55 ?_;refine ⟨⟨Int.le_refl _, oM, oM⟩, ?_⟩;refine wpc_loop (fun n st => ∃ k : Nat, k ≤ s.items.length ∧ n = s.items.length - k ∧
  st = ⟨[(1, .ref 1 0), (2, .ref 2 0), (3, .ms 12 k), (14, .d (.list 10 (s.items.map encM))), (15, .d (.int .i64 s.items.length)), (16, .d (.int .i64 k))],
   [(1, .box [.d (.int .i64 s.key.kind), .d (.int .i64 s.key.int), .d (.int .i64 s.key.scale), .d (.str s.key.text), .d (.list 6 (s.key.list.map encV)), .d (.list 7 (s.key.fields.map encF)), .d (.int .i64 s.num), .d (.int .i64 s.time), .d (.list 10 (s.items.map encM)), .d (.list 6 (s.vals.map encV))]),
    (2, .box [.d (.int .i64 0), .d (.int .i64 0), .d (.int .i64 0), .d (.str []), .d (.nil 6), .d (.nil 7), .d (.int .i64 0), .d (.int .i64 0), .d (.nil 10), .d (.nil 6)]), (12, .row k 10 ((s.items.take k).map encM))]⟩) ?_ ?_
 ·exact ⟨_, _, Wk.refl _, 0, Nat.zero_le _, rfl, sP⟩
 ·rintro n st ⟨k, hk, rfl, rfl⟩;by_cases hlt : k < s.items.length
  ·have hx := nth_encM hlt;have hd := dT hlt;have c := (walk60 s.items[k]).call trivial;have htk := List.take_succ_eq_append_getElem hlt;generalize s.items[k] = m at *;simp only [encM] at c hx;refine zz6 ?_;refine ⟨⟨oM, oM⟩, wn c ?_⟩;refine zz ?_;refine ⟨fun y hy => by rw [List.mem_singleton.1 hy]; rfl, sO, ?_⟩;refine ⟨s.items.length - (k + 1), _, oM, Wk.less ?_, k + 1, oM, rfl, rfl⟩;rw [htk, List.map_append];exact zz56 trivial
  ·have hd := dF hlt;obtain rfl : k = s.items.length := oM;refine zz14 ?_;refine ⟨⟨Int.le_refl _, oM, oM⟩, ?_⟩;refine wpc_loop (fun n st => ∃ k : Nat, k ≤ s.vals.length ∧ n = s.vals.length - k ∧
    st = ⟨[(1, .ref 1 0), (2, .ref 2 0), (3, .tr 212 ⟨s.items.length, 0, [], none⟩), (6, .ms 29 k), (31, .d (.list 6 (s.vals.map encV))), (32, .d (.int .i64 s.vals.length)), (33, .d (.int .i64 k))],
     [(1, .box [.d (.int .i64 s.key.kind), .d (.int .i64 s.key.int), .d (.int .i64 s.key.scale), .d (.str s.key.text), .d (.list 6 (s.key.list.map encV)), .d (.list 7 (s.key.fields.map encF)), .d (.int .i64 s.num), .d (.int .i64 s.time), .d (.list 10 (s.items.map encM)), .d (.list 6 (s.vals.map encV))]),
      (2, .box [.d (.int .i64 0), .d (.int .i64 0), .d (.int .i64 0), .d (.str []), .d (.nil 6), .d (.nil 7), .d (.int .i64 0), .d (.int .i64 0), .d (.nil 10), .d (.nil 6)]), (212, .tre s.items.length 0 10 (s.items.map encM)), (29, .row k 6 ((s.vals.take k).map encV))]⟩) ?_ ?_
   ·refine ⟨_, _, (Wk.rowT 3 12 212 _ _ _ rfl rfl rfl).trans (Wk.less ?_), 0, Nat.zero_le _, rfl, rfl⟩;simp [put, go_sem]
   ·rintro n st ⟨k, hk, rfl, rfl⟩;by_cases hlt : k < s.vals.length
    ·have hx := nth_encV hlt;have hd := dT hlt;have c := (p54 s.vals[k]).call trivial;have htk := List.take_succ_eq_append_getElem hlt;generalize s.vals[k] = m at *;rw [encV_eq] at c;refine zz6 ?_;refine ⟨⟨oM, oM⟩, wn c ?_⟩;refine zz ?_;refine ⟨fun y hy => by rw [List.mem_singleton.1 hy]; rfl, sO, ?_⟩;refine ⟨s.vals.length - (k + 1), _, oM, Wk.less ?_, k + 1, oM, rfl, rfl⟩;rw [htk, List.map_append];exact zz57 trivial
    ·have hd := dF hlt;obtain rfl : k = s.vals.length := oM;refine zz14 ?_;refine wc c54 trivial
theorem call116t (s : Slt) (h1 : s.items.length ≤ 1000000000) (h2 : s.vals.length ≤ 1000000000) :
  CT 116 [.d (encL s)] [(901, none), (902, none)] (rL s 901 902) [(901, .tre s.items.length 0 10 (s.items.map encM)), (902, .row s.vals.length 6 (s.vals.map encV))] := by
 have := Con.twoR (ds := [encL s]) (walk116t s h1 h2) dC (by simp [rL, hputs, upd, inT, idsIn, idsInL]) 901 902 dC;simp [rL, Av.ren, renL] at this;exact this
def owL (s : Slt) : Dat := .agg [.int .i64 s.key.kind, .int .i64 s.key.int, .int .i64 s.key.scale, .str s.key.text, .list 6 (s.key.list.map encV), .list 7 (s.key.fields.map encF), .int .i64 s.num, .int .i64 s.time, .own 10 (s.items.map encM), .own 6 (s.vals.map encV)]
def rU (s : Sta) (i : Nat) : Av := .agg [.d (.int .i64 s.num), .d (.int .i64 s.time), .tr i ⟨s.slots.length, 0, [], none⟩]
theorem walk46t (s : Sta) (h0 : s.slots.length ≤ 1000000000) (h1 : ∀ x ∈ s.slots, x.items.length ≤ 1000000000 ∧ x.vals.length ≤ 1000000000) :
  KT 46 [.d (encU s)] [] (rU s 209) [(209, .tre s.slots.length 0 10 (s.slots.map owL))] := by
 refine ok46.co (k := true) (closed_puts (by simp [puts, put, closedH, objIn])) (by simp [rU, hputs, upd, inT, idsIn, idsInL]) ?_;rw [rU];refine zz58 ?_;refine ⟨⟨Int.le_refl _, oM, oM⟩, ?_⟩;refine wpc_loop (fun n st => ∃ k : Nat, k ≤ s.slots.length ∧ n = s.slots.length - k ∧
  st = ⟨[(1, .ref 1 0), (2, .ref 2 0), (3, .tr 209 ⟨k, 0, [], none⟩), (11, .d (.list 10 (s.slots.map encL))), (12, .d (.int .i64 s.slots.length)), (13, .d (.int .i64 k))],
   [(1, .box [.d (.int .i64 s.num), .d (.int .i64 s.time), .d (.list 10 (s.slots.map encL))]),
    (2, .box [.d (.int .i64 0), .d (.int .i64 0), .d (.nil 10)]), (209, .tre k 0 10 ((s.slots.take k).map owL))]⟩) ?_ ?_
 ·refine ⟨_, _, (Wk.rowT 3 9 209 _ _ _ rfl rfl rfl).trans (Wk.less ?_), 0, Nat.zero_le _, rfl, rfl⟩;simp [put, go_sem]
 ·rintro n st ⟨k, hk, rfl, rfl⟩;by_cases hlt : k < s.slots.length
  ·have hx := nth_encL hlt;have hd := dT hlt;obtain ⟨b1, b2⟩ := h1 s.slots[k] (List.getElem_mem hlt);have c := call116t s.slots[k] b1 b2;have htk := List.take_succ_eq_append_getElem hlt;generalize s.slots[k] = m at *;rw [rL] at c;simp only [encL] at c hx;refine zz6 ?_;refine ⟨⟨oM, oM⟩, wn c ?_⟩;refine zz ?_;refine ⟨⟨dC, sO⟩, s.slots.length - (k + 1), _, oM, Wk.less ?_, k + 1, oM, rfl, rfl⟩;rw [htk, List.map_append];simp only [go_sem, wrap64s k oM, List.map_cons, List.map_nil, owL, simprocAttr]
  ·have hd := dF hlt;obtain rfl : k = s.slots.length := oM;exact zz14 trivial
end Go.Proofs
set_option maxHeartbeats 2000000
namespace Av
open Go
variable [Glb] [Rls]
theorem Con.oneN {P : Program} {f : Nat} {ds : List Dat} {x a1 b1 s1 : Nat} {X : List Dat} {v : Av} (h : Con P f (ds.map .d) [] v [(x, .tre a1 b1 s1 X)])
  (hv : inT (hputs (get []) [(x, .tre a1 b1 s1 X)]) v) (i : Nat) : CallOK P f (ds.map .d) [(i, none)] (v.ren fun n => i) [(i, .tre a1 b1 s1 X)] := by
 have hput : ∀ n, (hputs (get []) [(x, Obj.tre a1 b1 s1 X)] n).isSome = true ↔ n = x := by
  intro n;simp only [hputs, upd, get];by_cases h2 : n = x
  ·subst h2; simp
  ·simp [h2]
 have := Con.call h (fun n => i) (by intro n h; cases h) (by
   intro m n hm hn e;rw [(hput m).1 hm, (hput n).1 hn]) (by intro c hc; obtain ⟨d, _, rfl⟩ := List.mem_map.1 hc; trivial) (by intro n o h; cases h) [x] (by
   intro e he;simp only [List.mem_cons, List.not_mem_nil, or_false] at he;subst he;exact .inr sP) (by
   intro n o hn;simp only [hputs, upd, get] at hn;split at hn
   ·cases hn; trivial
   ·cases hn) hv
 have e0 : (ds.map Av.d).map (Av.ren fun n => i) = ds.map .d := by simp [Av.ren]
 simp only [e0, List.map_cons, List.map_nil, Obj.ren, List.nil_append] at this;exact this
end Av
namespace Go.Proofs
open Go Av
theorem call46t (s : Sta) (h0 : s.slots.length ≤ 1000000000) (h1 : ∀ x ∈ s.slots, x.items.length ≤ 1000000000 ∧ x.vals.length ≤ 1000000000) (i : Nat) :
  CT 46 [.d (encU s)] [(i, none)] (rU s i) [(i, .tre s.slots.length 0 10 (s.slots.map owL))] := by
 have := Con.oneN (ds := [encU s]) (walk46t s h0 h1) (by simp [rU, hputs, upd, inT, idsIn, idsInL]) i;simp [rU, Av.ren, renL] at this;exact this
abbrev sta0 : Sta := ⟨0, 0, []⟩
def sta1 (k : Val) (t : Int) (m : Msg) : Sta := ⟨0, 0, [⟨k, 0, t, [m], []⟩]⟩
def setB (m : Msg) (v : Val) : Msg := ⟨m.entry, m.path, m.mass, m.orig, v⟩
theorem walk47_1 (g : Nat) (c1 c2 : List Dat) (k : Val) (t : Int) (m : Msg) (r : Val × Int) (hg : PT g [encV m.body, .ptr c1, .ptr c2] (.tup [.d (encV r.1), .d (.int .i64 r.2)])) :
  PT 47 [encU (sta1 k t m), .fn (.func g) [] [.ptr c1, .ptr c2]] (.tup [.d (encU (if r.2 = 0 then sta1 k t (setB m r.1) else sta0)), .d (.int .i64 r.2)]) := by
 refine ok47.pc ?_;have c46 := call46t (sta1 k t m) (by simp [sta1]) (by simp [sta1]) 906;have cg := hg.call (by simp [pureR]);generalize hR : (if r.2 = 0 then sta1 k t (setB m r.1) else sta0) = R;rw [encV_eq, encV_eq] at cg;simp only [sta1, encU, rU, encL, owL, List.map_nil, List.map_cons, List.length_nil, List.length_cons, Nat.zero_add] at c46 ⊢;simp only [go_sem, ir47, Nat.reduceAdd, Nat.reduceEqDiff, Nat.reduceBEq, Nat.reduceLeDiff, reduceCtorEq, ↓reduceIte];refine wn c46 ?_;refine zz13 ?_;refine wpc_loop (fun n s => ∃ (j sv : Nat), j ≤ 1 ∧ n = 1 - j ∧ (j = 1 → r.2 = 0) ∧ s = ⟨[(1, .d (.fn (.func g) [] [.ptr c1, .ptr c2])), (4, .ref 4 0), (6, .ref 6 0), (16, .tr 906 ⟨1, 0, [], none⟩), (17, .d (.int .i64 1)), (18, .d (.int .i64 j))],
  [(4, .box [.d (.int .i64 0), .d (.int .i64 0), .d (.nil 10)]), (906, .tre 1 sv 10 [.agg [.int .i64 k.kind, .int .i64 k.int, .int .i64 k.scale, .str k.text, .list 6 (k.list.map encV), .list 7 (k.fields.map encF), .int .i64 0, .int .i64 t, .own 10 [encM (if j = 0 then m else setB m r.1)], .own 6 []]]), (6, .box [.d (.int .i64 0), .d (.int .i64 0), .tr 906 ⟨1, 0, [], none⟩])]⟩) ?_ ?_
 ·refine ⟨_, _, Wk.less ?_, 0, 0, by omega, rfl, (fun h => by cases h), rfl⟩;simp [put, go_sem]
 ·rintro n s ⟨j, sv, hj, rfl, hr, rfl⟩;have hj2 : j = 0 ∨ j = 1 := by omega
  rcases hj2 with rfl | rfl
  ·have hd : decide ((0 : Int) < 1) = true := by decide
   have h0 : ((0 : Nat) : Int) = 0 := rfl;have h1 : ((1 : Nat) : Int) = 1 := rfl;have hn : ∀ x : Dat, nth [x] 0 = x := fun _ => rfl
   simp only [go_sem, hd, h0, h1, hn, Int.toNat_zero, List.length_nil, List.length_cons, Nat.zero_add, Nat.reduceAdd, Nat.reduceEqDiff, Nat.reduceBEq, Nat.reduceLeDiff, reduceCtorEq, ↓reduceIte];simp only [go_sem, Option.bind_some, List.getElem?_cons_zero, List.getElem?_cons_succ, nodeAt, List.length_nil, List.length_cons, Nat.zero_add, Nat.reduceAdd, Nat.reduceEqDiff, Nat.reduceBEq, Nat.reduceLeDiff, reduceCtorEq, ↓reduceIte];refine ⟨⟨by decide, by decide⟩, by decide, ?_⟩;refine wpc_loop (fun n s => ∃ (i : Nat), i ≤ 1 ∧ n = 1 - i ∧ (i = 1 → r.2 = 0) ∧ s = ⟨[(1, .d (.fn (.func g) [] [.ptr c1, .ptr c2])), (4, .ref 4 0), (6, .ref 6 0), (16, .tr 906 ⟨1, 0, [], none⟩), (17, .d (.int .i64 1)), (18, .d (.int .i64 0)), (8, .ref 8 0), (23, .tr 906 ⟨1, sv, [(0, 8)], none⟩), (24, .d (.int .i64 1)), (25, .d (.int .i64 i))],
    [(4, .box [.d (.int .i64 0), .d (.int .i64 0), .d (.nil 10)]), (906, .tre 1 sv 10 [.agg [.int .i64 k.kind, .int .i64 k.int, .int .i64 k.scale, .str k.text, .list 6 (k.list.map encV), .list 7 (k.fields.map encF), .int .i64 0, .int .i64 t, .own 10 [encM (if i = 0 then m else setB m r.1)], .own 6 []]]), (6, .box [.d (.int .i64 0), .d (.int .i64 0), .tr 906 ⟨1, 0, [], none⟩]),
     (8, .box [.d (.int .i64 k.kind), .d (.int .i64 k.int), .d (.int .i64 k.scale), .d (.str k.text), .d (.list 6 (k.list.map encV)), .d (.list 7 (k.fields.map encF)), .d (.int .i64 0), .d (.int .i64 t), .tr 906 ⟨1, sv, [(0, 8)], none⟩, .tr 906 ⟨1, sv, [(0, 9)], none⟩])]⟩) ?_ ?_
   ·refine ⟨_, _, Wk.less ?_, 0, by omega, rfl, (fun h => by cases h), rfl⟩;simp [put, go_sem]
   ·rintro n s ⟨i, hi, rfl, hr, rfl⟩;have hi2 : i = 0 ∨ i = 1 := by omega
    rcases hi2 with rfl | rfl
    ·refine zz59 ?_;refine ⟨⟨by decide, by decide⟩, by decide, wn cg ?_⟩;refine zz ?_;apply ik <;> intro h
     ·have hne : r.2 ≠ 0 := by simpa using h
      rw [if_neg hne] at hR;subst hR;rfl
     ·have he : r.2 = 0 := by simpa using h
      refine zz59 ?_;refine ⟨⟨by decide, by decide⟩, by decide, 0, _, by omega, Wk.less ?_, 1, by omega, rfl, fun _ => he, rfl⟩;have hw : IntKind.i64.wrap (0 + 1) = 1 := rfl;have h10 : ¬ (1 : Nat) = 0 := by decide
      simp only [go_sem, hw, h1, h10, encM, setB, List.any_cons, List.any_nil, isOwn, Bool.or_false, List.set_cons_zero, List.set_cons_succ, Bool.false_eq_true, Nat.reduceAdd, Nat.reduceEqDiff, Nat.reduceBEq, Nat.reduceLeDiff, reduceCtorEq, ↓reduceIte]
    ·have hd2 : decide (((1 : Nat) : Int) < 1) = false := by decide
     simp only [go_sem, hd2, Nat.reduceAdd, Nat.reduceEqDiff, Nat.reduceBEq, Nat.reduceLeDiff, reduceCtorEq, ↓reduceIte];refine ⟨0, _, by omega, Wk.less ?_, 1, sv, by omega, rfl, fun _ => hr rfl, rfl⟩;have hw : IntKind.i64.wrap (0 + 1) = 1 := rfl;have h10 : ¬ (1 : Nat) = 0 := by decide
     simp only [go_sem, hw, h1, h10, Nat.reduceAdd, Nat.reduceEqDiff, Nat.reduceBEq, Nat.reduceLeDiff, reduceCtorEq, ↓reduceIte]
  ·have hd : decide (((1 : Nat) : Int) < 1) = false := by decide
   have h10 : (1 : Nat) = 0 ↔ False := by simp
   rw [if_pos (hr rfl)] at hR;subst hR;simp only [go_sem, hd, h10, Nat.reduceAdd, Nat.reduceEqDiff, Nat.reduceBEq, Nat.reduceLeDiff, reduceCtorEq, ↓reduceIte];rw [hr rfl];simp only [sta1, encL, encM, setB, List.map_cons, List.map_nil, Dat.dat, Dat.dat.datL, canonL, Dat.canon, canonL_vals, canonL_flds, canonL_i64]
end Go.Proofs
set_option maxHeartbeats 4000000
namespace Go.Proofs
open Go Av
def nIn : Nod := ⟨[105, 110], 21, 0, 0, 0, 0, [105, 110], [1]⟩
def nOut : Nod := ⟨[111, 117, 116], 22, -1, 0, 0, 0, [111, 117, 116], []⟩
def nMid (k : Int) (n : Str) : Nod := ⟨n, k, -1, 1, 5, 5, [], [2]⟩
def exN (k : Int) (n : Str) : List Nod := [nIn, nMid k n, nOut]
def ckM (k2 : Int) (n1 n2 : Str) (o t : Typ) : Int := if n1 = n2 then (if k2 ≠ 8 then 33 else if cpt o t = true then 0 else 20) else 0
theorem walk11 (k2 : Int) (n1 n2 : Str) (o t : Typ) (hk2 : k2 = 7 ∨ k2 = 8) (ha : PT 18 [encPl o (exN 8 n1)] (.d (.int .i64 0))) (hb : PT 18 [encPl t (exN k2 n2)] (.d (.int .i64 0))) :
  PT 11 [encPl o (exN 8 n1), encPl t (exN k2 n2)] (.d (.int .i64 (ckM k2 n1 n2 o t))) := by
 refine ok11.pc ?_;have ca := ha.call trivial;have cb := hb.call trivial;have c38 := walk38.call trivial;generalize hR : ckM k2 n1 n2 o t = R;have c39 := fun a => CallOK.clo (ds := [.list 20 ((exN k2 n2).map encNd)]) (ix39 (exN k2 n2) (fun x _ => walk40 x a) (by simp [exN])) rfl 10
 have c41 := fun a => (walk41 a).call trivial
 have c42 := (walk42 (nMid 8 n1)).call trivial;have c43a := (walk43 o (exN 8 n1) (nMid 8 n1)).call trivial;have c43b := (walk43 t (exN k2 n2) (nMid k2 n2)).call trivial;have c13 := (walk13 o t).call trivial;have hm : hldN (nMid 8 n1) = true := rfl;have hs1 : stpN nIn = false := rfl;have hs2 : stpN (nMid 8 n1) = true := rfl;have hs3 : stpN nOut = false := rfl;generalize hldN (nMid 8 n1) = HL at *;simp only [encPl] at ca cb c43a c43b ⊢;simp only [go_sem, ir11, List.length_map, Nat.reduceAdd, Nat.reduceEqDiff, Nat.reduceBEq, Nat.reduceLeDiff, reduceCtorEq, ↓reduceIte];refine ⟨fun y hy => by simp only [List.mem_cons, List.not_mem_nil, or_false] at hy; rcases hy with rfl | rfl <;> rfl, ?_⟩;refine wpc_loop (fun n s => ∃ j : Nat, j ≤ 2 ∧ n = 2 - j ∧ s = ⟨[(2, .ref 2 0), (3, .ref 3 0), (17, .d (.list 5 [.agg [.int .i64 1, .list 9 [encSc o], .list 7 [], .list 4 [], .list 20 ((exN 8 n1).map encNd)], .agg [.int .i64 1, .list 9 [encSc t], .list 7 [], .list 4 [], .list 20 ((exN k2 n2).map encNd)]])), (18, .d (.int .i64 2)), (19, .d (.int .i64 j))], [(2, .box [.d (.int .i64 1), .d (.list 9 [encSc o]), .d (.list 7 []), .d (.list 4 []), .d (.list 20 ((exN 8 n1).map encNd))]), (3, .box [.d (.int .i64 1), .d (.list 9 [encSc t]), .d (.list 7 []), .d (.list 4 []), .d (.list 20 ((exN k2 n2).map encNd))])]⟩) ?_ ?_
 ·refine ⟨_, _, Wk.less ?_, 0, by omega, rfl, rfl⟩;simp [put, go_sem]
 ·rintro n s ⟨j, hj, rfl, rfl⟩;have h0 : ((0 : Nat) : Int) = 0 := rfl;have h1 : ((1 : Nat) : Int) = 1 := rfl;have h2 : ((2 : Nat) : Int) = 2 := rfl;have hj2 : j = 0 ∨ j = 1 ∨ j = 2 := by omega
  rcases hj2 with rfl | rfl | rfl
  ·have hd : decide ((0 : Int) < 2) = true := by decide
   have hx : nth [.agg [.int .i64 1, .list 9 [encSc o], .list 7 [], .list 4 [], .list 20 ((exN 8 n1).map encNd)], .agg [.int .i64 1, .list 9 [encSc t], .list 7 [], .list 4 [], .list 20 ((exN k2 n2).map encNd)]] 0 = .agg [.int .i64 1, .list 9 [encSc o], .list 7 [], .list 4 [], .list 20 ((exN 8 n1).map encNd)] := rfl;simp only [go_sem, h0, h2, hd, hx, Int.toNat_zero, List.length_nil, List.length_cons, Nat.zero_add, Nat.reduceAdd, Nat.reduceEqDiff, Nat.reduceBEq, Nat.reduceLeDiff, reduceCtorEq, ↓reduceIte];refine ⟨⟨by decide, by decide⟩, wn ca ?_⟩;refine zz60 ?_;refine ⟨1, _, by omega, Wk.less ?_, 1, by omega, rfl, rfl⟩;simp only [go_sem, h1, show IntKind.i64.wrap (0 + 1) = 1 from rfl, Nat.reduceAdd, Nat.reduceEqDiff, Nat.reduceBEq, Nat.reduceLeDiff, reduceCtorEq, ↓reduceIte]
  ·have hd : decide ((1 : Int) < 2) = true := by decide
   have hx : nth [.agg [.int .i64 1, .list 9 [encSc o], .list 7 [], .list 4 [], .list 20 ((exN 8 n1).map encNd)], .agg [.int .i64 1, .list 9 [encSc t], .list 7 [], .list 4 [], .list 20 ((exN k2 n2).map encNd)]] (Int.toNat 1) = .agg [.int .i64 1, .list 9 [encSc t], .list 7 [], .list 4 [], .list 20 ((exN k2 n2).map encNd)] := rfl;simp only [go_sem, h1, h2, hd, hx, List.length_nil, List.length_cons, Nat.zero_add, Nat.reduceAdd, Nat.reduceEqDiff, Nat.reduceBEq, Nat.reduceLeDiff, reduceCtorEq, ↓reduceIte];refine ⟨⟨by decide, by decide⟩, wn cb ?_⟩;refine zz60 ?_;refine ⟨0, _, by omega, Wk.less ?_, 2, by omega, rfl, rfl⟩;simp only [go_sem, h2, show IntKind.i64.wrap (1 + 1) = 2 from rfl, Nat.reduceAdd, Nat.reduceEqDiff, Nat.reduceBEq, Nat.reduceLeDiff, reduceCtorEq, ↓reduceIte]
  ·have hd : decide ((2 : Int) < 2) = false := by decide
   simp only [go_sem, h2, hd, Nat.reduceAdd, Nat.reduceEqDiff, Nat.reduceBEq, Nat.reduceLeDiff, reduceCtorEq, ↓reduceIte];refine wn c38 ?_;refine zz4 ?_;refine wpc_loop (fun n s => ∃ j : Nat, j ≤ 3 ∧ n = 3 - j ∧ (2 ≤ j → R = 0) ∧ s = ⟨[(2, .ref 2 0), (3, .ref 3 0), (8, .d (.map rulM)), (31, .d (.list 20 ((exN 8 n1).map encNd))), (32, .d (.int .i64 3)), (33, .d (.int .i64 j))], [(2, .box [.d (.int .i64 1), .d (.list 9 [encSc o]), .d (.list 7 []), .d (.list 4 []), .d (.list 20 ((exN 8 n1).map encNd))]), (3, .box [.d (.int .i64 1), .d (.list 9 [encSc t]), .d (.list 7 []), .d (.list 4 []), .d (.list 20 ((exN k2 n2).map encNd))])]⟩) ?_ ?_
   ·refine ⟨_, _, Wk.less ?_, 0, by omega, rfl, (fun h => by omega), rfl⟩;simp [put, go_sem, exN]
   ·rintro n s ⟨j, hj, rfl, hr, rfl⟩;have hj2 : j = 0 ∨ j = 1 ∨ j = 2 ∨ j = 3 := by omega
    have h3 : ((3 : Nat) : Int) = 3 := rfl;rcases hj2 with rfl | rfl | rfl | rfl
    ·have hd : decide ((0 : Int) < 3) = true := by decide
     have hx : nth ((exN 8 n1).map encNd) (Int.toNat 0) = encNd nIn := rfl;have c39 := c39 nIn;have c41 := c41 nIn;rw [hs1] at c41;generalize hX : ixNd (samN nIn) (exN k2 n2) = X at c39;simp only [encNd, Dat.cells, List.map_cons, List.map_nil, List.cons_append, List.nil_append] at hx c39 c41;refine zz35 ?_;refine ⟨⟨by decide, by simp [exN]⟩, wn c39 ?_⟩;refine zz13 ?_;refine wn c41 ?_;refine zz13 ?_;refine sq (decide (X < 0)) ?_ ?_
     ·exact zz13 trivial
     refine zz61 ?_;refine ⟨3 - (0 + 1), _, by omega, Wk.less ?_, 0 + 1, by omega, rfl, (fun h => by omega), rfl⟩;have hw : IntKind.i64.wrap (0 + 1) = ((0 + 1 : Nat) : Int) := rfl;exact zz27 trivial
    ·have hd : decide ((1 : Int) < 3) = true := by decide
     have hx : nth ((exN 8 n1).map encNd) (Int.toNat 1) = encNd (nMid 8 n1) := rfl;have c39 := c39 (nMid 8 n1);have c41 := c41 (nMid 8 n1);rw [hs2] at c41;have hX : ixNd (samN (nMid 8 n1)) (exN k2 n2) = if n1 = n2 then 1 else -1 := by
      have e1 : samN (nMid 8 n1) nIn = false := rfl;have e3 : samN (nMid 8 n1) nOut = false := rfl;have e2 : samN (nMid 8 n1) (nMid k2 n2) = (n2 == n1) := by
       have : stpN (nMid k2 n2) = true := by rcases hk2 with rfl | rfl <;> rfl
       unfold samN;rw [this, Bool.true_and];rfl
      unfold ixNd exN;simp only [List.findIdx?_cons, e1, e2, e3, List.findIdx?_nil, Bool.false_eq_true, ↓reduceIte];by_cases e : n1 = n2
      ·subst e; simp
      ·simp [e, Ne.symm e]
     rw [hX] at c39;simp only [encNd, Dat.cells, List.map_cons, List.map_nil, List.cons_append, List.nil_append] at hx c39 c41 c42 c43a c43b;refine zz35 ?_;refine ⟨⟨by decide, by simp [exN]⟩, wn c39 ?_⟩;refine zz13 ?_;refine wn c41 ?_;refine zz13 ?_;refine sq (decide ((if n1 = n2 then (1 : Int) else -1) < 0)) ?_ ?_
     ·exact zz13 trivial
     simp only [go_sem, Bool.not_true, Bool.false_or, Nat.reduceAdd, Nat.reduceEqDiff, Nat.reduceBEq, Nat.reduceLeDiff, reduceCtorEq, ↓reduceIte];by_cases e : n1 = n2
     ·rw [if_pos e];have hn : decide ((1 : Int) < 0) = false := by decide
      have hx2 : nth ((exN k2 n2).map encNd) (Int.toNat 1) = encNd (nMid k2 n2) := rfl;simp only [encNd] at hx2;simp only [go_sem, hn, hx2, List.length_map, Nat.reduceAdd, Nat.reduceEqDiff, Nat.reduceBEq, Nat.reduceLeDiff, reduceCtorEq, ↓reduceIte];refine ⟨⟨by decide, by simp [exN]⟩, ?_⟩;rcases hk2 with rfl | rfl
      ·have hne : ((nMid 8 n1).kind != (nMid 7 n2).kind) = true := rfl;have hR3 : R = 33 := by rw [← hR]; unfold ckM; rw [if_pos e, if_pos (by decide)]
       rw [hne, hR3];simp only [go_sem]
      ·have hne : ((nMid 8 n1).kind != (nMid 8 n2).kind) = false := rfl;have hfm : findM Ck.i rulM (.int .i64 (nMid 8 n1).kind) = some none := rfl;have hR3 : R = if cpt o t = true then 0 else 20 := by rw [← hR]; unfold ckM; rw [if_pos e, if_neg (by decide)]
       rw [hne];simp only [go_sem, hfm, Option.getD_none, Option.isSome_none, List.getElem?_cons_zero, List.getElem?_cons_succ, Nat.reduceAdd, Nat.reduceEqDiff, Nat.reduceBEq, Nat.reduceLeDiff, reduceCtorEq, ↓reduceIte];refine wpsL_call rfl c42 trivial ?_;refine zz ?_;refine ⟨!(cpt o t), _, [([2], []), ([10], []), ([], []), ([3], []), ([12], []), ([], []), ([], []), ([], [])], rfl, fun _ => ?_, fun _ => rfl, ?_⟩
       ·refine wpsL_call rfl c43a trivial ?_;refine zz ?_;refine wpsL_call rfl c43b trivial ?_;refine zz ?_;refine wpsL_call rfl c13 trivial ?_;refine zz ?_;exact zf
       refine zz ?_;subst hm;simp only [Bool.true_and];refine ⟨by decide, fun h => ?_, fun h => ?_⟩
       ·have hc : ¬ cpt o t = true := by simpa using h
        rw [hR3, if_neg hc]
       ·have hc : cpt o t = true := by simpa using h
        rw [if_pos hc] at hR3;refine ⟨3 - (1 + 1), _, by omega, Wk.less ?_, 1 + 1, by omega, rfl, fun _ => hR3, rfl⟩;have hw : IntKind.i64.wrap (1 + 1) = ((1 + 1 : Nat) : Int) := rfl;exact zz27 trivial
     ·rw [if_neg e];have hn : decide ((-1 : Int) < 0) = true := by decide
      have hR0 : R = 0 := by rw [← hR]; unfold ckM; rw [if_neg e]
      simp only [go_sem, hn, Nat.reduceAdd, Nat.reduceEqDiff, Nat.reduceBEq, Nat.reduceLeDiff, reduceCtorEq, ↓reduceIte];refine ⟨3 - (1 + 1), _, by omega, Wk.less ?_, 1 + 1, by omega, rfl, fun _ => hR0, rfl⟩;have hw : IntKind.i64.wrap (1 + 1) = ((1 + 1 : Nat) : Int) := rfl;exact zz27 trivial
    ·have hd : decide ((2 : Int) < 3) = true := by decide
     have hx : nth ((exN 8 n1).map encNd) (Int.toNat 2) = encNd nOut := rfl;have c39 := c39 nOut;have c41 := c41 nOut;rw [hs3] at c41;generalize hX : ixNd (samN nOut) (exN k2 n2) = X at c39;simp only [encNd, Dat.cells, List.map_cons, List.map_nil, List.cons_append, List.nil_append] at hx c39 c41;refine zz35 ?_;refine ⟨⟨by decide, by simp [exN]⟩, wn c39 ?_⟩;refine zz13 ?_;refine wn c41 ?_;refine zz13 ?_;refine sq (decide (X < 0)) ?_ ?_
     ·exact zz13 trivial
     refine zz61 ?_;refine ⟨3 - (2 + 1), _, by omega, Wk.less ?_, 2 + 1, by omega, rfl, (fun _ => hr (by decide)), rfl⟩;have hw : IntKind.i64.wrap (2 + 1) = ((2 + 1 : Nat) : Int) := rfl;exact zz27 trivial
    ·have hd : decide ((3 : Int) < 3) = false := by decide
     have hR0 := hr (by decide);subst hR0;simp only [go_sem, h3, hd, Nat.reduceAdd, Nat.reduceEqDiff, Nat.reduceBEq, Nat.reduceLeDiff, reduceCtorEq, ↓reduceIte]
end Go.Proofs
namespace Go.Proofs
open Go Av
variable {t : Typ}
def encScO : Dat := .agg [.str [110, 111, 116, 101], .int .i64 1, .opq, .opq, .opq, .opq, .opq, .opq, .opq]
def encPlO (ns : List Nod) : Dat := .agg [.int .i64 1, .list 9 [encScO], .list 7 [], .list 4 [], .list 20 (ns.map encNd)]
theorem rep_blurS {A : Nat → Prop} {w : World} {u : Value} (h : Rep A w (.list 9 [encSc t]) u) : Rep A w (.list 9 [encScO]) u := by
 generalize hX : [encSc t] = X at h;cases h with
 | emp => cases hX
 | list _ _ b o n cap vs hn hA hl hc h1 hsz hh hvl hv =>
  subst hX;refine .list 9 _ b o n cap vs (sX hn) hA (sX hl) (sX hc) h1 (by intro x hx; rw [List.mem_singleton.1 hx]; rfl) hh (by rw [← hvl]; rfl) ?_;intro i c v hci hvi;have h1v := h1 v (List.mem_of_getElem? hvi)
  match i, hci with
  | 0, hci => cases hci; exact hv 0 _ v rfl hvi
  | 1, hci => cases hci; exact hv 1 _ v rfl hvi
  | 2, hci => cases hci; exact .opq v h1v
  | 3, hci => cases hci; exact .opq v h1v
  | 4, hci => cases hci; exact .opq v h1v
  | 5, hci => cases hci; exact .opq v h1v
  | 6, hci => cases hci; exact .opq v h1v
  | 7, hci => cases hci; exact .opq v h1v
  | 8, hci => cases hci; exact .opq v h1v
  | i + 9, hci => simp [flat, encScO, Dat.cells] at hci
theorem rep_blurP {A : Nat → Prop} {w : World} {ns : List Nod} {u : Value} (h : Rep A w (encPl t ns) u) : Rep A w (encPlO ns) u := by
 unfold encPl at h;cases h with
 | agg cs arr hl h1 hv =>
  refine .agg _ arr (by rw [← hl]; rfl) h1 ?_;intro i c v hci hvi
  match i, hci with
  | 0, hci => cases hci; exact hv 0 _ v rfl hvi
  | 1, hci => cases hci; exact rep_blurS (hv 1 _ v rfl hvi)
  | 2, hci => cases hci; exact hv 2 _ v rfl hvi
  | 3, hci => cases hci; exact hv 3 _ v rfl hvi
  | 4, hci => cases hci; exact hv 4 _ v rfl hvi
  | i + 5, hci => simp at hci
theorem PCon.plan {f : Nat} {ns : List Nod} {r : Av} (h : PT f [encPlO ns] r) : PT f [encPl t ns] r := ⟨h.1, fun β A w vs hc hvs => h.2 β A w vs hc ⟨by simpa using hvs.1, fun k c u h1 h2 => by
 match k, h1 with
 | 0, h1 =>
  cases h1;exact .d _ _ (rep_blurP (hvs.2 0 (.d (encPl t ns)) u rfl h2).of_d)
 | k + 1, h1 => simp at h1⟩⟩
end Go.Proofs
namespace Go.Proofs
open Go Av
theorem walk18d8 : PT 18 [encPlO (exN 8 [100])] (.d (.int .i64 0)) := tbl_one X1_ok kR
theorem walk18e8 : PT 18 [encPlO (exN 8 [101])] (.d (.int .i64 0)) := tbl_one X1_ok kR
theorem walk18d7 : PT 18 [encPlO (exN 7 [100])] (.d (.int .i64 0)) := tbl_one X1_ok kR
theorem walk11dd (o t : Typ) : PT 11 [encPl o (exN 8 [100]), encPl t (exN 8 [100])] (.d (.int .i64 (if cpt o t = true then 0 else 20))) := by
 have h := walk11 8 [100] [100] o t (.inr rfl) (PCon.plan walk18d8) (PCon.plan walk18d8);have e : ckM 8 [100] [100] o t = if cpt o t = true then 0 else 20 := by unfold ckM; rw [if_pos rfl, if_neg dC]
 rwa [e] at h
theorem walk11de (o t : Typ) : PT 11 [encPl o (exN 8 [100]), encPl t (exN 8 [101])] (.d (.int .i64 0)) := by
 have h := walk11 8 [100] [101] o t (.inr rfl) (PCon.plan walk18d8) (PCon.plan walk18e8);have e : ckM 8 [100] [101] o t = 0 := by unfold ckM; rw [if_neg dC]
 rwa [e] at h
theorem walk11d7 (o t : Typ) : PT 11 [encPl o (exN 8 [100]), encPl t (exN 7 [100])] (.d (.int .i64 33)) := by
 have h := walk11 7 [100] [100] o t (.inl rfl) (PCon.plan walk18d8) (PCon.plan walk18d7);have e : ckM 7 [100] [100] o t = 33 := by unfold ckM; rw [if_pos rfl, if_pos dC]
 rwa [e] at h
end Go.Proofs
namespace Go.Proofs
open Go Av
open Av.Y
def ir6 : Ic := q (.reg (oN 4 [.int .i64 0,.nil 9,.nil 7,.nil 4,.nil 20]<|N))<|q (R (oo 6 (.bld vT [(0,1,i 2),(2,1,i 9)])<|oo 7 (.bld vG [(0,1,i 1),(1,1,.k (.str [110])),(2,1,i 1),(3,7,t 6)])<|oo 8 (.bls 11 [t 7])<|oo 9 (.bld vT [(0,1,i 9),(6,1,t 8)])<|oN 5 vT<|oS 7 5 9<|N) [6,7,8,9])<|q (R (oL 10 7 5<|oo 11 (.bld [.str [],.int .i64 0,.int .i64 0,.int .i64 0,.int .i64 0,.int .i64 0,.nil 1,.nil 7,.nil 11] [(0,1,.k (.str [110,111,116,101])),(1,1,i 1),(2,7,t 10)])<|oo 12 (.bls 9 [t 11])<|oo 13 (.bls 1 [i 1])<|oo 14 (.bld [.str [],.int .i64 0,.int .i64 0,.int .i64 0,.int .i64 0,.int .i64 0,.int .i64 0,.str [],.int .i64 0,.int .i64 0,.int .i64 0,.int .i64 0,.nil 1,.nil 7,.nil 11,.nil 7,.nil 5,.nil 6,.nil 2,.nil 1] [(0,1,.k (.str [105,110])),(1,1,i 21),(7,1,.k (.str [105,110])),(19,1,t 13)])<|om 15 1<|om 16 0<|oo 17 (.bls 1 [i 2])<|oo 18 (.bld [.str [],.int .i64 0,.int .i64 0,.int .i64 0,.int .i64 0,.int .i64 0,.int .i64 0,.str [],.int .i64 0,.int .i64 0,.int .i64 0,.int .i64 0,.nil 1,.nil 7,.nil 11,.nil 7,.nil 5,.nil 6,.nil 2,.nil 1] [(0,1,t 15),(1,1,t 16),(3,1,i (-1)),(4,1,i 1),(5,1,i 5),(6,1,i 5),(19,1,t 17)])<|oo 19 (.bld [.str [],.int .i64 0,.int .i64 0,.int .i64 0,.int .i64 0,.int .i64 0,.int .i64 0,.str [],.int .i64 0,.int .i64 0,.int .i64 0,.int .i64 0,.nil 1,.nil 7,.nil 11,.nil 7,.nil 5,.nil 6,.nil 2,.nil 1] [(0,1,.k (.str [111,117,116])),(1,1,i 22),(7,1,.k (.str [111,117,116])),(3,1,i (-1))])<|oo 20 (.bls 20 [t 14,t 18,t 19])<|oo 21 (.bld [.int .i64 0,.nil 9,.nil 7,.nil 4,.nil 20] [(0,1,i 1),(1,1,t 12),(4,1,t 20)])<|oS 5 4 21<|N) [0,1,5,10,11,12,13,14,15,16,17,18,19,20,21])<|.ret
theorem ok6 : FT 6 22 ir6 [.cell 4 (some 5)] := .o Tryz.func6
def ir3 : Ic := q (R (ox 3 0<|ox 4 1<|ox 5 2<|ow 6 false<|N) [0,1,2,6])<|q (R (cl 17 6 [i 8,.k (.str [100])]<|cl 18 6 [i 8,.k (.str [100])]<|oN 7 [.int .i64 0,.nil 9,.nil 7,.nil 4,.nil 20]<|oN 8 [.int .i64 0,.nil 9,.nil 7,.nil 4,.nil 20]<|oS 5 7 17<|oS 5 8 18<|N) [17,18])<|q (D (.regd [(3,8),(5,8)] (of 19 7 1<|ol 20 19<|of 21 8 1<|ol 22 21<|oL 23 7 3<|oL 24 7 4<|oo 25 (.ixa true 9 (t 20) (i 0))<|of 26 25 2<|oS 7 26 23<|oo 27 (.ixa true 9 (t 22) (i 0))<|of 28 27 2<|oS 7 28 24<|N)) [19,20,21,22,23,24,25,26,27,28])<|q (q (R (cl 29 7 []<|og 30 29<|om 31 30<|.sc 31 false (oL 32 7 3<|oL 33 6 5<|cl 34 8 [t 32,t 33]<|og 35 34<|N) (t 35) 36 N) [29,30,31])<|D (I 36 (q (R (cl 37 7 []<|om 6 37<|N) [3,4,5,7,8,36,37])<|.ret) S) [36])<|q (R (cl 38 9 [i 3]<|oN 9 [.int .i64 0,.nil 1,.int .i64 0,.nil 1,.int .i64 0,.int .i64 0,.int .i64 0,.str [],.nil 6,.nil 7]<|oS 10 9 38<|N) [38])<|q (R (oL 39 6 5<|of 40 9 4<|oS 6 40 39<|N) [39,40])<|q (D (.regd [(1,2),(1,3)] (oo 41 (.bld [.int .i64 0,.int .i64 0,.nil 10] [])<|cl 42 10 [i 9]<|oL 43 10 9<|oo 44 (.bls 10 [t 43])<|oo 45 (.bld [.int .i64 0,.int .i64 0,.int .i64 0,.str [],.nil 6,.nil 7,.int .i64 0,.int .i64 0,.nil 10,.nil 6] [(0,6,t 42),(7,1,i 9),(8,1,t 44)])<|oo 46 (.bls 10 [t 45])<|oo 47 (.bld [.int .i64 0,.int .i64 0,.nil 10] [(2,1,t 46)])<|oo 48 (.bld [.int .i64 0,.int .i64 0,.nil 10] [])<|oo 49 (.bls 3 [t 41,t 47,t 48])<|om 10 49<|N)) [9,41,42,43,44,45,46,47,48,49])<|q (R (oL 50 5 7<|oL 51 5 8<|cl 52 11 [t 50,t 51]<|om 11 52<|N) [50,51,52])<|q (R (oL 54 5 7<|oL 55 5 8<|om 56 10<|cl 57 12 [t 54,t 55,t 56]<|om 53 57<|oe 58 53 0<|oe 59 53 1<|oN 12 [.nil 3,.nil 6,.nil 13]<|oS 3 12 58<|om 13 59<|N) [7,10,54,55,56,57,53,58,59])<|q (q (R (oL 60 7 3<|oL 61 7 4<|cl 62 13 [t 60,t 61]<|og 63 62<|N) [60,61,62])<|D (I 63 (q (R (om 64 11<|oi 65 .eql 64 20<|om 66 65<|.sc 66 true (om 67 13<|oi 68 .eql 67 20<|N) (t 68) 69 (om 70 69<|.sc 70 true (of 71 12 0<|ol 72 71<|oh 73 72<|oi 74 .eql 73 0<|N) (t 74) 75 (om 6 75<|N))) [3,4,5,8,11,12,13,63,64,65,66,69,70,75])<|.ret) S) [63])<|q (R (oL 77 7 3<|oL 78 7 4<|oL 79 6 5<|cl 80 14 [t 77,t 78,t 79]<|om 76 80<|oe 81 76 0<|oe 82 76 1<|oN 14 v6<|oS 6 14 81<|om 15 82<|N) [77,78,79,80,76,81,82])<|q (q (R (oL 83 7 3<|oL 84 7 4<|cl 85 15 [t 83,t 84]<|N) [3,4,83,84])<|D (I 85 (R (oL 86 6 5<|oS 6 14 86<|oz 15 0<|N) [5,85,86]) S) [5,85])<|q (q (R (om 87 11<|oi 88 .neq 87 0<|om 89 88<|.sc 89 false (om 90 15<|oi 91 .neq 90 0<|N) (t 91) 92 N) [15,87,88,89])<|D (I 92 (q (R (om 93 11<|oi 94 .eql 93 0<|om 95 94<|.sc 95 true (om 96 13<|oi 97 .eql 96 20<|N) (t 97) 98 (om 6 98<|N)) [8,11,12,13,14,92,93,94,95,98])<|.ret) S) [11,92])<|q (q (R (om 99 13<|oi 100 .neq 99 0<|om 101 100<|.sc 101 false (of 102 12 0<|ol 103 102<|oh 104 103<|oi 105 .neq 104 3<|N) (t 105) 106 N) [13,99,100,101])<|D (I 106 (q (R (ow 6 false<|N) [8,12,14,106])<|.ret) S) [106])<|q (R (of 107 12 0<|ol 108 107<|oo 109 (.ixa true 3 (t 108) (i 1))<|oL 110 3 109<|cl 111 16 [t 110]<|om 16 111<|N) [12,107,108,109,110,111])<|q (R (om 112 16<|oh 113 112<|oi 114 .eql 113 1<|om 115 114<|.sc 115 true (om 116 16<|oo 117 (.ixa true 10 (t 116) (i 0))<|of 118 117 4<|oL 119 6 118<|oL 120 6 14<|cl 121 17 [t 119,t 120]<|N) (t 121) 122 (om 123 122<|.sc 123 true (oL 124 5 8<|cl 125 18 [t 124]<|oi 126 .eql 125 0<|N) (t 126) 127 (om 6 127<|N))) [8,14,16,112,113,114,115,122,123,127])<|.ret
theorem ok3 : FT 3 128 ir3 [.tmp 6] := .o Tryz.func3
end Go.Proofs
namespace Go.Proofs
open Go Av
end Go.Proofs
set_option maxHeartbeats 4000000
namespace Go.Proofs
open Go Av
def encMv (l : List Sta) : Dat := .agg [.list 3 (l.map encU), .list 6 [], .list 13 []]
noncomputable def migR (N : Nat) (o t : Typ) (k : Val) (tm : Int) (m : Msg) : List Sta × Int :=
 if cpt o t = true then (if (bodR N o t m.body).2 = 0 then ([sta0, sta1 k tm (setB m (bodR N o t m.body).1), sta0], 0) else ([], 20)) else ([], 20)
def plB (t : Typ) (L : List Dat) : List Av := [.d (.int .i64 1), .d (.list 9 [encSc t]), .d (.list 7 []), .d (.list 4 []), .d (.list 20 L)]
abbrev u0 : Dat := .agg [.int .i64 0, .int .i64 0, .list 10 []]
abbrev zSt : Dat := .agg [.int .i64 0, .int .i64 0, .nil 10]
theorem walk12 (N : Nat) (o t : Typ) (k : Val) (tm : Int) (m : Msg) (hN : szT o ≤ N) (hb : bY o ≤ 60000000000) (hy : okY o) (hn : nmW m.body) (hv : szV m.body ≤ 400000000) :
  PT 12 [encPl o (exN 8 [100]), encPl t (exN 8 [100]), .list 3 [encU sta0, encU (sta1 k tm m), encU sta0]]
   (.tup [.d (encMv (migR N o t k tm m).1), .d (.int .i64 (migR N o t k tm m).2)]) := by
 refine ok12.pc ?_;have c11 := (walk11dd o t).call trivial;have c44 := (walk44 t (exN 8 [100]) (by decide)).call trivial;have c46a := (walk46 sta0 (by decide) (by simp)).call trivial;have c46b := (walk46 (sta1 k tm m) (by simp [sta1]) (by simp [sta1])).call trivial;have c42a : CT (.fn 42) [.d (encNd nIn)] [] (.d (.bool false)) [] := (walk42 nIn).call trivial;have c42b : CT (.fn 42) [.d (encNd (nMid 8 [100]))] [] (.d (.bool true)) [] := (walk42 (nMid 8 [100])).call trivial;have c42c : CT (.fn 42) [.d (encNd nOut)] [] (.d (.bool false)) [] := (walk42 nOut).call trivial;have c43a := (walk43 o (exN 8 [100]) (nMid 8 [100])).call trivial;have c43b := (walk43 t (exN 8 [100]) (nMid 8 [100])).call trivial;have c47 := PCon.callClo2s (ds := [encU (sta1 k tm m)]) (walk47_1 48 (encT o).cells (encT t).cells k tm m (bodR N o t m.body) (walk48 N o t m.body hN hb hy hn hv)) (by simp [pureR]) 24 25 (by decide);have hm0 : findM (.p .s .i) ((krun (exN 8 [100]) (exN 8 [100]).length []).map encK) (.agg [.str nIn.name, .int .i64 nIn.kind]) = some (some (.int .i64 0)) := findM_K _ _ _;have hm1 : findM (.p .s .i) ((krun (exN 8 [100]) (exN 8 [100]).length []).map encK) (.agg [.str (nMid 8 [100]).name, .int .i64 (nMid 8 [100]).kind]) = some (some (.int .i64 1)) := findM_K _ _ _;have hm2 : findM (.p .s .i) ((krun (exN 8 [100]) (exN 8 [100]).length []).map encK) (.agg [.str nOut.name, .int .i64 nOut.kind]) = some (some (.int .i64 2)) := findM_K _ _ _;generalize (krun (exN 8 [100]) (exN 8 [100]).length []).map encK = M at *;have hx0 : nth ((exN 8 [100]).map encNd) (Int.toNat 0) = encNd nIn := rfl;have hx1 : nth ((exN 8 [100]).map encNd) (Int.toNat 1) = encNd (nMid 8 [100]) := rfl;have hx2 : nth ((exN 8 [100]).map encNd) (Int.toNat 2) = encNd nOut := rfl;have hlen : ((exN 8 [100]).map encNd).length = 3 := rfl;simp only [encPl] at c11 c44 c43a c43b ⊢;generalize (exN 8 [100]).map encNd = L at *;generalize hR : migR N o t k tm m = R;unfold migR at hR;generalize bodR N o t m.body = r at *;generalize hV : (if r.2 = 0 then sta1 k tm (setB m r.1) else sta0) = V at c47;obtain ⟨a1, b1, d1, hU⟩ : ∃ a b c, encU (sta1 k tm m) = .agg [a, b, c] := ⟨_, _, _, rfl⟩;rw [hU] at c46b c47 ⊢;simp only [encNd] at hx0 hx1 hx2 c42a c42b c42c c43a c43b;rw [encT_eq o] at c43a c47;rw [encT_eq t] at c43b c47;simp only [encU, sta0, List.map_nil, List.map_cons, List.cons_append, List.nil_append, Dat.cells] at c46a c47;have h3 : ((3 : Nat) : Int) = 3 := rfl;simp only [go_sem, encU, sta0, ir12, hlen, List.map_nil, Nat.reduceAdd, Nat.reduceEqDiff, Nat.reduceBEq, Nat.reduceLeDiff, reduceCtorEq, ↓reduceIte];refine wc c11 ?_;apply ik <;> intro h
 ·have hc : ¬ cpt o t = true := by intro hc; rw [if_pos hc] at h; exact absurd h (by decide)
  rw [if_neg hc] at hR;subst hR;rw [if_neg hc];rfl
 have hc : cpt o t = true := by
  by_cases hc : cpt o t = true
  ·exact hc
  ·rw [if_neg hc] at h; exact absurd h (by decide)
 rw [if_pos hc] at hR;have hne : (((3 : Nat) : Int) != (L.length : Int)) = false := by rw [hlen]; rfl
 simp only [go_sem, hne, Nat.reduceAdd, Nat.reduceEqDiff, Nat.reduceBEq, Nat.reduceLeDiff, reduceCtorEq, ↓reduceIte];refine wn c44 ?_;simp only [go_sem, hlen, h3, Nat.reduceAdd, Nat.reduceEqDiff, Nat.reduceBEq, Nat.reduceLeDiff, reduceCtorEq, ↓reduceIte];refine wpc_loop (fun n s => ∃ j : Nat, j ≤ 3 ∧ n = 3 - j ∧ s = ⟨[(2, .d (.list 3 [.agg [.int .i64 0, .int .i64 0, .list 10 []], .agg [a1, b1, d1], .agg [.int .i64 0, .int .i64 0, .list 10 []]])), (3, .ref 3 0), (4, .ref 4 0), (6, .ref 6 0), (9, .d (.map M)), (43, .d (.list 20 L)), (44, .d (.int .i64 3)), (45, .d (.int .i64 j))],
  [(3, .box (plB o L)), (4, .box (plB t L)), (6, .box [.d (.nil 3), .d (.nil 6), .d (.nil 13)])]⟩) ?_ ?_
 ·refine ⟨_, _, Wk.less ?_, 0, by omega, rfl, rfl⟩;simp [put, go_sem, plB, hlen]
 ·rintro n s ⟨j, hj, rfl, rfl⟩;have hj2 : j = 0 ∨ j = 1 ∨ j = 2 ∨ j = 3 := by omega
  have h0 : ((0 : Nat) : Int) = 0 := rfl;have h1 : ((1 : Nat) : Int) = 1 := rfl;have h2 : ((2 : Nat) : Int) = 2 := rfl;have hk0 : (nIn.kind == 10) = false := rfl;rcases hj2 with rfl | rfl | rfl | rfl
  ·have hd : decide ((0 : Int) < 3) = true := by decide
   simp only [go_sem, h0, hd, hx0, hm0, Option.getD_some, Option.isSome_some, List.getElem?_cons_zero, List.getElem?_cons_succ, Nat.reduceAdd, Nat.reduceEqDiff, Nat.reduceBEq, Nat.reduceLeDiff, reduceCtorEq, ↓reduceIte];refine ⟨⟨by decide, by rw [hlen]; decide⟩, ?_⟩;refine zz19 ?_;refine ⟨3 - (0 + 1), _, by omega, Wk.less ?_, 0 + 1, by omega, rfl, rfl⟩;have hw : IntKind.i64.wrap (0 + 1) = ((0 + 1 : Nat) : Int) := rfl;exact zz36 trivial
  ·have hd : decide ((1 : Int) < 3) = true := by decide
   simp only [go_sem, h1, hd, hx1, hm1, Option.getD_some, Option.isSome_some, List.getElem?_cons_zero, List.getElem?_cons_succ, Nat.reduceAdd, Nat.reduceEqDiff, Nat.reduceBEq, Nat.reduceLeDiff, reduceCtorEq, ↓reduceIte];refine ⟨⟨by decide, by rw [hlen]; decide⟩, ?_⟩;refine zz19 ?_;refine ⟨3 - (1 + 1), _, by omega, Wk.less ?_, 1 + 1, by omega, rfl, rfl⟩;have hw : IntKind.i64.wrap (1 + 1) = ((1 + 1 : Nat) : Int) := rfl;exact zz36 trivial
  ·have hd : decide ((2 : Int) < 3) = true := by decide
   simp only [go_sem, h2, hd, hx2, hm2, Option.getD_some, Option.isSome_some, List.getElem?_cons_zero, List.getElem?_cons_succ, Nat.reduceAdd, Nat.reduceEqDiff, Nat.reduceBEq, Nat.reduceLeDiff, reduceCtorEq, ↓reduceIte];refine ⟨⟨by decide, by rw [hlen]; decide⟩, ?_⟩;refine zz19 ?_;refine ⟨3 - (2 + 1), _, by omega, Wk.less ?_, 2 + 1, by omega, rfl, rfl⟩;have hw : IntKind.i64.wrap (2 + 1) = ((2 + 1 : Nat) : Int) := rfl;exact zz36 trivial
  have hd : decide ((3 : Int) < 3) = false := by decide
  simp only [go_sem, plB, h3, hd, hlen, Nat.reduceAdd, Nat.reduceEqDiff, Nat.reduceBEq, Nat.reduceLeDiff, reduceCtorEq, ↓reduceIte];refine ⟨⟨by decide, by decide, by decide⟩, ?_⟩;refine wpc_loop (fun n s => ∃ (j : Nat) (rs : List Dat) (es : List (Dat × Dat)), n = 3 - j ∧
   ((j = 0 ∧ rs = [zSt, zSt, zSt] ∧ es = []) ∨ (j = 1 ∧ rs = [u0, zSt, zSt] ∧ es = [(.int .i64 0, .bool true)]) ∨
    (j = 2 ∧ r.2 = 0 ∧ rs = [u0, .agg [.int .i64 V.num, .int .i64 V.time, .list 10 (V.slots.map encL)], zSt] ∧ es = [(.int .i64 0, .bool true), (.int .i64 1, .bool true)]) ∨
    (j = 3 ∧ r.2 = 0 ∧ rs = [u0, .agg [.int .i64 V.num, .int .i64 V.time, .list 10 (V.slots.map encL)], u0] ∧ es = [(.int .i64 0, .bool true), (.int .i64 1, .bool true), (.int .i64 2, .bool true)])) ∧
   s = ⟨[(2, .d (.list 3 [u0, .agg [a1, b1, d1], u0])), (3, .ref 3 0), (4, .ref 4 0), (6, .ref 6 0), (9, .d (.map M)), (14, .ref 14 0), (15, .mp 82), (84, .d (.list 20 L)), (85, .d (.int .i64 3)), (86, .d (.int .i64 j))],
    [(3, .box (plB o L)), (4, .box (plB t L)), (6, .box [.d (.nil 3), .d (.nil 6), .d (.nil 13)]), (80, .row 0 3 rs), (14, .box [.ms 80 0, .d (.nil 6), .d (.nil 13)]), (82, .mapo es)]⟩) ?_ ?_
  ·refine ⟨_, _, Wk.less ?_, 0, _, _, rfl, .inl ⟨rfl, rfl, rfl⟩, rfl⟩;simp [put, go_sem, plB]
  ·rintro n s ⟨j, rs, es, rfl, hj2, rfl⟩;rcases hj2 with ⟨rfl, rfl, rfl⟩ | ⟨rfl, rfl, rfl⟩ | ⟨rfl, hr, rfl, rfl⟩ | ⟨rfl, hr, rfl, rfl⟩
   ·have hd : decide ((0 : Int) < 3) = true := by decide
    have hs0 : nth [u0, .agg [a1, b1, d1], u0] (Int.toNat 0) = .agg [.int .i64 0, .int .i64 0, .list 10 []] := rfl;simp only [go_sem, plB, h0, hd, hx0, hm0, hs0, Bool.not_true, Option.getD_some, Option.isSome_some, List.getElem?_cons_zero, List.getElem?_cons_succ, Nat.reduceAdd, Nat.reduceEqDiff, Nat.reduceBEq, Nat.reduceLeDiff, reduceCtorEq, ↓reduceIte];refine ⟨⟨by decide, by rw [hlen]; decide⟩, ⟨by decide, by decide⟩, wn c46a ?_⟩;refine zz ?_;refine wn c42a ?_;have hf : findM Ck.i ([] : List (Dat × Dat)) (.int .i64 0) = some none := rfl;simp only [go_sem, hf, Option.getD_none, Bool.not_false, Nat.reduceAdd, Nat.reduceEqDiff, Nat.reduceBEq, Nat.reduceLeDiff, reduceCtorEq, ↓reduceIte];have hz0 : nth [zSt, zSt, zSt] (Int.toNat 0) = .agg [.int .i64 0, .int .i64 0, .nil 10] := rfl;simp only [go_sem, hz0, Nat.reduceAdd, Nat.reduceEqDiff, Nat.reduceBEq, Nat.reduceLeDiff, reduceCtorEq, ↓reduceIte];refine ⟨⟨by decide, by decide⟩, 3 - (0 + 1), _, by omega, Wk.less ?_, 0 + 1, _, _, rfl, .inr (.inl ⟨rfl, rfl, rfl⟩), rfl⟩;have hw : IntKind.i64.wrap (0 + 1) = ((0 + 1 : Nat) : Int) := rfl;have hp : putM Ck.i ([] : List (Dat × Dat)) (.int .i64 0) (.bool true) = [(.int .i64 0, .bool true)] := rfl;simp only [go_sem, plB, hw, hp, Int.toNat_zero, List.set_cons_zero, List.set_cons_succ, List.drop_succ_cons, List.drop_zero, Nat.reduceAdd, Nat.reduceEqDiff, Nat.reduceBEq, Nat.reduceLeDiff, reduceCtorEq, ↓reduceIte]
   ·have hd : decide ((1 : Int) < 3) = true := by decide
    have hs1 : nth [u0, .agg [a1, b1, d1], u0] (Int.toNat 1) = .agg [a1, b1, d1] := rfl;simp only [go_sem, plB, h1, hd, hx1, hm1, hs1, Bool.not_true, Option.getD_some, Option.isSome_some, List.getElem?_cons_zero, List.getElem?_cons_succ, Nat.reduceAdd, Nat.reduceEqDiff, Nat.reduceBEq, Nat.reduceLeDiff, reduceCtorEq, ↓reduceIte];refine ⟨⟨by decide, by rw [hlen]; decide⟩, ⟨by decide, by decide⟩, wn c46b ?_⟩;refine zz ?_;refine wc c42b ?_;refine wpsL_call rfl c43a trivial ?_;simp only [go_sem, hx1, Nat.reduceAdd, Nat.reduceEqDiff, Nat.reduceBEq, Nat.reduceLeDiff, reduceCtorEq, ↓reduceIte];refine ⟨⟨by decide, by rw [hlen]; decide⟩, wpsL_call rfl c43b trivial ?_⟩;refine zz ?_;refine ⟨by decide, wn c47 ?_⟩;refine zz ?_;apply ik <;> intro h
    ·have hr : ¬ r.2 = 0 := by simpa using h
     rw [if_neg hr] at hR;subst hR;rfl
    ·have hr : r.2 = 0 := by simpa using h
     have hf : findM Ck.i [(.int .i64 0, .bool true)] (.int .i64 1) = some none := rfl;have hz1 : nth [u0, zSt, zSt] (Int.toNat 1) = .agg [.int .i64 0, .int .i64 0, .nil 10] := rfl;simp only [go_sem, hf, hz1, Option.getD_none, Bool.not_false, Nat.reduceAdd, Nat.reduceEqDiff, Nat.reduceBEq, Nat.reduceLeDiff, reduceCtorEq, ↓reduceIte];refine ⟨⟨by decide, by decide⟩, 3 - (1 + 1), _, by omega, Wk.less ?_, 1 + 1, _, _, rfl, .inr (.inr (.inl ⟨rfl, hr, rfl, rfl⟩)), rfl⟩;have hw : IntKind.i64.wrap (1 + 1) = ((1 + 1 : Nat) : Int) := rfl;have hp : putM Ck.i [(.int .i64 0, .bool true)] (.int .i64 1) (.bool true) = [(.int .i64 0, .bool true), (.int .i64 1, .bool true)] := rfl;have ht : Int.toNat 1 = 1 := rfl;exact zz62 trivial
   ·have hd : decide ((2 : Int) < 3) = true := by decide
    have hs2 : nth [u0, .agg [a1, b1, d1], u0] (Int.toNat 2) = .agg [.int .i64 0, .int .i64 0, .list 10 []] := rfl;simp only [go_sem, plB, h2, hd, hx2, hm2, hs2, Bool.not_true, Option.getD_some, Option.isSome_some, List.getElem?_cons_zero, List.getElem?_cons_succ, Nat.reduceAdd, Nat.reduceEqDiff, Nat.reduceBEq, Nat.reduceLeDiff, reduceCtorEq, ↓reduceIte];refine ⟨⟨by decide, by rw [hlen]; decide⟩, ⟨by decide, by decide⟩, wn c46a ?_⟩;refine zz ?_;refine wn c42c ?_;generalize hv : Dat.agg [.int .i64 V.num, .int .i64 V.time, .list 10 (V.slots.map encL)] = v1;have hf : findM Ck.i [(.int .i64 0, .bool true), (.int .i64 1, .bool true)] (.int .i64 2) = some none := rfl;have hz2 : nth [u0, v1, zSt] (Int.toNat 2) = .agg [.int .i64 0, .int .i64 0, .nil 10] := rfl;simp only [go_sem, hf, hz2, Option.getD_none, Bool.not_false, Nat.reduceAdd, Nat.reduceEqDiff, Nat.reduceBEq, Nat.reduceLeDiff, reduceCtorEq, ↓reduceIte];refine ⟨⟨by decide, by simp⟩, 3 - (2 + 1), _, by omega, Wk.less ?_, 2 + 1, _, _, rfl, .inr (.inr (.inr ⟨rfl, hr, rfl, rfl⟩)), rfl⟩;have hw : IntKind.i64.wrap (2 + 1) = ((2 + 1 : Nat) : Int) := rfl;have hp : putM Ck.i [(.int .i64 0, .bool true), (.int .i64 1, .bool true)] (.int .i64 2) (.bool true) = [(.int .i64 0, .bool true), (.int .i64 1, .bool true), (.int .i64 2, .bool true)] := rfl;have ht : Int.toNat 2 = 2 := rfl;exact zz62 trivial
   ·have hd : decide ((3 : Int) < 3) = false := by decide
    simp only [go_sem, plB, h3, hd, Nat.reduceAdd, Nat.reduceEqDiff, Nat.reduceBEq, Nat.reduceLeDiff, reduceCtorEq, ↓reduceIte];rw [if_pos hr] at hR hV;subst hR;subst hV;rw [canonL_slts];rfl
end Go.Proofs
namespace Go.Proofs
open Go Av
theorem findT_mem : ∀ {t : Tbl} {f : Nat} {ds : List Dat} {v : Av}, findT f ds t = some v → (f, ds, v) ∈ t
 | (g, l, x) :: r, f, ds, v, h => by
  rw [findT] at h;split at h
  ·rename_i e1;split at h
   ·rename_i e2;cases h;obtain rfl := datEqs_eq _ _ e2;simp only [beq_iff_eq] at e1;subst e1;exact List.mem_cons_self
   ·exact List.mem_cons_of_mem _ (findT_mem h)
  ·exact List.mem_cons_of_mem _ (findT_mem h)
theorem ext_ok' {P : Program} {X : Ext} {t : Tbl} (hX : ExtOK P X) (h : ∀ e ∈ t, PCon P e.1 e.2.1 e.2.2 ∧ pureR e.2.2) : ExtOK P (ext t X) := by
 intro f ds v hx;unfold ext at hx;split at hx
 ·rename_i u e;cases hx;have := h _ (findT_mem e);exact this.1.call this.2
 ·exact hX f ds v hx
def tEx : Typ := .mk 9 0 0 0 [] [] [.mk 1 [110] 1 (.mk 2 0 9 0 [] [] []) []]
def rcEx (n : Int) : Val := .mk 9 0 0 [] [] [.mk [110] (.mk 2 n 0 [] [] [])]
theorem walk37e (n : Int) : PT 37 [.list 7 ([Fld.mk [110] (.mk 2 n 0 [] [] [])].map encF)] (.d (encV (rcEx n))) := by
 have h := walk37 [Fld.mk [110] (.mk 2 n 0 [] [] [])] sP;have e : srtF (kepR [Fld.mk [110] (.mk 2 n 0 [] [] [])]) = [Fld.mk [110] (.mk 2 n 0 [] [] [])] := by
  have : kepR [Fld.mk [110] (.mk 2 n 0 [] [] [])] = [Fld.mk [110] (.mk 2 n 0 [] [] [])] := rfl;rw [this];simp [srtF]
 rwa [e] at h
theorem cptEx : cpt tEx tEx = true := kR
def tb40A : Tbl := [(37, [.list 7 ([Fld.mk [110] (.mk 2 4 0 [] [] [])].map encF)], .d (encV (rcEx 4))), (37, [.list 7 ([Fld.mk [110] (.mk 2 3 0 [] [] [])].map encF)], .d (encV (rcEx 3))),
 (11, [encPl tEx (exN 8 [100]), encPl tEx (exN 8 [100])], .d (.int .i64 0)), (11, [encPl tEx (exN 8 [100]), encPl tEx (exN 8 [101])], .d (.int .i64 0)), (11, [encPl tEx (exN 8 [100]), encPl tEx (exN 7 [100])], .d (.int .i64 33))]
def X40A : Ext := ext tb40A X1
theorem X40A_ok : ExtOK Tryz.prog X40A := ext_ok' X1_ok (by
 intro e he;simp only [tb40A, List.mem_cons, List.not_mem_nil, or_false] at he;rcases he with rfl | rfl | rfl | rfl | rfl
 ·exact ⟨walk37e 4, trivial⟩
 ·exact ⟨walk37e 3, trivial⟩
 ·have h := walk11dd tEx tEx;rw [if_pos cptEx] at h;exact ⟨h, trivial⟩
 ·exact ⟨walk11de tEx tEx, trivial⟩
 ·exact ⟨walk11d7 tEx tEx, trivial⟩)
theorem walk9_3 : PT 9 [.int .i64 3] (.d (encM ⟨3, [1], 1048576, [3], rcEx 3⟩)) := tbl_one X40A_ok kR
def key9 : Val := .mk 2 9 0 [] [] []
def msg4 : Msg := ⟨4, [1], 1048576, [4], rcEx 4⟩
def slX (m : Msg) : Dat := .agg [.int .i64 2, .int .i64 9, .int .i64 0, .str [], .list 6 [], .list 7 [], .int .i64 0, .int .i64 9, .list 10 [encM m], .nil 6]
def stX (m : Msg) : Dat := .agg [.int .i64 0, .int .i64 0, .list 10 [slX m]]
def stsX (m : Msg) : Dat := .list 3 [.agg [.int .i64 0, .int .i64 0, .nil 10], stX m, .agg [.int .i64 0, .int .i64 0, .nil 10]]
theorem canon_encM (m : Msg) : (encM m).canon = encM m := by simp only [encM, Dat.canon, canonL_i64, canonL_vals, canonL_flds, canonL]
theorem canon_stX (m : Msg) : (stX m).canon = encU (sta1 key9 9 m) := by
 simp only [stX, slX, Dat.canon, canonL, canon_encM];rfl
theorem canon_stsX (m : Msg) : (stsX m).canon = .list 3 [encU sta0, encU (sta1 key9 9 m), encU sta0] := by
 simp only [stsX, Dat.canon, canonL, canon_stX];rfl
theorem migEx : migR 4096 tEx tEx key9 9 msg4 = ([sta0, sta1 key9 9 msg4, sta0], 0) := by
 have e : eqTF 4096 tEx tEx = true := kR;unfold migR bodR;rw [if_pos cptEx, if_pos e];rfl
theorem walk12ex : PT 12 [encPl tEx (exN 8 [100]), encPl tEx (exN 8 [100]), stsX msg4] (.tup [.d (encMv [sta0, sta1 key9 9 msg4, sta0]), .d (.int .i64 0)]) := by
 have h := walk12 4096 tEx tEx key9 9 msg4 dC dC ⟨trivial, ⟨dC, ⟨trivial, trivial⟩, by intro y hy; cases hy⟩, trivial⟩ ⟨trivial, dC, ⟨trivial, trivial⟩, trivial⟩ dC;rw [migEx] at h;refine PCon.canon ?_;have e : ∀ t k n, (encPl t (exN k n)).canon = encPl t (exN k n) := fun t k n => by
  simp only [encPl, encSc, Dat.canon, canonL, canonL_strT, canonL_typs, canonL_tfls, canonL_nds]
 simp only [List.map_cons, List.map_nil, e, canon_stsX];exact h
theorem walk16ex : PT 16 [stX msg4] (.d (.list 10 [encM msg4])) := by
 refine PCon.canon ?_;simp only [List.map_cons, List.map_nil, canon_stX];exact walk16 (sta1 key9 9 msg4) dC dC
def tb40B : Tbl := [(16, [stX msg4], .d (.list 10 [encM msg4])), (134, [.agg [.int .i64 4, .list 1 ([(1 : Int)].map (.int .i64))]], .d (.agg [.int .i64 4, .list 1 ([(1 : Int)].map (.int .i64))])),
 (12, [encPl tEx (exN 8 [100]), encPl tEx (exN 8 [100]), stsX msg4], .tup [.d (encMv [sta0, sta1 key9 9 msg4, sta0]), .d (.int .i64 0)])]
def X40B : Ext := ext tb40B X40A
theorem X40B_ok : ExtOK Tryz.prog X40B := ext_ok' X40A_ok (by
 intro e he;simp only [tb40B, List.mem_cons, List.not_mem_nil, or_false] at he;rcases he with rfl | rfl | rfl
 ·exact ⟨walk16ex, trivial⟩
 ·exact ⟨walk134 4 [1], trivial⟩
 ·exact ⟨walk12ex, by simp [pureR]⟩)
theorem walk7 : PT 7 [] (.d (.bool true)) := tbl_one X40B_ok kR
theorem cmpBytes_iff : ∀ (a b : Str), Lib.compareBytes a b = 0 ↔ a = b
 | [], [] => by simp [Lib.compareBytes]
 | [], _ :: _ => by simp [Lib.compareBytes]
 | _ :: _, [] => by simp [Lib.compareBytes]
 | a :: r, b :: s => by
  rw [Lib.compareBytes];by_cases h : a < b
  ·simp only [h, ↓reduceIte, List.cons.injEq];refine ⟨fun h => by omega, fun e => absurd h ?_⟩;rw [e.1]; exact UInt8.lt_irrefl _
  ·by_cases h' : b < a
   ·simp only [h, h', ↓reduceIte, List.cons.injEq];refine ⟨fun h => by omega, fun e => absurd h' ?_⟩;rw [e.1]; exact UInt8.lt_irrefl _
   ·simp only [h, h', ↓reduceIte, List.cons.injEq, cmpBytes_iff r s];have : a = b := UInt8.le_antisymm (UInt8.not_lt.1 h') (UInt8.not_lt.1 h);simp [this]
theorem cmpS_iff (a b : Str) : cmpS a b = 0 ↔ a = b := by
 rw [cmpS, Lib.cmp_eq];exact cmpBytes_iff a b
theorem cmpI_iff (a b : Int) : cmpI a b = 0 ↔ a = b := by
 unfold cmpI;split
 ·omega
 ·split <;> omega
theorem orI_iff : ∀ (l : List Int), orI l = 0 ↔ ∀ x ∈ l, x = 0
 | [] => by simp [orI]
 | x :: r => by
  rw [orI];by_cases h : x = 0
  ·simp [h, orI_iff r]
  ·simp [h]
mutual
theorem cmpV_iff : ∀ (a b : Val), cmpV a b = 0 ↔ a = b
 | .mk k i s t l f, .mk k' i' s' t' l' f' => by
  rw [cmpV, orI_iff];simp only [List.mem_cons, List.not_mem_nil, or_false, forall_eq_or_imp, forall_eq, cmpI_iff, cmpS_iff, Val.kind, Val.int, Val.scale, Val.text, Val.list, Val.fields, cmpVs_iff l, cmpFs_iff f, Val.mk.injEq]
theorem cmpVs_iff : ∀ (a b : List Val), cmpVs a b = 0 ↔ a = b
 | [], [] => by simp [cmpVs]
 | [], _ :: _ => by simp [cmpVs]
 | _ :: _, [] => by simp [cmpVs]
 | x :: xs, y :: ys => by
  rw [cmpVs, List.cons.injEq, ← cmpV_iff x y, ← cmpVs_iff xs ys];by_cases h : cmpV x y = 0
  ·simp [h]
  ·simp [h]
theorem cmpF_iff : ∀ (a b : Fld), cmpF a b = 0 ↔ a = b
 | .mk n v, .mk n' v' => by
  rw [cmpF, orI_iff];simp only [List.mem_cons, List.not_mem_nil, or_false, forall_eq_or_imp, forall_eq, cmpS_iff, Fld.name, Fld.value, cmpV_iff v, Fld.mk.injEq]
theorem cmpFs_iff : ∀ (a b : List Fld), cmpFs a b = 0 ↔ a = b
 | [], [] => by simp [cmpFs]
 | [], _ :: _ => by simp [cmpFs]
 | _ :: _, [] => by simp [cmpFs]
 | x :: xs, y :: ys => by
  rw [cmpFs, List.cons.injEq, ← cmpF_iff x y, ← cmpFs_iff xs ys];by_cases h : cmpF x y = 0
  ·simp [h]
  ·simp [h]
end
end Go.Proofs
set_option maxHeartbeats 4000000
namespace Av
open Go
variable [Glb] [Rls]
theorem Con.oneRow {P : Program} {f : Nat} {ds : List Dat} {x a1 s1 : Nat} {X : List Dat} {v : Av} (h : Con P f (ds.map .d) [] v [(x, .row a1 s1 X)])
  (hv : inT (hputs (get []) [(x, .row a1 s1 X)]) v) (i : Nat) : CallOK P f (ds.map .d) [(i, none)] (v.ren fun n => i) [(i, .row a1 s1 X)] := by
 have hput : ∀ n, (hputs (get []) [(x, Obj.row a1 s1 X)] n).isSome = true ↔ n = x := by
  intro n;simp only [hputs, upd, get];by_cases h2 : n = x
  ·subst h2; simp
  ·simp [h2]
 have := Con.call h (fun n => i) (by intro n h; cases h) (by
   intro m n hm hn e;rw [(hput m).1 hm, (hput n).1 hn]) (by intro c hc; obtain ⟨d, _, rfl⟩ := List.mem_map.1 hc; trivial) (by intro n o h; cases h) [x] (by
   intro e he;simp only [List.mem_cons, List.not_mem_nil, or_false] at he;subst he;exact .inr sP) (by
   intro n o hn;simp only [hputs, upd, get] at hn;split at hn
   ·cases hn; trivial
   ·cases hn) hv
 have e0 : (ds.map Av.d).map (Av.ren fun n => i) = ds.map .d := by simp [Av.ren]
 simp only [e0, List.map_cons, List.map_nil, Obj.ren, List.nil_append] at this;exact this
abbrev rls9 : Rls := ⟨fun n => n == 9⟩
theorem rl_9 (n : Nat) : @Rls.rl rls9 n = (n == 9) := rfl
end Av
namespace Go.Proofs
open Go Av
def encS0 : Dat := .agg [.str [110, 111, 116, 101], .int .i64 1, .int .i64 9, .int .i64 0, .int .i64 0, .int .i64 0, .nil 1, .nil 7, .list 11 [.agg [.int .i64 1, .str [110], .int .i64 1, .int .i64 2, .int .i64 0, .int .i64 9, .int .i64 0, .nil 1, .nil 7, .nil 11, .nil 6]]]
def ndX (k : Int) (n : Str) : List Dat := [.agg [.str [105, 110], .int .i64 21, .int .i64 0, .int .i64 0, .int .i64 0, .int .i64 0, .int .i64 0, .str [105, 110], .int .i64 0, .int .i64 0, .int .i64 0, .int .i64 0, .nil 1, .nil 7, .nil 11, .nil 7, .nil 5, .nil 6, .nil 2, .list 1 [.int .i64 1]],
 .agg [.str n, .int .i64 k, .int .i64 0, .int .i64 (-1), .int .i64 1, .int .i64 5, .int .i64 5, .str [], .int .i64 0, .int .i64 0, .int .i64 0, .int .i64 0, .nil 1, .nil 7, .nil 11, .nil 7, .nil 5, .nil 6, .nil 2, .list 1 [.int .i64 2]],
 .agg [.str [111, 117, 116], .int .i64 22, .int .i64 0, .int .i64 (-1), .int .i64 0, .int .i64 0, .int .i64 0, .str [111, 117, 116], .int .i64 0, .int .i64 0, .int .i64 0, .int .i64 0, .nil 1, .nil 7, .nil 11, .nil 7, .nil 5, .nil 6, .nil 2, .nil 1]]
def rX (k : Int) (n : Str) (i : Nat) : Av := .agg [.d (.int .i64 1), .ms i 0, .d (.nil 7), .d (.nil 4), .d (.list 20 (ndX k n))]
theorem walk6 (k : Int) (n : Str) : KT 6 [.d (.int .i64 k), .d (.str n)] [] (rX k n 12) [(12, .row 0 9 [encS0])] := by
 letI I : Rls := rls9
 refine ok6.co (k := true) (closed_puts (by simp [puts, put, closedH, objIn])) (by simp [rX, hputs, upd, inT, idsIn, idsInL]) ?_;rw [rX];simp only [go_sem, ir6, I, rl_9, simprocAttr];have h1 : ∀ (x : Dat) (c : List Dat) (m : Nat), c.length = m → x ∈ [Dat.agg c] → x.cells.length = m := fun x c m hc hx => by rw [List.mem_singleton.1 hx]; exact hc
 refine ⟨fun x hx => h1 x _ _ rfl hx, fun x hx => h1 x _ _ rfl hx, fun x hx => by rw [List.mem_singleton.1 hx]; rfl, fun x hx => by rw [List.mem_singleton.1 hx]; rfl, fun x hx => ?_, rfl, rfl⟩;simp only [List.mem_cons, List.not_mem_nil, or_false] at hx;rcases hx with rfl | rfl | rfl <;> rfl
theorem call6 (k : Int) (n : Str) (i : Nat) : CT (.fn 6) [.d (.int .i64 k), .d (.str n)] [(i, none)] (rX k n i) [(i, .row 0 9 [encS0])] := by
 have := Con.oneRow (ds := [.int .i64 k, .str n]) (walk6 k n) (by simp [rX, hputs, upd, inT, idsIn, idsInL]) i;simp [rX, Av.ren, renL] at this;exact this
def plX (t : Typ) (k : Int) (n : Str) : Dat := .agg [.int .i64 1, .list 9 [encSc t], .nil 7, .nil 4, .list 20 (ndX k n)]
theorem canon_encSc (t : Typ) : (encSc t).canon = encSc t := by simp only [encSc, Dat.canon, canonL, canonL_strT, canonL_typs, canonL_tfls]
theorem canon_plX (t : Typ) (k : Int) (n : Str) : (plX t k n).canon = encPl t (exN k n) := by
 simp only [plX, encPl, Dat.canon, canonL, canon_encSc];rfl
theorem datX {H : Heap} {i j : Nat} {o t : Typ} {k : Int} {n : Str} (hi : H i = some (.row 0 9 [encSc o])) (hj : H j = some (.row 0 9 [encSc t])) (hij : i ≠ j) (s : Dat) :
  datumAll H [rX k n i, rX k n j, .d s] = some ((((True ∧ 0 = 0 ∧ True ∧ True ∧ True ∧ True) ∧ (True ∧ 0 = 0 ∧ True ∧ True ∧ True ∧ True) ∧ True ∧ True)), [plX o k n, plX t k n, s], [(i, .frz 0 9 [encSc o]), (j, .frz 0 9 [encSc t])]) := by
 simp [rX, plX, datumAll, datum, datums, datum1, hi, hj, hputs, upd, hij, Ne.symm hij]
theorem datY {H : Heap} {i j : Nat} {o t : Typ} {k : Int} {n : Str} (hi : H i = some (.row 0 9 [encSc o])) (hj : H j = some (.row 0 9 [encSc t])) (hij : i ≠ j) :
  ∃ p ups, datumAll H [rX k n i, rX k n j] = some (p, [plX o k n, plX t k n], ups) ∧ p := by
 simp [rX, plX, datumAll, datum, datums, datum1, hi, hj, hputs, upd, hij, Ne.symm hij];exact ⟨True, trivial⟩
theorem datZ {H : Heap} {j : Nat} {t : Typ} {k : Int} {n : Str} (hj : H j = some (.frz 0 9 [encSc t])) :
  ∃ p ups, datumAll H [rX k n j] = some (p, [plX t k n], ups) ∧ p := by
 simp [rX, plX, datumAll, datum, datums, datum1, hj, hputs, upd];exact ⟨True, trivial⟩
theorem walk10_9 : PT 10 [.int .i64 9] (.d (encV key9)) := tbl_one X1_ok kR
theorem call11X (o t : Typ) (i j : Nat) (hij : i ≠ j) : CT (.fn 11) [rX 8 [100] i, rX 8 [100] j] [(i, some (.row 0 9 [encSc o])), (j, some (.row 0 9 [encSc t]))] (.d (.int .i64 (if cpt o t = true then 0 else 20))) [] :=
 CallOK.borrow (ds := [plX o 8 [100], plX t 8 [100]]) (PCon.canon (by simp only [List.map_cons, List.map_nil, canon_plX]; exact walk11dd o t)) rfl _ _ fun H hH => datY (hH (i, _) sP) (hH (j, _) sP) hij
theorem call18X (t : Typ) (j : Nat) : CT (.fn 18) [rX 8 [100] j] [(j, some (.frz 0 9 [encSc t]))] (.d (.int .i64 0)) [] :=
 CallOK.borrow (ds := [plX t 8 [100]]) (PCon.canon (by simp only [List.map_cons, List.map_nil, canon_plX]; exact PCon.plan walk18d8)) rfl _ _ fun H hH => datZ (hH (j, _) sP)
theorem call12X (N : Nat) (o t : Typ) (m : Msg) (hN : szT o ≤ N) (hb : bY o ≤ 60000000000) (hy : okY o) (hn : nmW m.body) (hv : szV m.body ≤ 400000000) (i j : Nat) (hij : i ≠ j) :
  CT (.fn 12) [rX 8 [100] i, rX 8 [100] j, .d (stsX m)] [(i, some (.row 0 9 [encSc o])), (j, some (.row 0 9 [encSc t]))]
   (.tup [.d (encMv (migR N o t key9 9 m).1), .d (.int .i64 (migR N o t key9 9 m).2)]) [(i, .frz 0 9 [encSc o]), (j, .frz 0 9 [encSc t])] :=
 PCon.callDat (PCon.canon (by simp only [List.map_cons, List.map_nil, canon_plX, canon_stsX]; exact walk12 N o t key9 9 m hN hb hy hn hv)) (by simp [pureR])
  (fun H hH => datX (hH (i, _) sP) (hH (j, _) sP) hij (stsX m)) ⟨⟨trivial, rfl, trivial, trivial, trivial, trivial⟩, ⟨trivial, rfl, trivial, trivial, trivial, trivial⟩, trivial, trivial⟩
theorem walk3 (o t : Typ) (v : Val) (ho : okY o) (ht : okY t) (so : szT o ≤ 1048576) (bo : bY o ≤ 60000000000) (st : szT t ≤ 1048576) (bt : bY t ≤ 60000000000) (hn : nmW v) (hv : szV v ≤ 400000000) :
  PT 3 [encT o, encT t, encV v] (.d (.bool true)) := by
 refine ok3.pc ?_;have c6a := call6 8 [100] 901;have c6b := call6 8 [100] 902;have c7 := walk7.call trivial;have c8 := (walk8 1048576 o v so bo hn).call trivial;have c9 := walk9_3.call trivial;have c10 := walk10_9.call trivial;have c11 := call11X o t 901 902 dC;have c12 := call12X 1048576 o t ⟨3, [1], 1048576, [3], v⟩ so bo ho hn hv 901 902 dC;have c13 := (walk13 o t).call trivial;have c14 := (walk14 rec0 o t v bo ho hn hv).call (by simp [pureR]);have c15 := (walk15 1048576 o t so).call trivial;have c18 := call18X t 902;generalize fitF 1048576 o v = F at *;simp only [rX, ndX] at c6a c6b c11 c12 c18;generalize hR : migR 1048576 o t key9 9 ⟨3, [1], 1048576, [3], v⟩ = R at c12;simp only [stsX, stX, slX, encM, encMv, List.map_cons, List.map_nil] at c12;rw [encT_eq o, encT_eq t] at c13 c14 c15;rw [encT_eq o] at c8;rw [encV_eq v] at c8 c14;rw [encV_eq (upgT o t v).1] at c14;rw [encV_eq] at c10;simp only [encM, key9, Val.kind, Val.int, Val.scale, Val.text, Val.list, Val.fields, List.map_cons, List.map_nil] at c9 c10;simp only [go_sem, encT_eq o, encT_eq t, encV_eq v, ir3, Nat.reduceAdd, Nat.reduceEqDiff, Nat.reduceBEq, Nat.reduceLeDiff, reduceCtorEq, ↓reduceIte];refine wc c6a ?_;refine wc c6b ?_;refine ⟨⟨dC, dC⟩, dC, ⟨dC, dC⟩, dC, dC, ?_⟩;have hz : ((encS0.cells.take 2) ++ [Dat.int .i64 o.kind]) = [.str [110, 111, 116, 101], .int .i64 1, .int .i64 o.kind] := rfl;refine wn c7 ?_;refine zz19 ?_;refine wn c8 ?_;simp only [go_sem, Bool.false_or, Nat.reduceAdd, Nat.reduceEqDiff, Nat.reduceBEq, Nat.reduceLeDiff, reduceCtorEq, ↓reduceIte];refine ⟨fun h => ?_, fun h => ?_⟩
 ·refine wc c7 trivial
 refine wc c9 ?_;refine wpsL_call rfl c10 trivial ?_;refine zz ?_;refine ⟨fun y hy => by rw [List.mem_singleton.1 hy]; rfl, fun y hy => by rw [List.mem_singleton.1 hy]; rfl, fun y hy => by
  simp only [List.mem_cons, List.not_mem_nil, or_false] at hy;rcases hy with rfl | rfl | rfl <;> rfl, dC, ?_⟩
 refine wc c11 ?_;refine wc c12 ?_;refine wc c13 ?_;refine ⟨fun h => ?_, fun h => ?_⟩
 ·have hc : cpt o t = false := sX h;have hR2 : R = ([], 20) := by rw [← hR]; unfold migR; rw [hc]; rfl
  subst hR2;have h0 : ((0 : Nat) : Int) = 0 := rfl;simp only [go_sem, hc, h0, Bool.false_eq_true, Int.reduceBEq, List.map_nil, List.length_nil, Bool.and_true, Nat.reduceAdd, Nat.reduceEqDiff, Nat.reduceBEq, Nat.reduceLeDiff, reduceCtorEq, ↓reduceIte]
 have hc : cpt o t = true := sX h;have hR2 : R = if (bodR 1048576 o t v).2 = 0 then ([sta0, sta1 key9 9 ⟨3, [1], 1048576, [3], (bodR 1048576 o t v).1⟩, sta0], 0) else ([], 20) := by rw [← hR]; unfold migR; rw [if_pos hc]; rfl
 clear hR;unfold bodR at hR2;generalize upgT o t v = U at *;generalize eqTF 1048576 o t = E at *;rw [if_pos hc];refine wc c14 ?_;refine wc c15 ?_;have hfin : ∀ w : Val, ∃ S, encU (sta1 key9 9 ⟨3, [1], 1048576, [3], w⟩) = .agg [.int .i64 0, .int .i64 0, .list 10 S] ∧
   CT (.fn 16) [.d (.agg [.int .i64 0, .int .i64 0, .list 10 S])] [] (.d (.list 10 [encM ⟨3, [1], 1048576, [3], w⟩])) [] :=
  fun w => ⟨_, rfl, (walk16 (sta1 key9 9 ⟨3, [1], 1048576, [3], w⟩) (by simp [sta1]) (by simp [sta1, wtgS])).call trivial⟩
 have h3 : ((3 : Nat) : Int) = 3 := rfl;have h1 : ((1 : Nat) : Int) = 1 := rfl;have hn0 : ∀ x : Dat, nth [x] (Int.toNat 0) = x := fun _ => rfl
 refine ⟨fun hE => ?_, fun hE => ?_⟩
 ·have hR3 : R = ([sta0, sta1 key9 9 ⟨3, [1], 1048576, [3], v⟩, sta0], 0) := by rw [hR2, if_pos hE]; rfl
  subst hR3;obtain ⟨S, e1, c16⟩ := hfin v;have c17 := (p17 v v).call trivial;have e17 : (cmpV v v == 0) = true := by rw [(cmpV_iff v v).2 rfl]; rfl
  rw [e17, encV_eq v] at c17;simp only [encM] at c16;have hn1 : nth [encU sta0, .agg [.int .i64 0, .int .i64 0, .list 10 S], encU sta0] (Int.toNat 1) = .agg [.int .i64 0, .int .i64 0, .list 10 S] := rfl;simp only [go_sem, e1, h3, h1, hn1, hn0, Int.reduceBNe, Int.reduceBEq, List.map_cons, List.map_nil, List.length_cons, List.length_nil, Nat.zero_add, Bool.or_false, Bool.false_or, Nat.reduceAdd, Nat.reduceEqDiff, Nat.reduceBEq, Nat.reduceLeDiff, reduceCtorEq, ↓reduceIte];refine ⟨⟨dC, dC⟩, wn c16 ?_⟩;refine zz63 ?_;refine ⟨⟨dC, dC⟩, wn c17 ?_⟩;refine zz64 ?_;refine wn c18 ?_;exact zz65 trivial
 ·have hE' : ¬ E = true := by rw [hE]; exact Bool.false_ne_true
  rw [if_neg hE'] at hR2;by_cases hu : U.2 = 0
  case neg =>
   rw [if_neg hu] at hR2;subst hR2;have hb : (U.2 != 0) = true := sX hu;simp only [go_sem, hb, Int.reduceBNe, Int.reduceBEq, Bool.false_or, Bool.and_true, Nat.reduceAdd, Nat.reduceEqDiff, Nat.reduceBEq, Nat.reduceLeDiff, reduceCtorEq, ↓reduceIte]
  rw [if_pos hu] at hR2;have hb : (U.2 != 0) = false := by rw [hu]; rfl
  have hR3 : R = ([sta0, sta1 key9 9 ⟨3, [1], 1048576, [3], U.1⟩, sta0], 0) := hR2;clear hR2;subst hR3;obtain ⟨S, e1, c16⟩ := hfin U.1;have c17 := (p17 U.1 U.1).call trivial;have e17 : (cmpV U.1 U.1 == 0) = true := by rw [(cmpV_iff U.1 U.1).2 rfl]; rfl
  rw [e17, encV_eq U.1] at c17;simp only [encM] at c16;have hn1 : nth [encU sta0, .agg [.int .i64 0, .int .i64 0, .list 10 S], encU sta0] (Int.toNat 1) = .agg [.int .i64 0, .int .i64 0, .list 10 S] := rfl;simp only [go_sem, hb, e1, h3, h1, hn1, hn0, Int.reduceBNe, Int.reduceBEq, List.map_cons, List.map_nil, List.length_cons, List.length_nil, Nat.zero_add, Bool.or_false, Bool.false_or, Nat.reduceAdd, Nat.reduceEqDiff, Nat.reduceBEq, Nat.reduceLeDiff, reduceCtorEq, ↓reduceIte];refine ⟨⟨dC, dC⟩, wn c16 ?_⟩;refine zz63 ?_;refine ⟨⟨dC, dC⟩, wn c17 ?_⟩;refine zz64 ?_;refine wn c18 ?_;exact zz65 trivial
end Go.Proofs
namespace Go.Proofs.YtiekiedlkehccaaGreatDoor
open Go Go.Proofs Av Go.ChangeShapes Go.WideShapes Go.ChangeAt Go.RowKit
theorem contractX (H : Type) (enc : TypeId × Value → H) (W : World) (base : Nat) (args : Array Value) (ds gs : List (DataW H)) (before : List MemPlace)
  (hval : ∀ (j : Nat) t v, Tryz.f3.params[j]? = some t → args[j]? = some v → Value.okWide Tryz.prog W .any base t v)
  (hW : DataW.Whole enc Tryz.prog Tryz.f3.params.toList Rows.migrateEvolvesSpec.vars false W args.toList ds gs before) (hk : Rows.uptoSmall H (ds ++ gs) = true) (hL : laidMetH Tryz.prog Rows.migrateEvolvesUptoRow.laid W) :
  Calls Tryz.prog 3 args W fun e W' => ∃ v, e = .returned v ∧ Rows.migrateEvolvesSpec.post enc Tryz.prog Tryz.f3 false true false false W args v W' := by
 have hW' := hW;have hk' : Rows.uptoBulkAll (ds ++ gs) ≤ 1048576 := of_decide_eq_true hk;rw [bulk_append] at hk';obtain ⟨p, q, hA0, hV, rfl, hfz, hnd⟩ := hW;have hA : DataW.TrodAll enc Tryz.prog W 0 (fun _ => true) true Tryz.f3.params.toList args.toList ds p := hA0;rw [Tryz.params3] at hA hval;obtain ⟨v0, vs0, d0, ds0, p0, q0, hargs, rfl, rfl, h0, r0⟩ := trodAll_cons hA;obtain ⟨v1, vs1, d1, ds1, p1, q1, hargs1, rfl, rfl, h1, r1⟩ := trodAll_cons r0;obtain ⟨v2, vs2, d2, ds2, p2, q2, hargs2, rfl, rfl, h2, r2⟩ := trodAll_cons r1;obtain ⟨rfl, rfl, rfl⟩ := trodAll_nil r2;subst hargs1 hargs2;obtain rfl : args = #[v0, v1, v2] := by cases args; simp_all
 obtain ⟨rfl, rfl⟩ := trodVars_none hV;simp only [Rows.uptoBulkAll] at hk';obtain ⟨o, ho, ro⟩ := open_typB (hval 0 26 v0 rfl rfl) h0 oM;obtain ⟨t, ht, rt⟩ := open_typB (hval 1 26 v1 rfl rfl) h1 oM;obtain ⟨v, hv, rv⟩ := open_valB (hval 2 30 v2 rfl rfl) h2 oM;have so := szT_le o;have bo := bY_le o;have st := szT_le t;have bt := bY_le t;refine (calls_of_pcon (walk3 o t v ho.1 ht.1 oM oM oM oM hv.1.2 oM) (vs := #[v0, v1, v2]) (globs hL) rfl ?_).mono ?_
 ·intro i d v hd hv
  match i, hd, hv with
  | 0, hd, hv => cases hd; cases hv; exact ro
  | 1, hd, hv => cases hd; cases hv; exact rt
  | 2, hd, hv => cases hd; cases hv; exact rv
 ·rintro e W' ⟨rfl, hbel⟩;have hlt : ∀ x ∈ p0 ++ (p1 ++ (p2 ++ [])), x.block < W.heap.size := fun x hx => by simpa using hW'.lt x (sX hx)
  refine ⟨.bool true, rfl, [d0, d1, d2], [], _, [], p0 ++ (p1 ++ (p2 ++ [])), [], hW', ?_, ?_, ?_, hbel.frame _, fun h => by cases h⟩
  ·exact trodAll_mk1 (shut_bool kR _)
  ·have a0 := Below.trod laidOut kR (of_decide_eq_true kR) h0 hbel (fun x hx => hlt x (by simp [hx]));have a1 := Below.trod laidOut kR (of_decide_eq_true kR) h1 hbel (fun x hx => hlt x (by simp [hx]));have a2 := Below.trod laidOut kR (of_decide_eq_true kR) h2 hbel (fun x hx => hlt x (by simp [hx]));show DataW.TrodAll enc Tryz.prog W' 0 _ true Tryz.f3.params.toList [v0, v1, v2] [d0, d1, d2] _;rw [Tryz.params3];exact trodAll_cons_mk a0 (trodAll_cons_mk a1 (trodAll_cons_mk a2 trodAll_mk0))
  ·rfl
end Go.Proofs.YtiekiedlkehccaaGreatDoor
