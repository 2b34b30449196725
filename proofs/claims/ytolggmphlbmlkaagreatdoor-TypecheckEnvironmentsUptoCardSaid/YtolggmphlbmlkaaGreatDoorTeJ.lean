/- Part J of a proof. -/
import Derived.Test.YtolggmphlbmlkaaGreatDoorTeI
import Derived.Test.YtolggmphlbmlkaaGreatDoorTeD
import Derived.Test.YtolggmphlbmlkaaGreatDoorTeA
import Derived.Test.YtolggmphlbmlkaaGreatDoorTeE
import Derived.Lib.Bytealg
import Derived.Shelf.Strings.OnBuilder
import Derived.Test.YtolggmphlbmlkaaGreatDoorProg
import Derived.Shelf.Slices.Clone
set_option linter.unusedVariables false
set_option linter.unusedSimpArgs false
set_option linter.unusedSectionVars false
set_option linter.constructorNameAsVariable false
set_option linter.unnecessarySimpa false
set_option maxRecDepth 100000
namespace Go.Proofs
open Go Av
theorem CallOK.datA' {P : Program} [Glb] {f : Nat} {vs : List Av} {hp u : List (Nat × Av.Obj)} {ds : List Dat} {v : Av} {p : Prop} (hd : datumAll (Av.get hp) vs = some (p, ds, u)) (hp0 : p) (h : CallOK P (.fn f) (ds.map .d) [] v []) :
  CallOK P (.fn f) vs ((vs.flatMap idsC).map fun i => (i, Av.get hp i)) v u := by
 intro β A w H us hT hc hvs;have heq : datumAll H vs = some (p, ds, u) := by
  rw [← hd];refine datumAll_eq fun x hx => ?_
  exact hT (x, Av.get hp x) (List.mem_map.2 ⟨x, hx, rfl⟩)
 obtain ⟨A1, s1, l1, r1, m1⟩ := datumAll_ok hc heq hp0 (us := us.toList) (sX hvs.1) (fun k c u h1 h2 => hvs.2 k c u h1 (sX h2));refine (h β A1 w (hputs H u) us (by intro e he; cases he) s1.core ⟨by simpa using l1, fun k c u h1 h2 => ?_⟩).mono ?_
 ·rw [List.getElem?_map] at h1;cases e : ds[k]? with
  | none => simp [e] at h1
  | some x =>
   simp only [e, Option.map_some, Option.some.injEq] at h1;subst h1;exact .d _ _ (r1 k x u e (sX h2))
 ·rintro v' w' ⟨β', A', q1, q2⟩;exact ⟨β', A', s1.trans q1, q2⟩
def loI (t : Typ) : Int := if 0 < t.max then 0 else t.max
def hiI (t : Typ) : Int := if loI t > t.min then loI t else t.min
set_option maxHeartbeats 1000000 in
theorem lst_num (t : Typ) (hk : t.kind = 2 ∨ t.kind = 3 ∨ t.kind = 6 ∨ t.kind = 7) : PT 40 [encT t] (.d (encV (.mk t.kind (hiI t) t.scale [] [] []))) := by
 refine ok40.pc ?_;rw [encV_eq, encT_eq];rcases hk with hk | hk | hk | hk
 all_goals simp only [go_sem, ir40, hk, Int.reduceBEq, Int.reduceEq, decide_true, decide_false, simprocAttr]
 all_goals rfl
theorem lst_one (t : Typ) (hk : t.kind = 1) : PT 40 [encT t] (.d (encV (.mk 1 0 0 [] [] []))) := by
 refine ok40.pc ?_;rw [encV_eq, encT_eq];simp only [go_sem, ir40, hk, Int.reduceBEq, simprocAttr];rfl
theorem lst_byt (t : Typ) (hk : t.kind = 5) (m : Nat) (hm : t.min = m) (hb : m ≤ 68719476736) : PT 40 [encT t] (.d (encV (.mk 5 0 0 (Lib.repeatL [0] m) [] []))) := by
 refine ok40.pc ?_;have h1 := call66 [0] m oM sO;have h2 := (walk67 (Lib.repeatL [0] m)).call trivial;rw [encV_eq] at h2 ⊢;rw [encT_eq];simp only [go_sem, ir40, hk, hm, Int.reduceBEq, simprocAttr];refine wc h1 ?_;refine wc h2 trivial
theorem lst_txt (t : Typ) (hk : t.kind = 4) (hw : t.words = []) (m : Nat) (hm : t.min = m) (hb : m ≤ 68719476736) : PT 40 [encT t] (.d (encV (.mk 4 0 0 (Lib.repeatL [97] m) [] []))) := by
 refine ok40.pc ?_;have h1 := call66 [97] m oM sO;have h2 := (walk65 (Lib.repeatL [97] m)).call trivial;rw [encV_eq] at h2 ⊢;rw [encT_eq];have hd : decide (((0 : Nat) : Int) > 0) = false := dC;simp only [go_sem, ir40, hk, hw, hm, hd, List.map_nil, List.length_nil, Int.reduceBEq, Nat.reduceAdd, Nat.reduceEqDiff, Nat.reduceBEq, Nat.reduceLeDiff, reduceCtorEq, ↓reduceIte];refine wc h1 ?_;refine wc h2 trivial
theorem lst_wrd (t : Typ) (hk : t.kind = 4) (h0 : 0 < t.words.length) : PT 40 [encT t] (.d (encV (.mk 4 0 0 t.words[0] [] []))) := by
 refine ok40.pc ?_;have h2 := (walk65 t.words[0]).call trivial;have hx := nth_strs h0;rw [encV_eq] at h2 ⊢;rw [encT_eq];have hd : decide ((t.words.length : Int) > 0) = true := sO;simp only [go_sem, ir40, hk, hd, hx, Int.toNat_zero, List.length_map, Int.reduceBEq, Nat.reduceAdd, Nat.reduceEqDiff, Nat.reduceBEq, Nat.reduceLeDiff, reduceCtorEq, ↓reduceIte];refine ⟨⟨oM, oM⟩, dC, wn h2 ?_⟩;exact zz trivial
set_option maxHeartbeats 1000000 in
theorem lst_lst (t : Typ) (e : Typ) (v : Val) (hk : t.kind = 8) (he : t.elem = [e]) (h : CT 40 [.d (encT e)] [] (.d (encV v)) []) (m : Nat) (hm : t.min = m) (hb : m ≤ 1000000) :
  PT 40 [encT t] (.d (encV (.mk 8 0 0 [] (List.replicate m v) []))) := by
 refine ok40.pc ?_;have hc := (walk68 (List.replicate m v)).call trivial;generalize (Val.mk 8 0 0 [] (List.replicate m v) []) = R at *;have hx : nth (t.elem.map encT) 0 = .agg [.int .i64 e.kind, .int .i64 e.min, .int .i64 e.max, .int .i64 e.scale, .list 1 (e.words.map .str), .list 7 (e.elem.map encT), .list 11 (e.fields.map encG)] := by rw [he, ← encT_eq]; rfl
 have hl1 : t.elem.length = 1 := by rw [he]; rfl
 rw [encV_eq R] at hc ⊢;rw [encT_eq] at h;rw [encT_eq];have hvc : (encV v).cells.length = 6 := by rw [encV_eq]; rfl
 simp only [go_sem, ir40, hk, hm, Int.reduceBEq, Nat.reduceAdd, Nat.reduceEqDiff, Nat.reduceBEq, Nat.reduceLeDiff, reduceCtorEq, ↓reduceIte];refine wpc_loop (fun n s => ∃ j : Nat, j ≤ m ∧ n = m - j ∧
  s = ⟨[(1, .ref 1 0), (2, .ref 2 0), (3, .ms 59 j), (49, .d (.int .i64 m)), (50, .d (.int .i64 j))],
   [(1, .box [.d (.int .i64 8), .d (.int .i64 m), .d (.int .i64 t.max), .d (.int .i64 t.scale), .d (.list 1 (t.words.map .str)), .d (.list 7 (t.elem.map encT)), .d (.list 11 (t.fields.map encG))]),
    (2, .box [.d (.int .i64 0), .d (.int .i64 0), .d (.int .i64 0), .d (.str []), .d (.nil 6), .d (.nil 7)]),
    (59, .row j 6 ((List.replicate j v).map encV))]⟩) ?_ ?_
 ·refine ⟨_, _, (Wk.nilT 3 59 6 rfl rfl dC).trans (Wk.less ?_), 0, Nat.zero_le _, rfl, rfl⟩;simp [put, go_sem]
 ·rintro n s ⟨j, hj, rfl, rfl⟩;by_cases hlt : j < m
  ·have hd : decide ((j : Int) < (m : Int)) = true := sO;have hw : IntKind.i64.wrap ((j : Int) + 1) = (j : Int) + 1 := wrap64s j oM;simp only [go_sem, hx, hl1, hd, Int.toNat_zero, List.length_map, Nat.reduceAdd, Nat.reduceEqDiff, Nat.reduceBEq, Nat.reduceLeDiff, reduceCtorEq, ↓reduceIte];refine ⟨oM, wn h ?_⟩;refine zz ?_;refine ⟨by intro x hx; rw [List.mem_singleton.1 hx, encV_eq]; rfl, sO, m - (j + 1), _, oM, Wk.less ?_, j + 1, oM, rfl, rfl⟩;rw [List.replicate_succ'];simp only [go_sem, hw, List.map_append, List.map_cons, List.map_nil, Int.natCast_add, Int.natCast_one, Nat.reduceAdd, Nat.reduceEqDiff, Nat.reduceBEq, Nat.reduceLeDiff, reduceCtorEq, ↓reduceIte]
  ·have hd : decide ((j : Int) < (m : Int)) = false := sO;obtain rfl : j = m := oM;have hc2 := CallOK.datA' (hp := [(2, .box [.d (.int .i64 0), .d (.int .i64 0), .d (.int .i64 0), .d (.str []), .d (.nil 6), .d (.nil 7)]),
    (59, .row j 6 ((List.replicate j v).map encV))]) (vs := [.ms 59 j]) rfl ⟨rfl, trivial⟩ hc
   refine zz5 ?_;refine wn hc2 ?_;simp only [go_sem, List.cons_append, List.nil_append, List.append_nil, Nat.reduceAdd, Nat.reduceEqDiff, Nat.reduceBEq, Nat.reduceLeDiff, reduceCtorEq, ↓reduceIte]
theorem lst_var (t : Typ) (g : TFl) (r : List TFl) (v : Val) (hk : t.kind = 10) (he : t.fields = g :: r) (h : CT 40 [.d (encT g.type)] [] (.d (encV v)) []) :
  PT 40 [encT t] (.d (encV (.mk 10 0 0 g.name [v] []))) := by
 refine ok40.pc ?_;have hc := (walk69 g.name v).call trivial;generalize (Val.mk 10 0 0 g.name [v] []) = R at *;have hl0 : 0 < t.fields.length := by rw [he]; simp
 have hx := nth_encG hl0;have e0 : t.fields[0] = g := by simp [he]
 rw [e0] at hx;rw [encV_eq R] at hc ⊢;rw [encT_eq] at h;rw [encT_eq];simp only [go_sem, ir40, hk, hx, Int.toNat_zero, List.length_map, Int.reduceBEq, Nat.reduceAdd, Nat.reduceEqDiff, Nat.reduceBEq, Nat.reduceLeDiff, reduceCtorEq, ↓reduceIte];refine ⟨⟨oM, oM⟩, dC, ⟨oM, oM⟩, wpsL_call rfl h trivial ?_⟩;refine zz ?_;refine wpsL_call rfl hc trivial ?_;refine zz ?_;exact zf
def lstG (f : Typ → Val) (g : TFl) : Option Fld := if g.need = 1 then some (.mk g.name (f g.type)) else if g.need = 3 then some (.mk g.name (dfl0 g)) else none
def lstR (f : Typ → Val) (l : List TFl) : List Fld := l.filterMap (lstG f)
theorem lstR_succ (f : Typ → Val) (l : List TFl) {j : Nat} (h : j < l.length) : lstR f (l.take (j + 1)) = lstR f (l.take j) ++ (match lstG f l[j] with | some x => [x] | none => []) := by
 rw [List.take_succ_eq_append_getElem h, lstR, List.filterMap_append];congr 1;simp only [List.filterMap_cons, List.filterMap_nil];cases lstG f l[j] <;> rfl
theorem lstR_len (f : Typ → Val) (l : List TFl) : (lstR f l).length ≤ l.length := List.length_filterMap_le _ _
set_option maxHeartbeats 2000000 in
theorem lst_rec (t : Typ) (f : Typ → Val) (hk : t.kind = 9) (h : ∀ g ∈ t.fields, CT 40 [.d (encT g.type)] [] (.d (encV (f g.type))) []) (hd3 : ∀ g ∈ t.fields, g.need = 3 → g.dflt.length = 1) (hb : t.fields.length ≤ 1000000) :
  PT 40 [encT t] (.d (encV (.mk 9 0 0 [] [] (srtF (kepR (lstR f t.fields)))))) := by
 refine ok40.pc ?_;have hc := (walk71 (lstR f t.fields) (by have := lstR_len f t.fields; omega)).call trivial;generalize (Val.mk 9 0 0 [] [] (srtF (kepR (lstR f t.fields)))) = R at *;rw [encV_eq R] at hc ⊢;rw [encT_eq];simp only [go_sem, ir40, hk, List.length_map, Int.reduceBEq, Nat.reduceAdd, Nat.reduceEqDiff, Nat.reduceBEq, Nat.reduceLeDiff, reduceCtorEq, ↓reduceIte];refine wpc_loop (fun n s => ∃ j : Nat, j ≤ t.fields.length ∧ n = t.fields.length - j ∧
  s = ⟨[(2, .ref 2 0), (4, .ms 98 (lstR f (t.fields.take j)).length), (80, .d (.list 11 (t.fields.map encG))), (81, .d (.int .i64 t.fields.length)), (82, .d (.int .i64 j))],
   [(2, .box [.d (.int .i64 0), .d (.int .i64 0), .d (.int .i64 0), .d (.str []), .d (.nil 6), .d (.nil 7)]),
    (98, .row (lstR f (t.fields.take j)).length 7 ((lstR f (t.fields.take j)).map encF))]⟩) ?_ ?_
 ·refine ⟨_, _, (Wk.nilT 4 98 7 rfl rfl dC).trans (Wk.less ?_), 0, Nat.zero_le _, rfl, rfl⟩;simp [put, go_sem, lstR]
 ·rintro n s ⟨j, hj, rfl, rfl⟩;by_cases hlt : j < t.fields.length
  ·have hd := dT hlt;have hw : IntKind.i64.wrap ((j : Int) + 1) = (j : Int) + 1 := wrap64s j oM;have hx := nth_encG hlt;have hg := h t.fields[j] (List.getElem_mem hlt);have hdf := hd3 t.fields[j] (List.getElem_mem hlt);have hsu := lstR_succ f t.fields hlt;have hle := lstR_len f (t.fields.take j);have hle2 : (t.fields.take j).length ≤ 1000000 := sO;rw [encT_eq] at hg;refine zz6 ?_;by_cases n1 : t.fields[j].need = 1
   ·have e1 : (t.fields[j].need == 1) = true := by rw [n1]; rfl
    rw [lstG, if_pos n1] at hsu;simp only [go_sem, e1, Nat.reduceAdd, Nat.reduceEqDiff, Nat.reduceBEq, Nat.reduceLeDiff, reduceCtorEq, ↓reduceIte];rw [encV_eq] at hg;refine ⟨⟨oM, oM⟩, wpsL_call rfl hg trivial ?_⟩;refine zz ?_;refine ⟨sP, sO, rfl, t.fields.length - (j + 1), _, oM, Wk.less ?_, j + 1, oM, rfl, rfl⟩;rw [hsu];simp only [go_sem, hw, List.map_append, List.map_cons, List.map_nil, List.length_append, List.length_cons, List.length_nil, encF_eq, Fld.name, Fld.value, Int.natCast_add, Int.natCast_one, Nat.reduceAdd, Nat.reduceEqDiff, Nat.reduceBEq, Nat.reduceLeDiff, reduceCtorEq, ↓reduceIte]
   ·have e1 : (t.fields[j].need == 1) = false := sX n1;by_cases n3 : t.fields[j].need = 3
    ·have e3 : (t.fields[j].need == 3) = true := by rw [n3]; rfl
     rw [lstG, if_neg n1, if_pos n3] at hsu;have h0 : 0 < t.fields[j].dflt.length := by rw [hdf n3]; decide
     have hx3 := nth_encV h0;have e9 : dfl0 t.fields[j] = t.fields[j].dflt[0] := by rw [dfl0, List.getElem?_eq_getElem h0]; rfl
     have hcl := (p70 t.fields[j].dflt[0]).call trivial;rw [e9] at hsu;rw [encV_eq] at hcl;simp only [go_sem, e1, e3, hx3, Int.toNat_zero, List.length_map, Nat.reduceAdd, Nat.reduceEqDiff, Nat.reduceBEq, Nat.reduceLeDiff, reduceCtorEq, ↓reduceIte];refine ⟨⟨oM, oM⟩, ⟨oM, oM⟩, wpsL_call rfl hcl trivial ?_⟩;refine zz ?_;refine ⟨sP, sO, rfl, t.fields.length - (j + 1), _, oM, Wk.less ?_, j + 1, oM, rfl, rfl⟩;rw [hsu];simp only [go_sem, hw, List.map_append, List.map_cons, List.map_nil, List.length_append, List.length_cons, List.length_nil, encF_eq, Fld.name, Fld.value, Int.natCast_add, Int.natCast_one, Nat.reduceAdd, Nat.reduceEqDiff, Nat.reduceBEq, Nat.reduceLeDiff, reduceCtorEq, ↓reduceIte]
    ·have e3 : (t.fields[j].need == 3) = false := sX n3;rw [lstG, if_neg n1, if_neg n3] at hsu;simp only [go_sem, e1, e3, Nat.reduceAdd, Nat.reduceEqDiff, Nat.reduceBEq, Nat.reduceLeDiff, reduceCtorEq, ↓reduceIte];refine ⟨⟨oM, oM⟩, t.fields.length - (j + 1), _, oM, Wk.less ?_, j + 1, oM, rfl, rfl⟩;rw [hsu];simp only [go_sem, hw, List.map_append, List.map_cons, List.map_nil, List.length_append, List.length_cons, List.length_nil, encF_eq, Fld.name, Fld.value, Int.natCast_add, Int.natCast_one, List.append_nil, Nat.reduceAdd, Nat.reduceEqDiff, Nat.reduceBEq, Nat.reduceLeDiff, reduceCtorEq, ↓reduceIte]
  ·have hd := dF hlt;obtain rfl : j = t.fields.length := oM;rw [List.take_length];have hc2 := CallOK.datA' (hp := [(2, .box [.d (.int .i64 0), .d (.int .i64 0), .d (.int .i64 0), .d (.str []), .d (.nil 6), .d (.nil 7)]),
    (98, .row (lstR f t.fields).length 7 ((lstR f t.fields).map encF))]) (vs := [.ms 98 (lstR f t.fields).length]) rfl ⟨rfl, trivial⟩ hc
   refine zz5 ?_;refine wn hc2 ?_;simp only [go_sem, List.cons_append, List.nil_append, List.append_nil, Nat.reduceAdd, Nat.reduceEqDiff, Nat.reduceBEq, Nat.reduceLeDiff, reduceCtorEq, ↓reduceIte]
end Go.Proofs
namespace Go.Proofs
open Go Av
variable {t : Typ}
def okA : Nat → Typ → Prop
 | 0, _ => False
 | k + 1, t => ownT t = 0 ∧ ∀ p ∈ partsT t, okA k p
theorem chkPs_okA {f : Int → Typ → Int × Int} {Q : Typ → Prop} (hf : ∀ n p, (f n p).1 = 0 → Q p) : ∀ (l : List Typ) (i : Nat) (n : Int), (chkPs f t i n l).1 = 0 → ∀ p ∈ l, Q p
 | [], _, _, _, p, hp => by cases hp
 | x :: r, i, n, h, p, hp => by
  rw [chkPs] at h;split at h
  ·rename_i h1; rw [h] at h1; cases h1
  ·rename_i h1;split at h
   ·cases h
   ·rcases List.mem_cons.1 hp with rfl | hp
    ·exact hf n p (sX h1)
    ·exact chkPs_okA hf r (i + 1) _ h p hp
theorem chkT_okA : ∀ (k : Nat) (n : Int) (t : Typ), (chkT k n t).1 = 0 → okA k t
 | 0, n, t, h => by rw [chkT] at h; split at h <;> cases h
 | k + 1, n, t, h => by
  rw [chkT] at h;split at h
  ·cases h
  split at h
  ·rename_i h2; rw [show ownT t = 0 from h] at h2; cases h2
  ·rename_i h1 h2;exact ⟨by simpa using h2, chkPs_okA (chkT_okA k) (partsT t) 0 (n - 1) h⟩
theorem own_min (h : ownT t = 0) (hk : t.kind = 5 ∨ t.kind = 8 ∨ (t.kind = 4 ∧ t.words = [])) : 0 ≤ t.min ∧ t.min ≤ t.max ∧ t.max ≤ 1024 := by
 unfold ownT at h;split at h
 ·cases h
 split at h
 ·cases h
 split at h
 ·rename_i h3;simp only [Bool.and_eq_true, beq_iff_eq, decide_eq_true_eq] at h3;rcases hk with hk | hk | ⟨hk, hw⟩
  ·omega
  ·omega
  ·rw [hw] at h3; simp at h3
 ·split at h
  ·cases h
  ·rename_i h4;unfold bndC at h4;simp only [Bool.or_eq_true, Bool.and_eq_true, decide_eq_true_eq, not_or, not_and] at h4;obtain ⟨h5, _⟩ := h4;rcases hk with hk | hk | ⟨hk, _⟩
   all_goals
    rw [hk] at h5;have := h5 rfl;simp only [show (limK 5).low = 0 from rfl, show (limK 5).high = 1024 from rfl, show (limK 8).low = 0 from rfl, show (limK 8).high = 256 from rfl, show (limK 4).low = 0 from rfl, show (limK 4).high = 1024 from rfl] at this;omega
def lstV : Nat → Typ → Val
 | 0, _ => zeroV
 | k + 1, t =>
  if t.kind = 1 then .mk 1 0 0 [] [] []
  else if t.kind = 4 then (match t.words with | w :: _ => .mk 4 0 0 w [] [] | [] => .mk 4 0 0 (Lib.repeatL [97] t.min.toNat) [] [])
  else if t.kind = 5 then .mk 5 0 0 (Lib.repeatL [0] t.min.toNat) [] []
  else if t.kind = 8 then .mk 8 0 0 [] (List.replicate t.min.toNat (lstV k ((t.elem[0]?).getD ty0))) []
  else if t.kind = 10 then .mk 10 0 0 ((t.fields[0]?).getD tf0).name [lstV k ((t.fields[0]?).getD tf0).type] []
  else if t.kind = 9 then .mk 9 0 0 [] [] (srtF (kepR (lstR (lstV k) t.fields)))
  else .mk t.kind (hiI t) t.scale [] [] []
theorem walk40 : ∀ (k : Nat) (t : Typ), okA k t → PT 40 [encT t] (.d (encV (lstV k t)))
 | 0, t, h => h.elim
 | k + 1, t, h => by
  obtain ⟨h1, h2⟩ := h;obtain ⟨o1, o2, o3, o4, o5, o6, o7, o8⟩ := own_ok h1;have hm := own_min h1;have hc : ∀ p ∈ partsT t, CT 40 [.d (encT p)] [] (.d (encV (lstV k p))) [] := fun p hp => (walk40 k p (h2 p hp)).call trivial
  rw [lstV];have hks : t.kind = 1 ∨ t.kind = 4 ∨ t.kind = 5 ∨ t.kind = 8 ∨ t.kind = 10 ∨ t.kind = 9 ∨ (t.kind = 2 ∨ t.kind = 3 ∨ t.kind = 6 ∨ t.kind = 7) := oM;rcases hks with hk | hk | hk | hk | hk | hk | hk
  ·rw [if_pos hk]; exact lst_one t hk
  ·rw [if_neg oM, if_pos hk];split
   ·rename_i w r e;have h0 : 0 < t.words.length := by rw [e]; simp
    have := lst_wrd t hk h0;simp only [e, List.getElem_cons_zero] at this;exact this
   ·rename_i e;obtain ⟨a, b, c⟩ := hm (.inr (.inr ⟨hk, e⟩));exact lst_txt t hk e t.min.toNat oM oM
  ·rw [if_neg oM, if_neg oM, if_pos hk];obtain ⟨a, b, c⟩ := hm (.inl hk);exact lst_byt t hk t.min.toNat oM oM
  ·rw [if_neg oM, if_neg oM, if_neg oM, if_pos hk];obtain ⟨a, b, c⟩ := hm (.inr (.inl hk));obtain ⟨e, he⟩ := List.length_eq_one_iff.1 (o2 hk);rw [he];exact lst_lst t e _ hk he (hc e (by rw [partsT, if_pos hk, he]; simp)) t.min.toNat oM oM
  ·rw [if_neg oM, if_neg oM, if_neg oM, if_neg oM, if_pos hk];cases he : t.fields with
   | nil => exact absurd he (o4 hk)
   | cons g r =>
    exact lst_var t g r _ hk he (hc g.type (by rw [partsT, if_neg oM, if_pos (.inr hk), he]; simp))
  ·rw [if_neg oM, if_neg oM, if_neg oM, if_neg oM, if_neg oM, if_pos hk];refine lst_rec t (lstV k) hk (fun g hg => hc g.type (by rw [partsT, if_neg oM, if_pos (.inl hk)]; exact List.mem_map_of_mem hg)) (fun g hg n3 => ?_) oM;obtain ⟨j, hj, rfl⟩ := List.getElem_of_mem hg;exact (fld_ok (o8 j hj)).2.2.2.1 n3
  ·rw [if_neg oM, if_neg oM, if_neg oM, if_neg oM, if_neg oM, if_neg oM];exact lst_num t hk
theorem chkY_chkT (h : chkY t = 0) : (chkT 8 4096 t).1 = 0 ∧ gsF (szT t) t ≤ 4096 := by
 unfold chkY at h;split at h
 ·rename_i h1; rw [h] at h1; cases h1
 ·rename_i h1;split at h
  ·cases h
  ·rename_i h2;exact ⟨by simpa using h1, by simpa using h2⟩
def lstY (t : Typ) : Val := if chkY t = 0 then lstV 8 t else zeroV
theorem walk20 (t : Typ) : PT 20 [encT t] (.tup [.d (encV (lstY t)), .d (.int .i64 (chkY t))]) := by
 refine ok20.pc ?_;have h17 := (walk17 t).call trivial;unfold lstY;by_cases h : chkY t = 0
 ·have h40 := (walk40 8 t (chkT_okA 8 4096 t (chkY_chkT h).1)).call trivial;rw [if_pos h];generalize lstV 8 t = V at *;rw [h] at h17 ⊢;rw [encV_eq] at h40 ⊢;rw [encT_eq] at h17 h40 ⊢;simp only [go_sem, ir20, simprocAttr];refine wn h17 ?_;simp only [go_sem, Int.reduceBEq, bne_self_eq_false, simprocAttr];refine wc h40 trivial
 ·have hb : (chkY t != 0) = true := sX h;rw [if_neg h];generalize chkY t = c at *;rw [encV_eq];rw [encT_eq] at h17 ⊢;simp only [go_sem, ir20, simprocAttr];refine wn h17 ?_;simp only [go_sem, hb, simprocAttr]
  try rfl
end Go.Proofs
namespace Go.Proofs
open Go Av
open Av.Y
def ir39 : Ic := q (R (ox 1 0<|ok 2 (.k .nilFn)<|N) [0,2])<|q (R (oo 3 (.fnv (.func 63) [] [t 1])<|om 2 3<|N) [1,3])<|.ret
theorem ok39 : FT 39 4 ir39 [.tmp 2] := .o Tryz.func39
def ir63 : Ic := q (R (ox 2 0<|N) [0])<|q (.reg (oN 3 [.nilFn]<|N))<|q (R (oo 4 (.fnv (.func 64) [] [t 2,t 3])<|os 3 4<|N) [2,4])<|R (ol 5 3<|oL 6 7 1<|.call (some 7) (.dyn (t 5)) [t 6,i 1] N) [3,5,6,7]
theorem ok63 : FT 63 8 ir63 [] := .o Tryz.func63
def ir64 : Ic := q (R (ox 4 0<|ow 6 false<|N) [0,6])<|q (q (R (ol 9 2<|om 10 1<|oL 11 7 4<|.call (some 12) (.dyn (t 9)) [t 10,t 11] (og 13 12<|N)) [9,10,11,12])<|D (I 13 (q (R (ow 6 false<|N) [1,4,13])<|.ret) S) [13])<|q (q (R (oL 14 7 4<|cl 15 60 [t 14]<|oh 16 15<|oz 17 0<|N) [4,14])<|D (.block 0<|.loop (q (.reg (ot 18 .lss 17 16<|N))<|q (D (I 18 S (E 0)) [18])<|q (D (.block 1<|q (R (oa true 19 7 15 17<|oL 20 7 19<|oN 8 Av.Y.vT<|oS 7 8 20<|N) [19,20])<|q (R (ol 21 3<|oL 22 7 8<|om 23 1<|oi 24 .add 23 1<|.call (some 25) (.dyn (t 21)) [t 22,t 24] (og 26 25<|N)) [8,21,22,23,24,25])<|D (I 26 (q (R (ow 6 false<|N) [1,15,16,17,26])<|.ret) S) [26]) [])<|R (oi 27 .add 17 1<|om 17 27<|N) [27])) [1,15,16,17,18,8])<|q (.reg (ow 6 true<|N))<|.ret
theorem ok64 : FT 64 28 ir64 [.tmp 6] := .o Tryz.func64
def asg18 : Ic := R (om 4 7<|N) [2,6,7,8]
def body18 : Ic := D (.block 1<|R (ol 9 3<|om 10 4<|oo 11 (.mx (t 9) (t 10))<|os 3 11<|N) [3,4,9,10,11]) [3,4,9,10,11]
noncomputable def ir18 : Ic := q (R (ox 1 0<|oz 2 0<|N) [0])<|q (.reg (oN 3 [.int .i64 0]<|on (.sto none (t 3) (i 0))<|N))<|q (q (R (oL 5 7 1<|cl 6 39 [t 5]<|N) [1,5])<|D (.block 0<|D (.rng (t 6) 13 20 #[7,8] (subC (codeOf Tryz.f18) [1,1,0,1,0,0]) (subC (codeOf Tryz.f18) [1,1,0,1,0,1]) asg18 body18) [2,6]) [2,6])<|q (R (ol 12 3<|om 2 12<|N) [3,12])<|.ret
theorem ok18 : FT 18 13 ir18 [.tmp 2] := .o Tryz.func18
def asg19 : Ic := S
def body19 : Ic := D (.block 1<|R (ol 8 3<|oi 9 .add 8 1<|os 3 9<|N) [2,3,5,6,7,8,9]) [2,3,5,6,7,8,9]
noncomputable def ir19 : Ic := q (R (ox 1 0<|oz 2 0<|N) [0])<|q (.reg (oN 3 [.int .i64 0]<|on (.sto none (t 3) (i 0))<|N))<|q (q (R (oL 4 7 1<|cl 5 39 [t 4]<|N) [1,4])<|D (.block 0<|D (.rng (t 5) 11 17 #[6,7] (subC (codeOf Tryz.f19) [1,1,0,1,0,0]) (subC (codeOf Tryz.f19) [1,1,0,1,0,1]) asg19 body19) [2,5]) [2,5])<|q (R (ol 10 3<|om 2 10<|N) [3,10])<|.ret
theorem ok19 : FT 19 11 ir19 [.tmp 2] := .o Tryz.func19
end Go.Proofs
namespace Go.Proofs
open Go Av
variable {L : Lp} {n m : Int} {i : Nat}
theorem szT_parts (t : Typ) : szTs (partsT t) + 1 ≤ szT t := by
 have e := szT_eq t;unfold partsT;split
 ·omega
 split
 ·have := szTs_map t.fields; omega
 ·simp only [szTs]; omega
theorem len_szTs : ∀ l : List Typ, l.length ≤ szTs l
 | [] => Nat.le_refl _
 | x :: r => by
  have := len_szTs r;have := szT_eq x;simp only [List.length_cons, szTs];omega
theorem szTs_drop : ∀ (l : List Typ) (j : Nat), szTs (l.drop j) ≤ szTs l
 | [], j => by simp
 | x :: r, 0 => by simp
 | x :: r, j + 1 => by
  have := szTs_drop r j;simp only [List.drop_succ_cons, szTs];omega
def visG (g : Int → Int → Int) : Nat → Int → Int → Typ → Int
 | 0, _, n, _ => n
 | k + 1, level, n, t => (partsT t).foldl (fun n p => visG g k (level + 1) n p) (g n level)
structure Cnt (g : Int → Int → Int) : Prop where
 pos : ∀ n l, 0 ≤ n → 0 ≤ l → 0 ≤ g n l
 le : ∀ n l, g n l ≤ n + 1 ∨ g n l ≤ l
theorem visG_bd {g : Int → Int → Int} (hg : Cnt g) (N : Int) : ∀ (k : Nat) (level n : Int) (t : Typ) (M : Int), szT t ≤ k → 0 ≤ level → level + k ≤ N → N ≤ M → 0 ≤ n → n ≤ M → 0 ≤ visG g k level n t ∧ visG g k level n t ≤ M + szT t
 | 0, level, n, t, M, h, _, _, _, _, _ => by rw [szT_eq] at h; omega
 | k + 1, level, n, t, M, h, h0, h1, h2, h3, h4 => by
  have hp := szT_parts t;have q : ∀ (l : List Typ) (n M : Int), N ≤ M → szTs l ≤ k → 0 ≤ n → n ≤ M → 0 ≤ l.foldl (fun n p => visG g k (level + 1) n p) n ∧ l.foldl (fun n p => visG g k (level + 1) n p) n ≤ M + szTs l := by
   intro l
   induction l with
   | nil => intro n M _ _ a b; simp only [List.foldl_nil, szTs]; omega
   | cons x r ih =>
    intro n M hM hs a b;simp only [szTs] at hs;obtain ⟨a1, b1⟩ := visG_bd hg N k (level + 1) n x M oM oM (by push_cast at h1; omega) hM a b;obtain ⟨a2, b2⟩ := ih (visG g k (level + 1) n x) (M + szT x) oM oM a1 b1;simp only [List.foldl_cons, szTs]
    push_cast
    omega
  have hp0 := hg.pos n level h3 h0;have hl := hg.le n level;obtain ⟨a, b⟩ := q (partsT t) (g n level) (M + 1) oM oM hp0 (by push_cast at h1; omega);rw [visG];omega
abbrev TV (L : Lp) (n : Int) : List (Nat × Av.Obj) := [(1000, .lp L), (1003, .box [.d (.int .i64 n)]), (1002, .box [.mp 1000]), (1004, .box [.clo (.func 64) [] [.ref 1002 0, .ref 1004 0]])]
abbrev TQ (L : Lp) (n : Int) : List (Nat × Av.Obj) := [(1000, .lp L), (1003, .box [.d (.int .i64 n)])]
def lpOK (L : Lp) : Prop := ∃ (c : Dat) (p : Nat) (N : Nat) (ps : Array Nat) (a b : Code), L = ⟨[(2, .d (.int .i64 0)), (3, .ref 1003 0), (p, .d c)], N, ps, a, b, .ready, none⟩
theorem closedV (h : lpOK L) (n : Int) : closed (get (TV L n)) := by
 obtain ⟨c, p, N, ps, a, b, rfl⟩ := h;refine closed_of ?_;simp [TV, closedH, objIn, idsInL, idsIn, idsInT, Av.get]
theorem closedVu (h : lpOK L) (n m : Int) : closed (hputs (get (TV L n)) (TV L m)) := by
 obtain ⟨c, p, N, ps, a, b, rfl⟩ := h;refine closed_puts ?_;simp [TV, puts, put, closedH, objIn, idsInL, idsIn, idsInT, Av.get]
theorem TV_dom (h : (get (TV L n) i).isSome = true) : i = 1000 ∨ i = 1003 ∨ i = 1002 ∨ i = 1004 := by
 simp only [TV, Av.get] at h
 repeat' split at h
 all_goals first | (cases h; done) | skip
 all_goals rename_i e
 all_goals first | omega | skip
abbrev YieldOK (L : Lp) (g : Int → Int → Int) : Prop := ∀ (n level : Int) (t : Typ), 0 ≤ n → n ≤ 1000000000000 → CT .yld [.mp 1000, .d (.int .i64 level), .d (encT t)] ((TQ L n).map fun x => (x.1, some x.2)) (.d (.bool true)) (TQ L (g n level))
theorem call64 (hL : lpOK L) {level : Int} {t : Typ} (h : KT 64 [.d (encT t), .d (.int .i64 level), .ref 1002 0, .ref 1004 0] (TV L n) (.d (.bool true)) (TV L m)) :
  CT 64 [.d (encT t), .d (.int .i64 level), .ref 1002 0, .ref 1004 0] ((TV L n).map fun x => (x.1, some x.2)) (.d (.bool true)) (TV L m) := by
 have := h.call (fun i => i) (fun i hi => by rcases TV_dom hi with rfl | rfl | rfl | rfl <;> decide) (fun i j _ _ h => h) (by simp [idsIn, Av.get]) (closedV hL n) [] (by simp [Av.get]) (closedVu hL n _) trivial;obtain ⟨c, p, N, ps, a, b, rfl⟩ := hL;simp only [TV, List.map_cons, List.map_nil] at this;simp only [TV, List.map_cons, List.map_nil, Obj.ren, Av.ren, renL, ren_id_dat, renT, List.append_nil] at this ⊢;exact this
set_option maxHeartbeats 1000000 in
theorem visit64 {L : Lp} (hL : lpOK L) {g : Int → Int → Int} (hg : Cnt g) (hY : YieldOK L g) : ∀ (k : Nat) (level n : Int) (t : Typ), szT t ≤ k → 0 ≤ level → level + k ≤ 10000000 → 0 ≤ n → n + szT t ≤ 1000000000 →
  KT 64 [.d (encT t), .d (.int .i64 level), .ref 1002 0, .ref 1004 0] (TV L n) (.d (.bool true)) (TV L (visG g k level n t))
 | 0, level, n, t, h, _, _, _, _ => by rw [szT_eq] at h; omega
 | k + 1, level, n, t, h, hl, hlk, h0, h1 => by
  refine Con.of_fits ok64.has fun hfit => ?_
  obtain ⟨_, _, f3⟩ := fits_T (hfit (encT t) sP);have hps := szT_parts t;generalize hF : visG g (k + 1) level n t = F;rw [visG] at hF;refine ok64.con (k := some false) (Nat.le_of_ble_eq_true rfl) (closedVu hL n _) trivial ?_;have hy := hY n level t h0 oM;have h60 := (walk60 t f3).call trivial;obtain ⟨c, p, N, ps, a, b, rfl⟩ := hL;rw [encT_eq] at hy h60 ⊢;simp only [TV, go_sem, ir64, simprocAttr];refine wn hy ?_;refine zz19 ?_;refine wc h60 ?_;clear h60 hy hfit;have hg0 := hg.pos n level h0 hl;have hgl := hg.le n level;generalize hP : partsT t = ps' at *;simp only [List.length_map];refine wpc_loop (fun r s => ∃ (j : Nat) (m : Int), j ≤ ps'.length ∧ r = ps'.length - j ∧ 0 ≤ m ∧ m + szTs (ps'.drop j) ≤ 1000000000 ∧ (ps'.drop j).foldl (fun n p => visG g k (level + 1) n p) m = F ∧
   s = ⟨[(1, .d (.int .i64 level)), (2, .ref 1002 0), (3, .ref 1004 0), (15, .d (.list 7 (ps'.map encT))), (16, .d (.int .i64 ps'.length)), (17, .d (.int .i64 j))],
    TV ⟨[(2, .d (.int .i64 0)), (3, .ref 1003 0), (p, .d c)], N, ps, a, b, .ready, none⟩ m⟩) ?_ ?_
  ·refine ⟨_, _, Wk.less ?_, 0, g n level, Nat.zero_le _, rfl, hg0, by rw [List.drop_zero]; omega, by rw [← hF, List.drop_zero], rfl⟩;simp [go_sem, TV]
  ·rintro r s ⟨j, m, hj, rfl, hm0, hm1, hinv, rfl⟩;by_cases hlt : j < ps'.length
   ·have hx' := nth_encT hlt;have hd : decide ((j : Int) < (ps'.length : Int)) = true := sO;have hw : IntKind.i64.wrap (level + 1) = level + 1 := wrap64 oM oM;rw [List.drop_eq_getElem_cons hlt, szTs] at hm1;rw [List.drop_eq_getElem_cons hlt, List.foldl_cons] at hinv;have hmem : szT ps'[j] ≤ k := by
     have : szT ps'[j] ≤ szTs ps' := szTs_mem _ (List.getElem_mem hlt);omega
    have hrest : szTs (ps'.drop (j + 1)) ≤ k := by have := szTs_drop ps' (j + 1); omega
    have hjk : j ≤ 1000000000 := by have := len_szTs ps'; omega
    have hc := call64 ⟨c, p, N, ps, a, b, rfl⟩ (visit64 ⟨c, p, N, ps, a, b, rfl⟩ hg hY k (level + 1) m ps'[j] hmem oM (by push_cast at hlk; omega) hm0 (by push_cast at hm1; omega));obtain ⟨v0, v1⟩ := visG_bd hg 10000000 k (level + 1) m ps'[j] (if m ≤ 10000000 then 10000000 else m) hmem oM (by push_cast at hlk; omega) (by split <;> omega) hm0 (by split <;> omega);generalize visG g k (level + 1) m ps'[j] = V at *;rw [encT_eq] at hc;simp only [TV, go_sem, hx', hd, hw, Int.toNat_natCast, List.length_map, simprocAttr];refine ⟨oM, wps_call rfl hc ⟨rfl, rfl, rfl, rfl, trivial⟩ ?_⟩;refine zz19 ?_;refine ⟨ps'.length - (j + 1), _, oM, Wk.less ?_, j + 1, V, oM, rfl, v0, ?_, hinv, rfl⟩
    ·simp [go_sem, wrap64s j oM, TV]
    ·push_cast at hm1
     split at v1 <;> omega
   ·have hd : decide ((j : Int) < (ps'.length : Int)) = false := sO;obtain rfl : j = ps'.length := oM;rw [List.drop_length, List.foldl_nil] at hinv;subst hinv;exact zz5 trivial
theorem walk39 (t : Typ) : PT 39 [encT t] (.d (.fn (.func 63) [] [.ptr (encT t).cells])) := by
 refine ok39.pc ?_;rw [encT_eq];simp only [go_sem, ir39, simprocAttr];simp only [go_sem, decide_eq_true_eq, reduceCtorEq, ↓reduceIte]
theorem call64a (hL : lpOK L) {level : Int} {t : Typ} (h : KT 64 [.d (encT t), .d (.int .i64 level), .ref 1002 0, .ref 1004 0] (TV L n) (.d (.bool true)) (TV L m)) :
  CT 64 [.d (encT t), .d (.int .i64 level), .ref 2 0, .ref 3 0] [(1000, some (.lp L)), (1003, some (.box [.d (.int .i64 n)])), (2, some (.box [.mp 1000])), (3, some (.box [.clo (.func 64) [] [.ref 2 0, .ref 3 0]]))] (.d (.bool true))
   [(1000, .lp L), (1003, .box [.d (.int .i64 m)]), (2, .box [.mp 1000]), (3, .box [.clo (.func 64) [] [.ref 2 0, .ref 3 0]])] := by
 have hd : ∀ x i, (hputs (get (TV L n)) (TV L x) i).isSome = true → i = 1000 ∨ i = 1003 ∨ i = 1002 ∨ i = 1004 := by
  intro x i hi;simp only [TV, hputs, upd, Av.get] at hi
  repeat' split at hi
  all_goals first | omega | (cases hi; done) | skip
 have := h.call (fun i => if i = 1002 then 2 else if i = 1004 then 3 else i) (fun i hi => by rcases TV_dom hi with rfl | rfl | rfl | rfl <;> decide)
  (fun i j hi hj h => by rcases hd _ i hi with rfl | rfl | rfl | rfl <;> rcases hd _ j hj with rfl | rfl | rfl | rfl <;> first | rfl | simp at h) (by simp [idsIn, Av.get]) (closedV hL n) [] (by simp [Av.get]) (closedVu hL n _) trivial
 obtain ⟨c, p, N, ps, a, b, rfl⟩ := hL;simp only [TV, List.map_cons, List.map_nil] at this;simp only [Obj.ren, Av.ren, renL, ren_id_dat, renT, List.map_cons, List.map_nil, List.append_nil, Nat.reduceEqDiff, Nat.reduceBEq, reduceCtorEq, ↓reduceIte] at this ⊢;exact this
theorem closedQ (h : lpOK L) (n : Int) : closed (get (TQ L n)) := by
 obtain ⟨c, p, N, ps, a, b, rfl⟩ := h;refine closed_of ?_;simp [TQ, closedH, objIn, idsInL, idsIn, idsInT, Av.get]
theorem closedQu (h : lpOK L) (n m : Int) : closed (hputs (get (TQ L n)) (TQ L m)) := by
 obtain ⟨c, p, N, ps, a, b, rfl⟩ := h;refine closed_puts ?_;simp [TQ, puts, put, closedH, objIn, idsInL, idsIn, idsInT, Av.get]
theorem TQ_dom (h : (get (TQ L n) i).isSome = true) : i = 1000 ∨ i = 1003 := by
 simp only [TQ, Av.get] at h
 repeat' split at h
 all_goals first | (cases h; done) | skip
 all_goals rename_i e
 all_goals first | omega | skip
theorem TQu_dom (h : (hputs (get (TQ L n)) (TQ L m) i).isSome = true) : i = 1000 ∨ i = 1003 := by
 simp only [TQ, hputs, upd, Av.get] at h
 repeat' split at h
 all_goals first | omega | (cases h; done) | skip
theorem walk63 (hL : lpOK L) {g : Int → Int → Int} (hg : Cnt g) (hY : YieldOK L g) (t : Typ) (ht : szT t ≤ 5000000) :
  KT 63 [.mp 1000, .d (.ptr (encT t).cells)] (TQ L 0) (.tup []) (TQ L (visG g (szT t) 1 0 t)) := by
 refine ok63.con (k := some false) (Nat.le_of_ble_eq_true rfl) (closedQu hL 0 _) trivial ?_;have hc := call64a hL (visit64 hL hg hY (szT t) 1 0 t (Nat.le_refl _) dC oM dC oM);generalize visG g (szT t) 1 0 t = V at *;obtain ⟨c, p, N, ps, a, b, rfl⟩ := hL;rw [encT_eq] at hc ⊢;simp only [TQ, go_sem, ir63, simprocAttr];refine wps_call rfl hc ⟨rfl, rfl, rfl, rfl, trivial⟩ ?_;exact zz trivial
noncomputable def lpZ (c : Dat) : Lp := ⟨[(2, .d (.int .i64 0)), (3, .ref 1003 0), (5, .d c)], 11, #[6, 7], subC (codeOf Tryz.f19) [1, 1, 0, 1, 0, 0], subC (codeOf Tryz.f19) [1, 1, 0, 1, 0, 1], .ready, none⟩
theorem lpZ_ok (c : Dat) : lpOK (lpZ c) := ⟨c, 5, _, _, _, _, rfl⟩
def addI (n _ : Int) : Int := n + 1
theorem cntS : Cnt addI := ⟨fun n l h _ => by unfold addI; omega, fun n l => .inl (Int.le_refl _)⟩
theorem roundZ (c : Dat) (n level : Int) (t : Typ) (h0 : 0 ≤ n) (h1 : n ≤ 1000000000000) :
  RCon Tryz.prog 1000 [.d (.int .i64 level), .d (encT t)] (TQ (lpZ c) n) (.d (.bool true)) (TQ (lpZ c) (n + 1)) := by
 refine RCon.of_code (asg := asg19) (body := body19) rfl rfl kR kR rfl (show ∀ p ∈ [6, 7], p < 11 by decide) (closedQu (lpZ_ok c) n _) ?_;have hw : IntKind.i64.wrap (n + 1) = n + 1 := wrap64 oM oM;generalize hD : (fun i => (get (TQ (lpZ c) n) i).isSome = true) = D;generalize hK : RoundEnds 1000 (TQ (lpZ c) n) D (.d (.bool true)) _ = K;have leaf : K .normal ⟨[], [(1000, .lp { lpZ c with s := .busy }), (1003, .box [.d (.int .i64 (n + 1))])]⟩ := by
  rw [← hK, ← hD];refine ⟨_, _, rfl, rfl, ⟨[], [(1000, .lp (lpZ c)), (1003, .box [.d (.int .i64 (n + 1))])]⟩, Wk.less ?_, ?_⟩
  ·simp [put, lpZ, go_sem]
  ·intro i o h;rw [← h, ← get_puts];simp [puts, put]
 clear hK hD;simp only [TQ, lpZ, asg19, body19, hw, go_sem, simprocAttr] at leaf ⊢;exact ⟨_, rfl, rfl, leaf⟩
theorem yieldZ (c : Dat) : YieldOK (lpZ c) addI := by
 intro n level t h0 h1;have := (roundZ c n level t h0 h1).call (fun i => i) ⟨_, rfl⟩ (fun i j _ _ h => h) (by simp [idsIn]) (closedQ (lpZ_ok c) n) [] (by simp [Av.get]) (closedQu (lpZ_ok c) n _) trivial;simp only [TQ, List.map_cons, List.map_nil] at this;simp only [TQ, List.map_cons, List.map_nil, Obj.ren, Av.ren, renL, ren_id_dat, lpZ, renT, List.append_nil, addI] at this ⊢;exact this
noncomputable def lpZo (c : Dat) : Av.Obj := .lp ⟨[(2, .d (.int .i64 0)), (3, .ref 3 0), (5, .d c)], 11, #[6, 7], subC (codeOf Tryz.f19) [1, 1, 0, 1, 0, 0], subC (codeOf Tryz.f19) [1, 1, 0, 1, 0, 1], .ready, none⟩
theorem call63_19 (t : Typ) (c : Dat) (ht : szT t ≤ 5000000) :
  CT 63 [.mp 17, .d (.ptr (encT t).cells)] [(17, some (lpZo c)), (3, some (.box [.d (.int .i64 0)]))] (.tup []) [(17, lpZo c), (3, .box [.d (.int .i64 (visG addI (szT t) 1 0 t))])] := by
 have := (walk63 (lpZ_ok c) cntS (yieldZ c) t ht).call (fun i => if i = 1000 then 17 else i - 1000) (fun i hi => by rcases TQ_dom hi with rfl | rfl <;> decide)
  (fun i j hi hj h => by rcases TQu_dom hi with rfl | rfl <;> rcases TQu_dom hj with rfl | rfl <;> first | rfl | simp at h) (by simp [idsIn, Av.get]) (closedQ (lpZ_ok c) 0) [] (by simp [Av.get]) (closedQu (lpZ_ok c) 0 _) trivial
 simp only [TQ, List.map_cons, List.map_nil] at this;simp only [Obj.ren, Av.ren, renL, ren_id_dat, lpZ, renT, List.map_cons, List.map_nil, List.append_nil, Nat.reduceSub, simprocAttr] at this;exact this
theorem walk19 (t : Typ) (ht : szT t ≤ 5000000) : PT 19 [encT t] (.d (.int .i64 (visG addI (szT t) 1 0 t))) := by
 refine ok19.pc ?_;have h1 := (walk39 t).call trivial;have h2 := call63_19 t (.fn (.func 63) [] [.ptr (encT t).cells]) ht;generalize visG addI (szT t) 1 0 t = V at *;rw [encT_eq] at h1 h2 ⊢;simp only [go_sem, ir19, simprocAttr];refine wc h1 ?_;refine wpc_rng rfl rfl ok63.has h2 ⟨rfl, rfl, trivial⟩ rfl sP (.inl ⟨rfl, ?_⟩);exact zz trivial
noncomputable def lpY (c : Dat) : Lp := ⟨[(2, .d (.int .i64 0)), (3, .ref 1003 0), (6, .d c)], 13, #[7, 8], subC (codeOf Tryz.f18) [1, 1, 0, 1, 0, 0], subC (codeOf Tryz.f18) [1, 1, 0, 1, 0, 1], .ready, none⟩
theorem lpY_ok (c : Dat) : lpOK (lpY c) := ⟨c, 6, _, _, _, _, rfl⟩
def maxI (n l : Int) : Int := if n < l then l else n
theorem cntD : Cnt maxI := ⟨fun n l h h' => by unfold maxI; split <;> omega, fun n l => by unfold maxI; split <;> omega⟩
theorem roundY (c : Dat) (n level : Int) (t : Typ) (h0 : 0 ≤ n) (h1 : n ≤ 1000000000000) :
  RCon Tryz.prog 1000 [.d (.int .i64 level), .d (encT t)] (TQ (lpY c) n) (.d (.bool true)) (TQ (lpY c) (maxI n level)) := by
 refine RCon.of_code (asg := asg18) (body := body18) rfl rfl kR kR rfl (show ∀ p ∈ [7, 8], p < 13 by decide) (closedQu (lpY_ok c) n _) ?_;generalize hD : (fun i => (get (TQ (lpY c) n) i).isSome = true) = D;generalize hK : RoundEnds 1000 (TQ (lpY c) n) D (.d (.bool true)) _ = K;have leaf : K .normal ⟨[], [(1000, .lp { lpY c with s := .busy }), (1003, .box [.d (.int .i64 (maxI n level))])]⟩ := by
  rw [← hK, ← hD];refine ⟨_, _, rfl, rfl, ⟨[], [(1000, .lp (lpY c)), (1003, .box [.d (.int .i64 (maxI n level))])]⟩, Wk.less ?_, ?_⟩
  ·simp [put, lpY, go_sem]
  ·intro i o h;rw [← h, ← get_puts];simp [puts, put]
 clear hK hD;simp only [TQ, lpY, asg18, body18, go_sem, simprocAttr] at leaf ⊢;exact ⟨_, rfl, rfl, leaf⟩
theorem yieldY (c : Dat) : YieldOK (lpY c) maxI := by
 intro n level t h0 h1;have := (roundY c n level t h0 h1).call (fun i => i) ⟨_, rfl⟩ (fun i j _ _ h => h) (by simp [idsIn]) (closedQ (lpY_ok c) n) [] (by simp [Av.get]) (closedQu (lpY_ok c) n _) trivial;simp only [TQ, List.map_cons, List.map_nil] at this;simp only [TQ, List.map_cons, List.map_nil, Obj.ren, Av.ren, renL, ren_id_dat, lpY, renT, List.append_nil] at this ⊢;exact this
noncomputable def lpYo (c : Dat) : Av.Obj := .lp ⟨[(2, .d (.int .i64 0)), (3, .ref 3 0), (6, .d c)], 13, #[7, 8], subC (codeOf Tryz.f18) [1, 1, 0, 1, 0, 0], subC (codeOf Tryz.f18) [1, 1, 0, 1, 0, 1], .ready, none⟩
theorem call63_18 (t : Typ) (c : Dat) (ht : szT t ≤ 5000000) :
  CT 63 [.mp 20, .d (.ptr (encT t).cells)] [(20, some (lpYo c)), (3, some (.box [.d (.int .i64 0)]))] (.tup []) [(20, lpYo c), (3, .box [.d (.int .i64 (visG maxI (szT t) 1 0 t))])] := by
 have := (walk63 (lpY_ok c) cntD (yieldY c) t ht).call (fun i => if i = 1000 then 20 else i - 1000) (fun i hi => by rcases TQ_dom hi with rfl | rfl <;> decide)
  (fun i j hi hj h => by rcases TQu_dom hi with rfl | rfl <;> rcases TQu_dom hj with rfl | rfl <;> first | rfl | simp at h) (by simp [idsIn, Av.get]) (closedQ (lpY_ok c) 0) [] (by simp [Av.get]) (closedQu (lpY_ok c) 0 _) trivial
 simp only [TQ, List.map_cons, List.map_nil] at this;simp only [Obj.ren, Av.ren, renL, ren_id_dat, lpY, renT, List.map_cons, List.map_nil, List.append_nil, Nat.reduceSub, simprocAttr] at this;exact this
theorem walk18 (t : Typ) (ht : szT t ≤ 5000000) : PT 18 [encT t] (.d (.int .i64 (visG maxI (szT t) 1 0 t))) := by
 refine ok18.pc ?_;have h1 := (walk39 t).call trivial;have h2 := call63_18 t (.fn (.func 63) [] [.ptr (encT t).cells]) ht;generalize visG maxI (szT t) 1 0 t = V at *;rw [encT_eq] at h1 h2 ⊢;simp only [go_sem, ir18, simprocAttr];refine wc h1 ?_;refine wpc_rng rfl rfl ok63.has h2 ⟨rfl, rfl, trivial⟩ rfl sP (.inl ⟨rfl, ?_⟩);exact zz trivial
end Go.Proofs
namespace Go.Proofs
open Go Av
variable {t : Typ}
def gd : Nat → Typ → Prop
 | 0, _ => False
 | k + 1, t => ownT t = 0 ∧ (∀ p ∈ partsT t, gd k p) ∧ ∀ (j : Nat) (hj : j < (partsT t).length), t.kind = 9 → (t.fields.getD j tf0).need = 3 → accB (partsT t)[j] (dfl0 (t.fields.getD j tf0)) = true
theorem gd_mono : ∀ (k : Nat) (t : Typ), gd k t → gd (k + 1) t
 | 0, t, h => h.elim
 | k + 1, t, h => ⟨h.1, fun p hp => gd_mono k p (h.2.1 p hp), h.2.2⟩
theorem gd_le {k k' : Nat} (h : gd k t) (hk : k ≤ k') : gd k' t := by
 induction hk with
 | refl => exact h
 | step _ ih => exact gd_mono _ _ ih
theorem own_parts (h : ownT t = 0) : szTs (partsT t) + 1 = szT t := by
 obtain ⟨o1, o2, o3, o4, o5, o6, o7, o8⟩ := own_ok h;have e := szT_eq t;unfold partsT;by_cases e8 : t.kind = 8
 ·rw [if_pos e8, e, o5 oM oM];simp [szGs]; omega
 ·rw [if_neg e8, e, o3 e8];by_cases e9 : t.kind = 9 ∨ t.kind = 10
  ·rw [if_pos e9];have := szTs_map t.fields;simp only [szTs];omega
  ·rw [if_neg e9, o5 oM oM];simp [szTs, szGs]
theorem chkPs_gd {f : Int → Typ → Int × Int} {Q : Typ → Prop} (hf : ∀ n p, (f n p).1 = 0 → Q p) : ∀ (l : List Typ) (i : Nat) (n : Int), (chkPs f t i n l).1 = 0 →
  (∀ p ∈ l, Q p) ∧ ∀ (j : Nat) (hj : j < l.length), t.kind = 9 → (t.fields.getD (i + j) tf0).need = 3 → accB l[j] (dfl0 (t.fields.getD (i + j) tf0)) = true
 | [], _, _, _ => ⟨(by intro p hp; cases hp), fun j hj => absurd hj sP⟩
 | x :: r, i, n, h => by
  rw [chkPs] at h;split at h
  ·rename_i h1; rw [h] at h1; cases h1
  ·rename_i h1;split at h
   ·cases h
   ·rename_i h2;obtain ⟨a, b⟩ := chkPs_gd hf r (i + 1) _ h;refine ⟨fun p hp => ?_, fun j hj hk hn => ?_⟩
    ·rcases List.mem_cons.1 hp with rfl | hp
     ·exact hf n p (sX h1)
     ·exact a p hp
    ·cases j with
     | zero =>
      simp only [Bool.and_eq_true, beq_iff_eq, Bool.not_eq_true', not_and, Bool.not_eq_false] at h2;exact h2 ⟨hk, hn⟩
     | succ j =>
      have e : i + (j + 1) = i + 1 + j := oM;rw [e] at hn ⊢;exact b j (sX hj) hk hn
theorem chkT_gd : ∀ (k : Nat) (n : Int) (t : Typ), (chkT k n t).1 = 0 → gd k t
 | 0, n, t, h => by rw [chkT] at h; split at h <;> cases h
 | k + 1, n, t, h => by
  rw [chkT] at h;split at h
  ·cases h
  split at h
  ·rename_i h2; rw [show ownT t = 0 from h] at h2; cases h2
  ·rename_i h1 h2;obtain ⟨a, b⟩ := chkPs_gd (chkT_gd k) (partsT t) 0 (n - 1) h;refine ⟨by simpa using h2, a, fun j hj hk hn => ?_⟩;have := b j hj hk (by rw [Nat.zero_add]; exact hn);rwa [Nat.zero_add] at this
theorem chkPs_of {f : Int → Typ → Int × Int} : ∀ (l : List Typ) (i : Nat) (n : Int), (∀ p ∈ l, ∀ m : Int, szT p ≤ m → f m p = (0, m - szT p)) → (szTs l : Int) ≤ n →
  (∀ (j : Nat) (hj : j < l.length), t.kind = 9 → (t.fields.getD (i + j) tf0).need = 3 → accB l[j] (dfl0 (t.fields.getD (i + j) tf0)) = true) → chkPs f t i n l = (0, n - szTs l)
 | [], i, n, _, _, _ => by simp [chkPs, szTs]
 | x :: r, i, n, hf, hn, ha => by
  simp only [szTs] at hn;have e := hf x List.mem_cons_self n (by push_cast at hn; omega);have h2 : ((t.kind == 9 && (t.fields.getD i tf0).need == 3) && !accB x (dfl0 (t.fields.getD i tf0))) = false := by
   rw [Bool.eq_false_iff];intro hh;simp only [Bool.and_eq_true, beq_iff_eq, Bool.not_eq_true'] at hh;have := ha 0 sP hh.1.1 hh.1.2;simp only [Nat.add_zero, List.getElem_cons_zero] at this;rw [this] at hh;cases hh.2
  rw [chkPs, e];simp only [bne_self_eq_false, Bool.false_eq_true, ↓reduceIte, h2];rw [chkPs_of r (i + 1) _ (fun p hp => hf p (List.mem_cons_of_mem _ hp)) (by push_cast at hn; omega) (fun j hj hk hn' => ?_)]
  ·simp only [szTs]; push_cast; congr 1; omega
  ·have e2 : i + (j + 1) = i + 1 + j := oM;have := ha (j + 1) (sX hj) hk (by rw [e2]; exact hn');rw [e2] at this;exact this
theorem chkT_of : ∀ (k : Nat) (n : Int) (t : Typ), gd k t → (szT t : Int) ≤ n → chkT k n t = (0, n - szT t)
 | 0, n, t, h, _ => h.elim
 | k + 1, n, t, h, hn => by
  have hp := own_parts h.1;have h0 : (n == 0) = false := by
   have := szT_eq t;simp; omega
  rw [chkT, h.1];simp only [h0, bne_self_eq_false, Bool.false_eq_true, ↓reduceIte];rw [chkPs_of (partsT t) 0 (n - 1) (fun p hp m hm => chkT_of k m p (h.2.1 p hp) hm) oM (fun j hj hk hn' => ?_)]
  ·congr 1; omega
  ·rw [Nat.zero_add] at hn' ⊢;exact h.2.2 j hj hk hn'
theorem vis_size : ∀ (k : Nat) (K : Nat) (level n : Int) (t : Typ), gd k t → szT t ≤ K → visG addI K level n t = n + szT t
 | 0, _, _, _, _, h, _ => h.elim
 | k + 1, 0, _, _, t, h, hK => by have := szT_eq t; omega
 | k + 1, K + 1, level, n, t, h, hK => by
  have hp := own_parts h.1;have q : ∀ (l : List Typ) (m : Int), (∀ p ∈ l, gd k p) → szTs l ≤ K → l.foldl (fun n p => visG addI K (level + 1) n p) m = m + szTs l := by
   intro l
   induction l with
   | nil => intro m _ _; simp [szTs]
   | cons x r ih =>
    intro m hg hs;simp only [szTs] at hs;rw [List.foldl_cons, vis_size k K (level + 1) m x (hg x List.mem_cons_self) oM, ih _ (fun p hp => hg p (List.mem_cons_of_mem _ hp)) oM];simp only [szTs]; push_cast; omega
  rw [visG, q (partsT t) _ h.2.1 oM];unfold addI;omega
theorem vis_le : ∀ (K : Nat) (level n : Int) (t : Typ), n ≤ visG maxI K level n t
 | 0, _, n, _ => Int.le_refl n
 | K + 1, level, n, t => by
  have q : ∀ (l : List Typ) (m : Int), m ≤ l.foldl (fun n p => visG maxI K (level + 1) n p) m := by
   intro l
   induction l with
   | nil => intro m; exact Int.le_refl m
   | cons x r ih => intro m; rw [List.foldl_cons]; exact Int.le_trans (vis_le K (level + 1) m x) (ih _)
  have := q (partsT t) (maxI n level);rw [visG];refine Int.le_trans ?_ this;unfold maxI;split <;> omega
theorem vis_depth : ∀ (k K d : Nat) (level n L : Int) (t : Typ), gd k t → szT t ≤ K → visG maxI K level n t ≤ L → L = level + d → gd (d + 1) t
 | 0, _, _, _, _, _, _, h, _, _, _ => h.elim
 | k + 1, 0, _, _, _, _, t, h, hK, _, _ => by have := szT_eq t; omega
 | k + 1, K + 1, d, level, n, L, t, h, hK, hL, hd => by
  have hp := own_parts h.1;rw [visG] at hL;have q : ∀ (l : List Typ) (m : Int), szTs l ≤ K → (∀ p ∈ l, gd k p) → l.foldl (fun n p => visG maxI K (level + 1) n p) m ≤ L → ∀ p ∈ l, ∃ m', visG maxI K (level + 1) m' p ≤ L ∧ szT p ≤ K := by
   intro l
   induction l with
   | nil => intro m _ _ _ p hp; cases hp
   | cons x r ih =>
    intro m hs hg hl p hp;simp only [szTs] at hs;rw [List.foldl_cons] at hl;rcases List.mem_cons.1 hp with rfl | hp
    ·refine ⟨m, Int.le_trans ?_ hl, oM⟩;have : ∀ (r : List Typ) (m : Int), m ≤ r.foldl (fun n p => visG maxI K (level + 1) n p) m := by
      intro r
      induction r with
      | nil => intro m; exact Int.le_refl m
      | cons x r ih => intro m; rw [List.foldl_cons]; exact Int.le_trans (vis_le K (level + 1) m x) (ih _)
     exact this r _
    ·exact ih _ oM (fun p hp => hg p (List.mem_cons_of_mem _ hp)) hl p hp
  refine ⟨h.1, fun p hp' => ?_, h.2.2⟩;obtain ⟨m', h1, h2⟩ := q (partsT t) _ oM h.2.1 hL p hp';have hlev : level + 1 ≤ visG maxI K (level + 1) m' p := by
   cases K with
   | zero => have := szT_eq p; omega
   | succ K =>
    rw [visG];have : ∀ (r : List Typ) (m : Int), m ≤ r.foldl (fun n p => visG maxI K (level + 1 + 1) n p) m := by
     intro r
     induction r with
     | nil => intro m; exact Int.le_refl m
     | cons x r ih => intro m; rw [List.foldl_cons]; exact Int.le_trans (vis_le K (level + 1 + 1) m x) (ih _)
    refine Int.le_trans ?_ (this _ _);unfold maxI;split <;> omega
  cases d with
  | zero => omega
  | succ d => exact vis_depth k K d (level + 1) m' L p (h.2.1 p hp') h2 h1 (by push_cast at hd; omega)
end Go.Proofs
namespace Go.Proofs
open Go Av
variable {l : List (Str × Typ)} {k : Nat}
def intT (a b : Int) : Typ := .mk 2 a b 0 [] [] []
def listT (a b : Int) (t : Typ) : Typ := .mk 8 a b 0 [] [t] []
def recG (k : Nat) (p : Str × Typ) : TFl := .mk ((k : Int) + 1) p.1 1 p.2 []
def recGs : Nat → List (Str × Typ) → List TFl
 | _, [] => []
 | k, p :: r => recG k p :: recGs (k + 1) r
def recT (l : List (Str × Typ)) : Typ := .mk 9 0 0 0 [] [] (recGs 0 l)
def rawG (k : Nat) (p : Str × Typ) : Dat := .agg [.int .i64 ((k : Int) + 1), .str p.1, .int .i64 1, .int .i64 p.2.kind, .int .i64 p.2.min, .int .i64 p.2.max, .int .i64 p.2.scale, .list 1 (p.2.words.map .str), .list 7 (p.2.elem.map encT), .list 11 (p.2.fields.map encG), .nil 6]
def rawGs : Nat → List (Str × Typ) → List Dat
 | _, [] => []
 | k, p :: r => rawG k p :: rawGs (k + 1) r
theorem rawGs_append : ∀ (l : List (Str × Typ)) (k : Nat) (p : Str × Typ), rawGs k (l ++ [p]) = rawGs k l ++ [rawG (k + l.length) p]
 | [], k, p => rfl
 | q :: r, k, p => by
  rw [List.cons_append, rawGs, rawGs_append r (k + 1) p, rawGs];simp only [List.cons_append, List.length_cons];congr 4;omega
theorem rawGs_len : ∀ (l : List (Str × Typ)) (k : Nat), (rawGs k l).length = l.length
 | [], _ => rfl
 | q :: r, k => by rw [rawGs, List.length_cons, rawGs_len r, List.length_cons]
theorem walk24 (a b : Int) : PT 24 [.int .i64 a, .int .i64 b] (.d (encT (intT a b))) := by
 refine ok24.pc ?_;rw [encT_eq];simp only [go_sem, ir24, simprocAttr];rfl
theorem walk28 (a b : Int) : PT 28 [.int .i64 a, .int .i64 b] (.d (encT (intT a b))) := by
 refine ok28.pc ?_;rw [encT_eq];simp only [go_sem, ir28, simprocAttr];rfl
theorem walk25 (a b : Int) (t : Typ) : PT 25 [.int .i64 a, .int .i64 b, encT t] (.d (encT (listT a b t))) := by
 refine ok25.pc ?_;rw [encT_eq t, encT_eq];simp only [go_sem, ir25, simprocAttr];refine ⟨sP, ?_⟩;rw [← encT_eq t]; rfl
theorem walk29 (t : Typ) : PT 29 [encT t] (.d (encT (listT 1 256 t))) := by
 refine ok29.pc ?_;rw [encT_eq t, encT_eq];simp only [go_sem, ir29, simprocAttr];refine ⟨sP, ?_⟩;rw [← encT_eq t]; rfl
theorem nth_fst (h : k < l.length) : nth (l.map fun p => Dat.str p.1) k = .str l[k].1 := by rw [nth_eq (sX h), List.getElem_map]
theorem nth_snd (h : k < l.length) : nth (l.map fun p => encT p.2) k = .agg [.int .i64 l[k].2.kind, .int .i64 l[k].2.min, .int .i64 l[k].2.max, .int .i64 l[k].2.scale, .list 1 (l[k].2.words.map .str), .list 7 (l[k].2.elem.map encT), .list 11 (l[k].2.fields.map encG)] := by
 rw [nth_eq (sX h), List.getElem_map, encT_eq]
theorem canon_rawG (k : Nat) (p : Str × Typ) : (rawG k p).canon = encG (recG k p) := by
 rw [← canon_encG, encG_eq];simp only [rawG, recG, Dat.canon, canonL, TFl.number, TFl.name, TFl.need, TFl.type, TFl.dflt, List.map_nil]
theorem canon_rawGs : ∀ (l : List (Str × Typ)) (k : Nat), canonL (rawGs k l) = (recGs k l).map encG
 | [], _ => by simp [rawGs, recGs, canonL]
 | p :: r, k => by simp only [rawGs, recGs, canonL, canon_rawG, canon_rawGs r, List.map_cons]
set_option maxHeartbeats 1000000 in
theorem walk23 (l : List (Str × Typ)) (hl : l.length ≤ 1000) : PT 23 [.list 1 (l.map fun p => .str p.1), .list 7 (l.map fun p => encT p.2)] (.d (encT (recT l))) := by
 refine ok23.pc ?_;rw [encT_eq];simp only [go_sem, ir23, List.length_map, Nat.reduceAdd, Nat.reduceEqDiff, Nat.reduceBEq, Nat.reduceLeDiff, reduceCtorEq, ↓reduceIte];refine wpc_loop (fun n s => ∃ k : Nat, k ≤ l.length ∧ n = l.length - k ∧
  s = ⟨[(1, .d (.list 7 (l.map fun p => encT p.2))), (4, .ref 4 0), (5, .ref 5 0), (9, .d (.list 1 (l.map fun p => .str p.1))), (10, .d (.int .i64 l.length)), (11, .d (.int .i64 k))],
   [(4, .box [.d (.int .i64 0), .d (.int .i64 0), .d (.int .i64 0), .d (.int .i64 0), .d (.nil 1), .d (.nil 7), .d (.nil 11)]),
    (5, .box [.d (.int .i64 9), .d (.int .i64 0), .d (.int .i64 0), .d (.int .i64 0), .d (.nil 1), .d (.nil 7), .ms 28 k]),
    (28, .row k 11 (rawGs 0 (l.take k)))]⟩) ?_ ?_
 ·refine ⟨_, _, Wk.nilB 5 6 28 11 _ rfl rfl rfl dC, 0, Nat.zero_le _, rfl, ?_⟩;simp [put, rawGs]
 ·rintro n s ⟨k, hk, rfl, rfl⟩;by_cases hlt : k < l.length
  ·have hx1 := nth_fst hlt;have hx2 := nth_snd hlt;have hd := dT hlt;have hw : IntKind.i64.wrap ((k : Int) + 1) = (k : Int) + 1 := wrap64s k oM;have hc := (p48 l[k].2).call trivial;rw [encT_eq] at hc;simp only [go_sem, hx1, hx2, hd, hw, Int.toNat_natCast, List.length_map, Nat.reduceAdd, Nat.reduceEqDiff, Nat.reduceBEq, Nat.reduceLeDiff, reduceCtorEq, ↓reduceIte];refine ⟨oM, oM, ⟨oM, oM⟩, wpsL_call rfl hc trivial ?_⟩;refine zz ?_;refine ⟨sP, by rw [rawGs_len]; simp; omega, rfl, l.length - (k + 1), _, oM, Wk.less ?_, k + 1, oM, rfl, rfl⟩;rw [List.take_succ_eq_append_getElem hlt, rawGs_append];simp only [go_sem, hw, rawG, List.length_take, Nat.min_eq_left hk, Nat.zero_add, Int.natCast_add, Int.natCast_one, Nat.reduceAdd, Nat.reduceEqDiff, Nat.reduceBEq, Nat.reduceLeDiff, reduceCtorEq, ↓reduceIte]
  ·have hd := dF hlt;obtain rfl : k = l.length := oM;refine zz21 ?_;rw [canon_rawGs]; rfl
def encN (p : Str × Typ) : Dat := .agg [.str p.1, .int .i64 p.2.kind, .int .i64 p.2.min, .int .i64 p.2.max, .int .i64 p.2.scale, .list 1 (p.2.words.map .str), .list 7 (p.2.elem.map encT), .list 11 (p.2.fields.map encG)]
theorem nth_encN (h : k < l.length) : nth (l.map encN) k = .agg [.str l[k].1, .int .i64 l[k].2.kind, .int .i64 l[k].2.min, .int .i64 l[k].2.max, .int .i64 l[k].2.scale, .list 1 (l[k].2.words.map .str), .list 7 (l[k].2.elem.map encT), .list 11 (l[k].2.fields.map encG)] := by
 rw [nth_eq (sX h), List.getElem_map, encN]
set_option maxHeartbeats 1000000 in
theorem walk27 (l : List (Str × Typ)) (hl : l.length ≤ 1000) : PT 27 [.list 8 (l.map encN)] (.d (encT (recT l))) := by
 refine ok27.pc ?_;rw [encT_eq];simp only [go_sem, ir27, List.length_map, Nat.reduceAdd, Nat.reduceEqDiff, Nat.reduceBEq, Nat.reduceLeDiff, reduceCtorEq, ↓reduceIte];refine wpc_loop (fun n s => ∃ k : Nat, k ≤ l.length ∧ n = l.length - k ∧
  s = ⟨[(0, .d (.list 8 (l.map encN))), (2, .ref 2 0), (3, .ref 3 0), (4, .d (.int .i64 k))],
   [(2, .box [.d (.int .i64 0), .d (.int .i64 0), .d (.int .i64 0), .d (.int .i64 0), .d (.nil 1), .d (.nil 7), .d (.nil 11)]),
    (3, .box [.d (.int .i64 9), .d (.int .i64 0), .d (.int .i64 0), .d (.int .i64 0), .d (.nil 1), .d (.nil 7), .ms 28 k]),
    (28, .row k 11 (rawGs 0 (l.take k)))]⟩) ?_ ?_
 ·refine ⟨_, _, Wk.nilB 3 6 28 11 _ rfl rfl rfl (by decide), 0, Nat.zero_le _, rfl, ?_⟩;simp [put, rawGs]
 ·rintro n s ⟨k, hk, rfl, rfl⟩;by_cases hlt : k < l.length
  ·have hx := nth_encN hlt;have hd : decide ((k : Int) < (l.length : Int)) = true := by simp; omega
   have hw : IntKind.i64.wrap ((k : Int) + 1) = (k : Int) + 1 := wrap64s k (by omega);simp only [go_sem, hx, hd, hw, Int.toNat_natCast, List.length_map, Nat.reduceAdd, Nat.reduceEqDiff, Nat.reduceBEq, Nat.reduceLeDiff, reduceCtorEq, ↓reduceIte];refine ⟨by omega, by decide, by omega, by simp, by rw [rawGs_len]; simp; omega, rfl, l.length - (k + 1), _, by omega, Wk.less ?_, k + 1, by omega, rfl, rfl⟩;rw [List.take_succ_eq_append_getElem hlt, rawGs_append];simp only [go_sem, rawG, List.length_take, Nat.min_eq_left hk, Nat.zero_add, Int.natCast_add, Int.natCast_one, Nat.reduceAdd, Nat.reduceEqDiff, Nat.reduceBEq, Nat.reduceLeDiff, reduceCtorEq, ↓reduceIte]
  ·have hd : decide ((k : Int) < (l.length : Int)) = false := by simp; omega
   obtain rfl : k = l.length := by omega
   simp only [go_sem, hd, List.length_map, List.take_length, Nat.reduceAdd, Nat.reduceEqDiff, Nat.reduceBEq, Nat.reduceLeDiff, reduceCtorEq, ↓reduceIte];rw [canon_rawGs]; rfl
@[instance_reducible] def rls0 : Rls := { rl := fun _ => false }
theorem rowLit_0 (sz n : Nat) : @rowLit rls0 sz n = false := rfl
theorem tr_0 (n : Nat) : @Rls.tr rls0 n = false := rfl
def sBody : Str := [98, 111, 100, 121]
def sItem : Str := [105, 116, 101, 109]
def sIndex : Str := [105, 110, 100, 101, 120]
def sKey : Str := [107, 101, 121]
def sCount : Str := [99, 111, 117, 110, 116]
def sItems : Str := [105, 116, 101, 109, 115]
def sReply : Str := [114, 101, 112, 108, 121]
def msgT (b : Typ) : Typ := recT [(sBody, b)]
def elmT (b x : Typ) : Typ := recT [(sBody, b), (sItem, x), (sIndex, intT 0 255)]
def grpT (b x : Typ) : Typ := recT [(sKey, x), (sCount, intT 1 256), (sItems, listT 1 256 b)]
def cplT (b x : Typ) : Typ := recT [(sBody, b), (sKey, x), (sCount, intT 1 256), (sItems, listT 1 256 b)]
def calT (b x : Typ) : Typ := recT [(sBody, b), (sReply, x)]
theorem walk4 (b : Typ) : PT 4 [encT b] (.d (encT (msgT b))) := by
 letI : Rls := rls0
 refine ok4.pc ?_;have hc := (walk23 [(sBody, b)] sP).call trivial;unfold msgT;generalize recT [(sBody, b)] = R at *;simp only [List.map_cons, List.map_nil, sBody] at hc;rw [encT_eq b] at hc ⊢;rw [encT_eq R] at hc ⊢;simp only [go_sem, ir4, rowLit_0, tr_0, simprocAttr];refine ⟨sP, sP, wn hc ?_⟩;exact zz trivial
theorem walk10 (b : Typ) : PT 10 [encT b] (.d (encT (msgT b))) := by
 letI : Rls := rls0
 refine ok10.pc ?_;have hc := (walk27 [(sBody, b)] sP).call trivial;unfold msgT;generalize recT [(sBody, b)] = R at *;simp only [List.map_cons, List.map_nil, sBody, encN] at hc;rw [encT_eq b];rw [encT_eq R] at hc ⊢;simp only [go_sem, ir10, rowLit_0, tr_0, simprocAttr];refine ⟨sP, wn hc ?_⟩;exact zz trivial
theorem walk5 (b x : Typ) : PT 5 [encT b, encT x] (.d (encT (elmT b x))) := by
 letI : Rls := rls0
 refine ok5.pc ?_;have hc := (walk23 [(sBody, b), (sItem, x), (sIndex, intT 0 255)] sP).call trivial;have h1 := (walk24 0 255).call trivial;unfold elmT;generalize intT 0 255 = I at *;generalize recT [(sBody, b), (sItem, x), (sIndex, I)] = R at *;simp only [List.map_cons, List.map_nil, sBody, sItem, sIndex] at hc;rw [encT_eq b, encT_eq x] at hc;rw [encT_eq b, encT_eq x];rw [encT_eq R] at hc ⊢;rw [encT_eq I] at hc h1;simp only [go_sem, ir5, rowLit_0, tr_0, simprocAttr]
 first | refine ⟨sP, wpsL_call rfl h1 trivial ?_⟩ | refine wpsL_call rfl h1 trivial ?_ | refine ⟨sP, wn h1 ?_⟩ | refine wn h1 ?_ | refine ⟨sP, sP, wpsL_call rfl h1 trivial ?_⟩ | refine ⟨sP, sP, wn h1 ?_⟩
 simp only [go_sem, rowLit_0, tr_0, simprocAttr]
 first | refine ⟨sP, wpsL_call rfl hc trivial ?_⟩ | refine wpsL_call rfl hc trivial ?_ | refine ⟨sP, wn hc ?_⟩ | refine wn hc ?_ | refine ⟨sP, sP, wpsL_call rfl hc trivial ?_⟩ | refine ⟨sP, sP, wn hc ?_⟩
 simp only [go_sem, rowLit_0, tr_0, simprocAttr]
 try rfl
theorem walk6 (b x : Typ) : PT 6 [encT b, encT x] (.d (encT (grpT b x))) := by
 letI : Rls := rls0
 refine ok6.pc ?_;have hc := (walk23 [(sKey, x), (sCount, intT 1 256), (sItems, listT 1 256 b)] sP).call trivial;have h1 := (walk24 1 256).call trivial;have h2 := (walk25 1 256 b).call trivial;unfold grpT;generalize listT 1 256 b = L at *;generalize intT 1 256 = I at *;generalize recT [(sKey, x), (sCount, I), (sItems, L)] = R at *;simp only [List.map_cons, List.map_nil, sKey, sCount, sItems] at hc;rw [encT_eq x] at hc;rw [encT_eq b, encT_eq x];rw [encT_eq R] at hc ⊢;rw [encT_eq I] at hc h1;rw [encT_eq L] at hc h2;rw [encT_eq b] at h2;simp only [go_sem, ir6, rowLit_0, tr_0, simprocAttr]
 first | refine ⟨sP, wpsL_call rfl h1 trivial ?_⟩ | refine wpsL_call rfl h1 trivial ?_ | refine ⟨sP, wn h1 ?_⟩ | refine wn h1 ?_ | refine ⟨sP, sP, wpsL_call rfl h1 trivial ?_⟩ | refine ⟨sP, sP, wn h1 ?_⟩
 simp only [go_sem, rowLit_0, tr_0, simprocAttr]
 first | refine ⟨sP, wpsL_call rfl h2 trivial ?_⟩ | refine wpsL_call rfl h2 trivial ?_ | refine ⟨sP, wn h2 ?_⟩ | refine wn h2 ?_ | refine ⟨sP, sP, wpsL_call rfl h2 trivial ?_⟩ | refine ⟨sP, sP, wn h2 ?_⟩
 simp only [go_sem, rowLit_0, tr_0, simprocAttr]
 first | refine ⟨sP, wpsL_call rfl hc trivial ?_⟩ | refine wpsL_call rfl hc trivial ?_ | refine ⟨sP, wn hc ?_⟩ | refine wn hc ?_ | refine ⟨sP, sP, wpsL_call rfl hc trivial ?_⟩ | refine ⟨sP, sP, wn hc ?_⟩
 simp only [go_sem, rowLit_0, tr_0, simprocAttr]
 try rfl
theorem walk7 (b x : Typ) : PT 7 [encT b, encT x] (.d (encT (cplT b x))) := by
 letI : Rls := rls0
 refine ok7.pc ?_;have hc := (walk23 [(sBody, b), (sKey, x), (sCount, intT 1 256), (sItems, listT 1 256 b)] sP).call trivial;have h1 := (walk24 1 256).call trivial;have h2 := (walk25 1 256 b).call trivial;unfold cplT;generalize listT 1 256 b = L at *;generalize intT 1 256 = I at *;generalize recT [(sBody, b), (sKey, x), (sCount, I), (sItems, L)] = R at *;simp only [List.map_cons, List.map_nil, sBody, sKey, sCount, sItems] at hc;rw [encT_eq b, encT_eq x] at hc;rw [encT_eq b, encT_eq x];rw [encT_eq R] at hc ⊢;rw [encT_eq I] at hc h1;rw [encT_eq L] at hc h2;rw [encT_eq b] at h2;simp only [go_sem, ir7, rowLit_0, tr_0, simprocAttr]
 first | refine ⟨sP, wpsL_call rfl h1 trivial ?_⟩ | refine wpsL_call rfl h1 trivial ?_ | refine ⟨sP, wn h1 ?_⟩ | refine wn h1 ?_ | refine ⟨sP, sP, wpsL_call rfl h1 trivial ?_⟩ | refine ⟨sP, sP, wn h1 ?_⟩
 simp only [go_sem, rowLit_0, tr_0, simprocAttr]
 first | refine ⟨sP, wpsL_call rfl h2 trivial ?_⟩ | refine wpsL_call rfl h2 trivial ?_ | refine ⟨sP, wn h2 ?_⟩ | refine wn h2 ?_ | refine ⟨sP, sP, wpsL_call rfl h2 trivial ?_⟩ | refine ⟨sP, sP, wn h2 ?_⟩
 simp only [go_sem, rowLit_0, tr_0, simprocAttr]
 first | refine ⟨sP, wpsL_call rfl hc trivial ?_⟩ | refine wpsL_call rfl hc trivial ?_ | refine ⟨sP, wn hc ?_⟩ | refine wn hc ?_ | refine ⟨sP, sP, wpsL_call rfl hc trivial ?_⟩ | refine ⟨sP, sP, wn hc ?_⟩
 simp only [go_sem, rowLit_0, tr_0, simprocAttr]
 try rfl
theorem walk8 (b x : Typ) : PT 8 [encT b, encT x] (.d (encT (calT b x))) := by
 letI : Rls := rls0
 refine ok8.pc ?_;have hc := (walk23 [(sBody, b), (sReply, x)] sP).call trivial;unfold calT;generalize recT [(sBody, b), (sReply, x)] = R at *;simp only [List.map_cons, List.map_nil, sBody, sReply] at hc;rw [encT_eq b, encT_eq x] at hc;rw [encT_eq b, encT_eq x];rw [encT_eq R] at hc ⊢;simp only [go_sem, ir8, rowLit_0, tr_0, simprocAttr]
 first | refine ⟨sP, wpsL_call rfl hc trivial ?_⟩ | refine wpsL_call rfl hc trivial ?_ | refine ⟨sP, wn hc ?_⟩ | refine wn hc ?_ | refine ⟨sP, sP, wpsL_call rfl hc trivial ?_⟩ | refine ⟨sP, sP, wn hc ?_⟩
 simp only [go_sem, rowLit_0, tr_0, simprocAttr]
 try rfl
theorem walk11 (b x : Typ) : PT 11 [encT b, encT x] (.d (encT (elmT b x))) := by
 letI : Rls := rls0
 refine ok11.pc ?_;have hc := (walk27 [(sBody, b), (sItem, x), (sIndex, intT 0 255)] sP).call trivial;have h1 := (walk28 0 255).call trivial;unfold elmT;generalize intT 0 255 = I at *;generalize recT [(sBody, b), (sItem, x), (sIndex, I)] = R at *;simp only [List.map_cons, List.map_nil, sBody, sItem, sIndex, encN] at hc;rw [encT_eq b, encT_eq x];rw [encT_eq R] at hc ⊢;rw [encT_eq I] at h1;simp only [go_sem, ir11, rowLit_0, tr_0, simprocAttr]
 first | refine ⟨sP, wpsL_call rfl h1 trivial ?_⟩ | refine wpsL_call rfl h1 trivial ?_ | refine ⟨sP, wn h1 ?_⟩ | refine wn h1 ?_ | refine ⟨sP, sP, wpsL_call rfl h1 trivial ?_⟩ | refine ⟨sP, sP, wn h1 ?_⟩
 simp only [go_sem, rowLit_0, tr_0, simprocAttr]
 first | refine ⟨sP, wpsL_call rfl hc trivial ?_⟩ | refine wpsL_call rfl hc trivial ?_ | refine ⟨sP, wn hc ?_⟩ | refine wn hc ?_ | refine ⟨sP, sP, wpsL_call rfl hc trivial ?_⟩ | refine ⟨sP, sP, wn hc ?_⟩
 simp only [go_sem, rowLit_0, tr_0, simprocAttr]
 try rfl
theorem walk12 (b x : Typ) : PT 12 [encT b, encT x] (.d (encT (grpT b x))) := by
 letI : Rls := rls0
 refine ok12.pc ?_;have hc := (walk27 [(sKey, x), (sCount, intT 1 256), (sItems, listT 1 256 b)] sP).call trivial;have h1 := (walk28 1 256).call trivial;have h2 := (walk29 b).call trivial;unfold grpT;generalize listT 1 256 b = L at *;generalize intT 1 256 = I at *;generalize recT [(sKey, x), (sCount, I), (sItems, L)] = R at *;simp only [List.map_cons, List.map_nil, sKey, sCount, sItems, encN] at hc;rw [encT_eq b, encT_eq x];rw [encT_eq R] at hc ⊢;rw [encT_eq I] at h1;rw [encT_eq L] at h2;rw [encT_eq b] at h2;simp only [go_sem, ir12, rowLit_0, tr_0, simprocAttr]
 first | refine ⟨sP, wpsL_call rfl h1 trivial ?_⟩ | refine wpsL_call rfl h1 trivial ?_ | refine ⟨sP, wn h1 ?_⟩ | refine wn h1 ?_ | refine ⟨sP, sP, wpsL_call rfl h1 trivial ?_⟩ | refine ⟨sP, sP, wn h1 ?_⟩
 simp only [go_sem, rowLit_0, tr_0, simprocAttr]
 first | refine ⟨sP, wpsL_call rfl h2 trivial ?_⟩ | refine wpsL_call rfl h2 trivial ?_ | refine ⟨sP, wn h2 ?_⟩ | refine wn h2 ?_ | refine ⟨sP, sP, wpsL_call rfl h2 trivial ?_⟩ | refine ⟨sP, sP, wn h2 ?_⟩
 simp only [go_sem, rowLit_0, tr_0, simprocAttr]
 first | refine ⟨sP, wpsL_call rfl hc trivial ?_⟩ | refine wpsL_call rfl hc trivial ?_ | refine ⟨sP, wn hc ?_⟩ | refine wn hc ?_ | refine ⟨sP, sP, wpsL_call rfl hc trivial ?_⟩ | refine ⟨sP, sP, wn hc ?_⟩
 simp only [go_sem, rowLit_0, tr_0, simprocAttr]
 try rfl
theorem walk13 (b x : Typ) : PT 13 [encT b, encT x] (.d (encT (cplT b x))) := by
 letI : Rls := rls0
 refine ok13.pc ?_;have hc := (walk27 [(sBody, b), (sKey, x), (sCount, intT 1 256), (sItems, listT 1 256 b)] sP).call trivial;have h1 := (walk28 1 256).call trivial;have h2 := (walk29 b).call trivial;unfold cplT;generalize listT 1 256 b = L at *;generalize intT 1 256 = I at *;generalize recT [(sBody, b), (sKey, x), (sCount, I), (sItems, L)] = R at *;simp only [List.map_cons, List.map_nil, sBody, sKey, sCount, sItems, encN] at hc;rw [encT_eq b, encT_eq x];rw [encT_eq R] at hc ⊢;rw [encT_eq I] at h1;rw [encT_eq L] at h2;rw [encT_eq b] at h2;simp only [go_sem, ir13, rowLit_0, tr_0, simprocAttr]
 first | refine ⟨sP, wpsL_call rfl h1 trivial ?_⟩ | refine wpsL_call rfl h1 trivial ?_ | refine ⟨sP, wn h1 ?_⟩ | refine wn h1 ?_ | refine ⟨sP, sP, wpsL_call rfl h1 trivial ?_⟩ | refine ⟨sP, sP, wn h1 ?_⟩
 simp only [go_sem, rowLit_0, tr_0, simprocAttr]
 first | refine ⟨sP, wpsL_call rfl h2 trivial ?_⟩ | refine wpsL_call rfl h2 trivial ?_ | refine ⟨sP, wn h2 ?_⟩ | refine wn h2 ?_ | refine ⟨sP, sP, wpsL_call rfl h2 trivial ?_⟩ | refine ⟨sP, sP, wn h2 ?_⟩
 simp only [go_sem, rowLit_0, tr_0, simprocAttr]
 first | refine ⟨sP, wpsL_call rfl hc trivial ?_⟩ | refine wpsL_call rfl hc trivial ?_ | refine ⟨sP, wn hc ?_⟩ | refine wn hc ?_ | refine ⟨sP, sP, wpsL_call rfl hc trivial ?_⟩ | refine ⟨sP, sP, wn hc ?_⟩
 simp only [go_sem, rowLit_0, tr_0, simprocAttr]
 try rfl
theorem walk14 (b x : Typ) : PT 14 [encT b, encT x] (.d (encT (calT b x))) := by
 letI : Rls := rls0
 refine ok14.pc ?_;have hc := (walk27 [(sBody, b), (sReply, x)] sP).call trivial;unfold calT;generalize recT [(sBody, b), (sReply, x)] = R at *;simp only [List.map_cons, List.map_nil, sBody, sReply, encN] at hc;rw [encT_eq b, encT_eq x];rw [encT_eq R] at hc ⊢;simp only [go_sem, ir14, rowLit_0, tr_0, simprocAttr]
 first | refine ⟨sP, wpsL_call rfl hc trivial ?_⟩ | refine wpsL_call rfl hc trivial ?_ | refine ⟨sP, wn hc ?_⟩ | refine wn hc ?_ | refine ⟨sP, sP, wpsL_call rfl hc trivial ?_⟩ | refine ⟨sP, sP, wn hc ?_⟩
 simp only [go_sem, rowLit_0, tr_0, simprocAttr]
 try rfl
end Go.Proofs
namespace Go.Proofs
open Go Av
theorem CallOK.datA {P : Program} [Glb] {f : Nat} {vs : List Av} {hp u : List (Nat × Av.Obj)} {ds : List Dat} {v : Av} {p : Prop} (hd : datumAll (Av.get hp) vs = some (p, ds, u)) (hp0 : p) (h : CallOK P (.fn f) (ds.map .d) [] v []) :
  CallOK P (.fn f) vs ((vs.flatMap idsC).map fun i => (i, Av.get hp i)) v u := by
 intro β A w H us hT hc hvs;have heq : datumAll H vs = some (p, ds, u) := by
  rw [← hd];refine datumAll_eq fun x hx => ?_
  exact hT (x, Av.get hp x) (List.mem_map.2 ⟨x, hx, rfl⟩)
 obtain ⟨A1, s1, l1, r1, m1⟩ := datumAll_ok hc heq hp0 (us := us.toList) (sX hvs.1) (fun k c u h1 h2 => hvs.2 k c u h1 (sX h2));refine (h β A1 w (hputs H u) us (by intro e he; cases he) s1.core ⟨by simpa using l1, fun k c u h1 h2 => ?_⟩).mono ?_
 ·rw [List.getElem?_map] at h1;cases e : ds[k]? with
  | none => simp [e] at h1
  | some x =>
   simp only [e, Option.map_some, Option.some.injEq] at h1;subst h1;exact .d _ _ (r1 k x u e (sX h2))
 ·rintro v' w' ⟨β', A', q1, q2⟩;exact ⟨β', A', s1.trans q1, q2⟩
@[instance_reducible] def rls7 : Rls := { rl := fun n => n == 1 || n == 7 }
@[instance_reducible] def rls8 : Rls := { rl := fun n => n == 8 }
theorem rowLit_7 (sz n : Nat) : @rowLit rls7 sz n = match sz == 1 with | true => n == 1 | false => match sz == 7 with | true => n == 1 | false => false := by
 unfold rowLit;show (((sz == 1 || sz == 7) && n == 1) || (false && decide (0 < n))) = _;cases sz == 1 <;> cases sz == 7 <;> simp
theorem tr_7 (n : Nat) : @Rls.tr rls7 n = false := rfl
theorem rowLit_8 (sz n : Nat) : @rowLit rls8 sz n = match sz == 8 with | true => n == 1 | false => false := by
 unfold rowLit;show (((sz == 8) && n == 1) || (false && decide (0 < n))) = _;cases sz == 8 <;> simp
theorem tr_8 (n : Nat) : @Rls.tr rls8 n = false := rfl
theorem dec30 : ∀ k : Nat, k < 2 → CT 30 [.d (.int .i64 ((k : Int) + 1))] [] (.d (.str (Lib.itoa ((k : Int) + 1)))) []
 | 0, _ => by
  have h : Lib.itoa 1 = [49] := kR;have w : PT 30 [.int .i64 1] (.d (.str [49])) := tbl_one X1_ok kR;show CT 30 [.d (.int .i64 1)] [] (.d (.str (Lib.itoa 1))) [];rw [h];exact w.call trivial
 | 1, _ => by
  have h : Lib.itoa 2 = [50] := kR;have w : PT 30 [.int .i64 2] (.d (.str [50])) := tbl_one X1_ok kR;show CT 30 [.d (.int .i64 2)] [] (.d (.str (Lib.itoa 2))) [];rw [h];exact w.call trivial
 | n + 2, h => absurd h oM
def repL : Nat → List Typ → List (Str × Typ)
 | _, [] => []
 | k, t :: r => ([114, 101, 112, 108, 121] ++ Lib.itoa ((k : Int) + 1), t) :: repL (k + 1) r
theorem repL_append : ∀ (l : List Typ) (k : Nat) (t : Typ), repL k (l ++ [t]) = repL k l ++ [([114, 101, 112, 108, 121] ++ Lib.itoa (((k + l.length : Nat) : Int) + 1), t)]
 | [], k, t => rfl
 | q :: r, k, t => by
  rw [List.cons_append, repL, repL_append r (k + 1) t, repL];have e : ((k + 1 + r.length : Nat) : Int) = ((k + (r.length + 1) : Nat) : Int) := oM;simp only [List.cons_append, List.length_cons, e]
theorem repL_len : ∀ (l : List Typ) (k : Nat), (repL k l).length = l.length
 | [], _ => rfl
 | q :: r, k => by rw [repL, List.length_cons, repL_len r, List.length_cons]
def sagL (b : Typ) (l : List Typ) : List (Str × Typ) := (sBody, b) :: repL 0 l
def sagT (b : Typ) (l : List Typ) : Typ := recT (sagL b l)
theorem sagL_len (b : Typ) (l : List Typ) : (sagL b l).length = l.length + 1 := by rw [sagL, List.length_cons, repL_len]
theorem sagL_succ (b : Typ) (l : List Typ) {k : Nat} (h : k < l.length) : sagL b (l.take (k + 1)) = sagL b (l.take k) ++ [([114, 101, 112, 108, 121] ++ Lib.itoa ((k : Int) + 1), l[k])] := by
 rw [List.take_succ_eq_append_getElem h, sagL, repL_append];simp only [List.length_take, Nat.min_eq_left (Nat.le_of_lt h), Nat.zero_add];rfl
theorem itoa_len (k : Nat) (h : k < 2) : (Lib.itoa ((k : Int) + 1)).length ≤ 21 := Lib.itoa_length_le _ oM oM
set_option maxHeartbeats 1000000 in
theorem walk9 (b : Typ) (l : List Typ) (hl : l.length ≤ 2) : PT 9 [encT b, .list 7 (l.map encT)] (.d (encT (sagT b l))) := by
 letI : Rls := rls7
 refine ok9.pc ?_;have hc := (walk23 (sagL b l) (by rw [sagL_len]; omega)).call trivial;unfold sagT;generalize hR : recT (sagL b l) = R at *;clear hR;rw [encT_eq R] at hc ⊢;have e0 : (sagL b []).map (fun p => encT p.2) = [encT b] := rfl;rw [encT_eq b] at e0 ⊢;simp only [go_sem, ir9, rowLit_7, tr_7, List.length_map, List.length_cons, List.length_nil, simprocAttr];refine ⟨sP, sP, rfl, ?_⟩;rw [← e0];refine wpc_loop (fun n s => ∃ k : Nat, k ≤ l.length ∧ n = l.length - k ∧
  s = ⟨[(4, .ref 4 0), (5, .ms 9 k), (6, .ms 11 k), (12, .d (.list 7 (l.map encT))), (13, .d (.int .i64 l.length)), (14, .d (.int .i64 k))],
   [(4, .box [.d (.int .i64 0), .d (.int .i64 0), .d (.int .i64 0), .d (.int .i64 0), .d (.nil 1), .d (.nil 7), .d (.nil 11)]),
    (9, .row k 1 ((sagL b (l.take k)).map fun p => .str p.1)), (11, .row k 7 ((sagL b (l.take k)).map fun p => encT p.2))]⟩) ?_ ?_
 ·refine ⟨_, _, Wk.less ?_, 0, Nat.zero_le _, rfl, rfl⟩;simp [go_sem, sagL, repL, sBody]
 ·rintro n s ⟨k, hk, rfl, rfl⟩;by_cases hlt : k < l.length
  ·have hd := dT hlt;have hw : IntKind.i64.wrap ((k : Int) + 1) = (k : Int) + 1 := wrap64s k oM;have hx := nth_encT hlt;have h26 := call26 ((k : Int) + 1) oM oM;simp only [go_sem, hx, hd, hw, Int.toNat_natCast, List.length_map, simprocAttr];refine ⟨oM, wn h26 ?_⟩;simp only [go_sem, rowLit_7, tr_7, simprocAttr];have hi := itoa_len k oM;have hle : (sagL b (l.take k)).length ≤ 3 := by rw [sagL_len]; simp; omega
   refine ⟨oM, sP, by simpa using (by omega : (sagL b (l.take k)).length ≤ 68719476735), sP, by simpa using (by omega : (sagL b (l.take k)).length ≤ 68719476735), l.length - (k + 1), _, oM, Wk.less ?_, k + 1, oM, rfl, rfl⟩;rw [sagL_succ b l hlt];simp only [go_sem, hw, List.map_append, List.map_cons, List.map_nil, List.cons_append, List.nil_append, encT_eq l[k], Int.natCast_add, Int.natCast_one, Nat.reduceAdd, Nat.reduceEqDiff, Nat.reduceBEq, Nat.reduceLeDiff, reduceCtorEq, ↓reduceIte]
  ·have hd := dF hlt;obtain rfl : k = l.length := oM;rw [List.take_length];have hc2 := CallOK.datA (hp := [(4, .box [.d (.int .i64 0), .d (.int .i64 0), .d (.int .i64 0), .d (.int .i64 0), .d (.nil 1), .d (.nil 7), .d (.nil 11)]),
    (9, .row l.length 1 ((sagL b l).map fun p => .str p.1)), (11, .row l.length 7 ((sagL b l).map fun p => encT p.2))]) (vs := [.ms 9 l.length, .ms 11 l.length]) rfl ⟨rfl, rfl, trivial⟩ hc
   refine zz5 ?_;refine wn hc2 ?_;simp only [go_sem, List.cons_append, List.nil_append, List.append_nil, simprocAttr]
set_option maxHeartbeats 1000000 in
theorem walk15 (b : Typ) (l : List Typ) (hl : l.length ≤ 2) : PT 15 [encT b, .list 7 (l.map encT)] (.d (encT (sagT b l))) := by
 letI : Rls := rls8
 refine ok15.pc ?_;have hc := (walk27 (sagL b l) (by rw [sagL_len]; omega)).call trivial;unfold sagT;generalize hR : recT (sagL b l) = R at *;clear hR;rw [encT_eq R] at hc ⊢;have e0 : (sagL b []).map encN = [.agg [.str [98, 111, 100, 121], .int .i64 b.kind, .int .i64 b.min, .int .i64 b.max, .int .i64 b.scale, .list 1 (b.words.map .str), .list 7 (b.elem.map encT), .list 11 (b.fields.map encG)]] := rfl;rw [encT_eq b];simp only [go_sem, ir15, rowLit_8, tr_8, List.length_map, List.length_cons, List.length_nil, simprocAttr];refine ⟨sP, ?_⟩;rw [← e0];refine wpc_loop (fun n s => ∃ k : Nat, k ≤ l.length ∧ n = l.length - k ∧
  s = ⟨[(1, .d (.list 7 (l.map encT))), (4, .ref 4 0), (5, .ms 9 k), (6, .d (.int .i64 k))],
   [(4, .box [.d (.int .i64 0), .d (.int .i64 0), .d (.int .i64 0), .d (.int .i64 0), .d (.nil 1), .d (.nil 7), .d (.nil 11)]),
    (9, .row k 8 ((sagL b (l.take k)).map encN))]⟩) ?_ ?_
 ·refine ⟨_, _, Wk.less ?_, 0, Nat.zero_le _, rfl, rfl⟩;simp [go_sem, sagL, repL, sBody]
 ·rintro n s ⟨k, hk, rfl, rfl⟩;by_cases hlt : k < l.length
  ·have hd := dT hlt;have hw : IntKind.i64.wrap ((k : Int) + 1) = (k : Int) + 1 := wrap64s k oM;have hx := nth_encT hlt;have h30 := dec30 k oM;simp only [go_sem, hx, hd, hw, Int.toNat_natCast, List.length_map, simprocAttr];refine wpsL_call rfl h30 trivial ?_;simp only [go_sem, rowLit_8, tr_8, hx, Int.toNat_natCast, List.length_map, simprocAttr];have hi := itoa_len k oM;have hle : (sagL b (l.take k)).length ≤ 3 := by rw [sagL_len]; simp; omega
   refine ⟨oM, oM, sP, oM, rfl, l.length - (k + 1), _, oM, Wk.less ?_, k + 1, oM, rfl, rfl⟩;rw [sagL_succ b l hlt];simp only [go_sem, hw, encN, List.map_append, List.map_cons, List.map_nil, List.cons_append, List.nil_append, Int.natCast_add, Int.natCast_one, simprocAttr]
  ·have hd := dF hlt;obtain rfl : k = l.length := oM;rw [List.take_length];have hc2 := CallOK.datA (hp := [(4, .box [.d (.int .i64 0), .d (.int .i64 0), .d (.int .i64 0), .d (.int .i64 0), .d (.nil 1), .d (.nil 7), .d (.nil 11)]),
    (9, .row l.length 8 ((sagL b l).map encN))]) (vs := [.ms 9 l.length]) rfl ⟨rfl, trivial⟩ hc
   refine zz22 ?_;refine wn hc2 ?_;simp only [go_sem, List.cons_append, List.nil_append, List.append_nil, simprocAttr]
theorem own_int1 : ownT (intT 0 255) = 0 := kR
theorem own_int2 : ownT (intT 1 256) = 0 := kR
theorem own_list (b : Typ) : ownT (listT 1 256 b) = 0 := kR
theorem own_msg (b : Typ) : ownT (msgT b) = 0 := kR
theorem own_elm (b x : Typ) : ownT (elmT b x) = 0 := kR
theorem own_grp (b x : Typ) : ownT (grpT b x) = 0 := kR
theorem own_cpl (b x : Typ) : ownT (cplT b x) = 0 := kR
theorem own_cal (b x : Typ) : ownT (calT b x) = 0 := kR
theorem own_sag (b x y : Typ) : ownT (sagT b [x, y]) = 0 := kR
theorem need_recGs : ∀ (l : List (Str × Typ)) (k : Nat), ∀ g ∈ recGs k l, g.need = 1
 | [], _, g, h => by cases h
 | p :: r, k, g, h => by
  rcases List.mem_cons.1 h with rfl | h
  ·rfl
  ·exact need_recGs r (k + 1) g h
theorem parts_rec (l : List (Str × Typ)) : partsT (recT l) = (recGs 0 l).map TFl.type := by
 unfold partsT;rw [if_neg (by show ¬ (9 : Int) = 8; decide), if_pos (.inl rfl)];rfl
theorem recGs_types : ∀ (l : List (Str × Typ)) (k : Nat), (recGs k l).map TFl.type = l.map fun p => p.2
 | [], _ => rfl
 | p :: r, k => by rw [recGs, List.map_cons, recGs_types r, List.map_cons]; rfl
theorem gd_rec {k : Nat} {l : List (Str × Typ)} (ho : ownT (recT l) = 0) (h : ∀ p ∈ l, gd k p.2) : gd (k + 1) (recT l) := by
 refine ⟨ho, fun p hp => ?_, fun j hj hk hn => ?_⟩
 ·rw [parts_rec, recGs_types] at hp;obtain ⟨q, hq, rfl⟩ := List.mem_map.1 hp;exact h q hq
 ·exfalso;have hj' : j < (recGs 0 l).length := by rw [parts_rec] at hj; simpa using hj
  have : ((recT l).fields.getD j tf0) = (recGs 0 l)[j] := by
   show (recGs 0 l).getD j tf0 = _;rw [List.getD_eq_getElem?_getD, List.getElem?_eq_getElem hj']; rfl
  rw [this, need_recGs l 0 _ (List.getElem_mem hj')] at hn;omega
theorem szT_rec (l : List (Str × Typ)) (ho : ownT (recT l) = 0) : szT (recT l) = szTs (l.map fun p => p.2) + 1 := by
 rw [← own_parts ho, parts_rec, recGs_types]
theorem gd_int (k : Nat) (a b : Int) (h : ownT (intT a b) = 0) : gd (k + 1) (intT a b) := by
 have e : partsT (intT a b) = [] := rfl;refine ⟨h, fun p hp => ?_, fun j hj => ?_⟩
 ·rw [e] at hp; cases hp
 ·rw [e] at hj; cases hj
theorem gd_list {k : Nat} {b : Typ} (h : gd k b) : gd (k + 1) (listT 1 256 b) := by
 refine ⟨own_list b, fun p hp => ?_, fun j hj hk => ?_⟩
 ·have : partsT (listT 1 256 b) = [b] := rfl;rw [this] at hp;rw [List.mem_singleton.1 hp]; exact h
 ·exact absurd hk (by show ¬ (8 : Int) = 9; decide)
theorem chk_env {l : List (Str × Typ)} (ho : ownT (recT l) = 0) (h : ∀ p ∈ l, gd 7 p.2) (hs : szTs (l.map fun p => p.2) ≤ 4095) (hg : gsF (szT (recT l)) (recT l) ≤ 4096) : chkY (recT l) = 0 := by
 have e := szT_rec l ho;have c := chkT_of 8 4096 (recT l) (gd_rec ho h) oM;unfold chkY;rw [c];simp only [bne_self_eq_false, Bool.false_eq_true, ↓reduceIte];rw [if_neg sO]
theorem szT_int (a b : Int) : szT (intT a b) = 1 := rfl
theorem szT_lst (b : Typ) : szT (listT 1 256 b) = szT b + 1 := by rw [← own_parts (own_list b)]; rfl
structure Sm (t : Typ) : Prop where
 g : gd 5 t
 s : szT t ≤ 200
theorem sm_of {t : Typ} (h : chkY t = 0) (hd : visG maxI (szT t) 1 0 t ≤ 5) (hs : visG addI (szT t) 1 0 t ≤ 200) : Sm t := by
 have g8 := chkT_gd 8 4096 t (chkY_chkT h).1;refine ⟨vis_depth 8 (szT t) 4 1 0 5 t g8 (Nat.le_refl _) hd dC, ?_⟩;rw [vis_size 8 (szT t) 1 0 t g8 (Nat.le_refl _)] at hs;omega
theorem gd7 {t : Typ} (h : Sm t) : gd 7 t := gd_le h.g dC
end Go.Proofs
namespace Go.Proofs
open Go Av
variable {f : Typ → Int}
theorem lsR_congr {f' : Typ → Int} : ∀ (l : List TFl) (n : Int), (∀ g ∈ l, f g.type = f' g.type) → lsR f n l = lsR f' n l
 | [], n, _ => rfl
 | g :: r, n, h => by
  rw [lsR, lsR, h g List.mem_cons_self];exact lsR_congr r _ fun g hg => h g (List.mem_cons_of_mem _ hg)
theorem lsF_fuel : ∀ (k k' : Nat) (t : Typ), vT t → szT t ≤ k → szT t ≤ k' → lsF k t = lsF k' t
 | 0, _, t, _, h, _ => by have := szT_eq t; omega
 | k + 1, 0, t, _, _, h => by have := szT_eq t; omega
 | k + 1, k' + 1, t, hv, h, h' => by
  obtain ⟨t1, t2, t3, t4, t5, t6⟩ := (vT_eq t).1 hv;have e := szT_eq t;have q : lsB (lsF k) t = lsB (lsF k') t := by
   unfold lsB;by_cases k8 : t.kind = 8
   ·obtain ⟨x, hx⟩ := List.length_eq_one_iff.1 (t2 k8);have hm : x ∈ t.elem := by rw [hx]; simp
    have hs := szTs_mem x hm;have : lsF k x = lsF k' x := lsF_fuel k k' x (vTs_mem t5 x hm) oM oM;rw [if_pos k8, if_pos k8, hx];simp only [List.getElem?_cons_zero, Option.getD_some, this]
   ·rw [if_neg k8, if_neg k8];by_cases k10 : t.kind = 10
    ·rw [if_pos k10, if_pos k10];have hne := t3 k10;have h0 : 0 < t.fields.length := List.length_pos_iff.2 hne;have hm := List.getElem_mem h0;have hs := szGs_mem _ hm;rw [List.getElem?_eq_getElem h0, Option.getD_some, lsF_fuel k k' _ (vTf_mem t6 _ hm).2.2 oM oM]
    ·rw [if_neg k10, if_neg k10];split
     ·refine lsR_congr _ _ fun g hg => ?_
      have hs := szGs_mem g hg;exact lsF_fuel k k' _ (vTf_mem t6 g hg).2.2 oM oM
     ·rfl
  rw [lsF, lsF, q]
theorem gsR_congr {f' : Typ → Int} : ∀ (l : List Typ) (n : Int), (∀ x ∈ l, f x = f' x) → gsR f n l = gsR f' n l
 | [], n, _ => rfl
 | x :: r, n, h => by
  rw [gsR, gsR, h x List.mem_cons_self];exact gsR_congr r _ fun g hg => h g (List.mem_cons_of_mem _ hg)
theorem gsF_fuel : ∀ (k k' : Nat) (t : Typ), szT t ≤ k → szT t ≤ k' → gsF k t = gsF k' t
 | 0, _, t, h, _ => by have := szT_eq t; omega
 | k + 1, 0, t, _, h => by have := szT_eq t; omega
 | k + 1, k' + 1, t, h, h' => by
  have e := szT_eq t;rw [gsF, gsF, gsR_congr t.elem _ (fun x hx => gsF_fuel k k' x (by have := szTs_mem x hx; omega) (by have := szTs_mem x hx; omega))];refine gsR_congr _ _ fun x hx => ?_
  obtain ⟨g, hg, rfl⟩ := List.mem_map.1 hx;have := szGs_mem g hg;exact gsF_fuel k k' _ oM oM
theorem gsR_le {M : Int} : ∀ (l : List Typ) (n : Int), n ≤ M → (∀ x ∈ l, f x ≤ M) → gsR f n l ≤ M
 | [], n, h, _ => h
 | x :: r, n, h, hx => by
  rw [gsR];refine gsR_le r _ ?_ fun y hy => hx y (List.mem_cons_of_mem _ hy)
  have := hx x List.mem_cons_self;split <;> omega
theorem le_gsR {f : Typ → Int} : ∀ (l : List Typ) (n : Int), n ≤ gsR f n l ∧ ∀ x ∈ l, f x ≤ gsR f n l
 | [], n => ⟨Int.le_refl n, fun x hx => by cases hx⟩
 | y :: r, n => by
  rw [gsR]
  have hm : n ≤ (if f y > n then f y else n) ∧ f y ≤ (if f y > n then f y else n) := by split <;> omega
  generalize (if f y > n then f y else n) = m at *
  obtain ⟨a, b⟩ := le_gsR (f := f) r m
  refine ⟨by omega, fun x hx => ?_⟩
  rcases List.mem_cons.1 hx with rfl | hx
  ·omega
  ·exact b x hx
theorem ls_gs (t : Typ) : lsF (szT t) t ≤ gsF (szT t) t := by
 have e := szT_eq t;obtain ⟨k, hk⟩ : ∃ k, szT t = k + 1 := ⟨szT t - 1, oM⟩;have : gsF (szT t) t = gsR (gsF k) (gsR (gsF k) (lsF (szT t) t) t.elem) (t.fields.map TFl.type) := by rw [hk, gsF, hk]
 rw [this];exact Int.le_trans (le_gsR t.elem _).1 (le_gsR (t.fields.map TFl.type) _).1
theorem ls_req : ∀ (l : List (Str × Typ)) (k : Nat) (n N : Int), 0 ≤ n → (∀ p ∈ l, 0 ≤ f p.2) → n + ((l.map fun p => f p.2).sum) ≤ N → N ≤ 1000000 → lsR f n (recGs k l) = n + (l.map fun p => f p.2).sum
 | [], k, n, N, _, _, _, _ => by simp [recGs, lsR]
 | p :: r, k, n, N, h0, hp, hN, hB => by
  have hf := hp p List.mem_cons_self;have hs : 0 ≤ (r.map fun p => f p.2).sum := by
   have : ∀ (l : List (Str × Typ)), (∀ p ∈ l, 0 ≤ f p.2) → 0 ≤ (l.map fun p => f p.2).sum := by
    intro l
    induction l with
    | nil => intro _; simp
    | cons x r ih =>
     intro h;have := h x List.mem_cons_self;have := ih fun q hq => h q (List.mem_cons_of_mem _ hq)
     simp only [List.map_cons, List.sum_cons]; omega
   exact this r fun q hq => hp q (List.mem_cons_of_mem _ hq)
  simp only [List.map_cons, List.sum_cons] at hN ⊢;have e1 : (recG k p).need = 1 := rfl;have e2 : (recG k p).type = p.2 := rfl;have ew : w64 (n + f p.2) = n + f p.2 := wrap64 oM oM;rw [recGs, lsR, e1, e2, if_pos rfl, ew, ls_req r (k + 1) (n + f p.2) N oM (fun q hq => hp q (List.mem_cons_of_mem _ hq)) oM hB];omega
structure Ptt (t : Typ) : Prop where
 v : vT t
 p : 0 ≤ lsF (szT t) t
 gs : gsF (szT t) t ≤ 4096
theorem szTs_snd {l : List (Str × Typ)} {p : Str × Typ} (h : p ∈ l) : szT p.2 ≤ szTs (l.map fun p => p.2) := szTs_mem p.2 (List.mem_map_of_mem h)
theorem gs_env {l : List (Str × Typ)} (ho : ownT (recT l) = 0) (h : ∀ p ∈ l, Ptt p.2) (hs : 1 + (l.map fun p => lsF (szT p.2) p.2).sum ≤ 4096) : gsF (szT (recT l)) (recT l) ≤ 4096 := by
 have e := szT_rec l ho;generalize hK : szTs (l.map fun p => p.2) = K at *;have hle : ∀ p ∈ l, szT p.2 ≤ K := fun p hp => hK ▸ szTs_snd hp
 have hl : ∀ p ∈ l, lsF K p.2 = lsF (szT p.2) p.2 := fun p hp => lsF_fuel K _ _ (h p hp).v (hle p hp) (Nat.le_refl _)
 have hm : (l.map fun p => lsF K p.2) = l.map fun p => lsF (szT p.2) p.2 := List.map_congr_left hl
 have hls : lsF (K + 1) (recT l) ≤ 4096 := by
  have hb : lsB (lsF K) (recT l) = 1 + (l.map fun p => lsF (szT p.2) p.2).sum := by
   unfold lsB;rw [if_neg (by show ¬ (9 : Int) = 8; decide), if_neg (by show ¬ (9 : Int) = 10; decide), if_pos (show (recT l).kind = 9 from rfl)];show lsR (lsF K) 1 (recGs 0 l) = _;rw [ls_req l 0 1 4096 dC (fun p hp => by rw [hl p hp]; exact (h p hp).p) (by rw [hm]; exact hs) dC, hm]
  rw [lsF, hb, if_neg oM];exact hs
 rw [e];show gsR (gsF K) (gsR (gsF K) (lsF (szT (recT l)) (recT l)) []) ((recGs 0 l).map TFl.type) ≤ 4096;rw [recGs_types, e];refine gsR_le _ _ hls fun x hx => ?_
 obtain ⟨p, hp, rfl⟩ := List.mem_map.1 hx;rw [gsF_fuel K (szT p.2) p.2 (hle p hp) (Nat.le_refl _)];exact (h p hp).gs
theorem pt_int1 : Ptt (intT 0 255) := ⟨(chkT_ok 8 10 (intT 0 255) dC kR).1, dC, dC⟩
theorem pt_int2 : Ptt (intT 1 256) := ⟨(chkT_ok 8 10 (intT 1 256) dC kR).1, dC, dC⟩
theorem ls_int1 : lsF (szT (intT 0 255)) (intT 0 255) = 1 := dC
theorem ls_int2 : lsF (szT (intT 1 256)) (intT 1 256) = 1 := dC
theorem ls_list (b : Typ) (h : Ptt b) (hb : lsF (szT b) b ≤ 4000) : lsF (szT (listT 1 256 b)) (listT 1 256 b) = 1 + lsF (szT b) b := by
 have hp := h.p;rw [szT_lst, lsF];have e : lsB (lsF (szT b)) (listT 1 256 b) = 1 + lsF (szT b) b := by
  show w64 (1 + w64 (1 * lsF (szT b) b)) = _;have e1 : w64 (1 * lsF (szT b) b) = lsF (szT b) b := by rw [Int.one_mul]; exact wrap64 oM oM
  rw [e1];exact wrap64 oM oM
 rw [e, if_neg oM]
theorem pt_list (b : Typ) (h : Ptt b) (hb : lsF (szT b) b ≤ 4000) : Ptt (listT 1 256 b) := by
 have hp := h.p;have e := ls_list b h hb;refine ⟨?_, oM, ?_⟩
 ·refine (vT_eq _).2 ⟨⟨by show (1 : Int) ≤ 8; decide, by show (8 : Int) ≤ 10; decide⟩, fun _ => rfl, fun hk => absurd hk (by show ¬ (8 : Int) = 10; decide), ⟨by show (0 : Int) ≤ 0; decide, by show (0 : Int) ≤ 12; decide⟩, vTs_of fun x hx => ?_, vTf_of fun x hx => by cases hx⟩;have : x ∈ [b] := hx;rw [List.mem_singleton.1 this]; exact h.v
 ·rw [szT_lst] at e ⊢;show gsR (gsF (szT b)) (gsR (gsF (szT b)) (lsF (szT (listT 1 256 b)) (listT 1 256 b)) [b]) [] ≤ 4096;rw [gsR];refine gsR_le [b] _ (by rw [szT_lst, e]; omega) fun x hx => ?_
  rw [List.mem_singleton.1 hx]; exact h.gs
end Go.Proofs
set_option maxHeartbeats 2000000
namespace Go.Proofs
open Go Av
end Go.Proofs
set_option maxHeartbeats 2000000
namespace Go.Proofs
open Go Av
end Go.Proofs
set_option maxHeartbeats 2000000
namespace Go.Proofs
open Go Av
end Go.Proofs
set_option maxHeartbeats 2000000
namespace Go.Proofs
open Go Av
end Go.Proofs
namespace Go.Proofs
open Go Av
open Av.Y
def ir42 : Ic := q (R (ow 4 false<|N) [4])<|q (q (R (om 6 0<|oh 7 6<|om 8 1<|oh 9 8<|ot 10 .neq 7 9<|N) [6,7,8,9])<|D (I 10 (q (R (ow 4 false<|N) [0,1,10])<|.ret) S) [10])<|q (q (R (om 11 0<|oh 12 11<|oz 13 0<|N) [11])<|D (.block 0<|.loop (q (.reg (ot 14 .lss 13 12<|N))<|q (D (I 14 S (E 0)) [14])<|q (D (.block 1<|q (R (om 15 13<|om 5 15<|N) [15])<|q (R (om 16 0<|om 17 5<|oa false 18 1 16 17<|ol 19 18<|om 20 1<|om 21 5<|oa false 22 1 20 21<|ol 23 22<|ot 24 .sne 19 23<|N) [5,16,17,18,19,20,21,22,23])<|D (I 24 (q (R (ow 4 false<|N) [0,1,12,13,24])<|.ret) S) [24]) [])<|R (oi 25 .add 13 1<|om 13 25<|N) [25])) [0,1,12,13,14,5])<|q (.reg (ow 4 true<|N))<|.ret
theorem ok42 : FT 42 26 ir42 [.tmp 4] := .o Tryz.func42
end Go.Proofs
namespace Go.Proofs
open Go Av
theorem walk42 (xs ys : List Str) (hl : xs.length ≤ 68719476736) :
  PT 42 [.list 1 (xs.map .str), .list 1 (ys.map .str)] (.d (.bool (eqF (fun (x y : Str) => x == y) xs ys))) := by
 refine ok42.pc ?_;simp only [go_sem, ir42, simprocAttr];refine ⟨fun hne => ?_, fun heq => ?_⟩
 ·simp only [List.length_map, bne_iff_ne, ne_eq, Int.ofNat_inj] at hne;simp [eqF, hne]
 simp only [List.length_map, bne_eq_false_iff_eq, Int.ofNat_inj] at heq;refine wpc_loop (fun n s => ∃ k : Nat, k ≤ xs.length ∧ n = xs.length - k ∧ (∀ (j : Nat) (h1 : j < xs.length) (h2 : j < ys.length), j < k → (xs[j] == ys[j]) = true) ∧
  s = ⟨[(0, .d (.list 1 (xs.map .str))), (1, .d (.list 1 (ys.map .str))), (12, .d (.int .i64 xs.length)), (13, .d (.int .i64 k))], []⟩) ?_ ?_
 ·refine ⟨_, _, Wk.refl _, 0, Nat.zero_le _, rfl, sP, ?_⟩;simp
 ·rintro n s ⟨k, hk, rfl, hinv, rfl⟩;by_cases hlt : k < xs.length
  ·have hlty : k < ys.length := oM;have hx := nth_strs hlt;have hy := nth_strs hlty;have hd := dT hlt;refine zz23 ?_;refine ⟨sO, dC, sO, dC, ?_⟩;refine ⟨fun hne => ?_, fun heq' => ?_⟩
   ·have : eqF (fun (x y : Str) => x == y) xs ys = false := by
     cases h0 : eqF (fun (x y : Str) => x == y) xs ys with
     | false => rfl
     | true => rw [(eqF_iff heq).1 h0 k hlt oM] at hne; cases hne
    rw [this]
   ·refine zz7 ?_;refine ⟨xs.length - (k + 1), _, oM, Wk.less ?_, k + 1, oM, rfl, ?_, rfl⟩
    ·exact zz trivial
    ·intro j h1 h2 hj;by_cases e : j = k
     ·subst e; simpa using heq'
     ·exact hinv j h1 h2 oM
  ·have hd := dF hlt;refine zz5 ?_;rw [(eqF_iff heq).2 fun j h1 h2 => hinv j h1 h2 oM]
theorem walk43 (xs ys : List Typ) (eq : Typ → Typ → Bool) (g : Nat) (hl : xs.length ≤ 68719476736)
  (h : ∀ x ∈ xs, ∀ y ∈ ys, CT g [.d (encT x), .d (encT y)] [] (.d (.bool (eq x y))) []) :
  PT 43 [.list 7 (xs.map encT), .list 7 (ys.map encT), .fn (.func g) [] []] (.d (.bool (eqF eq xs ys))) := by
 refine ok43.pc ?_;simp only [go_sem, ir43, simprocAttr];refine ⟨fun hne => ?_, fun heq => ?_⟩
 ·simp only [List.length_map, bne_iff_ne, ne_eq, Int.ofNat_inj] at hne;simp [eqF, hne]
 simp only [List.length_map, bne_eq_false_iff_eq, Int.ofNat_inj] at heq;refine wpc_loop (fun n s => ∃ k : Nat, k ≤ xs.length ∧ n = xs.length - k ∧ (∀ (j : Nat) (h1 : j < xs.length) (h2 : j < ys.length), j < k → eq xs[j] ys[j] = true) ∧
  s = ⟨[(1, .d (.list 7 (ys.map encT))), (2, .d (.fn (.func g) [] [])), (15, .d (.list 7 (xs.map encT))), (16, .d (.int .i64 xs.length)), (17, .d (.int .i64 k))], []⟩) ?_ ?_
 ·refine ⟨_, _, Wk.refl _, 0, Nat.zero_le _, rfl, sP, ?_⟩;simp
 ·rintro n s ⟨k, hk, rfl, hinv, rfl⟩;by_cases hlt : k < xs.length
  ·have hlty : k < ys.length := oM;have hx := nth_encT hlt;have hy := nth_encT hlty;have hd := dT hlt;refine zz23 ?_;have hc := h xs[k] (List.getElem_mem _) ys[k] (List.getElem_mem _);rw [encT_eq, encT_eq] at hc;refine ⟨sO, sO, wn hc ?_⟩;refine zz ?_;refine ⟨fun hne => ?_, fun heq' => ?_⟩
   ·have : eqF eq xs ys = false := by
     cases h0 : eqF eq xs ys with
     | false => rfl
     | true => rw [(eqF_iff heq).1 h0 k hlt oM] at hne; cases hne
    rw [this]
   ·refine zz7 ?_;refine ⟨xs.length - (k + 1), _, oM, Wk.less ?_, k + 1, oM, rfl, ?_, rfl⟩
    ·exact zz trivial
    ·intro j h1 h2 hj;by_cases e : j = k
     ·subst e; simpa using heq'
     ·exact hinv j h1 h2 oM
  ·have hd := dF hlt;refine zz5 ?_;rw [(eqF_iff heq).2 fun j h1 h2 => hinv j h1 h2 oM]
theorem walk44 (xs ys : List TFl) (eq : TFl → TFl → Bool) (g : Nat) (hl : xs.length ≤ 68719476736)
  (h : ∀ x ∈ xs, ∀ y ∈ ys, CT g [.d (encG x), .d (encG y)] [] (.d (.bool (eq x y))) []) :
  PT 44 [.list 11 (xs.map encG), .list 11 (ys.map encG), .fn (.func g) [] []] (.d (.bool (eqF eq xs ys))) := by
 refine ok44.pc ?_;simp only [go_sem, ir44, simprocAttr];refine ⟨fun hne => ?_, fun heq => ?_⟩
 ·simp only [List.length_map, bne_iff_ne, ne_eq, Int.ofNat_inj] at hne;simp [eqF, hne]
 simp only [List.length_map, bne_eq_false_iff_eq, Int.ofNat_inj] at heq;refine wpc_loop (fun n s => ∃ k : Nat, k ≤ xs.length ∧ n = xs.length - k ∧ (∀ (j : Nat) (h1 : j < xs.length) (h2 : j < ys.length), j < k → eq xs[j] ys[j] = true) ∧
  s = ⟨[(1, .d (.list 11 (ys.map encG))), (2, .d (.fn (.func g) [] [])), (15, .d (.list 11 (xs.map encG))), (16, .d (.int .i64 xs.length)), (17, .d (.int .i64 k))], []⟩) ?_ ?_
 ·refine ⟨_, _, Wk.refl _, 0, Nat.zero_le _, rfl, sP, ?_⟩;simp
 ·rintro n s ⟨k, hk, rfl, hinv, rfl⟩;by_cases hlt : k < xs.length
  ·have hlty : k < ys.length := oM;have hx := nth_encG hlt;have hy := nth_encG hlty;have hd := dT hlt;refine zz23 ?_;have hc := h xs[k] (List.getElem_mem _) ys[k] (List.getElem_mem _);rw [encG_eq, encG_eq] at hc;refine ⟨sO, sO, wn hc ?_⟩;refine zz ?_;refine ⟨fun hne => ?_, fun heq' => ?_⟩
   ·have : eqF eq xs ys = false := by
     cases h0 : eqF eq xs ys with
     | false => rfl
     | true => rw [(eqF_iff heq).1 h0 k hlt oM] at hne; cases hne
    rw [this]
   ·refine zz7 ?_;refine ⟨xs.length - (k + 1), _, oM, Wk.less ?_, k + 1, oM, rfl, ?_, rfl⟩
    ·exact zz trivial
    ·intro j h1 h2 hj;by_cases e : j = k
     ·subst e; simpa using heq'
     ·exact hinv j h1 h2 oM
  ·have hd := dF hlt;refine zz5 ?_;rw [(eqF_iff heq).2 fun j h1 h2 => hinv j h1 h2 oM]
def eqG (f : Typ → Typ → Bool) (x y : TFl) : Bool := (((x.number == y.number && x.name == y.name) && x.need == y.need) && f x.type y.type) && eqF (fun a b => cmpV a b == 0) x.dflt y.dflt
def eqTs (f : Typ → Typ → Bool) (x y : Typ) : Bool := (((((x.kind == y.kind && x.min == y.min) && x.max == y.max) && x.scale == y.scale) && eqF (fun (a b : Str) => a == b) x.words y.words) && eqF f x.elem y.elem) && eqF (eqG f) x.fields y.fields
theorem step45 (f : Typ → Typ → Bool) (x y : TFl) (h : PT 22 [encT x.type, encT y.type] (.d (.bool (f x.type y.type)))) : PT 45 [encG x, encG y] (.d (.bool (eqG f x y))) := by
 refine PCon.of_fits ok45.has fun hfit => ?_
 have hdl : x.dflt.length ≤ 68719476736 := by
  have := hfit _ (List.mem_cons_self);rw [encG_eq] at this;simp only [fits, fitsL, List.length_map, and_true] at this;exact this.2.2.2.2.2.2.2.2.2.2.1
 refine ok45.pc ?_;have c1 := h.call trivial;have c2 := (walk46 x.dflt y.dflt (fun a b => cmpV a b == 0) 47 hdl (fun a _ b _ => (p47 a b).call trivial)).call trivial;unfold eqG;generalize f x.type y.type = F at *;generalize eqF (fun a b => cmpV a b == 0) x.dflt y.dflt = D at *;rw [encT_eq x.type, encT_eq y.type] at c1;rw [encG_eq, encG_eq];simp only [go_sem, ir45, simprocAttr];refine sq (x.name == y.name) ?_ ?_
 ·exact zz4 trivial
 refine zz4 ?_;refine sq (x.need == y.need) ?_ ?_
 ·exact zz4 trivial
 refine zz4 ?_;refine scQ_pure F (fun _ => ?_) ?_
 ·refine zz4 ?_;refine wn c1 ?_;exact zz4 trivial
 refine zz4 ?_;refine scQ_pure D (fun _ => ?_) ?_
 ·refine zz4 ?_;refine wn c2 ?_;exact zz4 trivial
 exact zz4 trivial
theorem step22 (f : Typ → Typ → Bool) (x y : Typ) (h1 : ∀ a ∈ x.elem, ∀ b ∈ y.elem, PT 22 [encT a, encT b] (.d (.bool (f a b))))
  (h2 : ∀ a ∈ x.fields, ∀ b ∈ y.fields, PT 45 [encG a, encG b] (.d (.bool (eqG f a b)))) : PT 22 [encT x, encT y] (.d (.bool (eqTs f x y))) := by
 refine PCon.of_fits ok22.has fun hfit => ?_
 obtain ⟨hw, he, hf⟩ := fits_T (hfit (encT x) sP);refine ok22.pc ?_;have c1 := (walk42 x.words y.words hw).call trivial;have c2 := (walk43 x.elem y.elem f 22 he (fun a ha b hb => (h1 a ha b hb).call trivial)).call trivial;have c3 := (walk44 x.fields y.fields (eqG f) 45 hf (fun a ha b hb => (h2 a ha b hb).call trivial)).call trivial;unfold eqTs;generalize eqF (fun (a b : Str) => a == b) x.words y.words = A at *;generalize eqF f x.elem y.elem = B at *;generalize eqF (eqG f) x.fields y.fields = C at *;rw [encT_eq, encT_eq];simp only [go_sem, ir22, simprocAttr];refine sq (x.min == y.min) ?_ ?_
 ·exact zz4 trivial
 refine zz4 ?_;refine sq (x.max == y.max) ?_ ?_
 ·exact zz4 trivial
 refine zz4 ?_;refine sq (x.scale == y.scale) ?_ ?_
 ·exact zz4 trivial
 refine zz4 ?_;refine scQ_pure A (fun _ => ?_) ?_
 ·refine zz4 ?_;refine wn c1 ?_;exact zz4 trivial
 refine zz4 ?_;refine scQ_pure B (fun _ => ?_) ?_
 ·refine zz4 ?_;refine wn c2 ?_;exact zz4 trivial
 refine zz4 ?_;refine scQ_pure C (fun _ => ?_) ?_
 ·refine zz4 ?_;refine wn c3 ?_;exact zz4 trivial
 exact zz4 trivial
def eqTF : Nat → Typ → Typ → Bool
 | 0, _, _ => true
 | k + 1, x, y => eqTs (eqTF k) x y
theorem walk22 : ∀ (k : Nat) (x y : Typ), szT x ≤ k → PT 22 [encT x, encT y] (.d (.bool (eqTF k x y)))
 | 0, x, y, h => by rw [szT_eq] at h; omega
 | k + 1, x, y, h => by
  have e := szT_eq x;rw [eqTF];exact step22 (eqTF k) x y (fun a ha b _ => walk22 k a b (by have := szTs_mem a ha; omega)) (fun a ha b _ => step45 (eqTF k) a b (walk22 k a.type b.type (by have := szGs_mem a ha; omega)))
theorem cmpBytes_iff : ∀ (a b : Str), Lib.compareBytes a b = 0 ↔ a = b
 | [], [] => by simp [Lib.compareBytes]
 | [], _ :: _ => by simp [Lib.compareBytes]
 | _ :: _, [] => by simp [Lib.compareBytes]
 | a :: r, b :: s => by
  rw [Lib.compareBytes];by_cases h : a < b
  ·simp only [h, ↓reduceIte, List.cons.injEq];refine ⟨fun h => by omega, fun e => absurd h ?_⟩;rw [e.1]; exact UInt8.lt_irrefl _
  ·by_cases h' : b < a
   ·simp only [h, h', ↓reduceIte, List.cons.injEq];refine ⟨fun h => by omega, fun e => absurd h' ?_⟩;rw [e.1]; exact UInt8.lt_irrefl _
   ·simp only [h, h', ↓reduceIte, List.cons.injEq, cmpBytes_iff r s];have : a = b := UInt8.le_antisymm (UInt8.not_lt.1 h') (UInt8.not_lt.1 h);simp [this]
theorem cmpS_iff (a b : Str) : cmpS a b = 0 ↔ a = b := by
 rw [cmpS, Lib.cmp_eq];exact cmpBytes_iff a b
theorem cmpI_iff (a b : Int) : cmpI a b = 0 ↔ a = b := by
 unfold cmpI;split
 ·omega
 ·split <;> omega
theorem orI_iff : ∀ (l : List Int), orI l = 0 ↔ ∀ x ∈ l, x = 0
 | [] => by simp [orI]
 | x :: r => by
  rw [orI];by_cases h : x = 0
  ·simp [h, orI_iff r]
  ·simp [h]
mutual
theorem cmpV_iff : ∀ (a b : Val), cmpV a b = 0 ↔ a = b
 | .mk k i s t l f, .mk k' i' s' t' l' f' => by
  rw [cmpV, orI_iff];simp only [List.mem_cons, List.not_mem_nil, or_false, forall_eq_or_imp, forall_eq, cmpI_iff, cmpS_iff, Val.kind, Val.int, Val.scale, Val.text, Val.list, Val.fields, cmpVs_iff l, cmpFs_iff f, Val.mk.injEq]
theorem cmpVs_iff : ∀ (a b : List Val), cmpVs a b = 0 ↔ a = b
 | [], [] => by simp [cmpVs]
 | [], _ :: _ => by simp [cmpVs]
 | _ :: _, [] => by simp [cmpVs]
 | x :: xs, y :: ys => by
  rw [cmpVs, List.cons.injEq, ← cmpV_iff x y, ← cmpVs_iff xs ys];by_cases h : cmpV x y = 0
  ·simp [h]
  ·simp [h]
theorem cmpF_iff : ∀ (a b : Fld), cmpF a b = 0 ↔ a = b
 | .mk n v, .mk n' v' => by
  rw [cmpF, orI_iff];simp only [List.mem_cons, List.not_mem_nil, or_false, forall_eq_or_imp, forall_eq, cmpS_iff, Fld.name, Fld.value, cmpV_iff v, Fld.mk.injEq]
theorem cmpFs_iff : ∀ (a b : List Fld), cmpFs a b = 0 ↔ a = b
 | [], [] => by simp [cmpFs]
 | [], _ :: _ => by simp [cmpFs]
 | _ :: _, [] => by simp [cmpFs]
 | x :: xs, y :: ys => by
  rw [cmpFs, List.cons.injEq, ← cmpF_iff x y, ← cmpFs_iff xs ys];by_cases h : cmpF x y = 0
  ·simp [h]
  ·simp [h]
end
end Go.Proofs
namespace Go.Proofs
open Go Av
theorem eqF_self {α : Type} {eq : α → α → Bool} {xs : List α} (h : ∀ x ∈ xs, eq x x = true) : eqF eq xs xs = true := by
 rw [eqF_iff rfl];intro j h1 h2;exact h _ (List.getElem_mem h1)
theorem eqTF_self : ∀ (k : Nat) (t : Typ), eqTF k t t = true
 | 0, _ => rfl
 | k + 1, t => by
  rw [eqTF, eqTs];have hw : eqF (fun (a b : Str) => a == b) t.words t.words = true := eqF_self fun x _ => by simp
  have he : eqF (eqTF k) t.elem t.elem = true := eqF_self fun x _ => eqTF_self k x
  have hf : eqF (eqG (eqTF k)) t.fields t.fields = true := eqF_self fun x _ => by
   have hd : eqF (fun a b => cmpV a b == 0) x.dflt x.dflt = true := eqF_self fun v _ => by rw [(cmpV_iff v v).2 rfl]; rfl
   rw [eqG, eqTF_self k, hd];simp
  rw [hw, he, hf];simp
structure Okk (b : Typ) : Prop extends Sm b, Ptt b
theorem env_ok {l : List (Str × Typ)} (ho : ownT (recT l) = 0) (h : ∀ p ∈ l, gd 7 p.2 ∧ Ptt p.2) (hs : szTs (l.map fun p => p.2) ≤ 4095) (hl : 1 + (l.map fun p => lsF (szT p.2) p.2).sum ≤ 4096) : chkY (recT l) = 0 :=
 chk_env ho (fun p hp => (h p hp).1) hs (gs_env ho (fun p hp => (h p hp).2) hl)
theorem gd7i {a b : Int} (h : ownT (intT a b) = 0) : gd 7 (intT a b) := gd_int 6 a b h
theorem gd7l {b : Typ} (h : Sm b) : gd 7 (listT 1 256 b) := gd_le (gd_list h.g) dC
section
variable {b x : Typ} (hb : Okk b) (hx : Okk x) (hl : lsF (szT b) b + lsF (szT x) x < 2000)
include hb hx hl
theorem chk_msg : chkY (msgT b) = 0 := by
 have := hb.p; have := hx.p; have := hb.s;refine env_ok (own_msg b) (fun p hp => ?_) (by simp [szTs]; omega) sO;simp only [List.mem_cons, List.not_mem_nil, or_false] at hp;subst hp;exact ⟨gd7 hb.toSm, hb.toPtt⟩
theorem chk_cal : chkY (calT b x) = 0 := by
 have := hb.p; have := hx.p; have := hb.s; have := hx.s;refine env_ok (own_cal b x) (fun p hp => ?_) (by simp [szTs]; omega) sO;simp only [List.mem_cons, List.not_mem_nil, or_false] at hp;rcases hp with rfl | rfl
 ·exact ⟨gd7 hb.toSm, hb.toPtt⟩
 ·exact ⟨gd7 hx.toSm, hx.toPtt⟩
theorem chk_elm : chkY (elmT b x) = 0 := by
 have := hb.p; have := hx.p; have := hb.s; have := hx.s;refine env_ok (own_elm b x) (fun p hp => ?_) (by simp [szTs, szT_int]; omega) (by simp [ls_int1]; omega);simp only [List.mem_cons, List.not_mem_nil, or_false] at hp;rcases hp with rfl | rfl | rfl
 ·exact ⟨gd7 hb.toSm, hb.toPtt⟩
 ·exact ⟨gd7 hx.toSm, hx.toPtt⟩
 ·exact ⟨gd7i own_int1, pt_int1⟩
theorem chk_grp : chkY (grpT b x) = 0 := by
 have := hb.p; have := hx.p; have := hb.s; have := hx.s;have e := ls_list b hb.toPtt oM;refine env_ok (own_grp b x) (fun p hp => ?_) (by simp [szTs, szT_int, szT_lst]; omega) (by simp [ls_int2, e]; omega);simp only [List.mem_cons, List.not_mem_nil, or_false] at hp;rcases hp with rfl | rfl | rfl
 ·exact ⟨gd7 hx.toSm, hx.toPtt⟩
 ·exact ⟨gd7i own_int2, pt_int2⟩
 ·exact ⟨gd7l hb.toSm, pt_list b hb.toPtt oM⟩
theorem chk_cpl : chkY (cplT b x) = 0 := by
 have := hb.p; have := hx.p; have := hb.s; have := hx.s;have e := ls_list b hb.toPtt oM;refine env_ok (own_cpl b x) (fun p hp => ?_) (by simp [szTs, szT_int, szT_lst]; omega) (by simp [ls_int2, e]; omega);simp only [List.mem_cons, List.not_mem_nil, or_false] at hp;rcases hp with rfl | rfl | rfl | rfl
 ·exact ⟨gd7 hb.toSm, hb.toPtt⟩
 ·exact ⟨gd7 hx.toSm, hx.toPtt⟩
 ·exact ⟨gd7i own_int2, pt_int2⟩
 ·exact ⟨gd7l hb.toSm, pt_list b hb.toPtt oM⟩
theorem chk_sag : chkY (sagT b [x, b]) = 0 := by
 have := hb.p; have := hx.p; have := hb.s; have := hx.s;refine env_ok (own_sag b x b) (fun p hp => ?_) (by simp [sagL, repL, szTs]; omega) (by simp [sagL, repL]; omega);simp only [sagL, repL, List.mem_cons, List.not_mem_nil, or_false] at hp;rcases hp with rfl | rfl | rfl
 ·exact ⟨gd7 hb.toSm, hb.toPtt⟩
 ·exact ⟨gd7 hx.toSm, hx.toPtt⟩
 ·exact ⟨gd7 hb.toSm, hb.toPtt⟩
end
end Go.Proofs
namespace Go.Proofs
open Go Av
variable {t : Typ}
theorem sizF_fuel : ∀ (k k' : Nat) (v : Val), szV v ≤ k → szV v ≤ k' → sizF k v = sizF k' v
 | 0, _, v, h, _ => by have := szV_eq v; omega
 | k + 1, 0, v, _, h => by have := szV_eq v; omega
 | k + 1, k' + 1, v, h, h' => by
  have hp := sz_parts v;rw [sizF, sizF];congr 2;refine List.map_congr_left fun x hx => ?_
  have := szVs_mem hx;exact sizF_fuel k k' x oM oM
def cntV (v : Val) : Nat := sizF (szV v) v
theorem cntV_eq (v : Val) : cntV v = 1 + ((partsV v).map cntV).sum := by
 have e := szV_eq v;have hp := sz_parts v;obtain ⟨k, hk⟩ : ∃ k, szV v = k + 1 := ⟨szV v - 1, oM⟩;rw [cntV, hk, sizF];congr 2;refine List.map_congr_left fun x hx => ?_
 have := szVs_mem hx;exact sizF_fuel k _ x oM (Nat.le_refl _)
theorem lsF_eq (hg : gsF (szT t) t ≤ 4096) {k : Nat} (hk : szT t = k + 1) : lsF (szT t) t = lsB (lsF k) t := by
 have := ls_gs t;rw [hk, lsF] at this ⊢;rw [hk] at hg;split at this
 ·omega
 ·rename_i h; rw [if_neg h]
theorem gs_elem {x : Typ} (hx : x ∈ t.elem) (hg : gsF (szT t) t ≤ 4096) : gsF (szT x) x ≤ 4096 := by
 have e := szT_eq t;have hs := szTs_mem x hx;obtain ⟨k, hk⟩ : ∃ k, szT t = k + 1 := ⟨szT t - 1, oM⟩;rw [hk, gsF] at hg;have h1 := (le_gsR (f := gsF k) (t.fields.map TFl.type) (gsR (gsF k) (lsF (szT t) t) t.elem)).1;have h2 := (le_gsR (f := gsF k) t.elem (lsF (szT t) t)).2 x hx;rw [gsF_fuel (szT x) k x (Nat.le_refl _) oM];omega
theorem gs_fld {g : TFl} (hx : g ∈ t.fields) (hg : gsF (szT t) t ≤ 4096) : gsF (szT g.type) g.type ≤ 4096 := by
 have e := szT_eq t;have hs := szGs_mem g hx;obtain ⟨k, hk⟩ : ∃ k, szT t = k + 1 := ⟨szT t - 1, oM⟩;rw [hk, gsF] at hg;have h1 := (le_gsR (f := gsF k) (t.fields.map TFl.type) (gsR (gsF k) (lsF (szT t) t) t.elem)).2 g.type (List.mem_map_of_mem hx);rw [gsF_fuel (szT g.type) k g.type (Nat.le_refl _) oM];omega
theorem sum_rep (m n : Nat) : (List.replicate m n).sum = m * n := by
 induction m with
 | zero => simp
 | succ m ih => rw [List.replicate_succ, List.sum_cons, ih, Nat.succ_mul]; omega
theorem cnt_leaf {v : Val} (h : partsV v = []) : cntV v = 1 := by rw [cntV_eq, h]; rfl
theorem cnt_lst {e : Typ} {w : Val} (hk : t.kind = 8) (he : t.elem = [e]) (hv : vT t) (h0 : 0 ≤ t.min) (h1 : t.min ≤ 1024) (hg : gsF (szT t) t ≤ 4096) (hw : (cntV w : Int) = lsF (szT e) e) :
  (cntV (.mk 8 0 0 [] (List.replicate t.min.toNat w) []) : Int) = lsF (szT t) t := by
 have e' := szT_eq t;have hm : e ∈ t.elem := by rw [he]; simp
 have hs := szTs_mem e hm;obtain ⟨t1, t2, t3, t4, t5, t6⟩ := (vT_eq t).1 hv;obtain ⟨k, hk1⟩ : ∃ k, szT t = k + 1 := ⟨szT t - 1, oM⟩;have hle : lsF (szT e) e ≤ 4096 := Int.le_trans (ls_gs e) (gs_elem hm hg);have h2 := ls_gs t;rw [lsF_eq hg hk1] at h2 ⊢;unfold lsB at h2 ⊢;rw [if_pos hk, he] at h2 ⊢;simp only [List.getElem?_cons_zero, Option.getD_some] at h2 ⊢;rw [lsF_fuel k (szT e) e (vTs_mem t5 e hm) oM (Nat.le_refl _), ← hw] at h2 ⊢;have hp : partsV (.mk 8 0 0 [] (List.replicate t.min.toNat w) []) = List.replicate t.min.toNat w := by
  unfold partsV; rw [if_pos (.inl rfl)]; rfl
 rw [cntV_eq, hp, List.map_replicate, sum_rep];have hmm : ((t.min.toNat : Nat) : Int) = t.min := Int.toNat_of_nonneg h0;have hc0 : (0 : Int) ≤ cntV w := Int.natCast_nonneg _;have hcle : (cntV w : Int) ≤ 4096 := by rw [hw]; exact hle
 have hprod : 0 ≤ t.min * (cntV w : Int) ∧ t.min * (cntV w : Int) ≤ 1024 * 4096 := ⟨Int.mul_nonneg h0 hc0, Int.mul_le_mul h1 hcle hc0 dC⟩;have ew1 : w64 (t.min * (cntV w : Int)) = t.min * (cntV w : Int) := wrap64 oM oM;have ew2 : w64 (1 + t.min * (cntV w : Int)) = 1 + t.min * (cntV w : Int) := wrap64 oM oM;rw [ew1, ew2]
 push_cast
 rw [hmm];split
 ·rfl
 ·rename_i hh;have : t.min = 0 := by simp at hh; omega
  rw [this]; simp
theorem cnt_var {g : TFl} {r : List TFl} {w : Val} {s : Str} (hk : t.kind = 10) (he : t.fields = g :: r) (hv : vT t) (hg : gsF (szT t) t ≤ 4096) (hw : (cntV w : Int) = lsF (szT g.type) g.type) :
  (cntV (.mk 10 0 0 s [w] []) : Int) = lsF (szT t) t := by
 have e' := szT_eq t;have hm : g ∈ t.fields := by rw [he]; simp
 have hs := szGs_mem g hm;obtain ⟨t1, t2, t3, t4, t5, t6⟩ := (vT_eq t).1 hv;obtain ⟨k, hk1⟩ : ∃ k, szT t = k + 1 := ⟨szT t - 1, oM⟩;have hle : lsF (szT g.type) g.type ≤ 4096 := Int.le_trans (ls_gs g.type) (gs_fld hm hg);rw [lsF_eq hg hk1];unfold lsB;rw [if_neg oM, if_pos hk, he];simp only [List.getElem?_cons_zero, Option.getD_some];rw [lsF_fuel k (szT g.type) g.type (vTf_mem t6 g hm).2.2 oM (Nat.le_refl _), ← hw];have hp : partsV (.mk 10 0 0 s [w] []) = [w] := by unfold partsV; rw [if_pos (.inr rfl)]; rfl
 have hc0 : (0 : Int) ≤ cntV w := Int.natCast_nonneg _;have hcle : (cntV w : Int) ≤ 4096 := by rw [hw]; exact hle
 have ew : w64 (1 + (cntV w : Int)) = 1 + (cntV w : Int) := wrap64 oM oM;rw [cntV_eq, hp, ew];simp
end Go.Proofs
namespace Go.Proofs
open Go Av
theorem kepR_id : ∀ l : List Fld, (l.Pairwise fun x y => x.name ≠ y.name) → (∀ f ∈ l, nullV f.value = false) → kepR l = l
 | [], _, _ => rfl
 | f :: r, hp, hn => by
  have h1 := List.pairwise_cons.1 hp;have h2 : r.any (shdB f) = false := by
   rw [Bool.eq_false_iff];intro h;obtain ⟨g, hg, hs⟩ := List.any_eq_true.1 h;simp only [shdB, Bool.and_eq_true, beq_iff_eq] at hs;exact h1.1 g hg hs.1.symm
  rw [kepR, hn f List.mem_cons_self, h2];simp only [Bool.not_false, Bool.and_self, ↓reduceIte];rw [kepR_id r h1.2 fun g hg => hn g (List.mem_cons_of_mem _ hg)]
theorem sum_srtF (f : Val → Nat) (l : List Fld) : ((srtF l).map fun x => f x.value).sum = (l.map fun x => f x.value).sum := by
 have hp : (srtF l).Perm l := List.mergeSort_perm l _;exact (hp.map fun x => f x.value).sum_nat
theorem nul_kind {v : Val} (h : v.kind ≠ 0) : nullV v = false := by
 unfold nullV;have : (v.kind == 0) = false := sX h;rw [this]; rfl
theorem fields_nd {t : Typ} (h : ∀ (j : Nat) (hj : j < t.fields.length), fldT t j t.fields[j] = 0) : t.fields.Pairwise fun a b => a.name ≠ b.name := by
 rw [List.pairwise_iff_getElem];intro i j hi hj hij he;have hz := h j hj;unfold fldT at hz;split at hz
 ·cases hz
 split at hz
 ·cases hz
 split at hz
 ·cases hz
 ·rename_i h3;refine h3 (List.any_eq_true.2 ⟨t.fields[i], ?_, by unfold samG; simp [he]⟩);rw [List.mem_take_iff_getElem];exact ⟨i, oM, rfl⟩
theorem lstR_nd (f : Typ → Val) {l : List TFl} (h : l.Pairwise fun a b => a.name ≠ b.name) : (lstR f l).Pairwise fun x y => x.name ≠ y.name := by
 unfold lstR;rw [List.pairwise_filterMap];refine h.imp fun {a b} hab x hx y hy => ?_
 have nm : ∀ (g : TFl) (z : Fld), lstG f g = some z → z.name = g.name := by
  intro g z hz;unfold lstG at hz;split at hz
  ·cases hz; rfl
  ·split at hz
   ·cases hz; rfl
   ·cases hz
 rw [nm a x hx, nm b y hy];exact hab
theorem lsR_sum {f : Typ → Val} {F : Typ → Int} : ∀ (l : List TFl) (n : Int), (∀ g ∈ l, g.need = 1 → (cntV (f g.type) : Int) = F g.type ∧ F g.type ≤ 4096) → (∀ g ∈ l, g.need = 3 → szD g ≤ 4096) → 0 ≤ n → n + 4096 * (l.length : Int) ≤ 1000000000 →
  lsR F n l = n + (((lstR f l).map fun x => cntV x.value).sum : Nat)
 | [], n, _, _, _, _ => by simp [lsR, lstR]
 | g :: r, n, h1, h3, h0, hb => by
  simp only [List.length_cons] at hb
  push_cast at hb
  have ih := fun m hm hm2 => lsR_sum (f := f) (F := F) r m (fun x hx => h1 x (List.mem_cons_of_mem _ hx)) (fun x hx => h3 x (List.mem_cons_of_mem _ hx)) hm hm2
  rw [lsR];by_cases n1 : g.need = 1
  ·obtain ⟨a, b⟩ := h1 g List.mem_cons_self n1;have hc : (0 : Int) ≤ cntV (f g.type) := Int.natCast_nonneg _;have e : lstR f (g :: r) = .mk g.name (f g.type) :: lstR f r := by
    unfold lstR; rw [List.filterMap_cons, lstG, if_pos n1]
   have ew : w64 (n + F g.type) = n + F g.type := wrap64 oM oM;rw [if_pos n1, ew, ih _ oM oM, e, List.map_cons, List.sum_cons, ← a];simp only [Fld.value]; push_cast; omega
  ·by_cases n3 : g.need = 3
   ·have b := h3 g List.mem_cons_self n3;have hc : 0 ≤ szD g := by unfold szD; exact Int.natCast_nonneg _
    have e : lstR f (g :: r) = .mk g.name (dfl0 g) :: lstR f r := by
     unfold lstR; rw [List.filterMap_cons, lstG, if_neg n1, if_pos n3]
    have ew : w64 (n + szD g) = n + szD g := wrap64 oM oM;have hs : szD g = (cntV (dfl0 g) : Int) := rfl;rw [if_neg n1, if_pos n3, ew, ih _ oM oM, e, List.map_cons, List.sum_cons, hs];simp only [Fld.value]; push_cast; omega
   ·have e : lstR f (g :: r) = lstR f r := by
     unfold lstR; rw [List.filterMap_cons, lstG, if_neg n1, if_neg n3]
    rw [if_neg n1, if_neg n3, ih _ h0 oM, e]
end Go.Proofs
namespace Go.Proofs
open Go Av
variable {t : Typ}
theorem lst_kind {k : Nat} (h : 1 ≤ t.kind ∧ t.kind ≤ 10) : (lstV (k + 1) t).kind = t.kind := by
 rw [lstV];by_cases h1 : t.kind = 1
 ·rw [if_pos h1, h1]; rfl
 rw [if_neg h1];by_cases h4 : t.kind = 4
 ·rw [if_pos h4, h4]; split <;> rfl
 rw [if_neg h4];by_cases h5 : t.kind = 5
 ·rw [if_pos h5, h5]; rfl
 rw [if_neg h5];by_cases h8 : t.kind = 8
 ·rw [if_pos h8, h8]; rfl
 rw [if_neg h8];by_cases h10 : t.kind = 10
 ·rw [if_pos h10, h10]; rfl
 rw [if_neg h10];by_cases h9 : t.kind = 9
 ·rw [if_pos h9, h9]; rfl
 rw [if_neg h9]; rfl
theorem ls_leaf (hg : gsF (szT t) t ≤ 4096) (h8 : t.kind ≠ 8) (h9 : t.kind ≠ 9) (h10 : t.kind ≠ 10) : lsF (szT t) t = 1 := by
 have e := szT_eq t;obtain ⟨k, hk⟩ : ∃ k, szT t = k + 1 := ⟨szT t - 1, oM⟩;rw [lsF_eq hg hk, lsB, if_neg h8, if_neg h10, if_neg h9]
theorem parts_leaf {v : Val} (h8 : v.kind ≠ 8) (h9 : v.kind ≠ 9) (h10 : v.kind ≠ 10) : partsV v = [] := by
 unfold partsV;rw [if_neg oM, if_neg h9]
theorem has_kind {k : Nat} {v : Val} (h : hasF (k + 1) t v = true) : v.kind = t.kind := by
 rw [hasF, hasS] at h;split at h
 ·cases h
 ·rename_i h1; simpa using h1
theorem cnt_all : ∀ (k : Nat) (t : Typ), gd k t → vT t → gsF (szT t) t ≤ 4096 → (cntV (lstV k t) : Int) = lsF (szT t) t
 | 0, t, h, _, _ => h.elim
 | k + 1, t, h, hv, hg => by
  obtain ⟨o1, o2, o3, o4, o5, o6, o7, o8⟩ := own_ok h.1;obtain ⟨t1, t2, t3, t4, t5, t6⟩ := (vT_eq t).1 hv;have hlk := lst_kind (k := k) o1;by_cases h8 : t.kind = 8
  ·obtain ⟨e, he⟩ := List.length_eq_one_iff.1 (o2 h8);have hm : e ∈ t.elem := by rw [he]; simp
   obtain ⟨a, b, c⟩ := own_min h.1 (.inr (.inl h8));rw [lstV, if_neg oM, if_neg oM, if_neg oM, if_pos h8, he];exact cnt_lst h8 he hv a oM hg (cnt_all k e (h.2.1 e (by rw [partsT, if_pos h8]; exact hm)) (vTs_mem t5 e hm) (gs_elem hm hg))
  by_cases h10 : t.kind = 10
  ·cases he : t.fields with
   | nil => exact absurd he (o4 h10)
   | cons g r =>
    have hm : g ∈ t.fields := by rw [he]; simp
    rw [lstV, if_neg oM, if_neg oM, if_neg oM, if_neg h8, if_pos h10, he];exact cnt_var h10 he hv hg (cnt_all k g.type (h.2.1 g.type (by rw [partsT, if_neg h8, if_pos (.inr h10)]; exact List.mem_map_of_mem hm)) (vTf_mem t6 g hm).2.2 (gs_fld hm hg))
  by_cases h9 : t.kind = 9
  ·have hpt : partsT t = t.fields.map TFl.type := by rw [partsT, if_neg h8, if_pos (.inl h9)]
   have hgd : ∀ g ∈ t.fields, gd k g.type := fun g hm => h.2.1 g.type (by rw [hpt]; exact List.mem_map_of_mem hm)
   have ih : ∀ g ∈ t.fields, (cntV (lstV k g.type) : Int) = lsF (szT g.type) g.type := fun g hm => cnt_all k g.type (hgd g hm) (vTf_mem t6 g hm).2.2 (gs_fld hm hg)
   have hacc : ∀ g ∈ t.fields, g.need = 3 → accB g.type (dfl0 g) = true := by
    intro g hm n3;obtain ⟨j, hj, rfl⟩ := List.getElem_of_mem hm;have e : t.fields.getD j tf0 = t.fields[j] := by rw [List.getD_eq_getElem?_getD, List.getElem?_eq_getElem hj]; rfl
    have := h.2.2 j (by rw [hpt]; simpa using hj) h9 (by rw [e]; exact n3);rw [e] at this;simpa [hpt] using this
   have hnul : ∀ x ∈ lstR (lstV k) t.fields, nullV x.value = false := by
    intro x hx;obtain ⟨g, hm, hgx⟩ := List.mem_filterMap.1 hx;have hk1 := ((vT_eq g.type).1 (vTf_mem t6 g hm).2.2).1;unfold lstG at hgx;split at hgx
    ·cases hgx;refine nul_kind ?_;show (lstV k g.type).kind ≠ 0;have := hgd g hm;cases k with
     | zero => exact this.elim
     | succ k => rw [lst_kind hk1]; omega
    ·split at hgx
     ·rename_i n3;cases hgx;refine nul_kind ?_;show (dfl0 g).kind ≠ 0;have ha := hacc g hm n3;unfold accB at ha;rw [Bool.and_eq_true] at ha;have e := szT_eq g.type;obtain ⟨q, hq⟩ : ∃ q, szT g.type = q + 1 := ⟨szT g.type - 1, oM⟩;have := ha.2;rw [hq] at this;rw [has_kind this];omega
     ·cases hgx
   have hkp := kepR_id _ (lstR_nd (lstV k) (fields_nd o8)) hnul;obtain ⟨K, hK⟩ : ∃ K, szT t = K + 1 := ⟨szT t - 1, by have := szT_eq t; omega⟩;have e := szT_eq t;rw [lstV, if_neg oM, if_neg oM, if_neg oM, if_neg h8, if_neg h10, if_pos h9, hkp, lsF_eq hg hK, lsB, if_neg h8, if_neg h10, if_pos h9];rw [lsR_congr (f' := fun p => lsF (szT p) p) t.fields 1 (fun g hm => lsF_fuel K _ _ (vTf_mem t6 g hm).2.2 (by have := szGs_mem g hm; omega) (Nat.le_refl _))];rw [lsR_sum (f := lstV k) t.fields 1 (fun g hm _ => ⟨ih g hm, Int.le_trans (ls_gs g.type) (gs_fld hm hg)⟩) (fun g hm n3 => ?_) dC oM]
   ·have hp : partsV (.mk 9 0 0 [] [] (srtF (lstR (lstV k) t.fields))) = (srtF (lstR (lstV k) t.fields)).map Fld.value := by
     unfold partsV;rw [if_neg (by show ¬ ((9 : Int) = 8 ∨ (9 : Int) = 10); decide), if_pos (show (Val.mk 9 0 0 [] [] (srtF (lstR (lstV k) t.fields))).kind = 9 from rfl)];rfl
    rw [cntV_eq, hp, List.map_map];have := sum_srtF cntV (lstR (lstV k) t.fields);simp only [Function.comp_def, this]
    push_cast
    rfl
   ·have ha := hacc g hm n3;unfold accB at ha;simp only [Bool.and_eq_true, beq_iff_eq] at ha;have h1 := (chkV_sz ha.1).1;have h2 := sizF_le (szV (dfl0 g)) (dfl0 g);unfold szD;omega
  ·rw [ls_leaf hg h8 h9 h10, cnt_leaf (parts_leaf (by rw [hlk]; exact h8) (by rw [hlk]; exact h9) (by rw [hlk]; exact h10))];rfl
end Go.Proofs
namespace Go.Proofs
open Go Av
variable {v : Val}
theorem szVs_sumQ : ∀ l : List Val, szVs l = (l.map szV).sum
 | [] => rfl
 | v :: r => by rw [szVs, szVs_sumQ r, List.map_cons, List.sum_cons]
def tdy (v : Val) : Prop := szV v = cntV v
theorem tdy_of (h1 : szV v = 1 + szVs (partsV v)) (h2 : ∀ x ∈ partsV v, tdy x) : tdy v := by
 unfold tdy;rw [h1, cntV_eq, szVs_sumQ, List.map_congr_left h2]
theorem foldV_all {f : Int → Val → Int × Int} : ∀ (l : List Val) (n : Int), (foldV f n l).1 = 0 → ∀ x ∈ l, ∃ m, (f m x).1 = 0
 | [], _, _, x, hx => by cases hx
 | v :: r, n, h, x, hx => by
  simp only [foldV] at h;split at h
  ·rename_i h1; exact absurd h h1
  ·rename_i h1;rcases List.mem_cons.1 hx with rfl | hx
   ·exact ⟨n, by simpa using h1⟩
   ·exact foldV_all r _ h x hx
theorem sz_uses (hu : usesV v = true) : szV v = 1 + szVs (partsV v) := by
 obtain ⟨u1, u2, u3⟩ := uses_ok hu;rw [szV_eq];unfold partsV;by_cases e : v.kind = 8 ∨ v.kind = 10
 ·have hf : v.fields = [] := by rcases u2 with u2 | u2 <;> first | exact u2 | omega
  rw [if_pos e, hf];simp only [szFs]; omega
 ·have hl : v.list = [] := by rcases u1 with u1 | u1 <;> first | exact u1 | exact absurd u1 e
  rw [if_neg e, hl];by_cases e9 : v.kind = 9
  ·rw [if_pos e9, szFs_map];simp only [szVs]; try omega
  ·have hf : v.fields = [] := by rcases u2 with u2 | u2 <;> first | exact u2 | omega
   rw [if_neg e9, hf];simp only [szVs, szFs]
theorem visF_tdy : ∀ (k : Nat) (n : Int) (v : Val), (visF k n v).1 = 0 → tdy v
 | 0, n, v, h => absurd h (chk9 _ _)
 | k + 1, n, v, h => by
  simp only [visF] at h;split at h
  ·rename_i hx; exact absurd h hx
  ·rename_i hx;simp only [ne_eq, Decidable.not_not] at hx;refine tdy_of (sz_uses (chkE_ok hx).1) fun x hx => ?_
   obtain ⟨m, hm⟩ := foldV_all _ _ h x hx;exact visF_tdy k m x hm
theorem chkV_tdy (h : chkV v = 0) : tdy v := visF_tdy 8 0 v h
theorem lstV_tdy : ∀ (k : Nat) (t : Typ), gd k t → tdy (lstV k t)
 | 0, t, h => h.elim
 | k + 1, t, h => by
  obtain ⟨o1, o2, o3, o4, o5, o6, o7, o8⟩ := own_ok h.1;rw [lstV];split
  ·exact tdy_of rfl fun x hx => by cases hx
  split
  ·split <;> exact tdy_of rfl fun x hx => by cases hx
  split
  ·exact tdy_of rfl fun x hx => by cases hx
  split
  ·rename_i h8;obtain ⟨e, he⟩ := List.length_eq_one_iff.1 (o2 h8);rw [he];have hp : partsV (.mk 8 0 0 [] (List.replicate t.min.toNat (lstV k (([e][0]?).getD ty0))) []) = List.replicate t.min.toNat (lstV k e) := by
    unfold partsV; rw [if_pos (.inl rfl)]; rfl
   refine tdy_of ?_ fun x hx => ?_
   ·rw [hp, szV_eq]; simp only [Val.list, Val.fields, szFs, List.getElem?_cons_zero, Option.getD_some]; omega
   ·rw [hp] at hx;rw [(List.mem_replicate.1 hx).2];exact lstV_tdy k e (h.2.1 e (by rw [partsT, if_pos h8, he]; simp))
  split
  ·rename_i h10;cases he : t.fields with
   | nil => exact absurd he (o4 h10)
   | cons g r =>
    have hp : partsV (.mk 10 0 0 (((g :: r)[0]?).getD tf0).name [lstV k (((g :: r)[0]?).getD tf0).type] []) = [lstV k g.type] := by
     unfold partsV; rw [if_pos (.inr rfl)]; rfl
    refine tdy_of ?_ fun x hx => ?_
    ·rw [hp, szV_eq]; simp only [Val.list, Val.fields, szFs, List.getElem?_cons_zero, Option.getD_some]; omega
    ·rw [hp] at hx;rw [List.mem_singleton.1 hx];exact lstV_tdy k g.type (h.2.1 g.type (by rw [partsT, if_neg oM, if_pos (.inr h10), he]; simp))
  split
  ·rename_i h9;have hpt : partsT t = t.fields.map TFl.type := by rw [partsT, if_neg oM, if_pos (.inl h9)]
   generalize hL : srtF (kepR (lstR (lstV k) t.fields)) = L;have hp : partsV (.mk 9 0 0 [] [] L) = L.map Fld.value := by
    unfold partsV;rw [if_neg (by show ¬ ((9 : Int) = 8 ∨ (9 : Int) = 10); decide), if_pos (show (Val.mk 9 0 0 [] [] L).kind = 9 from rfl)];rfl
   refine tdy_of ?_ fun x hx => ?_
   ·rw [hp, szV_eq]; simp only [Val.list, Val.fields, szFs_map, szVs]; try omega
   ·rw [hp] at hx;obtain ⟨z, hz, rfl⟩ := List.mem_map.1 hx;rw [← hL] at hz;have hz2 := ((List.mergeSort_perm (kepR (lstR (lstV k) t.fields)) _).mem_iff).1 hz;obtain ⟨g, hm, hgx⟩ := List.mem_filterMap.1 (kepR_mem hz2).1;unfold lstG at hgx;split at hgx
    ·cases hgx;exact lstV_tdy k g.type (h.2.1 g.type (by rw [hpt]; exact List.mem_map_of_mem hm))
    ·split at hgx
     ·rename_i n3;cases hgx;obtain ⟨j, hj, rfl⟩ := List.getElem_of_mem hm;have e : t.fields.getD j tf0 = t.fields[j] := by rw [List.getD_eq_getElem?_getD, List.getElem?_eq_getElem hj]; rfl
      have := h.2.2 j (by rw [hpt]; simpa using hj) h9 (by rw [e]; exact n3);rw [e] at this;unfold accB at this;simp only [Bool.and_eq_true, beq_iff_eq] at this;exact chkV_tdy this.1
     ·cases hgx
  ·have hp : ∀ a b c : Int, a ≠ 8 → a ≠ 9 → a ≠ 10 → partsV (.mk a b c [] [] []) = [] := fun a b c h8 h9 h10 => parts_leaf h8 h9 h10
   refine tdy_of ?_ fun x hx => ?_
   ·rw [hp _ _ _ (by assumption) (by assumption) (by assumption)]; rfl
   ·rw [hp _ _ _ (by assumption) (by assumption) (by assumption)] at hx; cases hx
theorem okk_of {t : Typ} (h : chkY t = 0) (hd : visG maxI (szT t) 1 0 t ≤ 5) (hs : visG addI (szT t) 1 0 t ≤ 200) : Okk t := by
 obtain ⟨c1, c2⟩ := chkY_chkT h;have hv := (chkY_ok h).1;have := cnt_all 8 t (chkT_gd 8 4096 t c1) hv c2;exact { toSm := sm_of h hd hs, v := hv, p := by omega, gs := c2 }
theorem size_least {t : Typ} (h : chkY t = 0) : PT 21 [encV (lstY t)] (.d (.int .i64 (lsF (szT t) t))) := by
 obtain ⟨c1, c2⟩ := chkY_chkT h;have hg := chkT_gd 8 4096 t c1;have e := cnt_all 8 t hg (chkY_ok h).1 c2;have ht := lstV_tdy 8 t hg;have hle := ls_gs t;unfold tdy at ht;unfold lstY;rw [if_pos h];have w := walk21 (lstV 8 t) oM;have e2 : ((sizF (szV (lstV 8 t)) (lstV 8 t) : Nat) : Int) = lsF (szT t) t := e;rw [e2] at w;exact w
end Go.Proofs
namespace Go.Proofs
open Go.Shelf
def Tryz.laysJ_ren : Go.Shelf.Ren := ⟨fun | 156 => 349 | 165 => 123 | 166 => 124 | 169 => 126 | 240 => 222 | 241 => 223 | 276 => 283 | 277 => 284 | n => n, fun | 31 => 22 | 9 => 9 | 3 => 3 | 4 => 4 | 0 => 0 | 20 => 20 | 72 => 186 | 76 => 190 | 70 => 184 | 37 => 87 | 75 => 189 | 127 => 273 | 164 => 325 | 5 => 5 | 80 => 193 | n => n, fun | n => n⟩
theorem Tryz.laysJ : Go.Proofs.Lays.n156 Tryz.prog Tryz.laysJ_ren := {
 mixed := kR
 f156 := Tryz.func349.trans (congrArg some kR)
 f165 := Tryz.func123.trans (congrArg some kR)
 f166 := Tryz.func124.trans (congrArg some kR)
 f169 := Tryz.func126.trans (congrArg some kR)
 f240 := Tryz.func222.trans (congrArg some kR)
 f241 := Tryz.func223.trans (congrArg some kR)
 f276 := Tryz.func283.trans (congrArg some kR)
 f277 := Tryz.func284.trans (congrArg some kR)
 t0 := Tryz.underlying0
 a0 := Tryz.isAgg0
 z0 := Tryz.sizeOf0
 v0 := Tryz.zeroValue0
 t3 := Tryz.underlying3
 a3 := Tryz.isAgg3
 z3 := Tryz.sizeOf3
 v3 := Tryz.zeroValue3
 t4 := Tryz.underlying4
 a4 := Tryz.isAgg4
 z4 := Tryz.sizeOf4
 v4 := Tryz.zeroValue4
 t9 := Tryz.underlying9
 a9 := Tryz.isAgg9
 z9 := Tryz.sizeOf9
 v9 := Tryz.zeroValue9
 t20 := Tryz.underlying20
 a20 := Tryz.isAgg20
 z20 := Tryz.sizeOf20
 v20 := Tryz.zeroValue20
 t31 := Tryz.underlying22
 a31 := Tryz.isAgg22
 z31 := Tryz.sizeOf22
 v31 := Tryz.zeroValue22
 t37 := Tryz.underlying87
 a37 := Tryz.isAgg87
 z37 := Tryz.sizeOf87
 v37 := Tryz.zeroValue87
 t70 := Tryz.underlying184
 a70 := Tryz.isAgg184
 z70 := Tryz.sizeOf184
 v70 := Tryz.zeroValue184
 t72 := Tryz.underlying186
 a72 := Tryz.isAgg186
 z72 := Tryz.sizeOf186
 v72 := Tryz.zeroValue186
 t75 := Tryz.underlying189
 a75 := Tryz.isAgg189
 z75 := Tryz.sizeOf189
 v75 := Tryz.zeroValue189
 t76 := Tryz.underlying190
 a76 := Tryz.isAgg190
 z76 := Tryz.sizeOf190
 v76 := Tryz.zeroValue190
 t127 := Tryz.underlying273
 a127 := Tryz.isAgg273
 z127 := Tryz.sizeOf273
 v127 := Tryz.zeroValue273
 t164 := Tryz.underlying325
 a164 := Tryz.isAgg325
 z164 := Tryz.sizeOf325
 v164 := Tryz.zeroValue325 }
theorem Tryz.extraJ : Builder.Extra Tryz.prog Tryz.laysJ_ren := {
 sizeBuilder := kR
 liesBuilder := kR
 t5 := Tryz.underlying5
 a5 := Tryz.isAgg5
 z5 := Tryz.sizeOf5
 v5 := Tryz.zeroValue5
 infoByte := kR
 cellsByte := kR
 sizeByte := kR
 neB5 := by decide }
end Go.Proofs
namespace Go.Proofs
open Go Av Go.RowKit Go.Shelf Go.Lib
variable {P : Program} {X : Ext} {K : Nat → Nat}
theorem join349 (ss : List Str) (sep : Str) (hne : ss ≠ []) (hle : (Lib.join ss sep).length ≤ 68719476736) : CT 349 [.d (.list 1 (ss.map .str)), .d (.str sep)] [] (.d (.str (Lib.join ss sep))) [] := by
 refine CallOK.of_calls (ds := [.list 1 (ss.map .str), .str sep]) ⟨_, Tryz.func349, kR, kR⟩ fun A w vs hl hv => ?_
 have h2 : vs.size = 2 := sX hl.symm;obtain ⟨x, y, rfl⟩ : ∃ x y, vs = #[x, y] := by
  refine ⟨vs[0], vs[1], ?_⟩;apply Array.ext
  ·simp [h2]
  ·intro i h1 h2';have : i = 0 ∨ i = 1 := oM;rcases this with rfl | rfl <;> rfl
 have hx := hv 0 _ x rfl rfl;have hy := hv 1 _ y rfl rfl;cases hy with
 | str _ hsep =>
  generalize hD : ss.map Dat.str = D at hx;cases hx with
  | emp => exact absurd (List.map_eq_nil_iff.1 hD) hne
  | list _ _ b o n cap vs hn hA hcap hc h1 hsz hh hvl hvv =>
   subst hD;rw [flat_str] at hvl hvv;have hcell : ∀ (j : Nat) (x : ByteArray), (ss.map fun s => (⟨s.toArray⟩ : ByteArray))[j]? = some x → w.cell? ⟨b, o + j, none⟩ = some (.string x) := by
    intro j x hj;rw [List.getElem?_map] at hj;cases hs : ss[j]? with
    | none => rw [hs] at hj; cases hj
    | some s =>
     rw [hs] at hj;cases hj;have hjl : j < vs.length := by rw [← hvl, List.length_map]; exact (List.getElem?_eq_some_iff.1 hs).1
     have hr := hvv j (.str s) vs[j] (by rw [List.getElem?_map, hs]; rfl) (by simp [hjl]);rw [hh j vs[j] (by simp [hjl])];generalize vs[j] = z at hr;cases hr;rfl
   have hpos : 0 < ss.length := List.length_pos_iff.2 hne;have hb : b < w.heap.size := by
    have := hcell 0 _ (by rw [List.getElem?_map, List.getElem?_eq_getElem hpos]; rfl);simp only [World.cell?] at this;split at this
    ·rename_i e; exact (Array.getElem?_eq_some_iff.1 e).1
    ·cases this
   have hmap : (ss.map fun s => (⟨s.toArray⟩ : ByteArray)).map (·.data.toList) = ss := by
    rw [List.map_map]
    conv => rhs; rw [← List.map_id ss]
    exact List.map_congr_left fun s _ => by simp
   have hnl : n = (ss.map fun s => (⟨s.toArray⟩ : ByteArray)).length := sX hn;generalize hX : (ss.map fun s => (⟨s.toArray⟩ : ByteArray)) = X at *;have hN : X.length ≤ 140737488355328 := by rw [← hX]; simp at hc ⊢; omega
   have hL : (Lib.join (X.map (·.data.toList)) (⟨sep.toArray⟩ : ByteArray).data.toList).length ≤ 140737488355328 := by
    rw [hmap];show (Lib.join ss sep.toArray.toList).length ≤ _;simp only [List.toList_toArray];omega
   have hC : X.length ≤ cap := by rw [← hX]; simpa using hcap
   have J := Any.strings_Join Tryz.laysJ Tryz.extraJ b o cap X ⟨sep.toArray⟩ w hcell hb hN hC hL;rw [show Tryz.laysJ_ren.f 156 = 349 from rfl] at J;rw [hnl];refine J.mono ?_;rintro e w' ⟨rfl, hbel⟩;refine ⟨_, rfl, hbel, fun β H => .d _ _ ?_⟩;rw [hmap];show Rep _ _ _ (.string ⟨(Lib.join ss sep.toArray.toList).toArray⟩);simp only [List.toList_toArray];exact .str _ hle
def strsOf : List Dat → Option (List Str)
 | [] => some []
 | .str s :: r => match strsOf r with
  | some l => some (s :: l)
  | none => none
 | _ :: _ => none
theorem strsOf_ok : ∀ {ds : List Dat} {l : List Str}, strsOf ds = some l → ds = l.map .str
 | [], l, h => by cases h; rfl
 | d :: r, l, h => by
  cases d <;> simp only [strsOf] at h <;> first | (cases h; done) | skip
  split at h
  ·rename_i e; cases h; rw [strsOf_ok e]; rfl
  ·cases h
theorem wpList_append_zero {w : World} {ops : Array Oper} {rest : List Oper} {o : Oper} {a : Act} {Q : Exit → Act → World → Prop} (hgd : o.guard = none) (s x : Operand) (t : TypeId)
  (ho : o.op = .call { callee := .builtin .append, args := #[s, x], argTypes := #[t, t] }) (e : TypeId) (i : TypeInfo) (ht : P.underlying t = some (.slice e)) (hi : P.info? e = some i)
  (b : Option Addr) (hs : a.eval s = .slice b 0 0) (ad : Option Addr) (c : Nat) (hx : a.eval x = .slice ad 0 c) (h : wpList P ops Q rest (a.put o.dst (.slice b 0 0)) w) : wpList P ops Q (o :: rest) a w := by
 refine wpList_plain hgd fun _ hK => ?_
 have hr := run_append_zero (P := P) (w := w) t t o.type e i ht hi b (.slice ad 0 c) (by
  cases ad with
  | none => exact Src.ofNil w ht c
  | some ad => exact Src.ofSlice w ht ad 0 c [] sP sP sP)
 unfold Oper.wp execOp;simp only [ho, resolve, invoke, builtin, Sem.run_bind, Sem.run_pure, Result.andThen_ok, List.map_toArray, List.map_cons, List.map_nil, hs, hx, hr];exact hK _ _ h
set_option maxHeartbeats 2000000 in
set_option maxRecDepth 1000000 in
theorem cl57 (a : Option Addr) (c : Nat) (w : World) : Calls Tryz.prog 57 #[.slice a 0 c] w fun e w' => ∃ a', e = .returned (.slice a' 0 0) ∧ Below w.heap.size w w' := by
 obtain ⟨i0, hi⟩ : ∃ i0, Tryz.prog.info? 3 = some i0 := Option.isSome_iff_exists.1 kR;have q : ∀ (w : World) (a : Option Addr) (n c n' c' : Nat), (binOp .eql 63 (.slice a n c) (.slice none n' c')).run Tryz.prog w = .ok (.bool a.isNone) w := fun w a n c n' c' => Lib.run_eql_slice_nil w _ _ a n c n' c' Tryz.underlying63
 have mixed : Tryz.prog.follows Departure.mixedOrders = true := kR;cases a with
 | none =>
  go_enter Tryz.func57, Tryz.ntmps57
  go_wp2
  go_ret
  exact ⟨none, rfl, Below.refl _ _⟩
 | some a =>
  go_enter Tryz.func57, Tryz.ntmps57
  go_wp2_with (first | (simp only [q]; done) | (at_builtin; refine wpList_append_zero rfl _ _ 63 rfl 3 i0 Tryz.underlying63 hi _ rfl (some a) c rfl ?_))
  go_wp2
  go_ret
  exact ⟨_, rfl, (Below.refl _ w).alloc (Nat.le_refl _) _⟩
set_option maxHeartbeats 2000000 in
set_option maxRecDepth 1000000 in
theorem cl76 (a : Option Addr) (c : Nat) (w : World) : Calls Tryz.prog 76 #[.slice a 0 c] w fun e w' => ∃ a', e = .returned (.slice a' 0 0) ∧ Below w.heap.size w w' := by
 obtain ⟨i0, hi⟩ : ∃ i0, Tryz.prog.info? 9 = some i0 := Option.isSome_iff_exists.1 kR;have q : ∀ (w : World) (a : Option Addr) (n c n' c' : Nat), (binOp .eql 22 (.slice a n c) (.slice none n' c')).run Tryz.prog w = .ok (.bool a.isNone) w := fun w a n c n' c' => Lib.run_eql_slice_nil w _ _ a n c n' c' Tryz.underlying22
 have mixed : Tryz.prog.follows Departure.mixedOrders = true := kR;cases a with
 | none =>
  go_enter Tryz.func76, Tryz.ntmps76
  go_wp2
  go_ret
  exact ⟨none, rfl, Below.refl _ _⟩
 | some a =>
  go_enter Tryz.func76, Tryz.ntmps76
  go_wp2_with (first | (simp only [q]; done) | (at_builtin; refine wpList_append_zero rfl _ _ 22 rfl 9 i0 Tryz.underlying22 hi _ rfl (some a) c rfl ?_))
  go_wp2
  go_ret
  exact ⟨_, rfl, (Below.refl _ w).alloc (Nat.le_refl _) _⟩
theorem of_cl {f : Nat} (hh : Has Tryz.prog f) (h : ∀ (a : Option Addr) (c : Nat) (w : World), Calls Tryz.prog f #[.slice a 0 c] w fun e w' => ∃ a', e = .returned (.slice a' 0 0) ∧ Below w.heap.size w w') {d : Dat} (n : Nat)
  (hd : d = .nil n ∨ d = .list n []) : CT f [.d d] [] (.d (.nil n)) [] := by
 refine CallOK.of_calls (ds := [d]) hh fun A w vs hl hv => ?_
 obtain ⟨u, rfl⟩ := size_one (sX hl);have hr := hv 0 _ u rfl rfl;have : ∃ a c, u = .slice a 0 c := by
  rcases hd with rfl | rfl
  ·cases hr with | nil _ a => exact ⟨a, 0, rfl⟩
  ·cases hr with
   | emp _ a cap => exact ⟨a, cap, rfl⟩
   | list _ _ b o n cap vs hn => exact ⟨_, _, by rw [hn]; rfl⟩
 obtain ⟨a, c, rfl⟩ := this;refine (h a c w).mono ?_;rintro e w' ⟨a', rfl, hb⟩;exact ⟨_, rfl, hb, fun β H => .d _ _ (.nil n a')⟩
def X4 : Ext := fun f ds => match f, ds with
 | 349, [.list 1 xs, .str sep] => match strsOf xs with
  | some (s :: l) => match Nat.ble (Lib.join (s :: l) sep).length 68719476736 with
   | true => some (.d (.str (Lib.join (s :: l) sep)))
   | false => none
  | _ => none
 | 57, [.nil n] => some (.d (.nil n))
 | 57, [.list n []] => some (.d (.nil n))
 | 76, [.nil n] => some (.d (.nil n))
 | 76, [.list n []] => some (.d (.nil n))
 | f, ds => X1 f ds
theorem X4_ok : ExtOK Tryz.prog X4 := by
 intro f ds d h;unfold X4 at h;split at h
 ·rename_i e;split at h
  ·rename_i e;split at h
   ·rename_i hb;cases h;obtain rfl := strsOf_ok e;exact join349 _ _ sP (Nat.le_of_ble_eq_true hb)
   ·cases h
  ·cases h
 ·cases h; exact of_cl ⟨_, Tryz.func57, kR, kR⟩ cl57 _ (.inl rfl)
 ·cases h; exact of_cl ⟨_, Tryz.func57, kR, kR⟩ cl57 _ (.inr rfl)
 ·cases h; exact of_cl ⟨_, Tryz.func76, kR, kR⟩ cl76 _ (.inl rfl)
 ·cases h; exact of_cl ⟨_, Tryz.func76, kR, kR⟩ cl76 _ (.inr rfl)
 ·exact X1_ok _ _ _ h
section
@[instance_reducible] def rlsK : Rls := { rl := fun n => n == 1, rm := fun n => n == 11, tr := fun n => n == 3 || (n == 11 || (n == 2 || (n == 13 || n == 20))) }
attribute [local instance] rlsK
def findD (f : Nat) (ds : List Dat) : Tbl → Option Av
 | [] => none
 | (g, l, v) :: r => match g == f with
  | true => match dEqs ds l with
   | true => some v
   | false => findD f ds r
  | false => findD f ds r
def extD (t : Tbl) (X : Ext) : Ext := fun f ds => match findD f ds t with
 | some v => some v
 | none => X f ds
def avEqsD : List Av → List Av → Bool
 | [], [] => true
 | .d x :: xs, .d y :: ys => dEq x y && avEqsD xs ys
 | _, _ => false
theorem avEqsD_eq : ∀ (a b : List Av), avEqsD a b = true → a = b
 | [], [], _ => rfl
 | [], _ :: _, h => by simp [avEqsD] at h
 | x :: xs, [], h => by cases x <;> simp [avEqsD] at h
 | x :: xs, y :: ys, h => by
  cases x with
  | d x =>
   cases y with
   | d y =>
    simp only [avEqsD, Bool.and_eq_true] at h;rw [dEq_ok x y h.1, avEqsD_eq xs ys h.2]
   | _ => simp [avEqsD] at h
  | _ => simp [avEqsD] at h
def avEqD : Av → Av → Bool
 | .d x, .d y => dEq x y
 | .tup xs, .tup ys => avEqsD xs ys
 | _, _ => false
theorem avEqD_eq {a b : Av} (h : avEqD a b = true) : a = b := by
 unfold avEqD at h;split at h
 ·rw [dEq_ok _ _ h]
 ·rw [avEqsD_eq _ _ h]
 ·cases h
def entK (P : Program) (X : Ext) (K : Nat → Nat) (f : Nat) (l : List Dat) (v : Av) : Bool := match evF P (modeOf (K f)) (callF P X K 500 60) 500 f (l.map .d) [] with
 | some (u, _) => pureB u && avEqD u v
 | none => false
theorem entK_ok (hX : ExtOK P X) {f : Nat} {l : List Dat} {v : Av} (h : entK P X K f l v = true) : PCon P f l v ∧ pureR v := by
 unfold entK at h;split at h
 ·rename_i u fh ev;simp only [Bool.and_eq_true] at h;obtain ⟨hp, he⟩ := h;obtain rfl := avEqD_eq he;exact ⟨ev_pcon hX ev hp, pureB_ok hp⟩
 ·cases h
def tblK (P : Program) (X : Ext) (K : Nat → Nat) : Tbl → Bool
 | [] => true
 | (f, l, v) :: r => entK P X K f l v && tblK P X K r
theorem tblK_find (hX : ExtOK P X) : ∀ {t : Tbl} {f : Nat} {ds : List Dat} {v : Av}, tblK P X K t = true → findD f ds t = some v → CallOK P (.fn f) (ds.map .d) [] v []
 | [], _, _, _, _, h => by cases h
 | (g, l, x) :: r, f, ds, v, h, hf => by
  rw [tblK, Bool.and_eq_true] at h;rw [findD] at hf;split at hf
  ·rename_i e1;split at hf
   ·rename_i e2;cases hf;obtain rfl := dEqs_ok _ _ e2;simp only [beq_iff_eq] at e1;subst e1;obtain ⟨h1, h2⟩ := entK_ok hX h.1;exact h1.call h2
   ·exact tblK_find hX h.2 hf
  ·exact tblK_find hX h.2 hf
theorem extK_ok {t : Tbl} (hX : ExtOK P X) (h : tblK P X K t = true) : ExtOK P (extD t X) := by
 intro f ds v hx;unfold extD at hx;split at hx
 ·rename_i u e;cases hx;exact tblK_find hX h e
 ·exact hX f ds v hx
end
def K24 : Nat → Nat
 | 57 | 299 | 341 | 344 | 345 | 346 | 347 | 348 => 1
 | 143 => 2
 | _ => 0
end Go.Proofs
