/- Part M of a proof. -/
import Derived.Test.YtolggmphlbmlkaaGreatDoorTeI
import Derived.Test.YtolggmphlbmlkaaGreatDoorTeJ
import Derived.Test.YtolggmphlbmlkaaGreatDoorTeL
import Derived.Test.YtolggmphlbmlkaaGreatDoorTeD
import Derived.Test.YtolggmphlbmlkaaGreatDoorTeA
import Derived.Test.YtolggmphlbmlkaaGreatDoorTeF
set_option linter.unusedVariables false
set_option linter.unusedSimpArgs false
set_option linter.unusedSectionVars false
set_option linter.constructorNameAsVariable false
set_option linter.unnecessarySimpa false
set_option maxRecDepth 10000
namespace Go.Proofs
open Go Av
def envL (b x : Typ) : List Typ := [msgT b, elmT b x, grpT b x, cplT b x, calT b x, sagT b [x, b]]
theorem envL_chk {b x : Typ} (hb : Okk b) (hx : Okk x) (hl : lsF (szT b) b + lsF (szT x) x < 2000) : ∀ t ∈ envL b x, chkY t = 0 := by
 intro t ht;simp only [envL, List.mem_cons, List.not_mem_nil, or_false] at ht;rcases ht with rfl | rfl | rfl | rfl | rfl | rfl
 ·exact chk_msg hb hx hl
 ·exact chk_elm hb hx hl
 ·exact chk_grp hb hx hl
 ·exact chk_cpl hb hx hl
 ·exact chk_cal hb hx hl
 ·exact chk_sag hb hx hl
theorem walk9e (b x : Typ) : PT 9 [encT b, .list 7 [encT x, encT b]] (.d (encT (sagT b [x, b]))) := walk9 b [x, b] sP
theorem walk15e (b x : Typ) : PT 15 [encT b, .list 7 [encT x, encT b]] (.d (encT (sagT b [x, b]))) := walk15 b [x, b] sP
set_option maxHeartbeats 4000000 in
theorem walk3 (b x : Typ) (zb : szT b ≤ 5000000) (zx : szT x ≤ 5000000) : PT 3 [encT b, encT x] (.d (.bool true)) := by
 letI : Rls := rls0
 refine ok3.pc ?_;have c4 := (walk4 b).call trivial;have c5 := (walk5 b x).call trivial;have c6 := (walk6 b x).call trivial;have c7 := (walk7 b x).call trivial;have c8 := (walk8 b x).call trivial;have c9 := (walk9e b x).call trivial;have c10 := (walk10 b).call trivial;have c11 := (walk11 b x).call trivial;have c12 := (walk12 b x).call trivial;have c13 := (walk13 b x).call trivial;have c14 := (walk14 b x).call trivial;have c15 := (walk15e b x).call trivial;have c16 := walk16.call trivial;have k1 := (walk17 b).call trivial;have k2 := (walk17 x).call trivial;have d1 := (walk18 b zb).call trivial;have d2 := (walk18 x zx).call trivial;have s1 := (walk19 b zb).call trivial;have s2 := (walk19 x zx).call trivial;have okb := okk_of (t := b);have okx := okk_of (t := x);generalize visG maxI (szT b) 1 0 b = db at *;generalize visG maxI (szT x) 1 0 x = dx at *;generalize visG addI (szT b) 1 0 b = sb at *;generalize visG addI (szT x) 1 0 x = sx at *;rw [encT_eq] at k1 k2 d1 d2 s1 s2;have hL : (envL b x).map encT = [encT (msgT b), encT (elmT b x), encT (grpT b x), encT (cplT b x), encT (calT b x), encT (sagT b [x, b])] := rfl;have hc7 : ∀ t : Typ, (encT t).cells.length = 7 := fun t => by rw [encT_eq]; rfl
 have hD : ∀ y ∈ [encT (msgT b), encT (elmT b x), encT (grpT b x), encT (cplT b x), encT (calT b x), encT (sagT b [x, b])], y.cells.length = 7 := by
  rw [← hL]; intro y hy; obtain ⟨t, _, rfl⟩ := List.mem_map.1 hy; exact hc7 t
 generalize encT (msgT b) = D1 at *;generalize encT (elmT b x) = D2 at *;generalize encT (grpT b x) = D3 at *;generalize encT (cplT b x) = D4 at *;generalize encT (calT b x) = D5 at *;generalize encT (sagT b [x, b]) = D6 at *;rw [encT_eq b, encT_eq x] at c5 c6 c7 c8 c9 c11 c12 c13 c14 c15;rw [encT_eq b] at c4 c10;rw [encT_eq b, encT_eq x];simp only [go_sem, ir3, rowLit_0, tr_0, Nat.reduceAdd, Nat.reduceEqDiff, Nat.reduceBEq, Nat.reduceLeDiff, reduceCtorEq, ↓reduceIte];refine wpsL_call rfl c4 trivial ?_;simp only [go_sem, rowLit_0, tr_0, Nat.reduceAdd, Nat.reduceEqDiff, Nat.reduceBEq, Nat.reduceLeDiff, reduceCtorEq, ↓reduceIte];refine wpsL_call rfl c5 trivial ?_;simp only [go_sem, rowLit_0, tr_0, Nat.reduceAdd, Nat.reduceEqDiff, Nat.reduceBEq, Nat.reduceLeDiff, reduceCtorEq, ↓reduceIte];refine wpsL_call rfl c6 trivial ?_;simp only [go_sem, rowLit_0, tr_0, Nat.reduceAdd, Nat.reduceEqDiff, Nat.reduceBEq, Nat.reduceLeDiff, reduceCtorEq, ↓reduceIte];refine wpsL_call rfl c7 trivial ?_;simp only [go_sem, rowLit_0, tr_0, Nat.reduceAdd, Nat.reduceEqDiff, Nat.reduceBEq, Nat.reduceLeDiff, reduceCtorEq, ↓reduceIte];refine wpsL_call rfl c8 trivial ?_;simp only [go_sem, rowLit_0, tr_0, Nat.reduceAdd, Nat.reduceEqDiff, Nat.reduceBEq, Nat.reduceLeDiff, reduceCtorEq, ↓reduceIte];refine ⟨sP, wpsL_call rfl c9 trivial ?_⟩;simp only [go_sem, rowLit_0, tr_0, Nat.reduceAdd, Nat.reduceEqDiff, Nat.reduceBEq, Nat.reduceLeDiff, reduceCtorEq, ↓reduceIte];refine ⟨hD, rfl, wpsL_call rfl c10 trivial ?_⟩;simp only [go_sem, rowLit_0, tr_0, Nat.reduceAdd, Nat.reduceEqDiff, Nat.reduceBEq, Nat.reduceLeDiff, reduceCtorEq, ↓reduceIte];refine wpsL_call rfl c11 trivial ?_;simp only [go_sem, rowLit_0, tr_0, Nat.reduceAdd, Nat.reduceEqDiff, Nat.reduceBEq, Nat.reduceLeDiff, reduceCtorEq, ↓reduceIte];refine wpsL_call rfl c12 trivial ?_;simp only [go_sem, rowLit_0, tr_0, Nat.reduceAdd, Nat.reduceEqDiff, Nat.reduceBEq, Nat.reduceLeDiff, reduceCtorEq, ↓reduceIte];refine wpsL_call rfl c13 trivial ?_;simp only [go_sem, rowLit_0, tr_0, Nat.reduceAdd, Nat.reduceEqDiff, Nat.reduceBEq, Nat.reduceLeDiff, reduceCtorEq, ↓reduceIte];refine wpsL_call rfl c14 trivial ?_;simp only [go_sem, rowLit_0, tr_0, Nat.reduceAdd, Nat.reduceEqDiff, Nat.reduceBEq, Nat.reduceLeDiff, reduceCtorEq, ↓reduceIte];refine ⟨sP, wpsL_call rfl c15 trivial ?_⟩;simp only [go_sem, rowLit_0, tr_0, Nat.reduceAdd, Nat.reduceEqDiff, Nat.reduceBEq, Nat.reduceLeDiff, reduceCtorEq, ↓reduceIte];refine ⟨hD, rfl, wn c16 ?_⟩;simp only [go_sem, Bool.not_true, rowLit_0, tr_0, Nat.reduceAdd, Nat.reduceEqDiff, Nat.reduceBEq, Nat.reduceLeDiff, reduceCtorEq, ↓reduceIte];refine wn k1 ?_;simp only [go_sem, rowLit_0, tr_0, Nat.reduceAdd, Nat.reduceEqDiff, Nat.reduceBEq, Nat.reduceLeDiff, reduceCtorEq, ↓reduceIte];refine sq (chkY x == 0) ?_ ?_
 ·refine zz ?_;refine wc k2 trivial
 simp only [go_sem, rowLit_0, tr_0, Nat.reduceAdd, Nat.reduceEqDiff, Nat.reduceBEq, Nat.reduceLeDiff, reduceCtorEq, ↓reduceIte];refine sq (decide (db ≤ 5)) ?_ ?_
 ·refine zz ?_;refine wc d1 trivial
 simp only [go_sem, rowLit_0, tr_0, Nat.reduceAdd, Nat.reduceEqDiff, Nat.reduceBEq, Nat.reduceLeDiff, reduceCtorEq, ↓reduceIte];refine sq (decide (dx ≤ 5)) ?_ ?_
 ·refine zz ?_;refine wc d2 trivial
 simp only [go_sem, rowLit_0, tr_0, Nat.reduceAdd, Nat.reduceEqDiff, Nat.reduceBEq, Nat.reduceLeDiff, reduceCtorEq, ↓reduceIte];refine sq (decide (sb ≤ 200)) ?_ ?_
 ·refine zz ?_;refine wc s1 trivial
 simp only [go_sem, rowLit_0, tr_0, Nat.reduceAdd, Nat.reduceEqDiff, Nat.reduceBEq, Nat.reduceLeDiff, reduceCtorEq, ↓reduceIte];refine sq (decide (sx ≤ 200)) ?_ ?_
 ·refine zz ?_;refine wc s2 trivial
 simp only [go_sem, rowLit_0, tr_0, Nat.reduceAdd, Nat.reduceEqDiff, Nat.reduceBEq, Nat.reduceLeDiff, reduceCtorEq, ↓reduceIte];rw [← hL];have hLl : (envL b x).length = 6 := rfl;have hchk := @envL_chk b x;generalize envL b x = L at *;generalize hs : ((((((chkY b == 0) && (chkY x == 0)) && decide (db ≤ 5)) && decide (dx ≤ 5)) && decide (sb ≤ 200)) && decide (sx ≤ 200)) = small at *;have hn : (L.map encT).length = 6 := by rw [List.length_map, hLl]
 refine wpc_loop (fun n s => ∃ j : Nat, j ≤ 6 ∧ n = 6 - j ∧
  s = ⟨[(2, .ref 2 0), (3, .ref 3 0), (5, .d (.list 7 (L.map encT))), (6, .d (.list 7 (L.map encT))), (7, .d (.bool small)), (8, .d (.int .i64 j))],
   [(2, .box [.d (.int .i64 b.kind), .d (.int .i64 b.min), .d (.int .i64 b.max), .d (.int .i64 b.scale), .d (.list 1 (b.words.map .str)), .d (.list 7 (b.elem.map encT)), .d (.list 11 (b.fields.map encG))]),
    (3, .box [.d (.int .i64 x.kind), .d (.int .i64 x.min), .d (.int .i64 x.max), .d (.int .i64 x.scale), .d (.list 1 (x.words.map .str)), .d (.list 7 (x.elem.map encT)), .d (.list 11 (x.fields.map encG))])]⟩) ?_ ?_
 ·exact ⟨_, _, Wk.refl _, 0, Nat.zero_le _, rfl, rfl⟩
 ·rintro n s ⟨j, hj, rfl, rfl⟩;by_cases hlt : j < 6
  ·have hjl : j < L.length := oM;have hd : decide ((j : Int) < ((6 : Nat) : Int)) = true := sO;have hw : IntKind.i64.wrap ((j : Int) + 1) = (j : Int) + 1 := wrap64s j oM;have hx := nth_encT hjl;have l1 := (walk20 b).call (by simp [pureR]);have l2 := (walk20 x).call (by simp [pureR]);rw [encT_eq, encV_eq] at l1 l2;simp only [go_sem, hn, hd, Nat.reduceAdd, Nat.reduceEqDiff, Nat.reduceBEq, Nat.reduceLeDiff, reduceCtorEq, ↓reduceIte];refine wc l1 ?_;refine wc l2 ?_;refine ⟨chkY b == 0, _, [([], []), ([], [])], rfl, fun _ => ⟨rfl, rfl, rfl⟩, fun _ => rfl, ?_⟩;refine zz ?_;refine ⟨chkY x == 0, _, [([], []), ([], [])], rfl, fun _ => ⟨rfl, rfl, rfl⟩, fun _ => rfl, ?_⟩;refine zz ?_;refine ⟨decide (lsF (szT b) b + lsF (szT x) x < 2000), _, [([9], []), ([], []), ([11], []), ([], []), ([], []), ([], [])], rfl, fun h => ?_, fun _ => rfl, ?_⟩
   ·simp only [Bool.and_eq_true, beq_iff_eq] at h;obtain ⟨⟨_, hb0⟩, hx0⟩ := h;have v1 := (size_least hb0).call trivial;have v2 := (size_least hx0).call trivial;have q1 := cnt_all 8 b (chkT_gd 8 4096 b (chkY_chkT hb0).1) (chkY_ok hb0).1 (chkY_chkT hb0).2;have q2 := cnt_all 8 x (chkT_gd 8 4096 x (chkY_chkT hx0).1) (chkY_ok hx0).1 (chkY_chkT hx0).2;have q3 := Int.le_trans (ls_gs b) (chkY_chkT hb0).2;have q4 := Int.le_trans (ls_gs x) (chkY_chkT hx0).2;have hws : IntKind.i64.wrap (lsF (szT b) b + lsF (szT x) x) = lsF (szT b) b + lsF (szT x) x := wrap64 oM oM;rw [encV_eq] at v1 v2;refine wpsL_call rfl v1 trivial ?_;refine zz ?_;refine wpsL_call rfl v2 trivial ?_;simp only [go_sem, hws, Nat.reduceAdd, Nat.reduceEqDiff, Nat.reduceBEq, Nat.reduceLeDiff, reduceCtorEq, ↓reduceIte]
    try exact ⟨rfl, rfl, rfl⟩
   refine zz24 ?_;have c22 := (walk22 (szT L[j]) L[j] L[j] (Nat.le_refl _)).call trivial;have c17 := (walk17 L[j]).call trivial;rw [eqTF_self] at c22;rw [encT_eq] at c22 c17;refine ⟨rfl, ⟨oM, oM⟩, ⟨oM, oM⟩, wn c22 ?_⟩;refine zz19 ?_;have hz : ((((small && (chkY b == 0)) && (chkY x == 0)) && decide (lsF (szT b) b + lsF (szT x) x < 2000)) && (chkY L[j] != 0)) = false := by
    rw [Bool.eq_false_iff];intro hh;rw [← hs] at hh;simp only [Bool.and_eq_true, beq_iff_eq, decide_eq_true_eq, bne_iff_ne, ne_eq] at hh;obtain ⟨⟨⟨⟨⟨⟨⟨⟨⟨a1, a2⟩, a3⟩, a4⟩, a5⟩, a6⟩, _⟩, _⟩, a7⟩, a8⟩ := hh;exact a8 (hchk (okb a1 a3 a5) (okx a2 a4 a6) a7 _ (List.getElem_mem hjl))
   refine sq (chkY L[j] != 0) ?_ ?_
   ·refine zz24 ?_;refine ⟨⟨oM, oM⟩, wn c17 ?_⟩;refine zz ?_;exact zf
   simp only [go_sem, hz, Nat.reduceAdd, Nat.reduceEqDiff, Nat.reduceBEq, Nat.reduceLeDiff, reduceCtorEq, ↓reduceIte];refine ⟨6 - (j + 1), _, oM, Wk.less ?_, j + 1, oM, rfl, rfl⟩;simp only [go_sem, hw, Int.natCast_add, Int.natCast_one, Nat.reduceAdd, Nat.reduceEqDiff, Nat.reduceBEq, Nat.reduceLeDiff, reduceCtorEq, ↓reduceIte]
  ·obtain rfl : j = 6 := oM;have hd : decide (((6 : Nat) : Int) < ((6 : Nat) : Int)) = false := dC;simp only [go_sem, hn, hd, Nat.reduceAdd, Nat.reduceEqDiff, Nat.reduceBEq, Nat.reduceLeDiff, reduceCtorEq, ↓reduceIte]
end Go.Proofs
namespace Go.Proofs.YtolggmphlbmlkaaGreatDoor
open Go Go.Proofs Av Go.ChangeShapes Go.WideShapes Go.ChangeAt Go.RowKit
theorem contractX (H : Type) (enc : TypeId × Value → H) (W : World) (base : Nat) (args : Array Value) (ds gs : List (DataW H)) (before : List MemPlace)
  (hval : ∀ (j : Nat) t v, Tryz.f3.params[j]? = some t → args[j]? = some v → Value.okWide Tryz.prog W .any base t v)
  (hW : DataW.Whole enc Tryz.prog Tryz.f3.params.toList Rows.typecheckEnvironmentsSpec.vars false W args.toList ds gs before) (hk : Rows.uptoSmall H (ds ++ gs) = true) (hL : laidMetH Tryz.prog Rows.typecheckEnvironmentsUptoRow.laid W) :
  Calls Tryz.prog 3 args W fun e W' => ∃ v, e = .returned v ∧ Rows.typecheckEnvironmentsSpec.post enc Tryz.prog Tryz.f3 false true false false W args v W' := by
 have hW' := hW;have hk' : Rows.uptoBulkAll (ds ++ gs) ≤ 1048576 := of_decide_eq_true hk;rw [bulk_append] at hk';obtain ⟨p, q, hA0, hV, rfl, hfz, hnd⟩ := hW;have hA : DataW.TrodAll enc Tryz.prog W 0 (fun _ => true) true Tryz.f3.params.toList args.toList ds p := hA0;rw [Tryz.params3] at hA hval;obtain ⟨v0, vs0, d0, ds0, p0, q0, hargs, rfl, rfl, h0, r0⟩ := trodAll_cons hA;obtain ⟨v1, vs1, d1, ds1, p1, q1, hargs1, rfl, rfl, h1, r1⟩ := trodAll_cons r0;obtain ⟨rfl, rfl, rfl⟩ := trodAll_nil r1;subst hargs1;obtain rfl : args = #[v0, v1] := by cases args; simp_all
 obtain ⟨rfl, rfl⟩ := trodVars_none hV;simp only [Rows.uptoBulkAll] at hk';obtain ⟨o, ho, ro⟩ := open_typB (hval 0 26 v0 rfl rfl) h0 oM;obtain ⟨t, ht, rt⟩ := open_typB (hval 1 26 v1 rfl rfl) h1 oM;have so := szT_le o;have st := szT_le t;refine (calls_of_pcon (walk3 o t oM oM) (vs := #[v0, v1]) (globs hL) rfl ?_).mono ?_
 ·intro i d v hd hv
  match i, hd, hv with
  | 0, hd, hv => cases hd; cases hv; exact ro
  | 1, hd, hv => cases hd; cases hv; exact rt
 ·rintro e W' ⟨rfl, hbel⟩;have hlt : ∀ x ∈ p0 ++ (p1 ++ []), x.block < W.heap.size := fun x hx => by simpa using hW'.lt x (sX hx)
  refine ⟨.bool true, rfl, [d0, d1], [], _, [], p0 ++ (p1 ++ []), [], hW', ?_, ?_, ?_, hbel.frame _, fun h => by cases h⟩
  ·exact trodAll_mk1 (shut_bool kR _)
  ·have a0 := Below.trod laidOut kR (of_decide_eq_true kR) h0 hbel (fun x hx => hlt x (by simp [hx]));have a1 := Below.trod laidOut kR (of_decide_eq_true kR) h1 hbel (fun x hx => hlt x (by simp [hx]));show DataW.TrodAll enc Tryz.prog W' 0 _ true Tryz.f3.params.toList [v0, v1] [d0, d1] _;rw [Tryz.params3];exact trodAll_cons_mk a0 (trodAll_cons_mk a1 trodAll_mk0)
  ·rfl
end Go.Proofs.YtolggmphlbmlkaaGreatDoor
